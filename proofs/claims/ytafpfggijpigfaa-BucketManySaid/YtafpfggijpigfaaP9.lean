import Derived.Test.YtafpfggijpigfaaP8
import Derived.Test.YtafpfggijpigfaaBktx10
namespace Go.Proofs.Ytafpfggijpigfaa.Bkt
open Go.RowKit Go.Proofs.YtafpfggijpigfaaW.PrintWords Go.Proofs.YtafpfggijpigfaaW.PrintLast
set_option linter.unusedVariables false
set_option linter.unusedSimpArgs false
theorem ev_live9 : cadastrelaw10_live.f = some true := rfl
theorem Sm.sub {l m : List S38} (h : Sm l) (hs : m.Sublist l) : Sm m := ⟨Nat.le_trans hs.length_le h.len, fun x hx => h.key x (hs.subset hx), fun x hx => h.dat x (hs.subset hx)⟩
theorem Srt.sub {l m : List S38} (h : Srt l) (hs : m.Sublist l) : Srt m := List.Pairwise.sublist hs h
theorem cmpL_self (x : List Int) : cmpL x x = 0 := (cmpL_eq0 x x).2 rfl
theorem cut_take {l : List S38} (h : Srt l) {i : Nat} (hi : i < l.length) : Cut (l.take i) (rd_T38 l (i : Int)).f0 i := by
  refine ⟨by simp; omega, fun t ht => ?_, fun e => absurd e (by simp; omega)⟩
  rw [rdT_nat hi, rdT_nat (show t < (l.take i).length by simp; omega), List.getElem_take]
  exact List.pairwise_iff_getElem.1 h t i (by omega) hi ht
theorem drop_rd {l : List S38} {j : Nat} (hj : j < l.length) : rd_T38 (l.drop j) ((0 : Nat) : Int) = rd_T38 l (j : Int) := by
  rw [rdT_nat hj, rdT_nat (show 0 < (l.drop j).length by simp; omega), List.getElem_drop]
  rfl
theorem cut_drop {l : List S38} (h : Srt l) {j : Nat} (hj : j < l.length) : Cut (l.drop (j + 1)) (rd_T38 l (j : Int)).f0 0 := by
  refine ⟨Nat.zero_le _, fun t ht => by omega, fun e => ?_⟩
  have hj1 : j + 1 < l.length := by simp at e; omega
  rw [drop_rd hj1]
  intro hc
  have k := List.pairwise_iff_getElem.1 h j (j + 1) hj hj1 (by omega)
  rw [rdT_nat hj, rdT_nat hj1] at hc
  have := cmpL_trans _ _ _ hc k
  rw [cmpL_self] at this
  omega
theorem cut_at {l : List S38} {j : Nat} (hj : j < l.length) : Cut (l.drop j) (rd_T38 l (j : Int)).f0 0 := by
  refine ⟨Nat.zero_le _, fun t ht => by omega, fun e => ?_⟩
  rw [drop_rd hj, cmpL_self]
  omega
theorem hit_take {l : List S38} {i : Nat} (hi : i < l.length) (y : List Int) : hitB (l.take i) y i = false := by
  unfold hitB
  rw [if_neg (by simp; omega)]
theorem hit_drop {l : List S38} (h : Srt l) {j : Nat} (hj : j < l.length) : hitB (l.drop (j + 1)) (rd_T38 l (j : Int)).f0 0 = false := by
  unfold hitB
  split
  · next e =>
    have hj1 : j + 1 < l.length := by simp at e; omega
    rw [drop_rd hj1]
    refine beq_false_of_ne fun hc => ?_
    have k := List.pairwise_iff_getElem.1 h j (j + 1) hj hj1 (by omega)
    rw [rdT_nat hj, rdT_nat hj1] at hc
    have := (cmpL_eq0 _ _).1 hc
    rw [this, cmpL_self] at k
    omega
  · rfl
theorem hit_at {l : List S38} {j : Nat} (hj : j < l.length) : hitB (l.drop j) (rd_T38 l (j : Int)).f0 0 = true := by
  unfold hitB
  rw [if_pos (by simp; omega), drop_rd hj, cmpL_self]
  rfl
theorem ev_many1 (l : List S38) (hl : Sm l) (hs : Srt l) : ∀ n i, i + n = l.length → Ev (fun k => cadastrelaw10_BucketMany.l1 k l (l.drop i) (i : Int)) true
  | 0, i, hi => by
    refine Ev.step (fun k => by rw [cadastrelaw10_BucketMany.l1]) ?_
    simp only [if_neg (show ¬ (i : Int) < (l.length : Int) by omega), ev_live9, Option.bind_some]
    exact Ev.now _
  | n + 1, i, hi => by
    have hil : i < l.length := by omega
    have hln := hl.len
    refine Ev.step (fun k => by rw [cadastrelaw10_BucketMany.l1]) ?_
    simp only [if_pos (show (i : Int) < (l.length : Int) by omega), if_pos (show 0 ≤ (i : Int) by omega)]
    refine Ev.bind (ev_cut _ (hl.sub (List.drop_sublist i l)) (hs.sub (List.drop_sublist i l)) _ (hl.at_ hil).1 (cut_at hil)) ?_
    have e : cutV (l.drop i) 0 true = (l.drop (i + 1), true) := by simp [cutV, List.drop_drop]
    simp only [hit_at hil, e, if_true, List.length_drop]
    simp only [if_pos (show ((l.length - (i + 1) : Nat) : Int) = wrap64 (((l.length - i : Nat) : Int) - 1) by unfold wrap64; omega), w64s (show i ≤ 1000000 by omega)]
    exact ev_many1 l hl hs n (i + 1) (by omega)
theorem ev_many0 (l : List S38) (hl : Sm l) (hs : Srt l) : ∀ n i, i + n = l.length → Ev (fun k => cadastrelaw10_BucketMany.l0 k l (l.take i) (l.drop n) (i : Int)) true
  | 0, i, hi => by
    refine Ev.step (fun k => by rw [cadastrelaw10_BucketMany.l0]) ?_
    simp only [if_neg (show ¬ (i : Int) < (l.length : Int) by omega)]
    rw [List.take_of_length_le (by omega), List.drop_zero]
    refine Ev.bind (ev_same _ _ hl hl) ?_
    simp only [sameL_refl, if_true]
    refine Ev.bind (ev_same _ _ hl hl) ?_
    simp only [sameL_refl, Bool.not_true]
    refine Ev.step (fun k => by rw [cadastrelaw10_BucketMany.j2]) ?_
    simp only [Bool.false_eq_true, if_false]
    have := ev_many1 l hl hs l.length 0 (by omega)
    simpa using this
  | n + 1, i, hi => by
    have hil : i < l.length := by omega
    have hnl : n < l.length := by omega
    have hln := hl.len
    have ej : wrap64 (wrap64 ((l.length : Int) - 1) - (i : Int)) = ((n : Nat) : Int) := by unfold wrap64; omega
    refine Ev.step (fun k => by rw [cadastrelaw10_BucketMany.l0]) ?_
    simp only [if_pos (show (i : Int) < (l.length : Int) by omega), if_pos (show 0 ≤ (i : Int) by omega), ej, if_pos (show 0 ≤ (n : Int) by omega), if_pos (show (n : Int) < (l.length : Int) by omega)]
    refine Ev.bind (ev_put _ (hl.sub (List.take_sublist i l)) (hs.sub (List.take_sublist i l)) _ (hl.at_ hil).1 _ (cut_take hs hil)) ?_
    refine Ev.bind (ev_put _ (hl.sub (List.drop_sublist (n + 1) l)) (hs.sub (List.drop_sublist (n + 1) l)) _ (hl.at_ hnl).1 _ (cut_drop hs hnl)) ?_
    have e1 : putV (l.take i) ⟨(rd_T38 l (i : Int)).f0, (rd_T38 l (i : Int)).f1⟩ i false = l.take (i + 1) := by
      unfold putV
      rw [if_neg (by decide), List.take_take, Nat.min_self, List.drop_eq_nil_of_le (by simp; omega), List.append_nil, List.take_succ_eq_append_getElem hil, rdT_nat hil]
    have e2 : putV (l.drop (n + 1)) ⟨(rd_T38 l (n : Int)).f0, (rd_T38 l (n : Int)).f1⟩ 0 false = l.drop n := by
      unfold putV
      rw [if_neg (by decide), List.take_zero, List.drop_zero, List.nil_append, drop_cons hnl, rdT_nat hnl]
      rfl
    rw [hit_take hil, hit_drop hs hnl, e1, e2]
    simp only [w64s (show i ≤ 1000000 by omega)]
    exact ev_many0 l hl hs n (i + 1) (by omega)
theorem ev_many (l : List S38) (d : Int) : Ev (fun k => cadastrelaw10_BucketMany.f k l d) true := by
  have hyes : Ev (fun k => cadastrelaw10_BucketMany.j0 k l true) true := by
    refine Ev.step (fun k => by rw [cadastrelaw10_BucketMany.j0]) ?_
    simp only [if_true, ev_live9, Option.bind_some]
    exact Ev.now _
  unfold cadastrelaw10_BucketMany.f
  refine Ev.bind (ev_few l) ?_
  by_cases hf : fewL l = true
  · have hl := (fewL_of hf).sm
    simp only [hf, if_true]
    refine Ev.bind (ev_ris l d hl) ?_
    by_cases hi : isL l d = true
    · have hs := isL_srt hi
      simp only [hi, Bool.not_true]
      refine Ev.step (fun k => by rw [cadastrelaw10_BucketMany.j0]) ?_
      simp only [Bool.false_eq_true, if_false]
      have := ev_many0 l hl hs l.length 0 (by omega)
      simpa using this
    · have hi' : isL l d = false := by simpa using hi
      simp only [hi', Bool.not_false]
      exact hyes
  · simp only [hf, Bool.false_eq_true, if_false]
    exact hyes
end Go.Proofs.Ytafpfggijpigfaa.Bkt
