import Derived.Test.YtafpfggijpigfaaQ8
namespace Go.Proofs.Ytafpfggijpigfaa.Bkt
open Go.RowKit Go.Proofs.YtafpfggijpigfaaW.PrintWords Go.Proofs.YtafpfggijpigfaaW.PrintLast
set_option linter.unusedVariables false
set_option linter.unusedSimpArgs false
theorem ev_live9 : cadastrelaw10_live.f = some true := rfl
theorem Sm.sub {l m : List S38} (h : Sm l) (hs : m.Sublist l) : Sm m := ⟨Nat.le_trans hs.length_le h.len, fun x hx => h.key x (hs.subset hx), fun x hx => h.dat x (hs.subset hx)⟩
theorem Srt.sub {l m : List S38} (h : Srt l) (hs : m.Sublist l) : Srt m := List.Pairwise.sublist hs h
theorem cmpL_self (x : List Int) : cmpL x x = 0 := (cmpL_eq0 x x).2 rfl
theorem cut_take {l : List S38} (h : Srt l) {i : Nat} (hi : i < l.length) : Cut (l.take i) (rd_T38 l (i : Int)).f0 i := by
  refine ⟨by simp; omega, fun t ht => ?_, fun e => absurd e (by simp; omega)⟩
  rw [rdT_nat hi, rdT_nat (show t < (l.take i).length by simp; omega), List.getElem_take]
  exact List.pairwise_iff_getElem.1 h t i (by omega) hi ht
theorem drop_rd {l : List S38} {j : Nat} (hj : j < l.length) : rd_T38 (l.drop j) ((0 : Nat) : Int) = rd_T38 l (j : Int) := by
  rw [rdT_nat hj, rdT_nat (show 0 < (l.drop j).length by simp; omega), List.getElem_drop]
  rfl
theorem cut_drop {l : List S38} (h : Srt l) {j : Nat} (hj : j < l.length) : Cut (l.drop (j + 1)) (rd_T38 l (j : Int)).f0 0 := by
  refine ⟨Nat.zero_le _, fun t ht => by omega, fun e => ?_⟩
  have hj1 : j + 1 < l.length := by simp at e; omega
  rw [drop_rd hj1]
  intro hc
  have k := List.pairwise_iff_getElem.1 h j (j + 1) hj hj1 (by omega)
  rw [rdT_nat hj, rdT_nat hj1] at hc
  have := cmpL_trans _ _ _ hc k
  rw [cmpL_self] at this
  omega
theorem cut_at {l : List S38} {j : Nat} (hj : j < l.length) : Cut (l.drop j) (rd_T38 l (j : Int)).f0 0 := by
  refine ⟨Nat.zero_le _, fun t ht => by omega, fun e => ?_⟩
  rw [drop_rd hj, cmpL_self]
  omega
theorem hit_take {l : List S38} {i : Nat} (hi : i < l.length) (y : List Int) : hitB (l.take i) y i = false := by
  unfold hitB
  rw [if_neg (by simp; omega)]
theorem hit_drop {l : List S38} (h : Srt l) {j : Nat} (hj : j < l.length) : hitB (l.drop (j + 1)) (rd_T38 l (j : Int)).f0 0 = false := by
  unfold hitB
  split
  · next e =>
    have hj1 : j + 1 < l.length := by simp at e; omega
    rw [drop_rd hj1]
    refine beq_false_of_ne fun hc => ?_
    have k := List.pairwise_iff_getElem.1 h j (j + 1) hj hj1 (by omega)
    rw [rdT_nat hj, rdT_nat hj1] at hc
    have := (cmpL_eq0 _ _).1 hc
    rw [this, cmpL_self] at k
    omega
  · rfl
theorem hit_at {l : List S38} {j : Nat} (hj : j < l.length) : hitB (l.drop j) (rd_T38 l (j : Int)).f0 0 = true := by
  unfold hitB
  rw [if_pos (by simp; omega), drop_rd hj, cmpL_self]
  rfl
end Go.Proofs.Ytafpfggijpigfaa.Bkt
