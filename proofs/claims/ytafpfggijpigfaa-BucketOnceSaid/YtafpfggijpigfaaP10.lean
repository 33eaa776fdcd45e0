import Derived.Test.YtafpfggijpigfaaQ9
import Derived.Test.YtafpfggijpigfaaBktx11
namespace Go.Proofs.Ytafpfggijpigfaa.Bkt
open Go.RowKit Go.Proofs.YtafpfggijpigfaaW.PrintWords Go.Proofs.YtafpfggijpigfaaW.PrintLast
set_option linter.unusedVariables false
set_option linter.unusedSimpArgs false
theorem cmpL_tri : ∀ x y : List Int, cmpL x y < 0 ∨ x = y ∨ cmpL y x < 0
  | [], [] => .inr (.inl rfl)
  | [], _ :: _ => .inl (by simp [cmpL])
  | _ :: _, [] => .inr (.inr (by simp [cmpL]))
  | a :: x, b :: y => by
    by_cases h1 : a < b
    · exact .inl (by rw [cmpL, if_pos h1]; decide)
    · by_cases h2 : b < a
      · exact .inr (.inr (by rw [cmpL, if_pos h2]; decide))
      · obtain rfl : a = b := by omega
        rcases cmpL_tri x y with h | h | h
        · exact .inl (by rw [cmpL, if_neg h1, if_neg h1]; exact h)
        · exact .inr (.inl (by rw [h]))
        · exact .inr (.inr (by rw [cmpL, if_neg h1, if_neg h1]; exact h))
theorem isF_of (l : List S38) (d : Int) (hc : ∀ x, x ∈ l → chk x.f0 x.f1.size d = 0) (hs : Srt l) : ∀ n i, i + n = l.length → isF l d n i = true
  | 0, i, hi => rfl
  | n + 1, i, hi => by
    have hil : i < l.length := by omega
    rw [isF, if_pos (hc _ (by rw [rdT_nat hil]; exact List.getElem_mem hil)), isF_of l d hc hs n (i + 1) (by omega)]
    split
    · next h0 =>
      have k := List.pairwise_iff_getElem.1 hs (i - 1) i (by omega) hil (by omega)
      rw [rdT_nat hil, rdT_nat (show i - 1 < l.length by omega), if_neg (by omega)]
    · rfl
theorem isL_of {l : List S38} {d : Int} (hc : ∀ x, x ∈ l → chk x.f0 x.f1.size d = 0) (hs : Srt l) : isL l d = true := isF_of l d hc hs _ _ (by omega)
theorem isL_chk {l : List S38} {d : Int} (h : isL l d = true) {x : S38} (hx : x ∈ l) : chk x.f0 x.f1.size d = 0 := by
  obtain ⟨j, hj, rfl⟩ := List.getElem_of_mem hx
  have := isF_at l d _ _ (by omega) h j (Nat.zero_le _) hj
  rwa [rdT_nat hj] at this
theorem rd_mid (p q : List S38) (x : S38) : rd_T38 (p ++ [x] ++ q) (p.length : Int) = x := by
  rw [rdT_nat (show p.length < (p ++ [x] ++ q).length by simp)]
  simp
theorem rd_left (p q : List S38) (x : S38) {t : Nat} (h : t < p.length) : rd_T38 (p ++ [x] ++ q) (t : Int) = rd_T38 p (t : Int) := by
  rw [rdT_nat (show t < (p ++ [x] ++ q).length by simp; omega), rdT_nat h]
  simp [List.getElem_append, h]
def qOf (l : List S38) (r : Nat) (b : Bool) : List S38 := l.drop (if b = true then r + 1 else r)
theorem putV_eq (l : List S38) (x : S38) (r : Nat) (b : Bool) : putV l x r b = l.take r ++ [x] ++ qOf l r b := by
  cases b <;> rfl
theorem q_gt {l : List S38} (hs : Srt l) {y : List Int} {r : Nat} (hr : Cut l y r) {z : S38} (hz : z ∈ qOf l r (hitB l y r)) : cmpL y z.f0 < 0 := by
  unfold qOf at hz
  by_cases hb : hitB l y r = true
  · rw [if_pos hb] at hz
    have hlt := hit_lt hb
    have e : rd_T38 l (r : Int) = l[r] := rdT_nat hlt
    unfold hitB at hb
    rw [if_pos hlt, e] at hb
    have e2 := (cmpL_eq0 _ _).1 (beq_iff_eq.1 hb)
    obtain ⟨j, hj, rfl⟩ := List.getElem_of_mem hz
    rw [List.length_drop] at hj
    rw [List.getElem_drop, ← e2]
    exact List.pairwise_iff_getElem.1 hs r (r + 1 + j) hlt (by omega) (by omega)
  · rw [if_neg hb] at hz
    obtain ⟨j, hj, rfl⟩ := List.getElem_of_mem hz
    rw [List.length_drop] at hj
    have hlt : r < l.length := by omega
    have e : rd_T38 l (r : Int) = l[r] := rdT_nat hlt
    have h1 := hr.hi hlt
    unfold hitB at hb
    rw [if_pos hlt, e] at hb
    rw [e] at h1
    have h0 : cmpL y l[r].f0 < 0 := by
      rcases cmpL_tri l[r].f0 y with h | h | h
      · exact absurd h h1
      · exact absurd (beq_iff_eq.2 ((cmpL_eq0 _ _).2 h)) hb
      · exact h
    rw [List.getElem_drop]
    by_cases hj0 : j = 0
    · subst hj0; exact h0
    · exact cmpL_trans _ _ _ h0 (List.pairwise_iff_getElem.1 hs r (r + j) hlt (by omega) (by omega))
theorem putV_srt {l : List S38} (hs : Srt l) {y : List Int} (s : ByteArray) {r : Nat} (hr : Cut l y r) : Srt (putV l ⟨y, s⟩ r (hitB l y r)) := by
  rw [putV_eq]
  have hp : ∀ z, z ∈ l.take r → cmpL z.f0 y < 0 := fun z hz => by
    obtain ⟨j, hj, rfl⟩ := List.getElem_of_mem hz
    rw [List.length_take] at hj
    have := hr.lo j (by omega)
    rw [rdT_nat (show j < l.length by omega)] at this
    rwa [List.getElem_take]
  have hq : ∀ z, z ∈ qOf l r (hitB l y r) → cmpL y z.f0 < 0 := fun z hz => q_gt hs hr hz
  refine List.pairwise_append.2 ⟨List.pairwise_append.2 ⟨hs.sub (List.take_sublist _ _), List.pairwise_singleton _ _, fun a ha b hb => ?_⟩, hs.sub (List.drop_sublist _ _), fun a ha b hb => ?_⟩
  · rw [List.mem_singleton.1 hb]; exact hp a ha
  · rcases List.mem_append.1 ha with ha | ha
    · exact cmpL_trans _ _ _ (hp a ha) (hq b hb)
    · rw [List.mem_singleton.1 ha]; exact hq b hb
theorem putV_mem' {l : List S38} {x : S38} {r : Nat} {b : Bool} {z : S38} (h : z ∈ putV l x r b) : z = x ∨ z ∈ l := by
  rw [putV_eq] at h
  simp only [List.mem_append, List.mem_singleton] at h
  rcases h with (h | h) | h
  · exact .inr (List.mem_of_mem_take h)
  · exact .inl h
  · exact .inr (List.mem_of_mem_drop h)
theorem putV_len (l : List S38) (x : S38) {r : Nat} (hr : r ≤ l.length) (b : Bool) (hb : b = true → r < l.length) : (putV l x r b).length = if b = true then l.length else l.length + 1 := by
  rw [putV_eq]
  unfold qOf
  cases b with
  | true => have := hb rfl; simp; omega
  | false => simp; omega
theorem putV_cut {l : List S38} {y : List Int} (s : ByteArray) {r : Nat} (hr : Cut l y r) (b : Bool) : Cut (putV l ⟨y, s⟩ r b) y r ∧ hitB (putV l ⟨y, s⟩ r b) y r = true ∧ rd_T38 (putV l ⟨y, s⟩ r b) (r : Int) = ⟨y, s⟩ := by
  have hrl := hr.le
  have hpl : (l.take r).length = r := by simp; omega
  have e := rd_mid (l.take r) (qOf l r b) ⟨y, s⟩
  rw [hpl] at e
  rw [putV_eq]
  have hlen : r < (l.take r ++ [(⟨y, s⟩ : S38)] ++ qOf l r b).length := by simp; omega
  refine ⟨⟨by omega, fun t ht => ?_, fun _ => ?_⟩, ?_, e⟩
  · rw [rd_left _ _ _ (show t < (l.take r).length by omega), rdT_nat (show t < (l.take r).length by omega), List.getElem_take]
    have := hr.lo t ht
    rwa [rdT_nat (show t < l.length by omega)] at this
  · rw [e, cmpL_self]; omega
  · unfold hitB
    rw [if_pos hlen, e, cmpL_self]; rfl
theorem cut_back {l : List S38} {x : S38} {r : Nat} (hr : r ≤ l.length) : (cutV (putV l x r false) r true).1 = l := by
  have hpl : (l.take r).length = r := by simp; omega
  have e : putV l x r false = l.take r ++ (x :: l.drop r) := by rw [putV_eq]; simp [qOf]
  unfold cutV
  rw [if_pos rfl, e]
  have e1 : (l.take r ++ (x :: l.drop r)).take r = l.take r := by
    have := List.take_left (l₁ := l.take r) (l₂ := x :: l.drop r)
    rwa [hpl] at this
  have e2 : (l.take r ++ (x :: l.drop r)).drop (r + 1) = l.drop r := by
    have e3 : (l.take r ++ (x :: l.drop r)).drop r = x :: l.drop r := by
      have := List.drop_left (l₁ := l.take r) (l₂ := x :: l.drop r)
      rwa [hpl] at this
    rw [← List.drop_drop, e3]
    rfl
  show List.take r _ ++ List.drop (r + 1) _ = l
  rw [e1, e2, List.take_append_drop]
theorem ev_once2 (y : List Int) (s : ByteArray) (hy : y.length ≤ 6) (hs : s.size ≤ 40) : Ev (fun k => cadastrelaw10_BucketOnce.j2 k y s false) true := by
  refine Ev.step (fun k => by rw [cadastrelaw10_BucketOnce.j2]) ?_
  simp only [Bool.false_eq_true, if_false]
  have hm : Sm [(⟨y, s⟩ : S38), ⟨y, s⟩] := ⟨by simp, fun x hx => by simp at hx; subst hx; show y.length ≤ 1000; omega, fun x hx => by simp at hx; subst hx; show s.size ≤ 1000; omega⟩
  have hf : fitsL [(⟨y, s⟩ : S38), ⟨y, s⟩] 2 = true := by
    unfold fitsL
    rw [if_pos (by simp)]
    refine decide_eq_true ?_
    rw [szL_enc]
    simp only [encB, List.map_cons, List.map_nil, List.flatten_cons, List.flatten_nil, List.length_append, recB_length, bes_length, List.length_nil]
    omega
  refine Ev.bind (ev_fits _ hm 2) ?_
  simp only [hf, if_true, ev_live9, Option.bind_some]
  exact Ev.now _
theorem ev_once (l : List S38) (y : List Int) (s : ByteArray) (d : Int) : Ev (fun k => cadastrelaw10_BucketOnce.f k l y s d) true := by
  have hyes : Ev (fun k => cadastrelaw10_BucketOnce.j0 k l d true y s) true := by
    refine Ev.step (fun k => by rw [cadastrelaw10_BucketOnce.j0]) ?_
    simp only [if_true, ev_live9, Option.bind_some]
    exact Ev.now _
  unfold cadastrelaw10_BucketOnce.f
  refine Ev.bind (ev_few l) ?_
  by_cases hf : fewL l = true
  · have hl := (fewL_of hf).sm
    have h60 := (fewL_of hf).len
    simp only [hf, if_true]
    refine Ev.bind (ev_ris l d hl) ?_
    by_cases hi : isL l d = true
    · have hs := isL_srt hi
      simp only [hi, if_true, ev_rchk, Option.bind_some]
      by_cases hc : chk y s.size d = 0
      · obtain ⟨c1, c2, c3, c4⟩ := chk_ok hc
        have hy : y.length ≤ 6 := by omega
        obtain ⟨r, hr⟩ := cut_ex l y
        have hrl := hr.le
        simp only [hc, bne_self_eq_false]
        obtain ⟨k1, k2, k3⟩ := putV_cut s hr (hitB l y r)
        have ks := putV_srt hs s hr
        have kl := putV_len l ⟨y, s⟩ hrl (hitB l y r) hit_lt
        have kc : ∀ x, x ∈ putV l ⟨y, s⟩ r (hitB l y r) → chk x.f0 x.f1.size d = 0 := fun x hx => by
          rcases putV_mem' hx with rfl | hx
          · exact hc
          · exact isL_chk hi hx
        have km : Sm (putV l ⟨y, s⟩ r (hitB l y r)) := ⟨by rw [kl]; split <;> omega, fun x hx => by have := chk_ok (kc x hx); omega, fun x hx => by have := chk_ok (kc x hx); omega⟩
        have ki := isL_of kc ks
        have hrl2 := hit_lt k2
        refine Ev.step (fun k => by rw [cadastrelaw10_BucketOnce.j0]) ?_
        simp only [Bool.false_eq_true, if_false]
        refine Ev.bind (ev_find l hl hs y (by omega) hr) ?_
        refine Ev.bind (ev_put l hl hs y (by omega) s hr) ?_
        refine Ev.bind (ev_find _ km ks y (by omega) k1) ?_
        simp only [k2, if_true, if_neg (show ¬ (r : Int) < 0 by omega), if_neg (show ¬ (r : Int) ≥ ((putV l ⟨y, s⟩ r (hitB l y r)).length : Int) by omega), if_pos (show 0 ≤ (r : Int) by omega), if_pos (show (r : Int) < ((putV l ⟨y, s⟩ r (hitB l y r)).length : Int) by omega), k3]
        refine Ev.bind (ev_rsame y y (by omega) (by omega)) ?_
        simp only [cmpL_self, BEq.rfl, if_true]
        refine Ev.bind (ev_ris _ d km) ?_
        simp only [ki, Bool.not_true]
        refine Ev.step (fun k => by rw [cadastrelaw10_BucketOnce.j1]) ?_
        simp only [Bool.false_eq_true, if_false]
        refine Ev.bind (ev_cut _ km ks y (by omega) k1) ?_
        rw [k2]
        have e2 : (cutV (putV l ⟨y, s⟩ r (hitB l y r)) r true).2 = true := rfl
        simp only [e2, if_true]
        by_cases hb : hitB l y r = true
        · rw [hb, if_pos rfl] at kl
          simp only [hb, if_true, kl, bne_self_eq_false]
          exact ev_once2 y s hy c1
        · have hb' : hitB l y r = false := by simpa using hb
          simp only [hb', Bool.false_eq_true, if_false]
          rw [cut_back hrl]
          refine Ev.bind (ev_same l l hl hl) ?_
          simp only [sameL_refl, if_true]
          exact ev_once2 y s hy c1
      · have : (chk y s.size d != 0) = true := by simpa using hc
        simp only [this]
        exact hyes
    · simp only [hi, Bool.false_eq_true, if_false]
      exact hyes
  · simp only [hf, Bool.false_eq_true, if_false]
    exact hyes
end Go.Proofs.Ytafpfggijpigfaa.Bkt
