import Derived.Test.YtafpfggijpigfaaQ8
import Derived.Test.YtafpfggijpigfaaX8f
namespace Go.Proofs.Ytafpfggijpigfaa.Bkt
open Go.RowKit Go.Proofs.YtafpfggijpigfaaW.PrintWords Go.Proofs.YtafpfggijpigfaaW.PrintLast
set_option linter.unusedVariables false
set_option linter.unusedSimpArgs false
theorem ev_copies0 (l : List S38) (hl : l.length ≤ 10000) (hk : KeyLen l) : ∀ n i, i + n = l.length → Ev (fun k => cadastreref09_Copies.l0 k l (l.take i) (i : Int)) l
  | 0, i, hi => by
    refine Ev.step (fun k => by rw [cadastreref09_Copies.l0]) ?_
    simp only [if_neg (show ¬ (i : Int) < (l.length : Int) by omega)]
    rw [List.take_of_length_le (by omega)]
    exact Ev.now _
  | n + 1, i, hi => by
    have hil : i < l.length := by omega
    refine Ev.step (fun k => by rw [cadastreref09_Copies.l0]) ?_
    have hx : (rd_T38 l (i : Int)).f0.length ≤ 35184372088832 := hk _ (by rw [rdT_nat hil]; exact List.getElem_mem hil)
    simp only [if_pos (show (i : Int) < (l.length : Int) by omega), if_pos (show 0 ≤ (i : Int) by omega), cadastreref08_Copy.f, if_pos hx, Option.bind_some, List.length_take, if_pos (show min i l.length < 3518437208883 by omega), w64s (show i ≤ 1000000 by omega)]
    have e : l.take i ++ [(⟨(rd_T38 l (i : Int)).f0, (rd_T38 l (i : Int)).f1⟩ : S38)] = l.take (i + 1) := by
      rw [List.take_succ_eq_append_getElem hil, rdT_nat hil]
    rw [e]
    exact ev_copies0 l hl hk n (i + 1) (by omega)
theorem ev_copies (l : List S38) (hl : l.length ≤ 10000) (hk : KeyLen l) : Ev (fun k => cadastreref09_Copies.f k l) l := by
  have := ev_copies0 l hl hk l.length 0 (by omega)
  simpa [cadastreref09_Copies.f] using this
theorem lt_big {a : Nat} (h : a ≤ 5000) : a < 3518437208883 := by omega
theorem putV_length (l : List S38) (x : S38) (r : Nat) (b : Bool) : (putV l x r b).length ≤ l.length + 2 := by
  unfold putV
  split <;> simp <;> omega
theorem putV_mem {l : List S38} {x : S38} {r : Nat} {b : Bool} {z : S38} (h : z ∈ putV l x r b) : z = x ∨ z ∈ l := by
  unfold putV at h
  split at h <;> simp only [List.mem_append, List.mem_singleton] at h <;> rcases h with (h | h) | h
  · exact .inr (List.mem_of_mem_take h)
  · exact .inl h
  · exact .inr (List.mem_of_mem_drop h)
  · exact .inr (List.mem_of_mem_take h)
  · exact .inl h
  · exact .inr (List.mem_of_mem_drop h)
theorem Ev.ifp {α : Type} {c : Prop} [Decidable c] {f g : Nat → Option α} {r : α} (hc : c) (h : Ev f r) : Ev (fun k => if c then f k else g k) r := h.congr fun k => if_pos hc
theorem Ev.ifn {α : Type} {c : Prop} [Decidable c] {f g : Nat → Option α} {r : α} (hc : ¬ c) (h : Ev g r) : Ev (fun k => if c then f k else g k) r := h.congr fun k => if_neg hc
theorem ev_rput (l : List S38) (hl : Sm l) (y : List Int) (hy : y.length ≤ 1000) (s : ByteArray) {r : Nat} (hr : Cut l y r) : Ev (fun k => cadastreref10_Put.f k l y s) (putV l ⟨y, s⟩ r (hitB l y r)) := by
  have hln := hl.len
  have hrl := hr.le
  have hk : KeyLen (putV l ⟨y, s⟩ r (hitB l y r)) := fun x hx => by
    rcases putV_mem hx with rfl | hx
    · show y.length ≤ _; omega
    · exact hl.keyLen x hx
  have hpl := putV_length l ⟨y, s⟩ r (hitB l y r)
  have hc := ev_copies _ (by omega) hk
  have c1 : ([] : List S38).length + (l.take r).length < 3518437208883 := lt_big (by simp only [List.length_nil, List.length_take]; omega)
  have c2 : ([] ++ l.take r : List S38).length < 3518437208883 := lt_big (by simp only [List.nil_append, List.length_take]; omega)
  have c3 : ([] ++ l.take r ++ [(⟨y, s⟩ : S38)] : List S38).length + (l.drop (r + 1)).length < 3518437208883 := lt_big (by simp only [List.nil_append, List.length_append, List.length_take, List.length_drop, List.length_cons, List.length_nil]; omega)
  have c4 : ([] ++ l.take r ++ [(⟨y, s⟩ : S38)] : List S38).length + (l.drop r).length < 3518437208883 := lt_big (by simp only [List.nil_append, List.length_append, List.length_take, List.length_drop, List.length_cons, List.length_nil]; omega)
  have d1 : 0 ≤ (r : Int) := by omega
  have d2 : (r : Int) ≤ (l.length : Int) := by omega
  have d3 : 0 ≤ ((r + 1 : Nat) : Int) := by omega
  have d4 : wrap64 ((r : Int) + 1) = ((r + 1 : Nat) : Int) := w64s (by omega)
  have e1 : (wrap64 ((r : Int) + 1)).toNat = r + 1 := by rw [d4]; rfl
  rw [← e1] at c3
  unfold cadastreref10_Put.f
  refine Ev.bind (ev_rfind l hl y hy hr) ?_
  refine Ev.ifp d1 ?_
  refine Ev.ifp d2 ?_
  refine Ev.bind (Ev.now _) ?_
  refine Ev.ifp c1 ?_
  refine Ev.bind (Ev.now _) ?_
  refine Ev.ifp c2 ?_
  refine Ev.bind (Ev.now _) ?_
  by_cases hb : hitB l y r = true
  · have hlt := hit_lt hb
    have d5 : wrap64 ((r : Int) + 1) ≤ (l.length : Int) := by rw [d4]; exact Int.ofNat_le.2 hlt
    have d6 : 0 ≤ wrap64 ((r : Int) + 1) := by rw [d4]; exact d3
    unfold putV at hc ⊢
    rw [if_pos hb, ← e1] at hc ⊢
    refine Ev.ifp hb ?_
    refine Ev.ifp d6 ?_
    refine Ev.ifp d5 ?_
    refine Ev.bind (Ev.now _) ?_
    refine Ev.ifp c3 ?_
    exact Ev.bind hc (Ev.now _)
  · unfold putV at hc ⊢
    rw [if_neg hb] at hc ⊢
    refine Ev.ifn hb ?_
    refine Ev.bind (Ev.now _) ?_
    refine Ev.ifp c4 ?_
    exact Ev.bind hc (Ev.now _)
theorem ev_rcut (l : List S38) (hl : Sm l) (y : List Int) (hy : y.length ≤ 1000) {r : Nat} (hr : Cut l y r) : Ev (fun k => cadastreref10_Cut.f k l y) (cutV l r (hitB l y r)) := by
  have hln := hl.len
  have hrl := hr.le
  unfold cadastreref10_Cut.f
  refine Ev.bind (ev_rfind l hl y hy hr) ?_
  unfold cutV
  by_cases hb : hitB l y r = true
  · have hlt := hit_lt hb
    have hc := ev_copies (l.take r ++ l.drop (r + 1)) (by simp; omega) (fun x hx => by
      rcases List.mem_append.1 hx with hx | hx
      · exact hl.keyLen x (List.mem_of_mem_take hx)
      · exact hl.keyLen x (List.mem_of_mem_drop hx))
    simp only [if_pos hb, if_pos (show 0 ≤ (r : Int) by omega), if_pos (show (r : Int) ≤ (l.length : Int) by omega), Int.toNat_natCast, Option.bind_some, List.nil_append, List.length_nil, List.length_take, Nat.zero_add, if_pos (lt_big (show min r l.length ≤ 5000 by omega)),
      w64s (show r ≤ 1000000 by omega), if_pos (show 0 ≤ ((r + 1 : Nat) : Int) by omega), if_pos (show ((r + 1 : Nat) : Int) ≤ (l.length : Int) by omega), List.length_drop, if_pos (lt_big (show min r l.length + (l.length - (r + 1)) ≤ 5000 by omega))]
    exact Ev.bind hc (Ev.now _)
  · simp only [if_neg hb]
    exact Ev.bind (ev_copies l (by omega) hl.keyLen) (Ev.now _)
theorem ev_live' : cadastrelaw10_live.f = some true := rfl
theorem ev_puts (l : List S38) (y : List Int) (s : ByteArray) (d : Int) : Ev (fun k => cadastrelaw10_BucketPuts.f k l y s d) true := by
  have hyes : Ev (fun k => cadastrelaw10_BucketPuts.j0 k l true y s) true := by
    refine Ev.step (fun k => by rw [cadastrelaw10_BucketPuts.j0]) ?_
    simp only [if_true, ev_live', Option.bind_some]
    exact Ev.now _
  unfold cadastrelaw10_BucketPuts.f
  refine Ev.bind (ev_few l) ?_
  by_cases hf : fewL l = true
  · have hl := (fewL_of hf).sm
    have h60 := (fewL_of hf).len
    simp only [hf, if_true]
    refine Ev.bind (ev_ris l d hl) ?_
    by_cases hi : isL l d = true
    · have hs := isL_srt hi
      simp only [hi, if_true]
      by_cases h1 : (y.length : Int) > 20
      · simp only [if_pos h1]; exact hyes
      · simp only [if_neg h1]
        by_cases h2 : (s.size : Int) > 100
        · simp only [decide_eq_true h2]; exact hyes
        · simp only [decide_eq_false h2]
          have hy : y.length ≤ 1000 := by omega
          obtain ⟨r, hr⟩ := cut_ex l y
          refine Ev.step (fun k => by rw [cadastrelaw10_BucketPuts.j0]) ?_
          simp only [Bool.false_eq_true, if_false]
          refine Ev.bind (ev_copies l (by omega) hl.keyLen) ?_
          refine Ev.bind (ev_put l hl hs y hy s hr) ?_
          refine Ev.bind (ev_cut l hl hs y hy hr) ?_
          refine Ev.bind (ev_rcut l hl y hy hr) ?_
          refine Ev.bind (ev_find l hl hs y hy hr) ?_
          refine Ev.bind (ev_rfind l hl y hy hr) ?_
          refine Ev.bind (ev_rput l hl y hy s hr) ?_
          have hp : Sm (putV l ⟨y, s⟩ r (hitB l y r)) := by
            have hpl := putV_length l ⟨y, s⟩ r (hitB l y r)
            refine ⟨by omega, fun x hx => ?_, fun x hx => ?_⟩
            · rcases putV_mem hx with rfl | hx
              · exact hy
              · exact hl.key x hx
            · rcases putV_mem hx with rfl | hx
              · show s.size ≤ 1000; omega
              · exact hl.dat x hx
          have hq : Sm (cutV l r (hitB l y r)).1 := by
            unfold cutV
            split
            · refine ⟨by simp; omega, fun x hx => ?_, fun x hx => ?_⟩
              · rcases List.mem_append.1 hx with hx | hx
                · exact hl.key x (List.mem_of_mem_take hx)
                · exact hl.key x (List.mem_of_mem_drop hx)
              · rcases List.mem_append.1 hx with hx | hx
                · exact hl.dat x (List.mem_of_mem_take hx)
                · exact hl.dat x (List.mem_of_mem_drop hx)
            · exact hl
          refine Ev.bind (ev_same _ _ hp hp) ?_
          simp only [sameL_refl, if_true]
          refine Ev.bind (ev_same _ _ hq hq) ?_
          simp only [sameL_refl, if_true, BEq.rfl]
          refine Ev.bind (ev_same _ _ hl hl) ?_
          simp only [sameL_refl, if_true, ev_live', Option.bind_some]
          exact Ev.now _
    · simp only [hi, Bool.false_eq_true, if_false]
      exact hyes
  · simp only [hf, Bool.false_eq_true, if_false]
    exact hyes
end Go.Proofs.Ytafpfggijpigfaa.Bkt
