import Derived.Test.YtafpfggijpigfaaB4
namespace Go.Proofs.Ytafpfggijpigfaa.Bkt
open Go.RowKit Go.Proofs.YtafpfggijpigfaaW.PrintWords Go.Proofs.YtafpfggijpigfaaW.PrintLast Go.Proofs.YtafpfggijpigfaaW.PrintMore
attribute [local go_sem] max2_int min2_int max_two min_two max_three min_three max_four min_four
set_option linter.unusedVariables false
set_option linter.unusedSimpArgs false
theorem N_lit0 {α : Type} (d : Kd α) (w : World) (e base : Nat) (hb : base ≤ w.heap.size) : Kd.N d e (w.alloc (.cells #[] e)) base (fun _ => True) (.slice (some ⟨w.heap.size, 0, none⟩) 0 0) ([] : List α) := Kd.R_N (R_empty d w e base hb)
/-- slices.Clone of records -/
theorem clone54 (A0 : Option Addr) (c0 : Nat) (l0 : List S38) (w : World) (hr0 : Kd.C k38 w A0 l0.length l0) (hl : l0.length ≤ 3518437208883) :
    Calls Try.prog 54 #[.slice A0 l0.length c0] w fun e w' => ∃ v0_ : Value, e = .returned v0_ ∧ Kd.N k38 38 w' w.heap.size (fun _ => True) v0_ l0 ∧ Below w.heap.size w w' := by
  have hq := fun (w : World) (a : Option Addr) (n c : Nat) => Lib.run_eql_slice_nil (P := Try.prog) w 22 38 a n c 0 0 Try.underlying22
  cases A0 with
  | none =>
    have hl0 : l0 = [] := by
      rcases Nat.eq_zero_or_pos l0.length with h | h
      · exact List.eq_nil_of_length_eq_zero h
      · obtain ⟨ad, h, _⟩ := hr0.2.2 h
        cases h
    subst hl0
    go_enter Try.func54, Try.ntmps54
    go_wp2_with fail
    go_ret
    exact ⟨_, rfl, Kd.N_nil _ _ _ _ _, Below.refl _ _⟩
  | some ad =>
    have HR := Aside0.mk (Kd.F_mono (Kd.C_F k38_heap hr0) (ok' := fun k => k < w.heap.size) (fun _ h => h))
    clear hr0
    go_enter Try.func54, Try.ntmps54
    go_wp2_with (at_builtin; go_loud (refine Kd.N_append_rows k38 (w0 := w) w.heap.size rfl _ _ 22 38 (.agg #[(.slice none 0 0), (.string ⟨#[]⟩)]) 40 rfl Try.underlying22 info38 rfl (by decide) (by decide) (.slice (some ⟨w.heap.size, 0, none⟩) 0 0) [] l0 _ _ _ (fun _ => True) (fun k => k < w.heap.size) rfl rfl (N_lit0 k38 w 38 w.heap.size (Nat.le_refl _)) (Kd.F_below HR.out (below_alloc (Below.refl _ _) _)) (fun k hk => ⟨trivial, by have hk' : k < w.heap.size := hk; simp [Value.ownBlock]; omega⟩) (fun _ _ => trivial) (below_alloc (Below.refl _ _) _) (by simp) (by simp; omega) ?_); intro v1 w1 ho hb hg hat; have HO := Aside0.mk ho; have HB := Aside0.mk hb; clear ho hb hg hat)
    go_ret
    exact ⟨_, rfl, HO.out, HB.out⟩
theorem set_rd {l : List S38} {i : Nat} (h : i < l.length) : l.set i (l.getD i z38) = l := by
  apply List.ext_getElem?
  intro j
  by_cases hj : j = i
  · subst hj; rw [List.getElem?_set_self h, List.getD_eq_getElem?_getD, List.getElem?_eq_getElem h]; rfl
  · rw [List.getElem?_set_ne (Ne.symm hj)]
theorem N_key {w : World} {base g n cap i B : Nat} {l : List S38} {x : S38} {u : Value} (h : Kd.N k38 38 w base (fun _ => True) (.slice (some ⟨g, 0, none⟩) n cap) l) (hi : i < n) (hx : l.getD i z38 = x)
    {A : Option Addr} {c2 : Nat} (hcc : ∀ j u, [Value.slice A x.f0.length c2, .string x.f1][j]? = some u → w.cell? ⟨g, i * 2 + j, none⟩ = some u) (hr : (Kd.int .u32).R 51 w B (fun _ => True) u x.f0) (hg : g < B) :
    Kd.N k38 38 (w.setCell ⟨g, i * 2, none⟩ u) base (fun _ => True) (.slice (some ⟨g, 0, none⟩) n cap) l := by
  have hn := (Kd.N_reads' h).1
  have hM : Kd.FK k38 w (fun k => B ≤ k) x ([Value.slice A x.f0.length c2, .string x.f1].take 0 ++ [u] ++ [Value.slice A x.f0.length c2, .string x.f1].drop (0 + 1)) :=
    Kd.FK_of_M (base := B) (k38_mkM w B _ x (Kd.R_mono (Kd.R_bound hr) (fun k hk => hk.2.1)))
  have h2 := (Kd.N_seg h (i : Int) (by omega) (by omega) (c := [Value.slice A x.f0.length c2, .string x.f1]) (seg := [u]) (j := 0) (x' := x) (okp := fun k => B ≤ k) rfl hcc (show 0 + 1 ≤ 2 by decide) hM (fun k hk => ⟨trivial, by have hk' : B ≤ k := hk; omega⟩)).1
  rw [Int.toNat_natCast, ← hx, set_rd (by omega)] at h2
  exact h2
/-- copied, i elements done: these have rows of their own, apart from one another -/
def CS (w : World) (base : Nat) (v : Value) (l : List S38) (i : Nat) : Prop :=
  ∃ (f : Nat → Nat) (rows : List (List Value)), rows.length = l.length ∧ (Kd.raw 2).R 38 w base (fun _ => True) v rows ∧ ∀ j x c, l[j]? = some x → rows[j]? = some c → (j < i → k38.M w base (fun k => some k ≠ v.ownBlock ∧ f k = j) x c) ∧ (i ≤ j → Kd.FK k38 w (fun k => some k ≠ v.ownBlock) x c)
theorem CS_of_N {w : World} {base : Nat} {ok : Nat → Prop} {v : Value} {l : List S38} (h : Kd.N k38 38 w base ok v l) : CS w base v l 0 := by
  obtain ⟨_, rows, hl, hR, hf⟩ := h
  exact ⟨fun _ => 0, rows, hl, Kd.raw_any hR, fun j x c hx hc => ⟨fun h0 => absurd h0 (Nat.not_lt_zero _), fun _ => Kd.FK_mono (hf j x c hx hc) (fun k hk => hk.2)⟩⟩
theorem CS_step {w w2 : World} {base g cap i B : Nat} {l : List S38} {x : S38} {u : Value} (h : CS w base (.slice (some ⟨g, 0, none⟩) l.length cap) l i) (hi : i < l.length) (hx : l.getD i z38 = x) (hb : Below w.heap.size w w2) (hg : g < w.heap.size)
    (hr : (Kd.int .u32).R 51 w2 B (fun _ => True) u x.f0) (hB : w.heap.size ≤ B) (hbase : base ≤ B) {A : Option Addr} {c2 : Nat} (hcc : w2.cell? ⟨g, i * 2 + 1, none⟩ = some (.string x.f1)) :
    CS (w2.setCell ⟨g, i * 2, none⟩ u) base (.slice (some ⟨g, 0, none⟩) l.length cap) l (i + 1) := by
  obtain ⟨f, rows, hl, hR, hf⟩ := h
  have hR2 := Kd.R_below hR hb
  have hlr : i < rows.length := by omega
  obtain ⟨c, hcl, hM, hc0, _⟩ := Kd.R_elem hR2 [] (i : Int) (by omega) (by omega)
  rw [Int.toNat_natCast] at hc0
  obtain ⟨a, b, rfl⟩ : ∃ a b, c = [a, b] := by
    match c, hcl with
    | [a, b], _ => exact ⟨a, b, rfl⟩
  have hb1 : b = .string x.f1 := by
    have h1 := hc0 1 b rfl
    have h2 : w2.cell? ⟨g, i * 2 + 1, none⟩ = some b := h1
    rw [hcc] at h2
    exact (Option.some.inj h2).symm
  subst hb1
  obtain ⟨h2, h3⟩ := Kd.R_seg hR2 (i : Int) (by omega) (by omega) (c := [a, .string x.f1]) (seg := [u]) (j := 0) (x' := [u, .string x.f1]) (okp := fun _ => False) rfl (by rw [Int.toNat_natCast]; exact hc0) (show 0 + 1 ≤ 2 by decide) ⟨rfl, rfl, by
    intro q hq
    simp at hq
    rcases hq with rfl | rfl
    · exact (Kd.R_val hr).2
    · rfl⟩ (fun _ hk => hk.elim)
  rw [Int.toNat_natCast] at h2 h3
  refine ⟨fun k => if w.heap.size ≤ k then i else f k, rows.set i [u, .string x.f1], by rw [List.length_set, hl], h2, fun j y d hy hd => ?_⟩
  have hgo : ∀ k, some k ≠ (Value.slice (some ⟨g, 0, none⟩) l.length cap).ownBlock → some k ≠ some g := fun k hk => by simpa [Value.ownBlock] using hk
  by_cases hji : j = i
  · subst hji
    rw [List.getElem?_set_self hlr] at hd
    obtain rfl := Option.some.inj hd
    obtain rfl : y = x := by rw [← hx, List.getD_eq_getElem?_getD, hy]; rfl
    refine ⟨fun _ => ?_, fun h => absurd h (by omega)⟩
    refine k38.M_lower hbase (Kd.M_grown (k38_mkM w2 B (fun k => some k ≠ (Value.slice (some ⟨g, 0, none⟩) l.length cap).ownBlock ∧ (if w.heap.size ≤ k then j else f k) = j) y ?_) h3 (fun k hk => hgo k hk.1))
    refine Kd.R_mono (Kd.R_bound hr) (fun k hk => ⟨?_, by rw [if_pos (by have := hk.2.1; omega)]⟩)
    have := hk.2.1
    simp [Value.ownBlock]
    omega
  · rw [List.getElem?_set_ne (Ne.symm hji)] at hd
    have hh := hf j y d hy hd
    refine ⟨fun hj => ?_, fun hj => ?_⟩
    · have h4 := k38.M_bound (hh.1 (by omega))
      have h5 := Kd.M_step (w1 := w2) h4 (fun k hk _ => hb.block k hk.2.2.1)
      have h6 := Kd.M_grown h5 h3 (fun k hk => hgo k hk.1.1)
      exact k38.M_mono (fun k hk => ⟨hk.1.1, by show (if w.heap.size ≤ k then i else f k) = j; rw [if_neg (by have := hk.2.2.1; omega)]; exact hk.1.2⟩) h6
    · exact Kd.FK_grown (Kd.FK_below (hh.2 (by omega)) hb) h3 (fun k hk => hgo k hk)
theorem CS_S {w : World} {base : Nat} {v : Value} {l : List S38} (h : CS w base v l l.length) : Kd.S k38 38 w base (fun _ => True) v l := by
  obtain ⟨f, rows, hl, hR, hf⟩ := h
  obtain ⟨_, inner, ho, hr⟩ := hR
  refine ⟨f, fun _ _ => trivial, inner, by rw [List.length_zipIdx, ← hl]; exact ho, by rw [List.length_zipIdx, ← hl]; exact hr.1, fun j p hj => ?_⟩
  have hjl : j < l.length := by have := (List.getElem?_eq_some_iff.1 hj).1; rwa [List.length_zipIdx] at this
  have e1 := Kd.zip_at (List.getElem?_eq_getElem hjl)
  rw [e1] at hj
  obtain rfl := Option.some.inj hj
  have h2 := (hr.2 j _ (List.getElem?_eq_getElem (show j < rows.length by omega))).1
  have h3 := (hf j _ _ (List.getElem?_eq_getElem hjl) (List.getElem?_eq_getElem (show j < rows.length by omega))).1 hjl
  show k38.M w base (fun k => (True ∧ some k ≠ v.ownBlock) ∧ f k = j) _ _
  have e2 : (inner.drop (j * k38.sz)).take k38.sz = rows[j] := h2
  show k38.M w base _ _ ((inner.drop (j * k38.sz)).take k38.sz)
  rw [e2]
  exact k38.M_mono (fun k hk => ⟨⟨trivial, hk.1⟩, hk.2⟩) h3
def KeyLen (l : List S38) : Prop := ∀ x, x ∈ l → x.f0.length ≤ 35184372088832
set_option maxHeartbeats 1000000 in
theorem copied43 (A0 : Option Addr) (c0 : Nat) (l0 : List S38) (w : World) (hr0 : Kd.C k38 w A0 l0.length l0) (hl : l0.length ≤ 3518437208883) (hk : KeyLen l0) :
    Calls Try.prog 43 #[.slice A0 l0.length c0] w fun e w' => ∃ v0_ : Value, e = .returned v0_ ∧ Kd.S k38 38 w' w.heap.size (fun _ => True) v0_ l0 ∧ Below w.heap.size w w' := by
  have HR := Aside0.mk hr0
  have HK := Aside0.mk hk
  have hu38 := Try.underlying38
  clear hr0 hk
  go_enter Try.func43, Try.ntmps43
  go_wp2_with (go_at_call 54; go_loud (refine (clone54 A0 c0 l0 _ HR.out hl).mono ?_); rintro e w1 ⟨v1, rfl, hn, hb⟩; obtain ⟨A1, c1, rfl⟩ := Kd.N_slice hn; have HN := Aside0.mk hn; have HB := Aside0.mk hb; clear hn hb)
  go_loopw [9] (fun v9 wr => ∃ i : Nat, i ≤ l0.length ∧ v9 = .int .i64 i ∧ Aside0 (Kd.N k38 38 wr w.heap.size (fun _ => True) (.slice A1 l0.length c1) l0) ∧ Aside0 (CS wr w.heap.size (.slice A1 l0.length c1) l0 i) ∧ Aside0 (Below w.heap.size w wr)) (fun v _ => l0.length - (intOf v).toNat)
  case atStart => exact ⟨0, Nat.zero_le _, rfl, HN, ⟨CS_of_N HN.out⟩, HB⟩
  case round =>
    clear HN HB
    obtain ⟨i, hi, rfl, HN, HS, HB⟩ := hrel
    by_cases hlt : i < l0.length
    · obtain ⟨g, cap, e, hg1, hg2, cells, hgc⟩ := Kd.N_form HN.out (by omega)
      injection e with e1 e2 e3
      subst e1 e3
      obtain ⟨c, hcl, hFK, hcc, hfr⟩ := Kd.N_elem HN.out z38 (i : Int) (by omega) (by omega)
      rw [Int.toNat_natCast] at hFK hcc hfr
      have hkl : (l0.getD i z38).f0.length ≤ 35184372088832 := HK.out _ (by rw [List.getD_eq_getElem?_getD, List.getElem?_eq_getElem hlt]; exact List.getElem_mem _)
      generalize hxe : l0.getD i z38 = x at hFK hcc hfr hkl
      have HXE := Aside0.mk hxe
      obtain ⟨A2, c2, rfl, hl2, hF2⟩ := k38_openF hFK
      have q0 : wr.cell? ⟨g, i * 2, none⟩ = some (.slice A2 x.f0.length c2) := hcc 0 _ rfl
      have q1 : wr.cell? ⟨g, i * 2 + 1, none⟩ = some (.string x.f1) := hcc 1 _ rfl
      have f0 : wr.frozen? ⟨g, i * 2, none⟩ = false := hfr 0
      have HX := Aside0.mk hF2
      have HCC := Aside0.mk hcc
      have HKL := Aside0.mk hkl
      clear hFK hcc hfr hF2 hgc hkl hxe
      go_wp2_with (first | (go_at_call 55; go_loud (refine (clone55 A2 c2 x.f0 _ (Kd.C_alloc (Kd.F_now HX.out) _) HKL.out).mono ?_); rintro e w2 ⟨v2, rfl, hr2, hb2⟩; have hb3 := below_step (below_alloc (Below.refl wr.heap.size wr) _) hb2; have p0 := (hb3.cell (p := ⟨g, i * 2, none⟩) hg2).trans q0; have p1 := (hb3.frozen (p := ⟨g, i * 2, none⟩) hg2).trans f0; have HB2 := Aside0.mk hb2; have HB3 := Aside0.mk hb3; have HR2 := Aside0.mk hr2; obtain ⟨A3, c3, rfl⟩ := Kd.R_slice hr2; clear hb2 hb3 hr2) | fail)
      have hb3 := HB3.out
      have HN2 := N_key (i := i) (B := wr.heap.size) (Kd.N_below HN.out hb3) hlt HXE.out (fun j u hj => (hb3.cell (p := ⟨g, i * 2 + j, none⟩) hg2).trans (HCC.out j u hj)) (Kd.R_lower HR2.out (by simp)) hg2
      have HS2 := CS_step (A := A2) (c2 := c2) HS.out hlt HXE.out hb3 hg2 HR2.out (by simp) (by have := HB.out.size; simp; omega) ((hb3.cell (p := ⟨g, i * 2 + 1, none⟩) hg2).trans (HCC.out 1 _ rfl))
      have HB4 := (below_step HB.out hb3).setCell (p := ⟨g, i * 2, none⟩) hg1 (.slice A3 x.f0.length c3)
      go_roundw
      case rel => exact ⟨i + 1, by omega, by go_num, ⟨HN2⟩, ⟨HS2⟩, ⟨HB4⟩⟩
      case measure => simp [intOf]; omega
    · have : i = l0.length := by omega
      subst this
      go_wp2_with fail
      go_ret
      exact ⟨_, rfl, CS_S HS.out, HB.out⟩
/-- a row that has just grown, whose elements are read in what was there -/
theorem N_grown_row {w w1 : World} {v : Value} {n : Nat} {l : List S38} {cs : List Value} (ho : w1.ownsRow w.heap.size 38 2 v n cs) (hl : l.length = n)
    (hr : ∀ (j : Nat) (x : S38), l[j]? = some x → Kd.FK k38 w1 (fun k => k < w.heap.size) x ((cs.drop (j * 2)).take 2)) : Kd.N k38 38 w1 w.heap.size (fun _ => True) v l := by
  have hcs : cs.length = n * 2 := ho.1
  have hch := Kd.chunks_length 2 n cs
  refine ⟨fun _ _ => trivial, Kd.chunks 2 n cs, by rw [hch, hl], ⟨fun k hk => hk.symm, cs, by rw [hch]; exact ho, ?_⟩, fun j x c hx hc => ?_⟩
  · refine ⟨by rw [hch, hcs]; rfl, fun j p hj => ?_⟩
    have hp := Kd.chunks_get hj
    have hjl : j < n := by have := (List.getElem?_eq_some_iff.1 hj).1; rwa [hch] at this
    have hk := Kd.FK_now (hr j _ (List.getElem?_eq_getElem (by omega)))
    exact ⟨hp.symm, k38.K_len hk, k38.K_one hk⟩
  · rw [Kd.chunks_get hc]
    refine Kd.FK_mono (hr j x hx) (fun k hk => ⟨trivial, fun he => ?_⟩)
    have := (ho.lt k he.symm).1
    omega
end Go.Proofs.Ytafpfggijpigfaa.Bkt
