import Derived.Test.YtafpfggijpigfaaB5
import Derived.Deep.RegionLawGrows
import Derived.IntWalk
namespace Go.Proofs.Ytafpfggijpigfaa.Bkt
open Go.RowKit Go.Proofs.YtafpfggijpigfaaW.PrintWords Go.Proofs.YtafpfggijpigfaaW.PrintLast Go.Proofs.YtafpfggijpigfaaW.PrintMore
attribute [local go_sem] max2_int min2_int max_two min_two max_three min_three max_four min_four
set_option linter.unusedVariables false
set_option linter.unusedSimpArgs false
instance (l : List S38) : Decidable (KeyLen l) := by unfold KeyLen; infer_instance
def bucket_Cut.f (k : Nat) (l : List S38) (y : List Int) : Option (List S38 × Bool) :=
  if l.length ≤ 3518437208000 ∧ KeyLen l then (bucket_Find.f k l y).bind fun r => if r.2 = true then (if 0 ≤ r.1 ∧ r.1 < (l.length : Int) then some (l.take r.1.toNat ++ l.drop (r.1.toNat + 1), true) else none) else some (l, false) else none
theorem bucket_Cut.mono : ∀ a0 a1 k, LeO (bucket_Cut.f k a0 a1) (bucket_Cut.f (k + 1) a0 a1) := by
  intro a0 a1 k
  unfold bucket_Cut.f
  exact LeO.ite (LeO.bind (bucket_Find.mono _ _ _) (fun r => LeO.refl _)) (LeO.refl _)
theorem reps_take {α : Type} {R : α → List Value → Prop} {sz : Nat} {ps : List α} {cs : List Value} (h : Reps R sz ps cs) (m : Nat) (hm : m ≤ ps.length) : Reps R sz (ps.take m) (cs.take (m * sz)) := by
  have hml : m * sz ≤ ps.length * sz := Nat.mul_le_mul_right _ hm
  refine ⟨by rw [List.length_take, List.length_take, h.1, Nat.min_eq_left hml, Nat.min_eq_left hm], fun j p hj => ?_⟩
  have hjm : j < m := by have := (List.getElem?_eq_some_iff.1 hj).1; simp at this; omega
  rw [List.getElem?_take_of_lt hjm] at hj
  have h1 := h.2 j p hj
  have h2 : j * sz + sz ≤ m * sz := by rw [← Nat.succ_mul]; exact Nat.mul_le_mul_right _ hjm
  rw [List.drop_take, List.take_take, Nat.min_eq_left (by omega)]
  exact h1
theorem reps_drop {α : Type} {R : α → List Value → Prop} {sz : Nat} {ps : List α} {cs : List Value} (h : Reps R sz ps cs) (m : Nat) (hm : m ≤ ps.length) : Reps R sz (ps.drop m) (cs.drop (m * sz)) := by
  refine ⟨by rw [List.length_drop, List.length_drop, h.1, Nat.sub_mul], fun j p hj => ?_⟩
  rw [List.getElem?_drop] at hj
  have h1 := h.2 (m + j) p hj
  rw [List.drop_drop, ← Nat.add_mul]
  exact h1
/-- the cells of a list that is read, with what they lead to -/
theorem inner_of {w : World} {ad : Addr} {l : List S38} (h : Kd.C k38 w (some ad) l.length l) : ∃ inner, Reps (fun x c => Kd.FK k38 w (fun k => k < w.heap.size) x c) 2 l inner ∧ ∀ j u, inner[j]? = some u → w.cell? (ad.add j) = some u :=
  ReadsRow.inner_ (Kd.F_rows (Kd.C_F k38_heap h))
theorem reps_row {w w1 : World} {v : Value} {n : Nat} {l : List S38} {cs : List Value} (ho : w1.ownsRow w.heap.size 38 2 v n cs) (hr : Reps (fun x c => Kd.FK k38 w (fun k => k < w.heap.size) x c) 2 l cs) (hl : l.length = n) (hb : Below w.heap.size w w1) :
    Kd.N k38 38 w1 w.heap.size (fun _ => True) v l :=
  N_grown_row ho hl (fun j x hx => Kd.FK_below (hr.2 j x hx) hb)
theorem reps_one {l : List S38} {w : World} {cs : List Value} (hr : Reps (fun x c => Kd.FK k38 w (fun k => k < w.heap.size) x c) 2 l cs) : ∀ u ∈ cs, u.oneCell' = true := by
  intro u hu
  obtain ⟨j, hj, rfl⟩ := List.getElem_of_mem hu
  have hl := hr.1
  have hjl : j / 2 < l.length := by omega
  have h1 := k38.K_one (Kd.FK_now (hr.2 (j / 2) _ (List.getElem?_eq_getElem hjl)))
  apply h1
  have e : j = j / 2 * 2 + j % 2 := by omega
  apply List.mem_iff_getElem?.2
  refine ⟨j % 2, ?_⟩
  rw [List.getElem?_take_of_lt (by omega), List.getElem?_drop, ← e, List.getElem?_eq_getElem hj]
theorem run_append_zero {P : Program} (w : World) (t ty e : TypeId) (i : TypeInfo) (ht : P.underlying t = some (.slice e)) (hi : P.info? e = some i) (b a : Addr) (n cap c : Nat) (h : n ≤ cap) :
    (Builtin.append_ #[t, t] ty #[.slice (some b) n cap, .slice (some a) 0 c]).run P w = .ok (.slice (some b) n cap) w := by
  have hfc := run_firstCells_some (P := P) w i.size 0 a 0 c [] (by simp) (fun j u hj => by simp at hj)
  simp [Builtin.append_, run_underlying ht, sizeOf, typeInfo, hi, Builtin.lenOf, h, hfc, storeCells]
theorem step_append_run {P : Program} {ops : Array Oper} {o : Oper} {a : Act} {w : World} {K : Act → World → Prop} {Q : Exit → Act → World → Prop} {E : Prop}
    (hg : o.guard = none) (s x : Operand) (t : TypeId) (hop : o.op = Op.call { callee := Callee.builtin Builtin.append, args := #[s, x], argTypes := #[t, t] }) (v u : Value) (hs : a.eval s = v) (hx : a.eval x = u)
    {v' : Value} {w' : World} (hrun : (Builtin.append_ #[t, t] o.type #[v, u]).run P w = .ok v' w') (hK : K (a.put o.dst v') w') :
    if Region.wanted o (yielded ops a.tmps) = true then Oper.wp P o a w K Q else E := by
  have hw : Region.wanted o (yielded ops a.tmps) = true := by simp [Region.wanted, hg]
  rw [if_pos hw]
  unfold Oper.wp
  simp [execOp, hop, resolve, invoke, builtin, hs, hx, hrun, Result.andThen]
  exact hK
/-- append(l[:i:i], l[i+1:]...) -/
theorem app_cut (ad : Addr) (c i ty : Nat) (l : List S38) (w : World) (hC : Kd.C k38 w (some ad) l.length l) (hc : l.length ≤ c) (hi : i < l.length) (hl : l.length ≤ 3518437208000) :
    ∃ A' c' w2, (Builtin.append_ #[22, 22] ty #[.slice (some ad) i i, .slice (if c = i + 1 then some ad else some (ad.add ((i + 1) * 2))) (l.length - (i + 1)) (c - (i + 1))]).run Try.prog w = .ok (.slice A' (l.take i ++ l.drop (i + 1)).length c') w2 ∧ Kd.C k38 w2 A' (l.take i ++ l.drop (i + 1)).length (l.take i ++ l.drop (i + 1)) ∧ Below w.heap.size w w2 := by
  obtain ⟨i0, hi0, hz0, hz1, hz2⟩ := info_parts info38
  by_cases hm : l.length = i + 1
  · have e : l.take i ++ l.drop (i + 1) = l.take i := by rw [List.drop_eq_nil_of_le (by omega)]; simp
    have hli : (l.take i).length = i := by simp; omega
    rw [e]
    have hr : ∀ x : Addr, (Builtin.append_ #[22, 22] ty #[.slice (some ad) i i, .slice (some x) 0 (c - (i + 1))]).run Try.prog w = .ok (.slice (some ad) i i) w := fun x => run_append_zero w 22 ty 38 i0 Try.underlying22 hi0 ad x i i (c - (i + 1)) (Nat.le_refl _)
    refine ⟨some ad, i, w, ?_, Kd.C_take hC (by omega), Below.refl _ _⟩
    rw [hli, show l.length - (i + 1) = 0 by omega]
    split
    · exact hr _
    · exact hr _
  · have hci : ¬ c = i + 1 := by omega
    rw [if_neg hci]
    obtain ⟨inner, hr, hcell⟩ := inner_of hC
    have hil : inner.length = l.length * 2 := hr.1
    obtain ⟨v', w', hrun, r1, r2⟩ := run_append_arg_grows (P := Try.prog) w 22 ty 38 i0 _ 2 40 Try.underlying22 hi0 hz0 hz1 hz2 rfl (by decide) ad i i (inner.take (i * 2)) (by simp; omega) (fun j u hj => hcell j u (by rw [List.getElem?_take] at hj; split at hj; exact hj; cases hj)) (ad.add ((i + 1) * 2)) (l.length - (i + 1)) (c - (i + 1)) (inner.drop ((i + 1) * 2)) (by simp; omega) (fun j u hj => by rw [add_add]; exact hcell _ u (by rw [List.getElem?_drop] at hj; exact hj)) (by omega) (by unfold maxLen; omega) (by omega)
    have hb : Below w.heap.size w w' := ⟨r2.os, r2.tape, r2.output, r2.size, fun k hk => r2.block k hk (by simp)⟩
    have hreps := Kd.reps_append (reps_take hr i (by omega)) (reps_drop hr (i + 1) (by omega))
    have hN := reps_row r1 hreps (by simp; omega) hb
    obtain ⟨A', c', rfl⟩ := Kd.N_slice hN
    exact ⟨A', c', w', hrun, (Kd.N_reads' hN).2.2, hb⟩
set_option maxHeartbeats 1000000 in
theorem bucket_Cut.calls (k : Nat) (A : Option Addr) (c : Nat) (l : List S38) (A1 : Option Addr) (c1 : Nat) (y : List Int) (r1 : List S38) (r2 : Bool) (w : World) (hx : Kd.C k38 w A l.length l) (hc : l.length ≤ c) (hy : Kd.C (Kd.int .u32) w A1 y.length y) (hc1 : y.length ≤ c1) (h : bucket_Cut.f k l y = some (r1, r2)) :
    Calls Try.prog 23 #[.slice A l.length c, .slice A1 y.length c1] w fun e w' => ∃ v0_ : Value, e = .returned (.tuple #[v0_, .bool r2]) ∧ Kd.S k38 38 w' w.heap.size (fun _ => True) v0_ r1 ∧ Below w.heap.size w w' := by
  unfold bucket_Cut.f at h
  by_cases hg : l.length ≤ 3518437208000 ∧ KeyLen l
  case neg => rw [if_neg hg] at h; cases h
  rw [if_pos hg] at h
  obtain ⟨hl, hk⟩ := hg
  obtain ⟨⟨i, is⟩, hf, h⟩ := Option.bind_eq_some_iff.mp h
  dsimp only at h
  have HX := Aside0.mk hx
  have HY := Aside0.mk hy
  have HK := Aside0.mk hk
  have HF := Aside0.mk hf
  clear hx hy hk hf
  cases is with
  | false =>
    rw [if_neg (by decide)] at h
    simp only [Option.some.injEq, Prod.mk.injEq] at h
    obtain ⟨rfl, rfl⟩ := h
    go_enter Try.func23, Try.ntmps23
    go_wp2_with (first | (go_at_call 25; go_loud (refine (bucket_Find.calls k A c l A1 c1 y i false _ HX.out hc HY.out hc1 HF.out).mono ?_); rintro e w1 ⟨rfl, hb⟩; have HB := Aside0.mk hb; clear hb) | (go_at_call 43; go_loud (refine (copied43 A c l _ (Kd.C_below HX.out HB.out) (by omega) HK.out).mono ?_); rintro e w2 ⟨v, rfl, hs, hb⟩; have HS := Aside0.mk hs; have HB2 := Aside0.mk hb; clear hs hb))
    go_ret2
    exact ⟨_, rfl, Kd.S_lower HS.out HB.out.size, below_step HB.out HB2.out⟩
  | true =>
    rw [if_pos rfl] at h
    by_cases hi : 0 ≤ i ∧ i < (l.length : Int)
    case neg => rw [if_neg hi] at h; cases h
    rw [if_pos hi] at h
    simp only [Option.some.injEq, Prod.mk.injEq] at h
    obtain ⟨rfl, rfl⟩ := h
    obtain ⟨h0, h1⟩ := hi
    obtain ⟨i, rfl⟩ := Int.eq_ofNat_of_zero_le h0
    rw [Int.toNat_natCast]
    go_enter Try.func23, Try.ntmps23
    go_wp2_with (first | (go_at_call 25; go_loud (refine (bucket_Find.calls k A c l A1 c1 y i true _ HX.out hc HY.out hc1 HF.out).mono ?_); rintro e w1 ⟨rfl, hb⟩; have HB := Aside0.mk hb; clear hb))
    obtain ⟨ad, rfl, _⟩ := HX.out.2.2 (by omega)
    have z0 : (0 : Int) ≤ (i : Int) := by omega
    have z1 : (i : Int) ≤ (c : Int) := by omega
    have z2 : (0 : Int) ≤ (i : Int) + 1 := by omega
    have z3 : (i : Int) + 1 ≤ (l.length : Int) := by omega
    have z4 : ((i : Int) + 1).toNat = i + 1 := by omega
    have z5 := IntWalk.i64_in ((i : Int) + 1) (by omega)
    obtain ⟨A', c', w2, hrun, hC2, hb2⟩ := app_cut ad c i 22 l w1.drew (Kd.C_drew (Kd.C_below HX.out HB.out)) hc (by omega) hl
    have HC2 := Aside0.mk hC2
    have HB2 := Aside0.mk hb2
    have HRUN := Aside0.mk hrun
    have hlen : (l.take i ++ l.drop (i + 1)).length ≤ 3518437208883 := by simp; omega
    have HKL : Aside0 (KeyLen (l.take i ++ l.drop (i + 1))) := ⟨fun x hx => HK.out x (by
      rcases List.mem_append.1 hx with h | h
      · exact List.mem_of_mem_take h
      · exact List.mem_of_mem_drop h)⟩
    generalize hL : l.take i ++ l.drop (i + 1) = L at HC2 HRUN hlen HKL
    have HLL := Aside0.mk hL
    clear hrun hC2 hb2 hL
    by_cases hc1 : c = i + 1
    · rw [if_pos hc1] at HRUN
      have hc2 := eq_true hc1
      clear hc1
      go_region_held3 (fun _ => True) (trivial) ((first | (refine step_append_run rfl (.tmp 21) (.tmp 25) 22 rfl _ _ rfl rfl HRUN.out ?_) | (go_at_call 43; refine (copied43 A' c' L _ HC2.out hlen HKL.out).mono ?_; rintro e w3 ⟨v, rfl, hs, hb⟩; have HS := Aside0.mk hs; have HB3 := Aside0.mk hb; clear hs hb)))
      go_wp2_with fail
      go_ret2
      exact ⟨v, rfl, by rw [HLL.out]; exact Kd.S_lower HS.out (Nat.le_trans HB.out.size HB2.out.size), below_step (below_step HB.out (below_step (below_drew (Below.refl _ _)) HB2.out)) HB3.out⟩
    · rw [if_neg hc1] at HRUN
      have hc2 := eq_false hc1
      clear hc1
      go_region_held3 (fun _ => True) (trivial) ((first | (refine step_append_run rfl (.tmp 21) (.tmp 25) 22 rfl _ _ rfl rfl HRUN.out ?_) | (go_at_call 43; refine (copied43 A' c' L _ HC2.out hlen HKL.out).mono ?_; rintro e w3 ⟨v, rfl, hs, hb⟩; have HS := Aside0.mk hs; have HB3 := Aside0.mk hb; clear hs hb)))
      go_wp2_with fail
      go_ret2
      exact ⟨v, rfl, by rw [HLL.out]; exact Kd.S_lower HS.out (Nat.le_trans HB.out.size HB2.out.size), below_step (below_step HB.out (below_step (below_drew (Below.refl _ _)) HB2.out)) HB3.out⟩
/-- append(l[:i:i], x) -/
theorem app_one (AO : Option Addr) (i ty gd : Nat) (l : List S38) (x : S38) (A1 : Option Addr) (c1 : Nat) (w : World) (hC : Kd.C k38 w AO l.length l) (hi : i ≤ l.length) (hl : l.length ≤ 3518437208000)
    (hnew : w.heap[gd]? = some (.cells #[.slice A1 x.f0.length c1, .string x.f1] 38 (0, 0))) (hy : Kd.C (Kd.int .u32) w A1 x.f0.length x.f0) (hc1 : x.f0.length ≤ c1) :
    ∃ A' c' w2, (Builtin.append_ #[22, 22] ty #[.slice AO i i, .slice (some ⟨gd, 0, none⟩) 1 1]).run Try.prog w = .ok (.slice A' (l.take i ++ [x]).length c') w2 ∧ Kd.N k38 38 w2 w.heap.size (fun _ => True) (.slice A' (l.take i ++ [x]).length c') (l.take i ++ [x]) ∧ Below w.heap.size w w2 := by
  obtain ⟨i0, hi0, hz0, hz1, hz2⟩ := info_parts info38
  have hnr : Reps (fun x c => Kd.FK k38 w (fun k => k < w.heap.size) x c) 2 [x] [.slice A1 x.f0.length c1, .string x.f1] := by
    refine ⟨rfl, fun j p hj => ?_⟩
    have hj0 : j = 0 := by have := (List.getElem?_eq_some_iff.1 hj).1; simp at this; omega
    subst hj0
    obtain rfl : x = p := Option.some.inj hj
    exact k38_mkF w _ x hc1 (Kd.C_F (Kd.heap_int .u32) hy)
  have hnc : ∀ j u, [Value.slice A1 x.f0.length c1, Value.string x.f1][j]? = some u → w.cell? ((⟨gd, 0, none⟩ : Addr).add j) = some u := by
    intro j u hj
    rw [add_plain, blk_cell hnew j]
    simpa using hj
  cases AO with
  | some ad =>
    obtain ⟨inner, hr, hcell⟩ := inner_of hC
    have hil : inner.length = l.length * 2 := hr.1
    obtain ⟨v', w', hrun, r1, r2⟩ := run_append_arg_grows (P := Try.prog) w 22 ty 38 i0 _ 2 40 Try.underlying22 hi0 hz0 hz1 hz2 rfl (by decide) ad i i (inner.take (i * 2)) (by simp; omega) (fun j u hj => hcell j u (by rw [List.getElem?_take] at hj; split at hj; exact hj; cases hj)) ⟨gd, 0, none⟩ 1 1 [.slice A1 x.f0.length c1, .string x.f1] rfl hnc (by omega) (by unfold maxLen; omega) (by omega)
    have hb : Below w.heap.size w w' := ⟨r2.os, r2.tape, r2.output, r2.size, fun k hk => r2.block k hk (by simp)⟩
    have hN := reps_row r1 (Kd.reps_append (reps_take hr i hi) hnr) (by simp; omega) hb
    obtain ⟨A', c', rfl⟩ := Kd.N_slice hN
    exact ⟨A', c', w', hrun, hN, hb⟩
  | none =>
    have hl0 : l = [] := by
      rcases Nat.eq_zero_or_pos l.length with h | h
      · exact List.eq_nil_of_length_eq_zero h
      · obtain ⟨ad, h, _⟩ := hC.2.2 h
        cases h
    subst hl0
    obtain rfl : i = 0 := by simp at hi; exact hi
    obtain ⟨v', w', hrun, r1, r2, _⟩ := run_append_own (P := Try.prog) w w.heap.size 22 ty 38 i0 _ 2 40 Try.underlying22 hi0 hz0 hz1 hz2 rfl (by decide) (.slice none 0 0) 0 [] (World.ownsRow_nil w _ 38 2) ⟨gd, 0, none⟩ 1 1 [.slice A1 x.f0.length c1, .string x.f1] rfl hnc (reps_one hnr) (by unfold maxLen; omega) (by omega) (Nat.le_refl _)
    have hb : Below w.heap.size w w' := ⟨r2.os, r2.tape, r2.output, r2.size, fun k hk => r2.block k hk (by simp [Value.ownBlock])⟩
    have hN := reps_row (n := 0 + 1) r1 (Kd.reps_append (Reps.none _ _) hnr) rfl hb
    obtain ⟨A', c', rfl⟩ := Kd.N_slice hN
    exact ⟨A', c', w', hrun, hN, hb⟩
theorem gate_app {P : Program} {ops : Array Oper} {o : Oper} {a : Act} {w : World} {K : Act → World → Prop} {Q : Exit → Act → World → Prop} {E : Prop} (s x : Operand) (_ho : o.op = Op.call { callee := Callee.builtin Builtin.append, args := #[s, x], argTypes := #[22, 22] })
    (h : if Region.wanted o (yielded ops a.tmps) = true then Oper.wp P o a w K Q else E) : if Region.wanted o (yielded ops a.tmps) = true then Oper.wp P o a w K Q else E := h
def bucket_Put.f (k : Nat) (l : List S38) (y : List Int) (s : ByteArray) : Option (List S38) :=
  if l.length ≤ 3518437208000 ∧ KeyLen (⟨y, s⟩ :: l) then (bucket_Find.f k l y).bind fun r => if 0 ≤ r.1 ∧ r.1 ≤ (l.length : Int) then (if r.2 = true then (if r.1 < (l.length : Int) then some ((l.take r.1.toNat ++ [⟨y, s⟩]) ++ l.drop (r.1.toNat + 1)) else none) else some ((l.take r.1.toNat ++ [⟨y, s⟩]) ++ l.drop r.1.toNat)) else none else none
theorem bucket_Put.mono : ∀ a0 a1 a2 k, LeO (bucket_Put.f k a0 a1 a2) (bucket_Put.f (k + 1) a0 a1 a2) := by
  intro a0 a1 a2 k
  unfold bucket_Put.f
  exact LeO.ite (LeO.bind (bucket_Find.mono _ _ _) (fun r => LeO.refl _)) (LeO.refl _)
set_option maxHeartbeats 4000000 in
theorem bucket_Put.calls (k : Nat) (A : Option Addr) (c : Nat) (l : List S38) (A1 : Option Addr) (c1 : Nat) (y : List Int) (s : ByteArray) (r : List S38) (w : World) (hx : Kd.C k38 w A l.length l) (hc : l.length ≤ c) (hy : Kd.C (Kd.int .u32) w A1 y.length y) (hc1 : y.length ≤ c1) (h : bucket_Put.f k l y s = some r) :
    Calls Try.prog 22 #[.slice A l.length c, .agg #[.slice A1 y.length c1, .string s]] w fun e w' => ∃ v0_ : Value, e = .returned v0_ ∧ Kd.S k38 38 w' w.heap.size (fun _ => True) v0_ r ∧ Below w.heap.size w w' := by
  unfold bucket_Put.f at h
  by_cases hg : l.length ≤ 3518437208000 ∧ KeyLen (⟨y, s⟩ :: l)
  case neg => rw [if_neg hg] at h; cases h
  rw [if_pos hg] at h
  obtain ⟨hl, hk⟩ := hg
  obtain ⟨⟨i, is⟩, hf, h⟩ := Option.bind_eq_some_iff.mp h
  dsimp only at h
  by_cases hi : 0 ≤ i ∧ i ≤ (l.length : Int)
  case neg => rw [if_neg hi] at h; cases h
  rw [if_pos hi] at h
  obtain ⟨h0, h1⟩ := hi
  obtain ⟨i, rfl⟩ := Int.eq_ofNat_of_zero_le h0
  rw [Int.toNat_natCast] at h
  have HX := Aside0.mk hx
  have HY := Aside0.mk hy
  have HK := Aside0.mk hk
  have HF := Aside0.mk hf
  have hu38 := Try.underlying38
  clear hx hy hk hf
  have z0 : (0 : Int) ≤ (i : Int) := by omega
  have z1 : (i : Int) ≤ (c : Int) := by omega
  have hil : i ≤ l.length := by omega
  clear h0
  cases A with
  | none =>
    have hl0 : l = [] := by
      rcases Nat.eq_zero_or_pos l.length with h | h
      · exact List.eq_nil_of_length_eq_zero h
      · obtain ⟨ad, h, _⟩ := HX.out.2.2 h
        cases h
    subst hl0
    obtain rfl : i = 0 := by simp at hil; exact hil
    cases is with
    | true => rw [if_pos rfl, if_neg (by simp)] at h; cases h
    | false =>
      rw [if_neg (by decide)] at h
      obtain rfl := Option.some.inj h
      clear h
      have HKL : Aside0 (KeyLen (([] : List S38).take 0 ++ [⟨y, s⟩] ++ ([] : List S38).drop 0)) := ⟨fun x hx => HK.out x (by simpa using hx)⟩
      obtain ⟨LL, hLL⟩ : ∃ LL, LL = (([] : List S38).take 0 ++ [(⟨y, s⟩ : S38)]) ++ ([] : List S38).drop 0 := ⟨_, rfl⟩
      have HKL2 : Aside0 (KeyLen LL) := ⟨by rw [hLL]; exact HKL.out⟩
      have HLL := Aside0.mk hLL
      have hlen2 : LL.length ≤ 3518437208883 := by rw [hLL]; simp only [List.length_append, List.length_take, List.length_cons, List.length_nil, List.length_drop]; omega
      clear hLL
      go_enter Try.func22, Try.ntmps22
      go_wp2_with (first | (go_at_call 25; go_loud (refine (bucket_Find.calls k none c [] A1 c1 y ((0 : Nat) : Int) false _ (Kd.C_alloc HX.out _) hc (Kd.C_alloc HY.out _) hc1 HF.out).mono ?_); rintro e w1 ⟨rfl, hb⟩; have hbk := (hb.block _ (show w.heap.size < (w.alloc (.cells #[.slice A1 y.length c1, .string s] 38)).heap.size by simp)).trans (blk_new w (.cells #[.slice A1 y.length c1, .string s] 38)); have HB := Aside0.mk hb; have HBK := Aside0.mk hbk; have q0 := blk_cell hbk 0; have q1 := blk_cell hbk 1; clear hb hbk))
      have hbw : Below w.heap.size w w1 := below_step (below_alloc (Below.refl _ _) _) HB.out
      have hbc : Below w1.heap.size w1 (w1.drew.alloc (.cells #[.slice A1 y.length c1, .string s] 38)) := below_alloc (below_drew (Below.refl _ _)) _
      obtain ⟨A', c', w2, hrun, hN, hb2⟩ := app_one none 0 22 w1.heap.size [] ⟨y, s⟩ A1 c1 (w1.drew.alloc (.cells #[.slice A1 y.length c1, .string s] 38)) (Kd.C_below (Kd.C_below HX.out hbw) hbc) (Nat.le_refl _) hl (blk_new w1.drew _) (Kd.C_below (Kd.C_below HY.out hbw) hbc) hc1
      have hFD : Kd.F k38 w2 (fun k => k < (w1.drew.alloc (.cells #[.slice A1 y.length c1, .string s] 38)).heap.size) none 0 (([] : List S38).drop 0) := Kd.F_nil k38 w2 _
      have HFD := Aside0.mk hFD
      have HN := Aside0.mk hN
      have HRUN := Aside0.mk hrun
      have HB2 := Aside0.mk (below_step hbc hb2)
      have HB2y := Aside0.mk hb2
      have HBC := Aside0.mk hbc
      have HBW := Aside0.mk hbw
      have hsz : w1.heap.size < w2.heap.size := by have := hb2.size; simp at this; omega
      have hk2 := pw_cell_below (below_step hbc hb2) q0
      have hk3 := pw_cell_below (below_step hbc hb2) q1
      have HLB := Aside0.mk (show w1.heap.size ≤ (w1.drew.alloc (.cells #[.slice A1 y.length c1, .string s] 38)).heap.size from hbc.size)
      have HL2 := Aside0.mk (show (w1.drew.alloc (.cells #[.slice A1 y.length c1, .string s] 38)).heap.size ≤ w2.heap.size from hb2.size)
      have hB2 := below_step hbc hb2
      clear hrun hN hb2 hFD hbc hbw
      go_region_held3 (fun w' => Below w1.heap.size w1 w' ∧ w'.cell? ⟨w.heap.size, 0, none⟩ = some (.slice A1 y.length c1) ∧ w'.cell? ⟨w.heap.size, 1, none⟩ = some (.string s)) ((refine (fun hK_ => ⟨hK_, pw_cell_below hK_ q0, pw_cell_below hK_ q1⟩) ?_; repeat (first | assumption | exact Below.refl _ _ | exact below_drew (Below.refl _ _) | apply below_alloc | apply below_drew))) ((first | ((with_reducible refine gate_app (.tmp 26) (.tmp 28) rfl ?_); refine step_append_run rfl (.tmp 26) (.tmp 28) 22 rfl _ _ rfl rfl HRUN.out ?_) | (go_at_call 43; go_loud (refine (copied43 A3 c3 LL _ (Kd.N_reads' HN3.out).2.2 hlen2 HKL2.out).mono ?_); rintro e w4 ⟨v4, rfl, hs, hb⟩; have HS := Aside0.mk hs; have hb14 := below_step HB3.out hb; have HB4 := Aside0.mk hb14; clear hs hb) | ((with_reducible refine gate_app (.tmp 29) (.tmp 30) rfl ?_); refine Kd.N_append_rows_step k38 (w0 := w1.drew.alloc (.cells #[.slice A1 y.length c1, .string s] 38)) (w1.drew.alloc (.cells #[.slice A1 y.length c1, .string s] 38)).heap.size rfl (.tmp 29) (.tmp 30) 22 38 (.agg #[(.slice none 0 0), (.string ⟨#[]⟩)]) 40 rfl Try.underlying22 info38 rfl (by decide) (by decide) (.slice A' (([] : List S38).take 0 ++ [(⟨y, s⟩ : S38)]).length c') (([] : List S38).take 0 ++ [⟨y, s⟩]) (([] : List S38).drop 0) _ _ _ (fun _ => True) (fun k => k < (w1.drew.alloc (.cells #[.slice A1 y.length c1, .string s] 38)).heap.size) rfl rfl HN.out HFD.out ?hokp (fun _ _ => trivial) ?hbb HL2.out ?hll ?_; (case hokp => exact fun k hk => ⟨trivial, fun he => by have h1 := Kd.N_base HN.out k he.symm; exact absurd hk (Nat.not_lt.2 h1)⟩); (case hbb => exact HB2y.out); (case hll => (simp only [List.length_append, List.length_take, List.length_cons, List.length_nil]; omega)); intro v3 w3 ho hb hg hat; rw [← HLL.out] at ho; have hb13 := below_step HBC.out hb; have HN3 := Aside0.mk ho; have HB3 := Aside0.mk hb13; obtain ⟨A3, c3, rfl⟩ := Kd.N_slice ho; clear ho hb hg hat)))
      go_wp2_with fail
      go_ret
      exact ⟨v4, rfl, by rw [← HLL.out]; exact Kd.S_lower HS.out (Nat.le_trans HBW.out.size HB3.out.size), below_step HBW.out HB4.out⟩
  | some ad =>
    cases is with
    | true =>
      rw [if_pos rfl] at h
      by_cases hi2 : (i : Int) < (l.length : Int)
      case neg => rw [if_neg hi2] at h; cases h
      rw [if_pos hi2] at h
      obtain rfl := Option.some.inj h
      clear h
      have z3 : (i : Int) + 1 ≤ (l.length : Int) := by omega
      have HKL : Aside0 (KeyLen (l.take i ++ [⟨y, s⟩] ++ l.drop (i + 1))) := ⟨fun x hx => HK.out x (by
        simp only [List.mem_append, List.mem_singleton] at hx
        rcases hx with (h | rfl) | h
        · exact List.mem_cons_of_mem _ (List.mem_of_mem_take h)
        · simp
        · exact List.mem_cons_of_mem _ (List.mem_of_mem_drop h))⟩
      by_cases hci : c = i
      · exact absurd hi2 (by omega)
      by_cases hcj : c = i + 1
      · have hc2 := eq_true hcj
        have hc3 := eq_false hci
        have hc4 : c - (i + 1) = 0 := by omega
        obtain ⟨LL, hLL⟩ : ∃ LL, LL = (l.take i ++ [(⟨y, s⟩ : S38)]) ++ l.drop (i + 1) := ⟨_, rfl⟩
        have HKL2 : Aside0 (KeyLen LL) := ⟨by rw [hLL]; exact HKL.out⟩
        have HLL := Aside0.mk hLL
        have hlen2 : LL.length ≤ 3518437208883 := by rw [hLL]; simp only [List.length_append, List.length_take, List.length_cons, List.length_nil, List.length_drop]; omega
        clear hLL
        have HCJ := Aside0.mk hcj
        clear hcj
        go_enter Try.func22, Try.ntmps22
        go_wp2_with (first | (go_at_call 25; go_loud (refine (bucket_Find.calls k (some ad) c l A1 c1 y i true _ (Kd.C_alloc HX.out _) hc (Kd.C_alloc HY.out _) hc1 HF.out).mono ?_); rintro e w1 ⟨rfl, hb⟩; have hbk := (hb.block _ (show w.heap.size < (w.alloc (.cells #[.slice A1 y.length c1, .string s] 38)).heap.size by simp)).trans (blk_new w (.cells #[.slice A1 y.length c1, .string s] 38)); have HB := Aside0.mk hb; have HBK := Aside0.mk hbk; have q0 := blk_cell hbk 0; have q1 := blk_cell hbk 1; clear hb hbk))
        have hbw : Below w.heap.size w w1 := below_step (below_alloc (Below.refl _ _) _) HB.out
        have hbc : Below w1.heap.size w1 (w1.drew.alloc (.cells #[.slice A1 y.length c1, .string s] 38)) := below_alloc (below_drew (Below.refl _ _)) _
        obtain ⟨A', c', w2, hrun, hN, hb2⟩ := app_one (some ad) i 22 w1.heap.size l ⟨y, s⟩ A1 c1 (w1.drew.alloc (.cells #[.slice A1 y.length c1, .string s] 38)) (Kd.C_below (Kd.C_below HX.out hbw) hbc) hil hl (blk_new w1.drew _) (Kd.C_below (Kd.C_below HY.out hbw) hbc) hc1
        have hD := Kd.C_below (Kd.C_below (Kd.C_drop (m := i + 1) HX.out (by omega) hc) hbw) hbc
        rw [if_pos HCJ.out, List.length_drop] at hD
        have hFD := Kd.F_below (Kd.C_F k38_heap hD) hb2
        have HFD := Aside0.mk hFD
        have HN := Aside0.mk hN
        have HRUN := Aside0.mk hrun
        have HB2 := Aside0.mk (below_step hbc hb2)
        have HB2y := Aside0.mk hb2
        have HBC := Aside0.mk hbc
        have HBW := Aside0.mk hbw
        have hsz : w1.heap.size < w2.heap.size := by have := hb2.size; simp at this; omega
        have hk2 := pw_cell_below (below_step hbc hb2) q0
        have hk3 := pw_cell_below (below_step hbc hb2) q1
        have HLB := Aside0.mk (show w1.heap.size ≤ (w1.drew.alloc (.cells #[.slice A1 y.length c1, .string s] 38)).heap.size from hbc.size)
        have HL2 := Aside0.mk (show (w1.drew.alloc (.cells #[.slice A1 y.length c1, .string s] 38)).heap.size ≤ w2.heap.size from hb2.size)
        have hB2 := below_step hbc hb2
        clear hrun hN hb2 hD hFD hbc hbw
        go_region_held3 (fun w' => Below w1.heap.size w1 w' ∧ w'.cell? ⟨w.heap.size, 0, none⟩ = some (.slice A1 y.length c1) ∧ w'.cell? ⟨w.heap.size, 1, none⟩ = some (.string s)) ((refine (fun hK_ => ⟨hK_, pw_cell_below hK_ q0, pw_cell_below hK_ q1⟩) ?_; repeat (first | assumption | exact Below.refl _ _ | exact below_drew (Below.refl _ _) | apply below_alloc | apply below_drew))) ((first | ((with_reducible refine gate_app (.tmp 26) (.tmp 28) rfl ?_); refine step_append_run rfl (.tmp 26) (.tmp 28) 22 rfl _ _ rfl rfl HRUN.out ?_) | (go_at_call 43; go_loud (refine (copied43 A3 c3 LL _ (Kd.N_reads' HN3.out).2.2 hlen2 HKL2.out).mono ?_); rintro e w4 ⟨v4, rfl, hs, hb⟩; have HS := Aside0.mk hs; have hb14 := below_step HB3.out hb; have HB4 := Aside0.mk hb14; clear hs hb) | ((with_reducible refine gate_app (.tmp 29) (.tmp 30) rfl ?_); refine Kd.N_append_rows_step k38 (w0 := w1.drew.alloc (.cells #[.slice A1 y.length c1, .string s] 38)) (w1.drew.alloc (.cells #[.slice A1 y.length c1, .string s] 38)).heap.size rfl (.tmp 29) (.tmp 30) 22 38 (.agg #[(.slice none 0 0), (.string ⟨#[]⟩)]) 40 rfl Try.underlying22 info38 rfl (by decide) (by decide) (.slice A' (l.take i ++ [(⟨y, s⟩ : S38)]).length c') (l.take i ++ [⟨y, s⟩]) (l.drop (i + 1)) _ _ _ (fun _ => True) (fun k => k < (w1.drew.alloc (.cells #[.slice A1 y.length c1, .string s] 38)).heap.size) rfl rfl HN.out HFD.out ?hokp (fun _ _ => trivial) ?hbb HL2.out ?hll ?_; (case hokp => exact fun k hk => ⟨trivial, fun he => by have h1 := Kd.N_base HN.out k he.symm; exact absurd hk (Nat.not_lt.2 h1)⟩); (case hbb => exact HB2y.out); (case hll => (simp only [List.length_append, List.length_take, List.length_cons, List.length_nil]; omega)); intro v3 w3 ho hb hg hat; rw [← HLL.out] at ho; have hb13 := below_step HBC.out hb; have HN3 := Aside0.mk ho; have HB3 := Aside0.mk hb13; obtain ⟨A3, c3, rfl⟩ := Kd.N_slice ho; clear ho hb hg hat)))
        go_wp2_with fail
        go_ret
        exact ⟨v4, rfl, by rw [← HLL.out]; exact Kd.S_lower HS.out (Nat.le_trans HBW.out.size HB3.out.size), below_step HBW.out HB4.out⟩
      · have hc2 := eq_false hcj
        have hc3 := eq_false hci
        obtain ⟨LL, hLL⟩ : ∃ LL, LL = (l.take i ++ [(⟨y, s⟩ : S38)]) ++ l.drop (i + 1) := ⟨_, rfl⟩
        have HKL2 : Aside0 (KeyLen LL) := ⟨by rw [hLL]; exact HKL.out⟩
        have HLL := Aside0.mk hLL
        have hlen2 : LL.length ≤ 3518437208883 := by rw [hLL]; simp only [List.length_append, List.length_take, List.length_cons, List.length_nil, List.length_drop]; omega
        clear hLL
        have HCJ := Aside0.mk hcj
        clear hcj
        go_enter Try.func22, Try.ntmps22
        go_wp2_with (first | (go_at_call 25; go_loud (refine (bucket_Find.calls k (some ad) c l A1 c1 y i true _ (Kd.C_alloc HX.out _) hc (Kd.C_alloc HY.out _) hc1 HF.out).mono ?_); rintro e w1 ⟨rfl, hb⟩; have hbk := (hb.block _ (show w.heap.size < (w.alloc (.cells #[.slice A1 y.length c1, .string s] 38)).heap.size by simp)).trans (blk_new w (.cells #[.slice A1 y.length c1, .string s] 38)); have HB := Aside0.mk hb; have HBK := Aside0.mk hbk; have q0 := blk_cell hbk 0; have q1 := blk_cell hbk 1; clear hb hbk))
        have hbw : Below w.heap.size w w1 := below_step (below_alloc (Below.refl _ _) _) HB.out
        have hbc : Below w1.heap.size w1 (w1.drew.alloc (.cells #[.slice A1 y.length c1, .string s] 38)) := below_alloc (below_drew (Below.refl _ _)) _
        obtain ⟨A', c', w2, hrun, hN, hb2⟩ := app_one (some ad) i 22 w1.heap.size l ⟨y, s⟩ A1 c1 (w1.drew.alloc (.cells #[.slice A1 y.length c1, .string s] 38)) (Kd.C_below (Kd.C_below HX.out hbw) hbc) hil hl (blk_new w1.drew _) (Kd.C_below (Kd.C_below HY.out hbw) hbc) hc1
        have hD := Kd.C_below (Kd.C_below (Kd.C_drop (m := i + 1) HX.out (by omega) hc) hbw) hbc
        rw [if_neg HCJ.out, List.length_drop] at hD
        have hFD := Kd.F_below (Kd.C_F k38_heap hD) hb2
        have HFD := Aside0.mk hFD
        have HN := Aside0.mk hN
        have HRUN := Aside0.mk hrun
        have HB2 := Aside0.mk (below_step hbc hb2)
        have HB2y := Aside0.mk hb2
        have HBC := Aside0.mk hbc
        have HBW := Aside0.mk hbw
        have hsz : w1.heap.size < w2.heap.size := by have := hb2.size; simp at this; omega
        have hk2 := pw_cell_below (below_step hbc hb2) q0
        have hk3 := pw_cell_below (below_step hbc hb2) q1
        have HLB := Aside0.mk (show w1.heap.size ≤ (w1.drew.alloc (.cells #[.slice A1 y.length c1, .string s] 38)).heap.size from hbc.size)
        have HL2 := Aside0.mk (show (w1.drew.alloc (.cells #[.slice A1 y.length c1, .string s] 38)).heap.size ≤ w2.heap.size from hb2.size)
        have hB2 := below_step hbc hb2
        clear hrun hN hb2 hD hFD hbc hbw
        go_region_held3 (fun w' => Below w1.heap.size w1 w' ∧ w'.cell? ⟨w.heap.size, 0, none⟩ = some (.slice A1 y.length c1) ∧ w'.cell? ⟨w.heap.size, 1, none⟩ = some (.string s)) ((refine (fun hK_ => ⟨hK_, pw_cell_below hK_ q0, pw_cell_below hK_ q1⟩) ?_; repeat (first | assumption | exact Below.refl _ _ | exact below_drew (Below.refl _ _) | apply below_alloc | apply below_drew))) ((first | ((with_reducible refine gate_app (.tmp 26) (.tmp 28) rfl ?_); refine step_append_run rfl (.tmp 26) (.tmp 28) 22 rfl _ _ rfl rfl HRUN.out ?_) | (go_at_call 43; go_loud (refine (copied43 A3 c3 LL _ (Kd.N_reads' HN3.out).2.2 hlen2 HKL2.out).mono ?_); rintro e w4 ⟨v4, rfl, hs, hb⟩; have HS := Aside0.mk hs; have hb14 := below_step HB3.out hb; have HB4 := Aside0.mk hb14; clear hs hb) | ((with_reducible refine gate_app (.tmp 29) (.tmp 30) rfl ?_); refine Kd.N_append_rows_step k38 (w0 := w1.drew.alloc (.cells #[.slice A1 y.length c1, .string s] 38)) (w1.drew.alloc (.cells #[.slice A1 y.length c1, .string s] 38)).heap.size rfl (.tmp 29) (.tmp 30) 22 38 (.agg #[(.slice none 0 0), (.string ⟨#[]⟩)]) 40 rfl Try.underlying22 info38 rfl (by decide) (by decide) (.slice A' (l.take i ++ [(⟨y, s⟩ : S38)]).length c') (l.take i ++ [⟨y, s⟩]) (l.drop (i + 1)) _ _ _ (fun _ => True) (fun k => k < (w1.drew.alloc (.cells #[.slice A1 y.length c1, .string s] 38)).heap.size) rfl rfl HN.out HFD.out ?hokp (fun _ _ => trivial) ?hbb HL2.out ?hll ?_; (case hokp => exact fun k hk => ⟨trivial, fun he => by have h1 := Kd.N_base HN.out k he.symm; exact absurd hk (Nat.not_lt.2 h1)⟩); (case hbb => exact HB2y.out); (case hll => (simp only [List.length_append, List.length_take, List.length_cons, List.length_nil]; omega)); intro v3 w3 ho hb hg hat; rw [← HLL.out] at ho; have hb13 := below_step HBC.out hb; have HN3 := Aside0.mk ho; have HB3 := Aside0.mk hb13; obtain ⟨A3, c3, rfl⟩ := Kd.N_slice ho; clear ho hb hg hat)))
        go_wp2_with fail
        go_ret
        exact ⟨v4, rfl, by rw [← HLL.out]; exact Kd.S_lower HS.out (Nat.le_trans HBW.out.size HB3.out.size), below_step HBW.out HB4.out⟩
    | false =>
      rw [if_neg (by decide)] at h
      obtain rfl := Option.some.inj h
      clear h
      have HKL : Aside0 (KeyLen (l.take i ++ [⟨y, s⟩] ++ l.drop i)) := ⟨fun x hx => HK.out x (by
        simp only [List.mem_append, List.mem_singleton] at hx
        rcases hx with (h | rfl) | h
        · exact List.mem_cons_of_mem _ (List.mem_of_mem_take h)
        · simp
        · exact List.mem_cons_of_mem _ (List.mem_of_mem_drop h))⟩
      by_cases hcj : c = i
      · have hc2 := eq_true hcj
        have hc4 : c - i = 0 := by omega
        obtain ⟨LL, hLL⟩ : ∃ LL, LL = (l.take i ++ [(⟨y, s⟩ : S38)]) ++ l.drop i := ⟨_, rfl⟩
        have HKL2 : Aside0 (KeyLen LL) := ⟨by rw [hLL]; exact HKL.out⟩
        have HLL := Aside0.mk hLL
        have hlen2 : LL.length ≤ 3518437208883 := by rw [hLL]; simp only [List.length_append, List.length_take, List.length_cons, List.length_nil, List.length_drop]; omega
        clear hLL
        have HCJ := Aside0.mk hcj
        clear hcj
        go_enter Try.func22, Try.ntmps22
        go_wp2_with (first | (go_at_call 25; go_loud (refine (bucket_Find.calls k (some ad) c l A1 c1 y i false _ (Kd.C_alloc HX.out _) hc (Kd.C_alloc HY.out _) hc1 HF.out).mono ?_); rintro e w1 ⟨rfl, hb⟩; have hbk := (hb.block _ (show w.heap.size < (w.alloc (.cells #[.slice A1 y.length c1, .string s] 38)).heap.size by simp)).trans (blk_new w (.cells #[.slice A1 y.length c1, .string s] 38)); have HB := Aside0.mk hb; have HBK := Aside0.mk hbk; have q0 := blk_cell hbk 0; have q1 := blk_cell hbk 1; clear hb hbk))
        have hbw : Below w.heap.size w w1 := below_step (below_alloc (Below.refl _ _) _) HB.out
        have hbc : Below w1.heap.size w1 (w1.drew.alloc (.cells #[.slice A1 y.length c1, .string s] 38)) := below_alloc (below_drew (Below.refl _ _)) _
        obtain ⟨A', c', w2, hrun, hN, hb2⟩ := app_one (some ad) i 22 w1.heap.size l ⟨y, s⟩ A1 c1 (w1.drew.alloc (.cells #[.slice A1 y.length c1, .string s] 38)) (Kd.C_below (Kd.C_below HX.out hbw) hbc) hil hl (blk_new w1.drew _) (Kd.C_below (Kd.C_below HY.out hbw) hbc) hc1
        have hD := Kd.C_below (Kd.C_below (Kd.C_drop (m := i) HX.out (by omega) hc) hbw) hbc
        rw [if_pos HCJ.out, List.length_drop] at hD
        have hFD := Kd.F_below (Kd.C_F k38_heap hD) hb2
        have HFD := Aside0.mk hFD
        have HN := Aside0.mk hN
        have HRUN := Aside0.mk hrun
        have HB2 := Aside0.mk (below_step hbc hb2)
        have HB2y := Aside0.mk hb2
        have HBC := Aside0.mk hbc
        have HBW := Aside0.mk hbw
        have hsz : w1.heap.size < w2.heap.size := by have := hb2.size; simp at this; omega
        have hk2 := pw_cell_below (below_step hbc hb2) q0
        have hk3 := pw_cell_below (below_step hbc hb2) q1
        have HLB := Aside0.mk (show w1.heap.size ≤ (w1.drew.alloc (.cells #[.slice A1 y.length c1, .string s] 38)).heap.size from hbc.size)
        have HL2 := Aside0.mk (show (w1.drew.alloc (.cells #[.slice A1 y.length c1, .string s] 38)).heap.size ≤ w2.heap.size from hb2.size)
        have hB2 := below_step hbc hb2
        clear hrun hN hb2 hD hFD hbc hbw
        go_region_held3 (fun w' => Below w1.heap.size w1 w' ∧ w'.cell? ⟨w.heap.size, 0, none⟩ = some (.slice A1 y.length c1) ∧ w'.cell? ⟨w.heap.size, 1, none⟩ = some (.string s)) ((refine (fun hK_ => ⟨hK_, pw_cell_below hK_ q0, pw_cell_below hK_ q1⟩) ?_; repeat (first | assumption | exact Below.refl _ _ | exact below_drew (Below.refl _ _) | apply below_alloc | apply below_drew))) ((first | ((with_reducible refine gate_app (.tmp 26) (.tmp 28) rfl ?_); refine step_append_run rfl (.tmp 26) (.tmp 28) 22 rfl _ _ rfl rfl HRUN.out ?_) | (go_at_call 43; go_loud (refine (copied43 A3 c3 LL _ (Kd.N_reads' HN3.out).2.2 hlen2 HKL2.out).mono ?_); rintro e w4 ⟨v4, rfl, hs, hb⟩; have HS := Aside0.mk hs; have hb14 := below_step HB3.out hb; have HB4 := Aside0.mk hb14; clear hs hb) | ((with_reducible refine gate_app (.tmp 29) (.tmp 30) rfl ?_); refine Kd.N_append_rows_step k38 (w0 := w1.drew.alloc (.cells #[.slice A1 y.length c1, .string s] 38)) (w1.drew.alloc (.cells #[.slice A1 y.length c1, .string s] 38)).heap.size rfl (.tmp 29) (.tmp 30) 22 38 (.agg #[(.slice none 0 0), (.string ⟨#[]⟩)]) 40 rfl Try.underlying22 info38 rfl (by decide) (by decide) (.slice A' (l.take i ++ [(⟨y, s⟩ : S38)]).length c') (l.take i ++ [⟨y, s⟩]) (l.drop i) _ _ _ (fun _ => True) (fun k => k < (w1.drew.alloc (.cells #[.slice A1 y.length c1, .string s] 38)).heap.size) rfl rfl HN.out HFD.out ?hokp (fun _ _ => trivial) ?hbb HL2.out ?hll ?_; (case hokp => exact fun k hk => ⟨trivial, fun he => by have h1 := Kd.N_base HN.out k he.symm; exact absurd hk (Nat.not_lt.2 h1)⟩); (case hbb => exact HB2y.out); (case hll => (simp only [List.length_append, List.length_take, List.length_cons, List.length_nil]; omega)); intro v3 w3 ho hb hg hat; rw [← HLL.out] at ho; have hb13 := below_step HBC.out hb; have HN3 := Aside0.mk ho; have HB3 := Aside0.mk hb13; obtain ⟨A3, c3, rfl⟩ := Kd.N_slice ho; clear ho hb hg hat)))
        go_wp2_with fail
        go_ret
        exact ⟨v4, rfl, by rw [← HLL.out]; exact Kd.S_lower HS.out (Nat.le_trans HBW.out.size HB3.out.size), below_step HBW.out HB4.out⟩
      · have hc2 := eq_false hcj
        obtain ⟨LL, hLL⟩ : ∃ LL, LL = (l.take i ++ [(⟨y, s⟩ : S38)]) ++ l.drop i := ⟨_, rfl⟩
        have HKL2 : Aside0 (KeyLen LL) := ⟨by rw [hLL]; exact HKL.out⟩
        have HLL := Aside0.mk hLL
        have hlen2 : LL.length ≤ 3518437208883 := by rw [hLL]; simp only [List.length_append, List.length_take, List.length_cons, List.length_nil, List.length_drop]; omega
        clear hLL
        have HCJ := Aside0.mk hcj
        clear hcj
        go_enter Try.func22, Try.ntmps22
        go_wp2_with (first | (go_at_call 25; go_loud (refine (bucket_Find.calls k (some ad) c l A1 c1 y i false _ (Kd.C_alloc HX.out _) hc (Kd.C_alloc HY.out _) hc1 HF.out).mono ?_); rintro e w1 ⟨rfl, hb⟩; have hbk := (hb.block _ (show w.heap.size < (w.alloc (.cells #[.slice A1 y.length c1, .string s] 38)).heap.size by simp)).trans (blk_new w (.cells #[.slice A1 y.length c1, .string s] 38)); have HB := Aside0.mk hb; have HBK := Aside0.mk hbk; have q0 := blk_cell hbk 0; have q1 := blk_cell hbk 1; clear hb hbk))
        have hbw : Below w.heap.size w w1 := below_step (below_alloc (Below.refl _ _) _) HB.out
        have hbc : Below w1.heap.size w1 (w1.drew.alloc (.cells #[.slice A1 y.length c1, .string s] 38)) := below_alloc (below_drew (Below.refl _ _)) _
        obtain ⟨A', c', w2, hrun, hN, hb2⟩ := app_one (some ad) i 22 w1.heap.size l ⟨y, s⟩ A1 c1 (w1.drew.alloc (.cells #[.slice A1 y.length c1, .string s] 38)) (Kd.C_below (Kd.C_below HX.out hbw) hbc) hil hl (blk_new w1.drew _) (Kd.C_below (Kd.C_below HY.out hbw) hbc) hc1
        have hD := Kd.C_below (Kd.C_below (Kd.C_drop (m := i) HX.out (by omega) hc) hbw) hbc
        rw [if_neg HCJ.out, List.length_drop] at hD
        have hFD := Kd.F_below (Kd.C_F k38_heap hD) hb2
        have HFD := Aside0.mk hFD
        have HN := Aside0.mk hN
        have HRUN := Aside0.mk hrun
        have HB2 := Aside0.mk (below_step hbc hb2)
        have HB2y := Aside0.mk hb2
        have HBC := Aside0.mk hbc
        have HBW := Aside0.mk hbw
        have hsz : w1.heap.size < w2.heap.size := by have := hb2.size; simp at this; omega
        have hk2 := pw_cell_below (below_step hbc hb2) q0
        have hk3 := pw_cell_below (below_step hbc hb2) q1
        have HLB := Aside0.mk (show w1.heap.size ≤ (w1.drew.alloc (.cells #[.slice A1 y.length c1, .string s] 38)).heap.size from hbc.size)
        have HL2 := Aside0.mk (show (w1.drew.alloc (.cells #[.slice A1 y.length c1, .string s] 38)).heap.size ≤ w2.heap.size from hb2.size)
        have hB2 := below_step hbc hb2
        clear hrun hN hb2 hD hFD hbc hbw
        go_region_held3 (fun w' => Below w1.heap.size w1 w' ∧ w'.cell? ⟨w.heap.size, 0, none⟩ = some (.slice A1 y.length c1) ∧ w'.cell? ⟨w.heap.size, 1, none⟩ = some (.string s)) ((refine (fun hK_ => ⟨hK_, pw_cell_below hK_ q0, pw_cell_below hK_ q1⟩) ?_; repeat (first | assumption | exact Below.refl _ _ | exact below_drew (Below.refl _ _) | apply below_alloc | apply below_drew))) ((first | ((with_reducible refine gate_app (.tmp 26) (.tmp 28) rfl ?_); refine step_append_run rfl (.tmp 26) (.tmp 28) 22 rfl _ _ rfl rfl HRUN.out ?_) | (go_at_call 43; go_loud (refine (copied43 A3 c3 LL _ (Kd.N_reads' HN3.out).2.2 hlen2 HKL2.out).mono ?_); rintro e w4 ⟨v4, rfl, hs, hb⟩; have HS := Aside0.mk hs; have hb14 := below_step HB3.out hb; have HB4 := Aside0.mk hb14; clear hs hb) | ((with_reducible refine gate_app (.tmp 29) (.tmp 30) rfl ?_); refine Kd.N_append_rows_step k38 (w0 := w1.drew.alloc (.cells #[.slice A1 y.length c1, .string s] 38)) (w1.drew.alloc (.cells #[.slice A1 y.length c1, .string s] 38)).heap.size rfl (.tmp 29) (.tmp 30) 22 38 (.agg #[(.slice none 0 0), (.string ⟨#[]⟩)]) 40 rfl Try.underlying22 info38 rfl (by decide) (by decide) (.slice A' (l.take i ++ [(⟨y, s⟩ : S38)]).length c') (l.take i ++ [⟨y, s⟩]) (l.drop i) _ _ _ (fun _ => True) (fun k => k < (w1.drew.alloc (.cells #[.slice A1 y.length c1, .string s] 38)).heap.size) rfl rfl HN.out HFD.out ?hokp (fun _ _ => trivial) ?hbb HL2.out ?hll ?_; (case hokp => exact fun k hk => ⟨trivial, fun he => by have h1 := Kd.N_base HN.out k he.symm; exact absurd hk (Nat.not_lt.2 h1)⟩); (case hbb => exact HB2y.out); (case hll => (simp only [List.length_append, List.length_take, List.length_cons, List.length_nil]; omega)); intro v3 w3 ho hb hg hat; rw [← HLL.out] at ho; have hb13 := below_step HBC.out hb; have HN3 := Aside0.mk ho; have HB3 := Aside0.mk hb13; obtain ⟨A3, c3, rfl⟩ := Kd.N_slice ho; clear ho hb hg hat)))
        go_wp2_with fail
        go_ret
        exact ⟨v4, rfl, by rw [← HLL.out]; exact Kd.S_lower HS.out (Nat.le_trans HBW.out.size HB3.out.size), below_step HBW.out HB4.out⟩
end Go.Proofs.Ytafpfggijpigfaa.Bkt
