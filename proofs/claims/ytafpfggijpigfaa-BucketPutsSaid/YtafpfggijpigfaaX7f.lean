-- Written by a program of this session (wip/pp.py) for this seat. Not trusted: Lean checks it.
import Derived.Test.YtafpfggijpigfaaBktx0
import Derived.Test.YtafpfggijpigfaaX6f
import Derived.Test.YtafpfggijpigfaaHB0
namespace Go.Proofs.Ytafpfggijpigfaa.Bkt
open Go.RowKit Go.Proofs.YtafpfggijpigfaaW.PrintWords Go.Proofs.YtafpfggijpigfaaW.PrintLast Go.Proofs.YtafpfggijpigfaaW.PrintMore
attribute [local go_sem] max2_int min2_int max_two min_two max_three min_three max_four min_four   -- for this text's walks alone
set_option linter.unusedVariables false
set_option linter.unusedSimpArgs false

-- BY HAND: function 42 (cadastreref08_Copy)

/-! ### cadastreref09_Copies: function 21 -/
def cadastreref09_Copies.l0 : Nat → List (S38) → List (S38) → Int → Option ((List (S38)))
  | 0, _, _, _ => none
  | k + 1, x0, x3, x4 => if x4 < (x0.length : Int) then (if 0 ≤ x4 then ((cadastreref08_Copy.f ((rd_T38 x0 x4).f0)).bind fun t186 => (if x3.length < 3518437208883 then (cadastreref09_Copies.l0 k x0 (x3 ++ [(⟨t186, (rd_T38 x0 x4).f1⟩ : S38)]) (wrap64 (x4 + 1))) else (none))) else (none)) else (some x3)
def cadastreref09_Copies.f (k : Nat) (l0 : List (S38)) : Option ((List (S38))) := cadastreref09_Copies.l0 k l0 ([] : List (S38)) 0
theorem cadastreref09_Copies.mono_l : ∀ k, (∀ y0 y1 y2, LeO (cadastreref09_Copies.l0 k y0 y1 y2) (cadastreref09_Copies.l0 (k + 1) y0 y1 y2))
  | 0 => fun _ _ _ r h => by simp [cadastreref09_Copies.l0] at h
  | k + 1 => by
    have ih0 := cadastreref09_Copies.mono_l k
    · intro y0 y1 y2
      unfold cadastreref09_Copies.l0
      repeat' first
      | (with_reducible exact ih0 _ _ _)
      | (with_reducible exact LeO.refl _)
      | (with_reducible exact LeO.none _)
      | (with_reducible refine LeO.ite ?_ ?_)
      | (with_reducible refine LeO.bind ?_ (fun _ => ?_))
      | exact ih0 _ _ _
      | exact LeO.none _
      | refine LeO.ite ?_ ?_
      | refine LeO.bind ?_ (fun _ => ?_)
theorem cadastreref09_Copies.mono : ∀ a0 k, LeO (cadastreref09_Copies.f k a0) (cadastreref09_Copies.f (k + 1) a0) := by
  intro a0 k
  have ih0 := cadastreref09_Copies.mono_l k
  unfold cadastreref09_Copies.f
  repeat' first
      | (with_reducible exact ih0 _ _ _)
      | (with_reducible exact LeO.refl _)
      | (with_reducible exact LeO.none _)
      | (with_reducible refine LeO.ite ?_ ?_)
      | (with_reducible refine LeO.bind ?_ (fun _ => ?_))
      | exact ih0 _ _ _
      | exact LeO.none _
      | refine LeO.ite ?_ ?_
      | refine LeO.bind ?_ (fun _ => ?_)
def cadastreref09_Copies.T5 : Bool × List (List Nat × List Nat) := (true, [([], []), ([], []), ([], []), ([1, 2], [1, 2]), ([3], [3]), ([4], [4]), ([5], [5]), ([], []), ([], []), ([7, 8], [7, 8]), ([9], [9]), ([10], [10]), ([6, 11], [6, 11]), ([12], [12]), ([0, 13, 6], [0, 13]), ([14, 14, 0, 1, 2, 3, 4, 5, 6, 7, 8, 9, 10, 11, 12, 13, 14], [0, 14])])
def cadastreref09_Copies.B5 : List Nat := [0, 0, 0, 6, 14, 30, 62, 0, 0, 384, 896, 1920, 4094, 8190, 16383, 32767]
theorem cadastreref09_Copies.tab5 : rtab .any (opsOf Try.f21 5) = cadastreref09_Copies.T5 := by kernel_rfl
theorem cadastreref09_Copies.bits5 : waitsOk cadastreref09_Copies.T5.2 cadastreref09_Copies.B5 = true := by kernel_rfl
set_option maxHeartbeats 8000000 in
set_option maxRecDepth 100000 in
theorem cadastreref09_Copies.calls (k : Nat) (A0 : Option Addr) (c0 : Nat) (l0 : List (S38)) (r : List (S38)) (w : World) (hr0 : Kd.C k38 w A0 l0.length l0) (hc0 : l0.length ≤ c0) (h : cadastreref09_Copies.f k l0 = some r) :
    Calls Try.prog 21 #[.slice A0 l0.length c0] w fun e w' => ∃ v0_ : Value, e = .returned (v0_) ∧ Kd.S k38 38 w' w.heap.size (fun _ => True) v0_ r ∧ Below w.heap.size w w' := by
  have hu38 := Try.underlying38
  have HR0 := Aside0.mk hr0
  have HC0 := Aside0.mk hc0
  clear hr0 hc0
  have HB := Aside0.mk (Below.refl w.heap.size w)
  have H : (cadastreref09_Copies.l0 k l0 ([] : List (S38)) 0) = some r := h
  clear h
  have H' := Aside0.mk H
  clear H
  go_enter Try.func21, Try.ntmps21
  go_wp2
  go_loopg [3, 4] k (fun kq v3 v4 w' => ∃ (x3_1 : List (S38)) (x4_1 : Int), v4 = .int .i64 x4_1 ∧ Aside0 (cadastreref09_Copies.l0 kq l0 x3_1 x4_1 = some r) ∧ Aside0 (kq ≤ k) ∧ Aside0 (Kd.S k38 38 w' w.heap.size (fun _ => True) v3 x3_1) ∧ Aside0 (Below w.heap.size w w'))
  case atStart => exact ⟨(([] : List (S38))), (0), (by first | rfl | (simp; done) | (simp [*]; done)), H', ⟨Nat.le_refl _⟩, ⟨by first | exact Kd.S_nil _ _ _ _ _ | exact Kd.N_nil _ _ _ _ _ | exact Kd.V_nil _ _ _ _ _ | exact Kd.Q_nil _ _ _ _ _ | exact Kd.R_nil _ _ _ _ _⟩, ⟨by repeat (first | (with_reducible first | exact HB.out | apply below_alloc | apply pw_below_drewN | apply below_drew1) | exact HB.out)⟩⟩
  case round =>
    clear H'
    obtain ⟨x3_1, x4_1, rfl, HA, HK1, HO_3, HB⟩ := hrel
    cases gk with
    | zero => exact absurd HA.out (by simp [cadastreref09_Copies.l0])
    | succ k1 =>
      have H := HA.out
      clear HA
      simp only [cadastreref09_Copies.l0] at H
      by_cases c2 : x4_1 < (l0.length : Int)
      · rw [if_pos c2] at H
        have c2b0 : decide (x4_1 < (l0.length : Int)) = true := decide_eq_true c2
        clear c2
        by_cases c3 : 0 ≤ x4_1
        · rw [if_pos c3] at H
          have c3b0 : decide (0 ≤ x4_1) = true := decide_eq_true c3
          clear c3
          replace H := Option.bind_eq_some_iff.mp H
          obtain ⟨t186, A40, H⟩ := H
          replace H : (if x3_1.length < 3518437208883 then (cadastreref09_Copies.l0 k1 l0 (x3_1 ++ [(⟨t186, (rd_T38 l0 x4_1).f1⟩ : S38)]) (wrap64 (x4_1 + 1))) else (none)) = some r := H
          have A4 := Aside0.mk A40
          clear A40
          by_cases c5 : x3_1.length < 3518437208883
          · rw [if_pos c5] at H
            have LMc5 := Aside0.mk c5
            clear c5
            obtain ⟨y190, hy190⟩ : ∃ y_ : List (S38), y_ = (x3_1 ++ [(⟨t186, (rd_T38 l0 x4_1).f1⟩ : S38)]) := ⟨_, rfl⟩
            replace H : (cadastreref09_Copies.l0 k1 l0 y190 (wrap64 (x4_1 + 1))) = some r := by first | (rw [hy190]; with_reducible exact H) | (have H2_ := (Option.bind_some _ _).symm.trans H; rw [hy190]; with_reducible exact H2_) | (have H2_ := (Option.bind_some _ _).symm.trans H; with_reducible exact H2_) | with_reducible exact H | (rw [hy190]; exact H) | exact H
            have Ny190 := Aside0.mk hy190
            clear hy190
            have H' := Aside0.mk H
            clear H
            try go_wp2
            have n0_ := Aside0.mk (Kd.S_drew HO_3.out)
            have n1_ := Aside0.mk (below_drew1 HB.out)
            clear HO_3
            clear HB
            have HO_3 := n0_
            have HB := n1_
            clear n0_ n1_
            have p185 : 0 ≤ (x4_1 : Int) := of_decide_eq_true (by first | (with_reducible assumption) | assumption)
            have q185 : x4_1 < (l0.length : Int) := of_decide_eq_true (by first | (with_reducible assumption) | assumption)
            obtain ⟨ad185, A185_0, c185_0, e185, hx185_0, hx185_1, hl185_0, hi185_0⟩ := at_T38 HR0.out x4_1 p185 q185
            have hw185_1 := hx185_1
            have hw185_0 := hx185_0
            cases e185
            replace hx185_0 := (HB.out.cell (World.block_lt_of_cell? w _ hx185_0)).trans hx185_0
            replace hx185_1 := (HB.out.cell (World.block_lt_of_cell? w _ hx185_1)).trans hx185_1
            have HR185_0 := Aside0.mk hi185_0
            have HC185_0 := Aside0.mk hl185_0
            clear hi185_0 hl185_0
            replace p185 := eq_true p185
            replace q185 := eq_true q185
            have p189 : 0 ≤ (x4_1 : Int) := of_decide_eq_true (by first | (with_reducible assumption) | assumption)
            have q189 : x4_1 < (l0.length : Int) := of_decide_eq_true (by first | (with_reducible assumption) | assumption)
            obtain ⟨ad189, A189_0, c189_0, e189, hx189_0, hx189_1, hl189_0, hi189_0⟩ := at_T38 HR0.out x4_1 p189 q189
            have hw189_1 := hx189_1
            have hw189_0 := hx189_0
            obtain rfl : ad185 = ad189 := (by injection e189)
            replace hx189_0 := (HB.out.cell (World.block_lt_of_cell? w _ hx189_0)).trans hx189_0
            replace hx189_1 := (HB.out.cell (World.block_lt_of_cell? w _ hx189_1)).trans hx189_1
            have HR189_0 := Aside0.mk hi189_0
            have HC189_0 := Aside0.mk hl189_0
            clear hi189_0 hl189_0
            replace p189 := eq_true p189
            replace q189 := eq_true q189
            have ea_ := Option.some.inj (hx185_0.symm.trans hx189_0)
            injection ea_ with ea_ en_ ec_
            subst ea_
            subst ec_
            clear en_
            refine start_ (n := 16) (S := fun w' => w'.cell? (ad185.add ((x4_1).toNat * 2)) = some (.slice A185_0 ((rd_T38 l0 x4_1).f0).length c185_0) ∧ w'.cell? ⟨(ad185.add ((x4_1).toNat * 2)).block, (ad185.add ((x4_1).toNat * 2)).off + 1, none⟩ = some (.string ((rd_T38 l0 x4_1).f1)) ∧ w'.cell? (ad185.add ((x4_1).toNat * 2)) = some (.slice A185_0 ((rd_T38 l0 x4_1).f0).length c185_0) ∧ w'.cell? ⟨(ad185.add ((x4_1).toNat * 2)).block, (ad185.add ((x4_1).toNat * 2)).off + 1, none⟩ = some (.string ((rd_T38 l0 x4_1).f1))) (ds := []) #[false, false, false, false, false, false, false, false, false, false, false, false, false, false, false, false] (by kernel_rfl) rfl rfl ⟨((HB.out.cell (World.block_lt_of_cell? w _ hw185_0)).trans hw185_0), ((HB.out.cell (World.block_lt_of_cell? w _ hw185_1)).trans hw185_1), ((HB.out.cell (World.block_lt_of_cell? w _ hw189_0)).trans hw189_0), ((HB.out.cell (World.block_lt_of_cell? w _ hw189_1)).trans hw189_1)⟩ (fun hHeld => ?_); refine with_tabW cadastreref09_Copies.tab5 cadastreref09_Copies.bits5 (fun HT_ HW_ => ?_)
            generalize wr.drew = w6 at HO_3 HB HR185_0 HR189_0 hx185_0 hx185_1 hx189_0 hx189_1 hHeld ⊢
            refine pure_ (i := 0) (N := some 11) (v := ?_) (a' := ?_) #[true, false, false, false, false, false, false, false, false, false, false, false, false, false, false, false] rfl rfl (any_of HT_.out (by kernel_rfl)) (fun _ _ _ h => h) (Or.inl ⟨by rfl, ?_⟩) ?_ ?_
            rotate_left
            · intro w'
              go_simp
              with_reducible rfl
            rotate_left
            · simp only [Act.put, List.setIfInBounds_toArray, List.set_cons_zero, List.set_cons_succ, i64_w, i32_w]
              rfl
            refine pure_ (i := 1) (N := some 12) (v := ?_) (a' := ?_) #[true, true, false, false, false, false, false, false, false, false, false, false, false, false, false, false] rfl rfl (any_of HT_.out (by kernel_rfl)) (fun _ _ _ h => h) (Or.inl ⟨by rfl, ?_⟩) ?_ ?_
            rotate_left
            · intro w'
              go_simp
              with_reducible rfl
            rotate_left
            · simp only [Act.put, List.setIfInBounds_toArray, List.set_cons_zero, List.set_cons_succ, i64_w, i32_w]
              rfl
            refine pure_ (i := 2) (N := some 13) (v := ?_) (a' := ?_) #[true, true, true, false, false, false, false, false, false, false, false, false, false, false, false, false] rfl rfl (any_of HT_.out (by kernel_rfl)) (fun _ _ _ h => h) (Or.inl ⟨by rfl, ?_⟩) ?_ ?_
            rotate_left
            · intro w'
              go_simp
              with_reducible rfl
            rotate_left
            · simp only [Act.put, List.setIfInBounds_toArray, List.set_cons_zero, List.set_cons_succ, i64_w, i32_w]
              rfl
            refine pure_ (i := 3) (N := some 14) (v := ?_) (a' := ?_) #[true, true, true, true, false, false, false, false, false, false, false, false, false, false, false, false] rfl rfl (any_of HT_.out (by kernel_rfl)) (fun _ _ _ h => h) (Or.inl ⟨by rfl, ?_⟩) ?_ ?_
            rotate_left
            · intro w'
              go_simp
              with_reducible rfl
            rotate_left
            · simp only [Act.put, List.setIfInBounds_toArray, List.set_cons_zero, List.set_cons_succ, i64_w, i32_w]
              rfl
            refine pure_ (i := 4) (N := some 15) (v := ?_) (a' := ?_) #[true, true, true, true, true, false, false, false, false, false, false, false, false, false, false, false] rfl rfl (any_of HT_.out (by kernel_rfl)) (fun _ _ _ h => h) (Or.inl ⟨by rfl, ?_⟩) ?_ ?_
            rotate_left
            · intro w'
              go_simp
              with_reducible rfl
            rotate_left
            · simp only [Act.put, List.setIfInBounds_toArray, List.set_cons_zero, List.set_cons_succ, i64_w, i32_w]
              rfl
            refine pure_ (i := 7) (N := some 18) (v := ?_) (a' := ?_) #[true, true, true, true, true, false, false, true, false, false, false, false, false, false, false, false] rfl rfl (any_of HT_.out (by kernel_rfl)) (fun _ _ _ h => h) (Or.inl ⟨by rfl, ?_⟩) ?_ ?_
            rotate_left
            · intro w'
              go_simp
              with_reducible rfl
            rotate_left
            · simp only [Act.put, List.setIfInBounds_toArray, List.set_cons_zero, List.set_cons_succ, i64_w, i32_w]
              rfl
            refine pure_ (i := 8) (N := some 19) (v := ?_) (a' := ?_) #[true, true, true, true, true, false, false, true, true, false, false, false, false, false, false, false] rfl rfl (any_of HT_.out (by kernel_rfl)) (fun _ _ _ h => h) (Or.inl ⟨by rfl, ?_⟩) ?_ ?_
            rotate_left
            · intro w'
              go_simp
              with_reducible rfl
            rotate_left
            · simp only [Act.put, List.setIfInBounds_toArray, List.set_cons_zero, List.set_cons_succ, i64_w, i32_w]
              rfl
            refine pure_ (i := 9) (N := some 20) (v := ?_) (a' := ?_) #[true, true, true, true, true, false, false, true, true, true, false, false, false, false, false, false] rfl rfl (any_of HT_.out (by kernel_rfl)) (fun _ _ _ h => h) (Or.inl ⟨by rfl, ?_⟩) ?_ ?_
            rotate_left
            · intro w'
              go_simp
              with_reducible rfl
            rotate_left
            · simp only [Act.put, List.setIfInBounds_toArray, List.set_cons_zero, List.set_cons_succ, i64_w, i32_w]
              rfl
            refine pure_ (i := 10) (N := some 21) (v := ?_) (a' := ?_) #[true, true, true, true, true, false, false, true, true, true, true, false, false, false, false, false] rfl rfl (any_of HT_.out (by kernel_rfl)) (fun _ _ _ h => h) (Or.inl ⟨by rfl, ?_⟩) ?_ ?_
            rotate_left
            · intro w'
              go_simp
              with_reducible rfl
            rotate_left
            · simp only [Act.put, List.setIfInBounds_toArray, List.set_cons_zero, List.set_cons_succ, i64_w, i32_w]
              rfl
            refine take_ (i := 5) (N := some 16) (v := ?_) (a' := ?_) #[true, true, true, true, true, true, false, true, true, true, true, false, false, false, false, false] rfl rfl (take_ofW HT_.out HW_.out (by kernel_rfl)) (fun _ _ _ h => h) (Or.inl ⟨by rfl, ?_⟩) hHeld ?_ ?_
            rotate_left
            · rintro w' ⟨s0, s1, s2, s3⟩
              go_simp
              with_reducible rfl
            rotate_left
            · simp only [Act.put, List.setIfInBounds_toArray, List.set_cons_zero, List.set_cons_succ, i64_w, i32_w]
              rfl
            refine take_ (i := 11) (N := some 22) (v := ?_) (a' := ?_) #[true, true, true, true, true, true, false, true, true, true, true, true, false, false, false, false] rfl rfl (take_ofW HT_.out HW_.out (by kernel_rfl)) (fun _ _ _ h => h) (Or.inl ⟨by rfl, ?_⟩) hHeld ?_ ?_
            rotate_left
            · rintro w' ⟨s0, s1, s2, s3⟩
              go_simp
              with_reducible rfl
            rotate_left
            · simp only [Act.put, List.setIfInBounds_toArray, List.set_cons_zero, List.set_cons_succ, i64_w, i32_w]
              rfl
            refine one_ (i := 6) (N := some 17) #[true, true, true, true, true, true, true, true, true, true, true, true, false, false, false, false] rfl rfl (one_of HT_.out (by kernel_rfl)) (by decide) (fun K hK => ?_)
            refine goes_ Try.func42 (by kernel_rfl) rfl #[.slice A185_0 ((rd_T38 l0 x4_1).f0).length c185_0] (by rfl) rfl rfl (by (try simp only [List.map_toArray, List.map_cons, List.map_nil]); first | done | rfl | (simp only [List.length_drop, List.length_take]; rfl)) ?_
            with_reducible refine (cadastreref08_Copy.calls _ _ ((rd_T38 l0 x4_1).f0) t186 _ ?side1 ?side2 A4.out).mono ?_
            (case side1 => repeat (first | exact (Kd.C_below HR185_0.out HB.out) | (with_reducible refine Kd.C_alloc ?_ _) | (with_reducible refine Kd.C_drewN ?_ _) | (with_reducible refine Kd.C_drew ?_)))
            (case side2 => exact HC185_0.out)
            rintro e w7 ⟨v187, rfl, ho0, hb⟩
            refine ⟨_, rfl, ?_⟩
            have n0_ := Aside0.mk (Kd.S_elder' (by (with_reducible repeat (first | apply Kd.S_alloc | apply Kd.S_drewN | apply Kd.S_drew)); exact HO_3.out) (Kd.R_base ho0) hb)
            have n1_ := Aside0.mk (Kd.R_lower ho0 (below_size (by repeat (first | (with_reducible first | exact HB.out | apply below_alloc | apply pw_below_drewN | apply below_drew1) | exact HB.out))))
            have n2_ := Aside0.mk (below_step (by repeat (first | (with_reducible first | exact HB.out | apply below_alloc | apply pw_below_drewN | apply below_drew1) | exact HB.out)) hb)
            clear HO_3
            clear HB
            have HO_3 := n0_
            have HO188 := n1_
            have HB := n2_
            clear n0_ n1_ n2_
            (try clear hb)
            (try clear hb2)
            (try clear hk)
            (try clear hi)
            (try clear ho0)
            obtain ⟨Ao8, co8, eo8⟩ := Kd.R_slice HO188.out
            (first | subst eo8 | (injection eo8 with f1_ f2_ f3_; have f4_ := f1_.symm; have f5_ := f3_.symm; clear f1_ f2_ f3_; subst f4_; subst f5_))
            refine hK.out _ _ ⟨((HB.out.cell (World.block_lt_of_cell? w _ hw185_0)).trans hw185_0), ((HB.out.cell (World.block_lt_of_cell? w _ hw185_1)).trans hw185_1), ((HB.out.cell (World.block_lt_of_cell? w _ hw189_0)).trans hw189_0), ((HB.out.cell (World.block_lt_of_cell? w _ hw189_1)).trans hw189_1)⟩ (fun hHeld => ?_)
            clear hK K
            refine norm_ (a' := ?_) ?_ ?_
            rotate_left
            · show Act.put _ (some 17) _ = _
              simp only [Act.put, List.setIfInBounds_toArray, List.set_cons_zero, List.set_cons_succ, i64_w, i32_w]
              rfl
            refine pure_ (i := 12) (N := some 23) (v := ?_) (a' := ?_) #[true, true, true, true, true, true, true, true, true, true, true, true, true, false, false, false] rfl rfl (any_of HT_.out (by kernel_rfl)) (fun _ _ _ h => h) (Or.inl ⟨by rfl, ?_⟩) ?_ ?_
            rotate_left
            · intro w'
              go_simp
              with_reducible rfl
            rotate_left
            · simp only [Act.put, List.setIfInBounds_toArray, List.set_cons_zero, List.set_cons_succ, i64_w, i32_w]
              rfl
            refine one_ (i := 13) (N := some 24) #[true, true, true, true, true, true, true, true, true, true, true, true, true, true, false, false] rfl rfl (one_of HT_.out (by kernel_rfl)) (by decide) (fun K hK => ?_)
            refine value_ (w1 := ?_) (v := ?_) (by rfl) rfl ?_ ?_
            rotate_left 2
            · go_simp
              constructor
              · rfl
              · rfl
            refine hK.out _ _ ⟨(World.cell?_alloc_lt _ _ _ (World.block_lt_of_cell? _ _ (((HB.out.cell (World.block_lt_of_cell? w _ hw185_0)).trans hw185_0)))).trans (((HB.out.cell (World.block_lt_of_cell? w _ hw185_0)).trans hw185_0)), (World.cell?_alloc_lt _ _ _ (World.block_lt_of_cell? _ _ (((HB.out.cell (World.block_lt_of_cell? w _ hw185_1)).trans hw185_1)))).trans (((HB.out.cell (World.block_lt_of_cell? w _ hw185_1)).trans hw185_1)), (World.cell?_alloc_lt _ _ _ (World.block_lt_of_cell? _ _ (((HB.out.cell (World.block_lt_of_cell? w _ hw189_0)).trans hw189_0)))).trans (((HB.out.cell (World.block_lt_of_cell? w _ hw189_0)).trans hw189_0)), (World.cell?_alloc_lt _ _ _ (World.block_lt_of_cell? _ _ (((HB.out.cell (World.block_lt_of_cell? w _ hw189_1)).trans hw189_1)))).trans (((HB.out.cell (World.block_lt_of_cell? w _ hw189_1)).trans hw189_1))⟩ (fun hHeld => ?_)
            clear hK K
            refine norm_ (a' := ?_) ?_ ?_
            rotate_left
            · show Act.put _ (some 24) _ = _
              simp only [Act.put, List.setIfInBounds_toArray, List.set_cons_zero, List.set_cons_succ, i64_w, i32_w]
              rfl
            refine one_ (i := 14) (N := some 25) #[true, true, true, true, true, true, true, true, true, true, true, true, true, true, true, false] rfl rfl (one_of HT_.out (by kernel_rfl)) (by decide) (fun K hK => ?_)
            refine Kd.S_append_step k38 (w0 := w) w.heap.size (by rfl) (.tmp 11) (.tmp 24) 22 38 (.agg #[(.slice none 0 0), (.string ⟨#[]⟩)]) 40 rfl Try.underlying22 info38 rfl (by decide) (by omega) u3 x3_1 (⟨t186, (rd_T38 l0 x4_1).f1⟩ : S38) [.slice Ao8 t186.length co8, .string ((rd_T38 l0 x4_1).f1)] (fun _ => True) (fun k_ => some k_ = (.slice Ao8 t186.length co8 : Value).ownBlock) rfl rfl ?aP (fun k_ hk_ => ((Kd.R_mono (ok' := fun k_ => ((fun _ => True)) k_ ∧ some k_ ≠ (u3 : Value).ownBlock) (Kd.R_apart' (HO188.out) (Kd.S_typed HO_3.out) (by decide)) (fun k_ hk => ⟨trivial, hk.2⟩))).1 k_ hk_.symm) ?aF ?aO ?aB ?aS ?aL ?_
            (case aP => exact k38_mkM _ _ _ (⟨t186, (rd_T38 l0 x4_1).f1⟩ : S38) (Kd.R_mono (Kd.R_tight rfl (Kd.R_mono (ok' := fun k_ => ((fun _ => True)) k_ ∧ some k_ ≠ (u3 : Value).ownBlock) (Kd.R_apart' (HO188.out) (Kd.S_typed HO_3.out) (by decide)) (fun k_ hk => ⟨trivial, hk.2⟩))) (fun _ h_ => h_)))
            (case aB => exact (by repeat (first | (with_reducible first | exact HB.out | apply below_alloc | apply pw_below_drewN | apply below_drew1) | exact HB.out)))
            (case aF => exact (fun _ _ => trivial))
            (case aO => exact (by (with_reducible repeat (first | apply Kd.S_alloc | apply Kd.S_drewN | apply Kd.S_drew)); exact Kd.S_mono HO_3.out (fun k_ hk => ⟨trivial, fun e_ => hk.2 e_⟩)))
            (case aS => exact (below_size (by repeat (first | (with_reducible first | exact HB.out | apply below_alloc | apply pw_below_drewN | apply below_drew1) | exact HB.out))))
            (case aL => have := LMc5.out; omega)
            intro v191 w9 ho hb hg hat
            rw [← Ny190.out] at ho
            have n0_ := Aside0.mk (hb)
            have n1_ := Aside0.mk (ho)
            clear HB
            clear HO_3
            clear HO188
            have HB := n0_
            have HO192 := n1_
            clear n0_ n1_
            clear ho hb hg hat
            refine hK.out _ _ ⟨((HB.out.cell (World.block_lt_of_cell? w _ hw185_0)).trans hw185_0), ((HB.out.cell (World.block_lt_of_cell? w _ hw185_1)).trans hw185_1), ((HB.out.cell (World.block_lt_of_cell? w _ hw189_0)).trans hw189_0), ((HB.out.cell (World.block_lt_of_cell? w _ hw189_1)).trans hw189_1)⟩ (fun hHeld => ?_)
            clear hK K
            refine norm_ (a' := ?_) ?_ ?_
            rotate_left
            · show Act.put _ (some 25) _ = _
              simp only [Act.put, List.setIfInBounds_toArray, List.set_cons_zero, List.set_cons_succ, i64_w, i32_w]
              rfl
            refine pure_ (i := 15) (N := some 3) (v := ?_) (a' := ?_) #[true, true, true, true, true, true, true, true, true, true, true, true, true, true, true, true] rfl rfl (any_of HT_.out (by kernel_rfl)) (fun _ _ _ h => h) (Or.inl ⟨by rfl, ?_⟩) ?_ ?_
            rotate_left
            · intro w'
              go_simp
              with_reducible rfl
            rotate_left
            · simp only [Act.put, List.setIfInBounds_toArray, List.set_cons_zero, List.set_cons_succ, i64_w, i32_w]
              rfl
            refine done_ (done_of HT_.out (by kernel_rfl)) ?_
            try go_wp2
            go_roundg k1
            case measure => have := HK1.out; omega
            case rel => exact ⟨(y190), (wrap64 (x4_1 + 1)), (by first | rfl | (simp; done) | (simp [*]; done)), H', ⟨by have := HK1.out; omega⟩, ⟨by (with_reducible repeat (first | apply Kd.S_alloc | apply Kd.S_drewN | apply Kd.S_drew)); exact HO192.out⟩, ⟨by repeat (first | (with_reducible first | exact HB.out | apply below_alloc | apply pw_below_drewN | apply below_drew1) | exact HB.out)⟩⟩
          · rw [if_neg c5] at H
            exact absurd H (by simp)
        · rw [if_neg c3] at H
          exact absurd H (by simp)
      · rw [if_neg c2] at H
        have c2b0 : decide (x4_1 < (l0.length : Int)) = false := decide_eq_false c2
        clear c2
        obtain rfl := Option.some.inj H
        go_wp2
        go_ret
        exact ⟨_, by first | rfl | (simp [errW_none, errW_some] <;> rfl) | (simp [*, errW_none, errW_some] <;> rfl), by (with_reducible repeat (first | apply Kd.S_alloc | apply Kd.S_drewN | apply Kd.S_drew)); exact HO_3.out, by repeat (first | (with_reducible first | exact HB.out | apply below_alloc | apply pw_below_drewN | apply below_drew1) | exact HB.out)⟩

/-! ### cadastreref10_Cut: function 24 -/
def cadastreref10_Cut.f (k : Nat) (l0 : List (S38)) (l1 : List Int) : Option ((List (S38)) × Bool) := (cadastreref10_Find.f k l0 l1).bind fun bt197 => (if bt197.2 = true then (if 0 ≤ bt197.1 then (if bt197.1 ≤ (l0.length : Int) then ((some (l0.take (bt197.1 : Int).toNat : List (S38))).bind fun y199 => (if ([] : List (S38)).length + y199.length < 3518437208883 then ((some (([] : List (S38)) ++ y199 : List (S38))).bind fun y204 => (if 0 ≤ (wrap64 (bt197.1 + 1)) then (if (wrap64 (bt197.1 + 1)) ≤ (l0.length : Int) then ((some (l0.drop ((wrap64 (bt197.1 + 1)) : Int).toNat : List (S38))).bind fun y207 => (if y204.length + y207.length < 3518437208883 then ((cadastreref09_Copies.f k (y204 ++ y207)).bind fun t215 => (some (t215, true))) else (none))) else (none)) else (none))) else (none))) else (none)) else (none)) else ((cadastreref09_Copies.f k l0).bind fun t218 => (some (t218, false))))
theorem cadastreref10_Cut.mono : ∀ a0 a1 k, LeO (cadastreref10_Cut.f k a0 a1) (cadastreref10_Cut.f (k + 1) a0 a1) := by
  intro a0 a1 k
  unfold cadastreref10_Cut.f
  repeat' first
      | (with_reducible exact cadastreref09_Copies.mono _ _)
      | (with_reducible exact cadastreref10_Find.mono _ _ _)
      | (with_reducible exact LeO.refl _)
      | (with_reducible exact LeO.none _)
      | (with_reducible refine LeO.ite ?_ ?_)
      | (with_reducible refine LeO.bind ?_ (fun _ => ?_))
      | exact cadastreref09_Copies.mono _ _
      | exact cadastreref10_Find.mono _ _ _
      | exact LeO.none _
      | refine LeO.ite ?_ ?_
      | refine LeO.bind ?_ (fun _ => ?_)
set_option maxHeartbeats 8000000 in
set_option maxRecDepth 100000 in
theorem cadastreref10_Cut.calls (k : Nat) (P0_ : Nat → Prop) (A0 : Option Addr) (c0 : Nat) (l0 : List (S38)) (A1 : Option Addr) (c1 : Nat) (l1 : List Int) (r1 : List (S38)) (r2 : Bool) (w : World) (hs0 : Kd.V k38 38 w w.heap.size (fun k_ => P0_ k_) (.slice A0 l0.length c0) l0) (hr1 : Kd.C (Kd.int .u32) w A1 l1.length l1) (hc1 : l1.length ≤ c1) (h : cadastreref10_Cut.f k l0 l1 = some (r1, r2)) :
    Calls Try.prog 24 #[.slice A0 l0.length c0, .slice A1 l1.length c1] w fun e w' => ∃ v0_ : Value, e = .returned (.tuple #[v0_, .bool r2]) ∧ Kd.N k38 38 w' w.heap.size (fun k_ => (P0_ k_ ∨ w.heap.size ≤ k_)) v0_ r1 ∧ Below w.heap.size w w' := by
  have HO0 := Aside0.mk (show Kd.V k38 38 w w.heap.size (fun k_ => (P0_ k_ ∨ w.heap.size ≤ k_)) (.slice A0 l0.length c0) l0 from Kd.V_mono hs0 (fun k_ hk => .inl hk))
  have HR1 := Aside0.mk hr1
  have HC1 := Aside0.mk hc1
  clear hr1 hc1
  have HB := Aside0.mk (Below.refl w.heap.size w)
  have H : ((cadastreref10_Find.f k l0 l1).bind fun bt197 => (if bt197.2 = true then (if 0 ≤ bt197.1 then (if bt197.1 ≤ (l0.length : Int) then ((some (l0.take (bt197.1 : Int).toNat : List (S38))).bind fun y199 => (if ([] : List (S38)).length + y199.length < 3518437208883 then ((some (([] : List (S38)) ++ y199 : List (S38))).bind fun y204 => (if 0 ≤ (wrap64 (bt197.1 + 1)) then (if (wrap64 (bt197.1 + 1)) ≤ (l0.length : Int) then ((some (l0.drop ((wrap64 (bt197.1 + 1)) : Int).toNat : List (S38))).bind fun y207 => (if y204.length + y207.length < 3518437208883 then ((cadastreref09_Copies.f k (y204 ++ y207)).bind fun t215 => (some (t215, true))) else (none))) else (none)) else (none))) else (none))) else (none)) else (none)) else ((cadastreref09_Copies.f k l0).bind fun t218 => (some (t218, false))))) = some (r1, r2) := h
  clear h
  replace H := Option.bind_eq_some_iff.mp H
  obtain ⟨⟨t197, t198⟩, A30, H⟩ := H
  replace H : (if t198 = true then (if 0 ≤ t197 then (if t197 ≤ (l0.length : Int) then ((some (l0.take (t197 : Int).toNat : List (S38))).bind fun y199 => (if ([] : List (S38)).length + y199.length < 3518437208883 then ((some (([] : List (S38)) ++ y199 : List (S38))).bind fun y204 => (if 0 ≤ (wrap64 (t197 + 1)) then (if (wrap64 (t197 + 1)) ≤ (l0.length : Int) then ((some (l0.drop ((wrap64 (t197 + 1)) : Int).toNat : List (S38))).bind fun y207 => (if y204.length + y207.length < 3518437208883 then ((cadastreref09_Copies.f k (y204 ++ y207)).bind fun t215 => (some (t215, true))) else (none))) else (none)) else (none))) else (none))) else (none)) else (none)) else ((cadastreref09_Copies.f k l0).bind fun t218 => (some (t218, false)))) = some (r1, r2) := H
  have A3 := Aside0.mk A30
  clear A30
  by_cases c4 : t198 = true
  · subst c4
    have H1 : (if 0 ≤ t197 then (if t197 ≤ (l0.length : Int) then ((some (l0.take (t197 : Int).toNat : List (S38))).bind fun y199 => (if ([] : List (S38)).length + y199.length < 3518437208883 then ((some (([] : List (S38)) ++ y199 : List (S38))).bind fun y204 => (if 0 ≤ (wrap64 (t197 + 1)) then (if (wrap64 (t197 + 1)) ≤ (l0.length : Int) then ((some (l0.drop ((wrap64 (t197 + 1)) : Int).toNat : List (S38))).bind fun y207 => (if y204.length + y207.length < 3518437208883 then ((cadastreref09_Copies.f k (y204 ++ y207)).bind fun t215 => (some (t215, true))) else (none))) else (none)) else (none))) else (none))) else (none)) else (none)) = some (r1, r2) := by rw [if_pos rfl] at H; exact H
    clear H
    have H := H1
    clear H1
    by_cases c5 : 0 ≤ t197
    · rw [if_pos c5] at H
      have c5b0 := eq_true c5
      have c5b1 : decide (0 ≤ t197) = true := decide_eq_true c5
      clear c5
      by_cases c6 : t197 ≤ (l0.length : Int)
      · rw [if_pos c6] at H
        have c6b0 := eq_true c6
        have c6b1 : decide (t197 ≤ (l0.length : Int)) = true := decide_eq_true c6
        clear c6
        obtain ⟨y199, hy199⟩ : ∃ y_ : List (S38), y_ = (l0.take (t197 : Int).toNat) := ⟨_, rfl⟩
        replace H : (if ([] : List (S38)).length + y199.length < 3518437208883 then ((some (([] : List (S38)) ++ y199 : List (S38))).bind fun y204 => (if 0 ≤ (wrap64 (t197 + 1)) then (if (wrap64 (t197 + 1)) ≤ (l0.length : Int) then ((some (l0.drop ((wrap64 (t197 + 1)) : Int).toNat : List (S38))).bind fun y207 => (if y204.length + y207.length < 3518437208883 then ((cadastreref09_Copies.f k (y204 ++ y207)).bind fun t215 => (some (t215, true))) else (none))) else (none)) else (none))) else (none)) = some (r1, r2) := by first | (rw [hy199]; with_reducible exact H) | (have H2_ := (Option.bind_some _ _).symm.trans H; rw [hy199]; with_reducible exact H2_) | (have H2_ := (Option.bind_some _ _).symm.trans H; with_reducible exact H2_) | with_reducible exact H | (rw [hy199]; exact H) | exact H
        have Ny199 := Aside0.mk hy199
        clear hy199
        by_cases c7 : ([] : List (S38)).length + y199.length < 3518437208883
        · rw [if_pos c7] at H
          have LMc7 := Aside0.mk c7
          clear c7
          obtain ⟨y204, hy204⟩ : ∃ y_ : List (S38), y_ = (([] : List (S38)) ++ y199) := ⟨_, rfl⟩
          replace H : (if 0 ≤ (wrap64 (t197 + 1)) then (if (wrap64 (t197 + 1)) ≤ (l0.length : Int) then ((some (l0.drop ((wrap64 (t197 + 1)) : Int).toNat : List (S38))).bind fun y207 => (if y204.length + y207.length < 3518437208883 then ((cadastreref09_Copies.f k (y204 ++ y207)).bind fun t215 => (some (t215, true))) else (none))) else (none)) else (none)) = some (r1, r2) := by first | (rw [hy204]; with_reducible exact H) | (have H2_ := (Option.bind_some _ _).symm.trans H; rw [hy204]; with_reducible exact H2_) | (have H2_ := (Option.bind_some _ _).symm.trans H; with_reducible exact H2_) | with_reducible exact H | (rw [hy204]; exact H) | exact H
          have Ny204 := Aside0.mk hy204
          clear hy204
          obtain ⟨ji8, hji8⟩ : ∃ j_ : Int, (wrap64 (t197 + 1)) = j_ := ⟨_, rfl⟩
          replace H : (if 0 ≤ (ji8) then (if (ji8) ≤ (l0.length : Int) then ((some (l0.drop ((ji8) : Int).toNat : List (S38))).bind fun y207 => (if y204.length + y207.length < 3518437208883 then ((cadastreref09_Copies.f k (y204 ++ y207)).bind fun t215 => (some (t215, true))) else (none))) else (none)) else (none)) = some (r1, r2) := by first | (rw [hji8] at H; exact H) | (simp only [hji8] at H ⊢; exact H)
          (try rw [hji8] at A3)
          have hji8w : (IntKind.i64.wrap (t197 + 1)) = ji8 := (i64_w _).trans hji8
          by_cases c9 : 0 ≤ (ji8)
          · rw [if_pos c9] at H
            have c9b0 := eq_true c9
            have c9b1 : decide (0 ≤ (ji8)) = true := decide_eq_true c9
            clear c9
            by_cases c10 : (ji8) ≤ (l0.length : Int)
            · rw [if_pos c10] at H
              have c10b0 := eq_true c10
              have c10b1 : decide ((ji8) ≤ (l0.length : Int)) = true := decide_eq_true c10
              clear c10
              obtain ⟨y207, hy207⟩ : ∃ y_ : List (S38), y_ = (l0.drop ((ji8) : Int).toNat) := ⟨_, rfl⟩
              replace H : (if y204.length + y207.length < 3518437208883 then ((cadastreref09_Copies.f k (y204 ++ y207)).bind fun t215 => (some (t215, true))) else (none)) = some (r1, r2) := by first | (rw [hy207]; with_reducible exact H) | (have H2_ := (Option.bind_some _ _).symm.trans H; rw [hy207]; with_reducible exact H2_) | (have H2_ := (Option.bind_some _ _).symm.trans H; with_reducible exact H2_) | with_reducible exact H | (rw [hy207]; exact H) | exact H
              have Ny207 := Aside0.mk hy207
              clear hy207
              by_cases c11 : y204.length + y207.length < 3518437208883
              · rw [if_pos c11] at H
                have LMc11 := Aside0.mk c11
                clear c11
                obtain ⟨y212, hy212⟩ : ∃ y_ : List (S38), y_ = (y204 ++ y207) := ⟨_, rfl⟩
                replace H : ((cadastreref09_Copies.f k y212).bind fun t215 => (some (t215, true))) = some (r1, r2) := by first | (rw [hy212]; with_reducible exact H) | (have H2_ := (Option.bind_some _ _).symm.trans H; rw [hy212]; with_reducible exact H2_) | (have H2_ := (Option.bind_some _ _).symm.trans H; with_reducible exact H2_) | with_reducible exact H | (rw [hy212]; exact H) | exact H
                have Ny212 := Aside0.mk hy212
                clear hy212
                replace H := Option.bind_eq_some_iff.mp H
                obtain ⟨t215, A120, H⟩ := H
                replace H : (some (t215, true)) = some (r1, r2) := H
                have A12 := Aside0.mk A120
                clear A120
                simp only [Option.some.injEq, Prod.mk.injEq] at H
                obtain ⟨rfl, rfl⟩ := H
                go_enter Try.func24, Try.ntmps24
                go_wp2_with (first | ((with_reducible refine gate_callee (f := 26) rfl ?_); refine goesL_ (some 12) rfl rfl Try.func26 (by kernel_rfl) rfl #[.slice A0 l0.length c0, .slice A1 l1.length c1] rfl (by (try simp only [List.map_toArray, List.map_cons, List.map_nil]); first | done | rfl | (simp only [List.length_drop, List.length_take]; rfl)) ?_; (with_reducible refine (cadastreref10_Find.calls k _ _ l0 _ _ l1 t197 true _ ?side1 ?side2 ?side3 ?side4 A3.out).mono ?_); (case side1 => repeat (first | exact (Kd.V_reads' HO0.out).2.2 | (with_reducible refine Kd.C_alloc ?_ _) | (with_reducible refine Kd.C_drewN ?_ _) | (with_reducible refine Kd.C_drew ?_))); (case side2 => exact (Kd.V_reads' HO0.out).2.1); (case side3 => repeat (first | exact HR1.out | (with_reducible refine Kd.C_alloc ?_ _) | (with_reducible refine Kd.C_drewN ?_ _) | (with_reducible refine Kd.C_drew ?_))); (case side4 => exact HC1.out); rintro e w' ⟨rfl, ⟨nd, rfl⟩⟩; refine ⟨_, rfl, ?_⟩; have q13 : (t197 : Int) ≤ ((l0.length : Int) : Int) := of_decide_eq_true (by first | (with_reducible assumption) | assumption); obtain ⟨i013, hi013, _, hsz13, _⟩ := info_parts info38; have hroom13 : l0.length ≤ c0 := (Kd.V_reads' HO0.out).2.1; have hC13 : Kd.F k38 _ _ A0 l0.length l0 := (Kd.V_at (base := w.heap.size) HO0.out).2.2; have hcut13 := cut_to (P := Try.prog) 22 38 .i64 Try.underlying22 hi013 A0 l0.length c0 t197 (of_decide_eq_true (by first | (with_reducible assumption) | assumption)) q13 hroom13; have hr13 := Kd.F_take (m := (t197 : Int).toNat) hC13 (by omega); have hy13 : y199.length = (t197 : Int).toNat := (by rw [Ny199.out, List.length_take]; omega); rw [← Ny199.out] at hr13; rw [← hy13] at hcut13; have HO203 := Aside0.mk (show Kd.V k38 38 _ w.heap.size _ (.slice A0 y199.length c0) y199 from Kd.V_mk (by omega) hr13); have HC203 := Aside0.mk (show y199.length ≤ c0 from by omega); clear hr13 hC13 hroom13 hi013 hsz13; have KY13 := Aside0.mk hy13; clear hy13; replace q13 := eq_true q13) | ((with_reducible refine gate_builtin (b := .append) (xs := #[.tmp 19, .tmp 22]) rfl ?_); at_builtin; refine Kd.N_append_rows k38 (w0 := w) w.heap.size rfl (.tmp 19) (.tmp 22) 22 38 (.agg #[(.slice none 0 0), (.string ⟨#[]⟩)]) 40 rfl Try.underlying22 info38 rfl (by decide) (by omega) (.slice none 0 0) ([] : List (S38)) y199 _ _ _ (fun k_ => (P0_ k_ ∨ w.heap.size ≤ k_)) (fun k_ => ((fun k_ => (P0_ k_ ∨ w.heap.size ≤ k_))) k_ ∧ some k_ ≠ (.slice none 0 0 : Value).ownBlock) rfl rfl ?aO ?aR (fun _ hk => hk) ?aF ?aB ?aS ?aL ?_; (case aR => exact (by skip; first | exact Kd.V_F (e := 38) (base := w.heap.size) (Kd.V_mono (ok' := (fun k_ => ((fun k_ => (P0_ k_ ∨ w.heap.size ≤ k_))) k_ ∧ some k_ ≠ (.slice none 0 0 : Value).ownBlock)) (HO203.out) (fun k_ hk => ⟨hk, (by simp [Value.ownBlock])⟩)) | exact Kd.V_F (e := 38) (base := w.heap.size) (Kd.V_mono (ok' := (fun k_ => ((fun k_ => (P0_ k_ ∨ w.heap.size ≤ k_))) k_ ∧ some k_ ≠ (.slice none 0 0 : Value).ownBlock)) (Kd.V_drewN HO203.out _) (fun k_ hk => ⟨hk, (by simp [Value.ownBlock])⟩)))); (case aB => exact (by repeat (first | (with_reducible first | exact HB.out | apply below_alloc | apply pw_below_drewN | apply below_drew1) | exact HB.out))); (case aF => exact (fun k_ hk => (.inr (Nat.le_trans (below_size (by repeat (first | (with_reducible first | exact HB.out | apply below_alloc | apply pw_below_drewN | apply below_drew1) | exact HB.out))) hk)))); (case aO => exact ((Kd.N_nil _ _ _ _ (fun k_ => (P0_ k_ ∨ w.heap.size ≤ k_))))); (case aS => exact (below_size (by repeat (first | (with_reducible first | exact HB.out | apply below_alloc | apply pw_below_drewN | apply below_drew1) | exact HB.out)))); (case aL => have := LMc7.out; omega); intro v205 w14 ho hb hg hat; rw [← Ny204.out] at ho; have n0_ := Aside0.mk (Kd.V_afterv (Kd.V_apart_nil (by (with_reducible repeat (first | apply Kd.V_alloc | apply Kd.V_drewN | apply Kd.V_drew)); exact HO0.out)) hg hat); have n1_ := Aside0.mk (Kd.V_afterv (Kd.V_apart_nil (by (with_reducible repeat (first | apply Kd.V_alloc | apply Kd.V_drewN | apply Kd.V_drew)); exact HO203.out)) hg hat); have n2_ := Aside0.mk (hb); have n3_ := Aside0.mk (ho); clear HO0; clear HO203; clear HB; have HO0 := n0_; have HO203 := n1_; have HB := n2_; have HO206 := n3_; clear n0_ n1_ n2_ n3_; clear ho hb hg hat; have q15 : ((ji8) : Int) ≤ ((l0.length : Int) : Int) := of_decide_eq_true (by first | (with_reducible assumption) | assumption); obtain ⟨i015, hi015, _, hsz15, _⟩ := info_parts info38; have hroom15 : l0.length ≤ c0 := (Kd.V_reads' HO0.out).2.1; have hC15 : Kd.F k38 _ _ A0 l0.length l0 := (Kd.V_at (base := w.heap.size) HO0.out).2.2; have q015 : (0 : Int) ≤ ((ji8) : Int) := of_decide_eq_true (by first | (with_reducible assumption) | assumption); have hcut15 := cut_from (P := Try.prog) 22 38 .i64 Try.underlying22 hi015 2 hsz15 A0 l0.length c0 (ji8) q015 q15; have hr15 := Kd.F_cut (m := ((ji8) : Int).toNat) (c := c0) hC15 (by omega) hroom15; obtain ⟨A15, hA15⟩ : ∃ A1, A1 = (if c0 = ((ji8) : Int).toNat then A0 else (A0 : Option Addr).map (·.add (((ji8) : Int).toNat * 2))) := ⟨_, rfl⟩; obtain ⟨c15, hc15⟩ : ∃ c1, c1 = c0 - ((ji8) : Int).toNat := ⟨_, rfl⟩; have hy15 : y207.length = l0.length - ((ji8) : Int).toNat := (by rw [Ny207.out, List.length_drop] <;> omega); rw [show (l0).drop ((ji8) : Int).toNat = y207 from Ny207.out.symm] at hr15; replace hr15 : Kd.F k38 _ _ A15 y207.length y207 := (by rw [hA15]; exact hr15); rw [← hy15, ← hA15, ← hc15] at hcut15; have HO211 := Aside0.mk (show Kd.V k38 38 _ w.heap.size _ (.slice A15 y207.length c15) y207 from Kd.V_mk (by rw [hy15, hc15]; exact Nat.sub_le_sub_right hroom15 _) hr15); have HC211 := Aside0.mk (show y207.length ≤ c15 from by rw [hy15, hc15]; exact Nat.sub_le_sub_right hroom15 _); clear hr15 hC15 hroom15 hi015 hsz15 hc15; have KY15 := Aside0.mk hy15; have KA15 := Aside0.mk hA15; clear hy15 hA15; replace q15 := eq_true q15) | ((with_reducible refine gate_builtin (b := .append) (xs := #[.tmp 24, .tmp 28]) rfl ?_); at_builtin; refine Kd.N_append_rows k38 (w0 := w) w.heap.size rfl (.tmp 24) (.tmp 28) 22 38 (.agg #[(.slice none 0 0), (.string ⟨#[]⟩)]) 40 rfl Try.underlying22 info38 rfl (by decide) (by omega) v205 y204 y207 _ _ _ (fun k_ => (P0_ k_ ∨ w.heap.size ≤ k_)) (fun k_ => ((fun k_ => (P0_ k_ ∨ w.heap.size ≤ k_))) k_ ∧ some k_ ≠ (v205 : Value).ownBlock) rfl rfl ?aO ?aR (fun _ hk => hk) ?aF ?aB ?aS ?aL ?_; (case aR => exact (by skip; first | exact Kd.V_F (e := 38) (base := w.heap.size) (Kd.V_mono (ok' := (fun k_ => ((fun k_ => (P0_ k_ ∨ w.heap.size ≤ k_))) k_ ∧ some k_ ≠ (v205 : Value).ownBlock)) (HO211.out) (fun k_ hk => ⟨hk.1, hk.2⟩)) | exact Kd.V_F (e := 38) (base := w.heap.size) (Kd.V_mono (ok' := (fun k_ => ((fun k_ => (P0_ k_ ∨ w.heap.size ≤ k_))) k_ ∧ some k_ ≠ (v205 : Value).ownBlock)) (Kd.V_drewN HO211.out _) (fun k_ hk => ⟨hk.1, hk.2⟩)))); (case aB => exact (by repeat (first | (with_reducible first | exact HB.out | apply below_alloc | apply pw_below_drewN | apply below_drew1) | exact HB.out))); (case aF => exact (fun k_ hk => (.inr (Nat.le_trans (below_size (by repeat (first | (with_reducible first | exact HB.out | apply below_alloc | apply pw_below_drewN | apply below_drew1) | exact HB.out))) hk)))); (case aO => exact (by (with_reducible repeat (first | apply Kd.N_alloc | apply Kd.N_drewN | apply Kd.N_drew)); exact HO206.out)); (case aS => exact (below_size (by repeat (first | (with_reducible first | exact HB.out | apply below_alloc | apply pw_below_drewN | apply below_drew1) | exact HB.out)))); (case aL => have := LMc11.out; omega); intro v213 w16 ho hb hg hat; rw [← Ny212.out] at ho; have n0_ := Aside0.mk (Kd.V_afterv (ok := (fun k_ => (P0_ k_ ∨ w.heap.size ≤ k_))) (by (with_reducible repeat (first | apply Kd.V_alloc | apply Kd.V_drewN | apply Kd.V_drew)); exact HO0.out) hg hat); have n1_ := Aside0.mk (Kd.V_afterv (ok := (fun k_ => (P0_ k_ ∨ w.heap.size ≤ k_))) (by (with_reducible repeat (first | apply Kd.V_alloc | apply Kd.V_drewN | apply Kd.V_drew)); exact HO203.out) hg hat); have n2_ := Aside0.mk (Kd.V_afterv (ok := (fun k_ => (P0_ k_ ∨ w.heap.size ≤ k_))) (by (with_reducible repeat (first | apply Kd.V_alloc | apply Kd.V_drewN | apply Kd.V_drew)); exact HO211.out) hg hat); have n3_ := Aside0.mk (hb); have n4_ := Aside0.mk (ho); clear HO0; clear HO203; clear HO211; clear HB; clear HO206; have HO0 := n0_; have HO203 := n1_; have HO211 := n2_; have HB := n3_; have HO214 := n4_; clear n0_ n1_ n2_ n3_ n4_; clear ho hb hg hat; obtain ⟨Ao17, co17, eo17⟩ := Kd.N_slice HO214.out; subst eo17) | ((with_reducible refine gate_callee (f := 21) rfl ?_); refine goesL_ (some 31) rfl rfl Try.func21 (by kernel_rfl) rfl #[.slice Ao17 y212.length co17] rfl (by (try simp only [List.map_toArray, List.map_cons, List.map_nil]); first | done | rfl | (simp only [List.length_drop, List.length_take]; rfl)) ?_; (with_reducible refine (cadastreref09_Copies.calls k _ _ y212 t215 _ ?side1 ?side2 A12.out).mono ?_); (case side1 => repeat (first | exact (Kd.N_reads' HO214.out).2.2 | (with_reducible refine Kd.C_alloc ?_ _) | (with_reducible refine Kd.C_drewN ?_ _) | (with_reducible refine Kd.C_drew ?_))); (case side2 => exact (Kd.N_reads' HO214.out).2.1); rintro e w18 ⟨v216, rfl, ho0, hb⟩; refine ⟨_, rfl, ?_⟩; have n0_ := Aside0.mk (Kd.V_elder' (by (with_reducible repeat (first | apply Kd.V_alloc | apply Kd.V_drewN | apply Kd.V_drew)); exact HO0.out) (by first | exact Kd.N_base ho0 | exact Kd.S_base ho0) hb); have n1_ := Aside0.mk (Kd.V_elder' (by (with_reducible repeat (first | apply Kd.V_alloc | apply Kd.V_drewN | apply Kd.V_drew)); exact HO203.out) (by first | exact Kd.N_base ho0 | exact Kd.S_base ho0) hb); have n2_ := Aside0.mk (Kd.V_elder' (by (with_reducible repeat (first | apply Kd.V_alloc | apply Kd.V_drewN | apply Kd.V_drew)); exact HO211.out) (by first | exact Kd.N_base ho0 | exact Kd.S_base ho0) hb); have n3_ := Aside0.mk (Kd.N_elder' (by (with_reducible repeat (first | apply Kd.N_alloc | apply Kd.N_drewN | apply Kd.N_drew)); exact HO214.out) (by first | exact Kd.N_base ho0 | exact Kd.S_base ho0) hb); have n4_ := Aside0.mk (Kd.N_lower (Kd.N_mono (ok' := fun k_ => (P0_ k_ ∨ w.heap.size ≤ k_) ∧ some k_ ≠ (.slice Ao17 y212.length co17 : Value).ownBlock) (Kd.S_N (Kd.S_bound ho0)) (fun k_ hk_ => ⟨(.inr (Nat.le_trans (below_size (by repeat (first | (with_reducible first | exact HB.out | apply below_alloc | apply pw_below_drewN | apply below_drew1) | exact HB.out))) hk_.2.1)), (Kd.fresh' (Kd.N_lt (by (with_reducible repeat (first | apply Kd.N_alloc | apply Kd.N_drewN | apply Kd.N_drew)); exact HO214.out)) k_ hk_.2.1)⟩)) (below_size (by repeat (first | (with_reducible first | exact HB.out | apply below_alloc | apply pw_below_drewN | apply below_drew1) | exact HB.out)))); have n5_ := Aside0.mk (below_step (by repeat (first | (with_reducible first | exact HB.out | apply below_alloc | apply pw_below_drewN | apply below_drew1) | exact HB.out)) hb); clear HO0; clear HO203; clear HO211; clear HO214; clear HB; have HO0 := n0_; have HO203 := n1_; have HO211 := n2_; have HO214 := n3_; have HO217 := n4_; have HB := n5_; clear n0_ n1_ n2_ n3_ n4_ n5_; (try clear hb); (try clear hb2); (try clear hk); (try clear hi); (try clear ho0)))
                go_ret2
                exact ⟨_, by first | rfl | (simp [errW_none, errW_some] <;> rfl) | (simp only [← hji8]; first | rfl | (simp [errW_none, errW_some] <;> rfl)) | (simp [*, errW_none, errW_some] <;> rfl), by (with_reducible repeat (first | apply Kd.N_alloc | apply Kd.N_drewN | apply Kd.N_drew)); exact Kd.N_mono HO217.out (fun _ hk => hk.1), by repeat (first | (with_reducible first | exact HB.out | apply below_alloc | apply pw_below_drewN | apply below_drew1) | exact HB.out)⟩
              · rw [if_neg c11] at H
                exact absurd H (by simp)
            · rw [if_neg c10] at H
              exact absurd H (by simp)
          · rw [if_neg c9] at H
            exact absurd H (by simp)
        · rw [if_neg c7] at H
          exact absurd H (by simp)
      · rw [if_neg c6] at H
        exact absurd H (by simp)
    · rw [if_neg c5] at H
      exact absurd H (by simp)
  · replace c4 := Bool.eq_false_iff.mpr c4
    subst c4
    have H1 : ((cadastreref09_Copies.f k l0).bind fun t218 => (some (t218, false))) = some (r1, r2) := by rw [if_neg (show ¬ (false = true) by decide)] at H; exact H
    clear H
    have H := H1
    clear H1
    replace H := Option.bind_eq_some_iff.mp H
    obtain ⟨t218, A190, H⟩ := H
    replace H : (some (t218, false)) = some (r1, r2) := H
    have A19 := Aside0.mk A190
    clear A190
    simp only [Option.some.injEq, Prod.mk.injEq] at H
    obtain ⟨rfl, rfl⟩ := H
    go_enter Try.func24, Try.ntmps24
    go_wp2_with (first | ((with_reducible refine gate_callee (f := 26) rfl ?_); refine goesL_ (some 12) rfl rfl Try.func26 (by kernel_rfl) rfl #[.slice A0 l0.length c0, .slice A1 l1.length c1] rfl (by (try simp only [List.map_toArray, List.map_cons, List.map_nil]); first | done | rfl | (simp only [List.length_drop, List.length_take]; rfl)) ?_; (with_reducible refine (cadastreref10_Find.calls k _ _ l0 _ _ l1 t197 false _ ?side1 ?side2 ?side3 ?side4 A3.out).mono ?_); (case side1 => repeat (first | exact (Kd.V_reads' HO0.out).2.2 | (with_reducible refine Kd.C_alloc ?_ _) | (with_reducible refine Kd.C_drewN ?_ _) | (with_reducible refine Kd.C_drew ?_))); (case side2 => exact (Kd.V_reads' HO0.out).2.1); (case side3 => repeat (first | exact HR1.out | (with_reducible refine Kd.C_alloc ?_ _) | (with_reducible refine Kd.C_drewN ?_ _) | (with_reducible refine Kd.C_drew ?_))); (case side4 => exact HC1.out); rintro e w' ⟨rfl, ⟨nd, rfl⟩⟩; refine ⟨_, rfl, ?_⟩) | ((with_reducible refine gate_callee (f := 21) rfl ?_); refine goesL_ (some 18) rfl rfl Try.func21 (by kernel_rfl) rfl #[.slice A0 l0.length c0] rfl (by (try simp only [List.map_toArray, List.map_cons, List.map_nil]); first | done | rfl | (simp only [List.length_drop, List.length_take]; rfl)) ?_; (with_reducible refine (cadastreref09_Copies.calls k _ _ l0 t218 _ ?side1 ?side2 A19.out).mono ?_); (case side1 => repeat (first | exact (Kd.V_reads' HO0.out).2.2 | (with_reducible refine Kd.C_alloc ?_ _) | (with_reducible refine Kd.C_drewN ?_ _) | (with_reducible refine Kd.C_drew ?_))); (case side2 => exact (Kd.V_reads' HO0.out).2.1); rintro e w20 ⟨v219, rfl, ho0, hb⟩; refine ⟨_, rfl, ?_⟩; have n0_ := Aside0.mk (Kd.V_elder' (by (with_reducible repeat (first | apply Kd.V_alloc | apply Kd.V_drewN | apply Kd.V_drew)); exact HO0.out) (by first | exact Kd.N_base ho0 | exact Kd.S_base ho0) hb); have n1_ := Aside0.mk (Kd.N_lower (Kd.N_mono (ok' := fun k_ => (P0_ k_ ∨ w.heap.size ≤ k_)) (Kd.S_N (Kd.S_bound ho0)) (fun k_ hk_ => (.inr (Nat.le_trans (below_size (by repeat (first | (with_reducible first | exact HB.out | apply below_alloc | apply pw_below_drewN | apply below_drew1) | exact HB.out))) hk_.2.1)))) (below_size (by repeat (first | (with_reducible first | exact HB.out | apply below_alloc | apply pw_below_drewN | apply below_drew1) | exact HB.out)))); have n2_ := Aside0.mk (below_step (by repeat (first | (with_reducible first | exact HB.out | apply below_alloc | apply pw_below_drewN | apply below_drew1) | exact HB.out)) hb); clear HO0; clear HB; have HO0 := n0_; have HO220 := n1_; have HB := n2_; clear n0_ n1_ n2_; (try clear hb); (try clear hb2); (try clear hk); (try clear hi); (try clear ho0)))
    go_ret2
    exact ⟨_, by first | rfl | (simp [errW_none, errW_some] <;> rfl) | (simp [*, errW_none, errW_some] <;> rfl), by (with_reducible repeat (first | apply Kd.N_alloc | apply Kd.N_drewN | apply Kd.N_drew)); exact HO220.out, by repeat (first | (with_reducible first | exact HB.out | apply below_alloc | apply pw_below_drewN | apply below_drew1) | exact HB.out)⟩

/-! ### cadastreref10_Put: function 27 -/
def cadastreref10_Put.f (k : Nat) (l0 : List (S38)) (l1_0 : List Int) (a1_1 : ByteArray) : Option ((List (S38))) := (cadastreref10_Find.f k l0 l1_0).bind fun bt222 => (if 0 ≤ bt222.1 then (if bt222.1 ≤ (l0.length : Int) then ((some (l0.take (bt222.1 : Int).toNat : List (S38))).bind fun y224 => (if ([] : List (S38)).length + y224.length < 3518437208883 then ((some (([] : List (S38)) ++ y224 : List (S38))).bind fun y229 => (if y229.length < 3518437208883 then ((some (y229 ++ [(⟨l1_0, a1_1⟩ : S38)] : List (S38))).bind fun y232 => (if bt222.2 = true then (if 0 ≤ (wrap64 (bt222.1 + 1)) then (if (wrap64 (bt222.1 + 1)) ≤ (l0.length : Int) then ((some (l0.drop ((wrap64 (bt222.1 + 1)) : Int).toNat : List (S38))).bind fun y235 => (if y232.length + y235.length < 3518437208883 then ((cadastreref09_Copies.f k (y232 ++ y235)).bind fun t243 => (some t243)) else (none))) else (none)) else (none)) else ((some (l0.drop (bt222.1 : Int).toNat : List (S38))).bind fun y246 => (if y232.length + y246.length < 3518437208883 then ((cadastreref09_Copies.f k (y232 ++ y246)).bind fun t254 => (some t254)) else (none))))) else (none))) else (none))) else (none)) else (none))
theorem cadastreref10_Put.mono : ∀ a0 a1 a2 k, LeO (cadastreref10_Put.f k a0 a1 a2) (cadastreref10_Put.f (k + 1) a0 a1 a2) := by
  intro a0 a1 a2 k
  unfold cadastreref10_Put.f
  repeat' first
      | (with_reducible exact cadastreref09_Copies.mono _ _)
      | (with_reducible exact cadastreref10_Find.mono _ _ _)
      | (with_reducible exact LeO.refl _)
      | (with_reducible exact LeO.none _)
      | (with_reducible refine LeO.ite ?_ ?_)
      | (with_reducible refine LeO.bind ?_ (fun _ => ?_))
      | exact cadastreref09_Copies.mono _ _
      | exact cadastreref10_Find.mono _ _ _
      | exact LeO.none _
      | refine LeO.ite ?_ ?_
      | refine LeO.bind ?_ (fun _ => ?_)
set_option maxHeartbeats 8000000 in
set_option maxRecDepth 100000 in
theorem cadastreref10_Put.calls (k : Nat) (P0_ : Nat → Prop) (A0 : Option Addr) (c0 : Nat) (l0 : List (S38)) (P1_0_ : Nat → Prop) (A1_0 : Option Addr) (c1_0 : Nat) (l1_0 : List Int) (a1_1 : ByteArray) (r : List (S38)) (w : World) (hs0 : Kd.V k38 38 w w.heap.size (fun k_ => P0_ k_) (.slice A0 l0.length c0) l0) (hs1_0 : Kd.V (Kd.int .u32) 51 w w.heap.size (fun k_ => P1_0_ k_) (.slice A1_0 l1_0.length c1_0) l1_0) (h : cadastreref10_Put.f k l0 l1_0 a1_1 = some r) :
    Calls Try.prog 27 #[.slice A0 l0.length c0, .agg #[.slice A1_0 l1_0.length c1_0, .string a1_1]] w fun e w' => ∃ v0_ : Value, e = .returned (v0_) ∧ Kd.N k38 38 w' w.heap.size (fun k_ => ((P0_ k_ ∨ P1_0_ k_) ∨ w.heap.size ≤ k_)) v0_ r ∧ Below w.heap.size w w' := by
  have hu38 := Try.underlying38
  have HO0 := Aside0.mk (show Kd.V k38 38 w w.heap.size (fun k_ => ((P0_ k_ ∨ P1_0_ k_) ∨ w.heap.size ≤ k_)) (.slice A0 l0.length c0) l0 from Kd.V_mono hs0 (fun k_ hk => .inl (.inl hk)))
  have HO1_0 := Aside0.mk (show Kd.V (Kd.int .u32) 51 w w.heap.size (fun k_ => ((P0_ k_ ∨ P1_0_ k_) ∨ w.heap.size ≤ k_)) (.slice A1_0 l1_0.length c1_0) l1_0 from Kd.V_mono hs1_0 (fun k_ hk => .inl (.inr hk)))
  have HB := Aside0.mk (Below.refl w.heap.size w)
  have H : ((cadastreref10_Find.f k l0 l1_0).bind fun bt222 => (if 0 ≤ bt222.1 then (if bt222.1 ≤ (l0.length : Int) then ((some (l0.take (bt222.1 : Int).toNat : List (S38))).bind fun y224 => (if ([] : List (S38)).length + y224.length < 3518437208883 then ((some (([] : List (S38)) ++ y224 : List (S38))).bind fun y229 => (if y229.length < 3518437208883 then ((some (y229 ++ [(⟨l1_0, a1_1⟩ : S38)] : List (S38))).bind fun y232 => (if bt222.2 = true then (if 0 ≤ (wrap64 (bt222.1 + 1)) then (if (wrap64 (bt222.1 + 1)) ≤ (l0.length : Int) then ((some (l0.drop ((wrap64 (bt222.1 + 1)) : Int).toNat : List (S38))).bind fun y235 => (if y232.length + y235.length < 3518437208883 then ((cadastreref09_Copies.f k (y232 ++ y235)).bind fun t243 => (some t243)) else (none))) else (none)) else (none)) else ((some (l0.drop (bt222.1 : Int).toNat : List (S38))).bind fun y246 => (if y232.length + y246.length < 3518437208883 then ((cadastreref09_Copies.f k (y232 ++ y246)).bind fun t254 => (some t254)) else (none))))) else (none))) else (none))) else (none)) else (none))) = some r := h
  clear h
  replace H := Option.bind_eq_some_iff.mp H
  obtain ⟨⟨t222, t223⟩, A30, H⟩ := H
  replace H : (if 0 ≤ t222 then (if t222 ≤ (l0.length : Int) then ((some (l0.take (t222 : Int).toNat : List (S38))).bind fun y224 => (if ([] : List (S38)).length + y224.length < 3518437208883 then ((some (([] : List (S38)) ++ y224 : List (S38))).bind fun y229 => (if y229.length < 3518437208883 then ((some (y229 ++ [(⟨l1_0, a1_1⟩ : S38)] : List (S38))).bind fun y232 => (if t223 = true then (if 0 ≤ (wrap64 (t222 + 1)) then (if (wrap64 (t222 + 1)) ≤ (l0.length : Int) then ((some (l0.drop ((wrap64 (t222 + 1)) : Int).toNat : List (S38))).bind fun y235 => (if y232.length + y235.length < 3518437208883 then ((cadastreref09_Copies.f k (y232 ++ y235)).bind fun t243 => (some t243)) else (none))) else (none)) else (none)) else ((some (l0.drop (t222 : Int).toNat : List (S38))).bind fun y246 => (if y232.length + y246.length < 3518437208883 then ((cadastreref09_Copies.f k (y232 ++ y246)).bind fun t254 => (some t254)) else (none))))) else (none))) else (none))) else (none)) else (none)) = some r := H
  have A3 := Aside0.mk A30
  clear A30
  by_cases c4 : 0 ≤ t222
  · rw [if_pos c4] at H
    have c4b0 := eq_true c4
    have c4b1 : decide (0 ≤ t222) = true := decide_eq_true c4
    clear c4
    by_cases c5 : t222 ≤ (l0.length : Int)
    · rw [if_pos c5] at H
      have c5b0 := eq_true c5
      have c5b1 : decide (t222 ≤ (l0.length : Int)) = true := decide_eq_true c5
      clear c5
      obtain ⟨y224, hy224⟩ : ∃ y_ : List (S38), y_ = (l0.take (t222 : Int).toNat) := ⟨_, rfl⟩
      replace H : (if ([] : List (S38)).length + y224.length < 3518437208883 then ((some (([] : List (S38)) ++ y224 : List (S38))).bind fun y229 => (if y229.length < 3518437208883 then ((some (y229 ++ [(⟨l1_0, a1_1⟩ : S38)] : List (S38))).bind fun y232 => (if t223 = true then (if 0 ≤ (wrap64 (t222 + 1)) then (if (wrap64 (t222 + 1)) ≤ (l0.length : Int) then ((some (l0.drop ((wrap64 (t222 + 1)) : Int).toNat : List (S38))).bind fun y235 => (if y232.length + y235.length < 3518437208883 then ((cadastreref09_Copies.f k (y232 ++ y235)).bind fun t243 => (some t243)) else (none))) else (none)) else (none)) else ((some (l0.drop (t222 : Int).toNat : List (S38))).bind fun y246 => (if y232.length + y246.length < 3518437208883 then ((cadastreref09_Copies.f k (y232 ++ y246)).bind fun t254 => (some t254)) else (none))))) else (none))) else (none)) = some r := by first | (rw [hy224]; with_reducible exact H) | (have H2_ := (Option.bind_some _ _).symm.trans H; rw [hy224]; with_reducible exact H2_) | (have H2_ := (Option.bind_some _ _).symm.trans H; with_reducible exact H2_) | with_reducible exact H | (rw [hy224]; exact H) | exact H
      have Ny224 := Aside0.mk hy224
      clear hy224
      by_cases c6 : ([] : List (S38)).length + y224.length < 3518437208883
      · rw [if_pos c6] at H
        have LMc6 := Aside0.mk c6
        clear c6
        obtain ⟨y229, hy229⟩ : ∃ y_ : List (S38), y_ = (([] : List (S38)) ++ y224) := ⟨_, rfl⟩
        replace H : (if y229.length < 3518437208883 then ((some (y229 ++ [(⟨l1_0, a1_1⟩ : S38)] : List (S38))).bind fun y232 => (if t223 = true then (if 0 ≤ (wrap64 (t222 + 1)) then (if (wrap64 (t222 + 1)) ≤ (l0.length : Int) then ((some (l0.drop ((wrap64 (t222 + 1)) : Int).toNat : List (S38))).bind fun y235 => (if y232.length + y235.length < 3518437208883 then ((cadastreref09_Copies.f k (y232 ++ y235)).bind fun t243 => (some t243)) else (none))) else (none)) else (none)) else ((some (l0.drop (t222 : Int).toNat : List (S38))).bind fun y246 => (if y232.length + y246.length < 3518437208883 then ((cadastreref09_Copies.f k (y232 ++ y246)).bind fun t254 => (some t254)) else (none))))) else (none)) = some r := by first | (rw [hy229]; with_reducible exact H) | (have H2_ := (Option.bind_some _ _).symm.trans H; rw [hy229]; with_reducible exact H2_) | (have H2_ := (Option.bind_some _ _).symm.trans H; with_reducible exact H2_) | with_reducible exact H | (rw [hy229]; exact H) | exact H
        have Ny229 := Aside0.mk hy229
        clear hy229
        by_cases c7 : y229.length < 3518437208883
        · rw [if_pos c7] at H
          have LMc7 := Aside0.mk c7
          clear c7
          obtain ⟨y232, hy232⟩ : ∃ y_ : List (S38), y_ = (y229 ++ [(⟨l1_0, a1_1⟩ : S38)]) := ⟨_, rfl⟩
          replace H : (if t223 = true then (if 0 ≤ (wrap64 (t222 + 1)) then (if (wrap64 (t222 + 1)) ≤ (l0.length : Int) then ((some (l0.drop ((wrap64 (t222 + 1)) : Int).toNat : List (S38))).bind fun y235 => (if y232.length + y235.length < 3518437208883 then ((cadastreref09_Copies.f k (y232 ++ y235)).bind fun t243 => (some t243)) else (none))) else (none)) else (none)) else ((some (l0.drop (t222 : Int).toNat : List (S38))).bind fun y246 => (if y232.length + y246.length < 3518437208883 then ((cadastreref09_Copies.f k (y232 ++ y246)).bind fun t254 => (some t254)) else (none)))) = some r := by first | (rw [hy232]; with_reducible exact H) | (have H2_ := (Option.bind_some _ _).symm.trans H; rw [hy232]; with_reducible exact H2_) | (have H2_ := (Option.bind_some _ _).symm.trans H; with_reducible exact H2_) | with_reducible exact H | (rw [hy232]; exact H) | exact H
          have Ny232 := Aside0.mk hy232
          clear hy232
          by_cases c8 : t223 = true
          · subst c8
            have H1 : (if 0 ≤ (wrap64 (t222 + 1)) then (if (wrap64 (t222 + 1)) ≤ (l0.length : Int) then ((some (l0.drop ((wrap64 (t222 + 1)) : Int).toNat : List (S38))).bind fun y235 => (if y232.length + y235.length < 3518437208883 then ((cadastreref09_Copies.f k (y232 ++ y235)).bind fun t243 => (some t243)) else (none))) else (none)) else (none)) = some r := by rw [if_pos rfl] at H; exact H
            clear H
            have H := H1
            clear H1
            obtain ⟨ji9, hji9⟩ : ∃ j_ : Int, (wrap64 (t222 + 1)) = j_ := ⟨_, rfl⟩
            replace H : (if 0 ≤ (ji9) then (if (ji9) ≤ (l0.length : Int) then ((some (l0.drop ((ji9) : Int).toNat : List (S38))).bind fun y235 => (if y232.length + y235.length < 3518437208883 then ((cadastreref09_Copies.f k (y232 ++ y235)).bind fun t243 => (some t243)) else (none))) else (none)) else (none)) = some r := by first | (rw [hji9] at H; exact H) | (simp only [hji9] at H ⊢; exact H)
            (try rw [hji9] at A3)
            have hji9w : (IntKind.i64.wrap (t222 + 1)) = ji9 := (i64_w _).trans hji9
            by_cases c10 : 0 ≤ (ji9)
            · rw [if_pos c10] at H
              have c10b0 := eq_true c10
              have c10b1 : decide (0 ≤ (ji9)) = true := decide_eq_true c10
              clear c10
              by_cases c11 : (ji9) ≤ (l0.length : Int)
              · rw [if_pos c11] at H
                have c11b0 := eq_true c11
                have c11b1 : decide ((ji9) ≤ (l0.length : Int)) = true := decide_eq_true c11
                clear c11
                obtain ⟨y235, hy235⟩ : ∃ y_ : List (S38), y_ = (l0.drop ((ji9) : Int).toNat) := ⟨_, rfl⟩
                replace H : (if y232.length + y235.length < 3518437208883 then ((cadastreref09_Copies.f k (y232 ++ y235)).bind fun t243 => (some t243)) else (none)) = some r := by first | (rw [hy235]; with_reducible exact H) | (have H2_ := (Option.bind_some _ _).symm.trans H; rw [hy235]; with_reducible exact H2_) | (have H2_ := (Option.bind_some _ _).symm.trans H; with_reducible exact H2_) | with_reducible exact H | (rw [hy235]; exact H) | exact H
                have Ny235 := Aside0.mk hy235
                clear hy235
                by_cases c12 : y232.length + y235.length < 3518437208883
                · rw [if_pos c12] at H
                  have LMc12 := Aside0.mk c12
                  clear c12
                  obtain ⟨y240, hy240⟩ : ∃ y_ : List (S38), y_ = (y232 ++ y235) := ⟨_, rfl⟩
                  replace H : ((cadastreref09_Copies.f k y240).bind fun t243 => (some t243)) = some r := by first | (rw [hy240]; with_reducible exact H) | (have H2_ := (Option.bind_some _ _).symm.trans H; rw [hy240]; with_reducible exact H2_) | (have H2_ := (Option.bind_some _ _).symm.trans H; with_reducible exact H2_) | with_reducible exact H | (rw [hy240]; exact H) | exact H
                  have Ny240 := Aside0.mk hy240
                  clear hy240
                  replace H := Option.bind_eq_some_iff.mp H
                  obtain ⟨t243, A130, H⟩ := H
                  replace H : (some t243) = some r := H
                  have A13 := Aside0.mk A130
                  clear A130
                  obtain rfl := Option.some.inj H
                  go_enter Try.func27, Try.ntmps27
                  go_wp2_with (first | ((with_reducible refine gate_dst (N := 3) rfl ?_); refine box_event ?hg (N := 3) ?hd (cs := #[.slice A1_0 l1_0.length c1_0, .string a1_1]) (t := 38) ?hr ?_; (case hd => rfl); (case hg => rfl); (case hr => first | (go_simp; done) | (go_simp; rfl)); intro gb221 hg w14 hbox hb; have n0_ := Aside0.mk (Kd.V_below (Kd.V_elderB (by (with_reducible repeat (first | apply Kd.V_alloc | apply Kd.V_drewN | apply Kd.V_drew)); exact HO0.out) gb221 (Nat.le_of_eq hg.symm)) hb); have n1_ := Aside0.mk (Kd.V_below (Kd.V_elderB (by (with_reducible repeat (first | apply Kd.V_alloc | apply Kd.V_drewN | apply Kd.V_drew)); exact HO1_0.out) gb221 (Nat.le_of_eq hg.symm)) hb); have n2_ := Aside0.mk (below_step (by repeat (first | (with_reducible first | exact HB.out | apply below_alloc | apply pw_below_drewN | apply below_drew1) | exact HB.out)) hb); have n3_ := Aside0.mk (hbox); have n4_ := Aside0.mk ((by rw [hg]; exact (below_size (by repeat (first | (with_reducible first | exact HB.out | apply below_alloc | apply pw_below_drewN | apply below_drew1) | exact HB.out))) : w.heap.size ≤ gb221)); have n5_ := Aside0.mk ((by rw [hg]; exact (below_size (by repeat (first | (with_reducible first | exact HB.out | apply below_alloc | apply pw_below_drewN | apply below_drew1) | exact HB.out))) : w.heap.size ≤ gb221)); clear HO0; clear HO1_0; clear HB; have HO0 := n0_; have HO1_0 := n1_; have HB := n2_; have BK221 := n3_; have GW221 := n4_; have GE221 := n5_; clear n0_ n1_ n2_ n3_ n4_ n5_; clear hb hbox hg; have hcz15_0 : w14.cell? ⟨gb221, 0, none⟩ = some (.slice A1_0 l1_0.length c1_0) := (blk_cell BK221.out 0).trans rfl; have hcz15_1 : w14.cell? ⟨gb221, 1, none⟩ = some (.string a1_1) := (blk_cell BK221.out 1).trans rfl; have hfz15_0 := blk_frozen BK221.out 0; have hfz15_1 := blk_frozen BK221.out 1) | ((with_reducible refine gate_callee (f := 26) rfl ?_); refine goesL_ (some 12) rfl rfl Try.func26 (by kernel_rfl) rfl #[.slice A0 l0.length c0, .slice A1_0 l1_0.length c1_0] rfl (by (try simp only [List.map_toArray, List.map_cons, List.map_nil]); first | done | rfl | (simp only [List.length_drop, List.length_take]; rfl)) ?_; (with_reducible refine (cadastreref10_Find.calls k _ _ l0 _ _ l1_0 t222 true _ ?side1 ?side2 ?side3 ?side4 A3.out).mono ?_); (case side1 => repeat (first | exact (Kd.V_reads' HO0.out).2.2 | (with_reducible refine Kd.C_alloc ?_ _) | (with_reducible refine Kd.C_drewN ?_ _) | (with_reducible refine Kd.C_drew ?_))); (case side2 => exact (Kd.V_reads' HO0.out).2.1); (case side3 => repeat (first | exact (Kd.V_reads' HO1_0.out).2.2 | (with_reducible refine Kd.C_alloc ?_ _) | (with_reducible refine Kd.C_drewN ?_ _) | (with_reducible refine Kd.C_drew ?_))); (case side4 => exact (Kd.V_reads' HO1_0.out).2.1); rintro e w' ⟨rfl, ⟨nd, rfl⟩⟩; refine ⟨_, rfl, ?_⟩; have q16 : (t222 : Int) ≤ ((l0.length : Int) : Int) := of_decide_eq_true (by first | (with_reducible assumption) | assumption); obtain ⟨i016, hi016, _, hsz16, _⟩ := info_parts info38; have hroom16 : l0.length ≤ c0 := (Kd.V_reads' HO0.out).2.1; have hC16 : Kd.F k38 _ _ A0 l0.length l0 := (Kd.V_at (base := w.heap.size) HO0.out).2.2; have hcut16 := cut_to (P := Try.prog) 22 38 .i64 Try.underlying22 hi016 A0 l0.length c0 t222 (of_decide_eq_true (by first | (with_reducible assumption) | assumption)) q16 hroom16; have hr16 := Kd.F_take (m := (t222 : Int).toNat) hC16 (by omega); have hy16 : y224.length = (t222 : Int).toNat := (by rw [Ny224.out, List.length_take]; omega); rw [← Ny224.out] at hr16; rw [← hy16] at hcut16; have HO228 := Aside0.mk (show Kd.V k38 38 _ w.heap.size _ (.slice A0 y224.length c0) y224 from Kd.V_mk (by omega) hr16); have HC228 := Aside0.mk (show y224.length ≤ c0 from by omega); clear hr16 hC16 hroom16 hi016 hsz16; have KY16 := Aside0.mk hy16; clear hy16; replace q16 := eq_true q16) | ((with_reducible refine gate_builtin (b := .append) (xs := #[.tmp 15, .tmp 18]) rfl ?_); at_builtin; refine Kd.N_append_rows k38 (w0 := w) w.heap.size rfl (.tmp 15) (.tmp 18) 22 38 (.agg #[(.slice none 0 0), (.string ⟨#[]⟩)]) 40 rfl Try.underlying22 info38 rfl (by decide) (by omega) (.slice none 0 0) ([] : List (S38)) y224 _ _ _ (fun k_ => ((P0_ k_ ∨ P1_0_ k_) ∨ w.heap.size ≤ k_) ∧ k_ ≠ gb221) (fun k_ => ((fun k_ => ((P0_ k_ ∨ P1_0_ k_) ∨ w.heap.size ≤ k_) ∧ k_ ≠ gb221)) k_ ∧ some k_ ≠ (.slice none 0 0 : Value).ownBlock) rfl rfl ?aO ?aR (fun _ hk => hk) ?aF ?aB ?aS ?aL ?_; (case aR => exact (by skip; first | exact Kd.V_F (e := 38) (base := w.heap.size) (Kd.V_mono (ok' := (fun k_ => ((fun k_ => ((P0_ k_ ∨ P1_0_ k_) ∨ w.heap.size ≤ k_) ∧ k_ ≠ gb221)) k_ ∧ some k_ ≠ (.slice none 0 0 : Value).ownBlock)) (HO228.out) (fun k_ hk => ⟨⟨hk.1, hk.2⟩, (by simp [Value.ownBlock])⟩)) | exact Kd.V_F (e := 38) (base := w.heap.size) (Kd.V_mono (ok' := (fun k_ => ((fun k_ => ((P0_ k_ ∨ P1_0_ k_) ∨ w.heap.size ≤ k_) ∧ k_ ≠ gb221)) k_ ∧ some k_ ≠ (.slice none 0 0 : Value).ownBlock)) (Kd.V_drewN HO228.out _) (fun k_ hk => ⟨⟨hk.1, hk.2⟩, (by simp [Value.ownBlock])⟩)))); (case aB => exact (by repeat (first | (with_reducible first | exact HB.out | apply below_alloc | apply pw_below_drewN | apply below_drew1 | refine below_set ?_ GE221.out) | exact HB.out))); (case aF => exact (fun k_ hk => ⟨(.inr (Nat.le_trans (below_size (by repeat (first | (with_reducible first | exact HB.out | apply below_alloc | apply pw_below_drewN | apply below_drew1 | refine below_set ?_ GE221.out) | exact HB.out))) hk)), Kd.freshB (g := gb221) (o := .cells #[.slice A1_0 l1_0.length c1_0, .string a1_1] 38 (0, 0)) (by (with_reducible repeat (first | refine blk_drewN ?_ _ | refine blk_drew ?_ | refine blk_alloc ?_ _)); exact BK221.out) k_ hk⟩)); (case aO => exact ((Kd.N_nil _ _ _ _ (fun k_ => ((P0_ k_ ∨ P1_0_ k_) ∨ w.heap.size ≤ k_) ∧ k_ ≠ gb221)))); (case aS => exact (below_size (by repeat (first | (with_reducible first | exact HB.out | apply below_alloc | apply pw_below_drewN | apply below_drew1 | refine below_set ?_ GE221.out) | exact HB.out)))); (case aL => have := LMc6.out; omega); intro v230 w17 ho hb hg hat; rw [← Ny229.out] at ho; have n0_ := Aside0.mk (Kd.V_afterv (Kd.V_apart_nil (by (with_reducible repeat (first | apply Kd.V_alloc | apply Kd.V_drewN | apply Kd.V_drew)); exact HO0.out)) hg hat); have n1_ := Aside0.mk (Kd.V_afterv (Kd.V_apart_nil (by (with_reducible repeat (first | apply Kd.V_alloc | apply Kd.V_drewN | apply Kd.V_drew)); exact HO1_0.out)) hg hat); have n2_ := Aside0.mk (blk_grown (g := gb221) (o := .cells #[.slice A1_0 l1_0.length c1_0, .string a1_1] 38 (0, 0)) (by (with_reducible repeat (first | refine blk_drewN ?_ _ | refine blk_drew ?_ | refine blk_alloc ?_ _)); exact BK221.out) hg (by simp [Value.ownBlock])); have n3_ := Aside0.mk (Kd.V_afterv (Kd.V_apart_nil (by (with_reducible repeat (first | apply Kd.V_alloc | apply Kd.V_drewN | apply Kd.V_drew)); exact HO228.out)) hg hat); have n4_ := Aside0.mk (hb); have n5_ := Aside0.mk (ho); clear HO0; clear HO1_0; clear BK221; clear HO228; clear HB; have HO0 := n0_; have HO1_0 := n1_; have BK221 := n2_; have HO228 := n3_; have HB := n4_; have HO231 := n5_; clear n0_ n1_ n2_ n3_ n4_ n5_; clear ho hb hg hat; have hcz18_0 : w17.cell? ⟨gb221, 0, none⟩ = some (.slice A1_0 l1_0.length c1_0) := (blk_cell BK221.out 0).trans rfl; have hcz18_1 : w17.cell? ⟨gb221, 1, none⟩ = some (.string a1_1) := (blk_cell BK221.out 1).trans rfl; have hfz18_0 := blk_frozen BK221.out 0; have hfz18_1 := blk_frozen BK221.out 1) | ((with_reducible refine gate_builtin (b := .append) (xs := #[.tmp 20, .tmp 22]) rfl ?_); at_builtin; refine Kd.N_append k38 (w0 := w) w.heap.size rfl (.tmp 20) (.tmp 22) 22 38 (.agg #[(.slice none 0 0), (.string ⟨#[]⟩)]) 40 rfl Try.underlying22 info38 rfl (by decide) (by omega) v230 y229 (⟨l1_0, a1_1⟩ : S38) [.slice A1_0 l1_0.length c1_0, .string a1_1] (fun k_ => ((P0_ k_ ∨ P1_0_ k_) ∨ w.heap.size ≤ k_) ∧ k_ ≠ gb221) (fun k_ => ((fun k_ => ((P0_ k_ ∨ P1_0_ k_) ∨ w.heap.size ≤ k_) ∧ k_ ≠ gb221)) k_ ∧ some k_ ≠ (v230 : Value).ownBlock) rfl rfl ?aP (fun _ hk => hk) ?aF ?aO ?aB ?aS ?aL ?_; (case aP => exact (k38_mkF _ _ (⟨l1_0, a1_1⟩ : S38) (Kd.V_reads' (Kd.V_mono (ok' := (fun k_ => ((fun k_ => ((P0_ k_ ∨ P1_0_ k_) ∨ w.heap.size ≤ k_) ∧ k_ ≠ gb221)) k_ ∧ some k_ ≠ (v230 : Value).ownBlock)) (HO1_0.out) (fun k_ hk => ⟨⟨hk.1.1, hk.1.2⟩, hk.2⟩))).2.1 (Kd.V_F (Kd.V_mono (ok' := (fun k_ => ((fun k_ => ((P0_ k_ ∨ P1_0_ k_) ∨ w.heap.size ≤ k_) ∧ k_ ≠ gb221)) k_ ∧ some k_ ≠ (v230 : Value).ownBlock)) (HO1_0.out) (fun k_ hk => ⟨⟨hk.1.1, hk.1.2⟩, hk.2⟩))))); (case aB => exact (by repeat (first | (with_reducible first | exact HB.out | apply below_alloc | apply pw_below_drewN | apply below_drew1 | refine below_set ?_ GE221.out) | exact HB.out))); (case aF => exact (fun k_ hk => ⟨(.inr (Nat.le_trans (below_size (by repeat (first | (with_reducible first | exact HB.out | apply below_alloc | apply pw_below_drewN | apply below_drew1 | refine below_set ?_ GE221.out) | exact HB.out))) hk)), Kd.freshB (g := gb221) (o := .cells #[.slice A1_0 l1_0.length c1_0, .string a1_1] 38 (0, 0)) (by (with_reducible repeat (first | refine blk_drewN ?_ _ | refine blk_drew ?_ | refine blk_alloc ?_ _)); exact BK221.out) k_ hk⟩)); (case aO => exact (by (with_reducible repeat (first | apply Kd.N_alloc | apply Kd.N_drewN | apply Kd.N_drew)); exact HO231.out)); (case aS => exact (below_size (by repeat (first | (with_reducible first | exact HB.out | apply below_alloc | apply pw_below_drewN | apply below_drew1 | refine below_set ?_ GE221.out) | exact HB.out)))); (case aL => have := LMc7.out; omega); intro v233 w19 ho hb hg hat; rw [← Ny232.out] at ho; have n0_ := Aside0.mk (Kd.V_afterv (ok := (fun k_ => ((P0_ k_ ∨ P1_0_ k_) ∨ w.heap.size ≤ k_) ∧ k_ ≠ gb221)) (by (with_reducible repeat (first | apply Kd.V_alloc | apply Kd.V_drewN | apply Kd.V_drew)); exact HO0.out) hg hat); have n1_ := Aside0.mk (Kd.V_afterv (ok := (fun k_ => ((P0_ k_ ∨ P1_0_ k_) ∨ w.heap.size ≤ k_) ∧ k_ ≠ gb221)) (by (with_reducible repeat (first | apply Kd.V_alloc | apply Kd.V_drewN | apply Kd.V_drew)); exact HO1_0.out) hg hat); have n2_ := Aside0.mk (blk_grown (g := gb221) (o := .cells #[.slice A1_0 l1_0.length c1_0, .string a1_1] 38 (0, 0)) (by (with_reducible repeat (first | refine blk_drewN ?_ _ | refine blk_drew ?_ | refine blk_alloc ?_ _)); exact BK221.out) hg (Kd.N_away HO231.out (fun _ hk => hk.2))); have n3_ := Aside0.mk (Kd.V_afterv (ok := (fun k_ => ((P0_ k_ ∨ P1_0_ k_) ∨ w.heap.size ≤ k_) ∧ k_ ≠ gb221)) (by (with_reducible repeat (first | apply Kd.V_alloc | apply Kd.V_drewN | apply Kd.V_drew)); exact HO228.out) hg hat); have n4_ := Aside0.mk (hb); have n5_ := Aside0.mk (ho); clear HO0; clear HO1_0; clear BK221; clear HO228; clear HB; clear HO231; have HO0 := n0_; have HO1_0 := n1_; have BK221 := n2_; have HO228 := n3_; have HB := n4_; have HO234 := n5_; clear n0_ n1_ n2_ n3_ n4_ n5_; clear ho hb hg hat; have q20 : ((ji9) : Int) ≤ ((l0.length : Int) : Int) := of_decide_eq_true (by first | (with_reducible assumption) | assumption); obtain ⟨i020, hi020, _, hsz20, _⟩ := info_parts info38; have hroom20 : l0.length ≤ c0 := (Kd.V_reads' HO0.out).2.1; have hC20 : Kd.F k38 _ _ A0 l0.length l0 := (Kd.V_at (base := w.heap.size) HO0.out).2.2; have q020 : (0 : Int) ≤ ((ji9) : Int) := of_decide_eq_true (by first | (with_reducible assumption) | assumption); have hcut20 := cut_from (P := Try.prog) 22 38 .i64 Try.underlying22 hi020 2 hsz20 A0 l0.length c0 (ji9) q020 q20; have hr20 := Kd.F_cut (m := ((ji9) : Int).toNat) (c := c0) hC20 (by omega) hroom20; obtain ⟨A20, hA20⟩ : ∃ A1, A1 = (if c0 = ((ji9) : Int).toNat then A0 else (A0 : Option Addr).map (·.add (((ji9) : Int).toNat * 2))) := ⟨_, rfl⟩; obtain ⟨c20, hc20⟩ : ∃ c1, c1 = c0 - ((ji9) : Int).toNat := ⟨_, rfl⟩; have hy20 : y235.length = l0.length - ((ji9) : Int).toNat := (by rw [Ny235.out, List.length_drop] <;> omega); rw [show (l0).drop ((ji9) : Int).toNat = y235 from Ny235.out.symm] at hr20; replace hr20 : Kd.F k38 _ _ A20 y235.length y235 := (by rw [hA20]; exact hr20); rw [← hy20, ← hA20, ← hc20] at hcut20; have HO239 := Aside0.mk (show Kd.V k38 38 _ w.heap.size _ (.slice A20 y235.length c20) y235 from Kd.V_mk (by rw [hy20, hc20]; exact Nat.sub_le_sub_right hroom20 _) hr20); have HC239 := Aside0.mk (show y235.length ≤ c20 from by rw [hy20, hc20]; exact Nat.sub_le_sub_right hroom20 _); clear hr20 hC20 hroom20 hi020 hsz20 hc20; have KY20 := Aside0.mk hy20; have KA20 := Aside0.mk hA20; clear hy20 hA20; replace q20 := eq_true q20) | ((with_reducible refine gate_builtin (b := .append) (xs := #[.tmp 27, .tmp 30]) rfl ?_); at_builtin; refine Kd.N_append_rows k38 (w0 := w) w.heap.size rfl (.tmp 27) (.tmp 30) 22 38 (.agg #[(.slice none 0 0), (.string ⟨#[]⟩)]) 40 rfl Try.underlying22 info38 rfl (by decide) (by omega) v233 y232 y235 _ _ _ (fun k_ => ((P0_ k_ ∨ P1_0_ k_) ∨ w.heap.size ≤ k_) ∧ k_ ≠ gb221) (fun k_ => ((fun k_ => ((P0_ k_ ∨ P1_0_ k_) ∨ w.heap.size ≤ k_) ∧ k_ ≠ gb221)) k_ ∧ some k_ ≠ (v233 : Value).ownBlock) rfl rfl ?aO ?aR (fun _ hk => hk) ?aF ?aB ?aS ?aL ?_; (case aR => exact (by skip; first | exact Kd.V_F (e := 38) (base := w.heap.size) (Kd.V_mono (ok' := (fun k_ => ((fun k_ => ((P0_ k_ ∨ P1_0_ k_) ∨ w.heap.size ≤ k_) ∧ k_ ≠ gb221)) k_ ∧ some k_ ≠ (v233 : Value).ownBlock)) (HO239.out) (fun k_ hk => ⟨⟨hk.1.1, hk.1.2⟩, hk.2⟩)) | exact Kd.V_F (e := 38) (base := w.heap.size) (Kd.V_mono (ok' := (fun k_ => ((fun k_ => ((P0_ k_ ∨ P1_0_ k_) ∨ w.heap.size ≤ k_) ∧ k_ ≠ gb221)) k_ ∧ some k_ ≠ (v233 : Value).ownBlock)) (Kd.V_drewN HO239.out _) (fun k_ hk => ⟨⟨hk.1.1, hk.1.2⟩, hk.2⟩)))); (case aB => exact (by repeat (first | (with_reducible first | exact HB.out | apply below_alloc | apply pw_below_drewN | apply below_drew1 | refine below_set ?_ GE221.out) | exact HB.out))); (case aF => exact (fun k_ hk => ⟨(.inr (Nat.le_trans (below_size (by repeat (first | (with_reducible first | exact HB.out | apply below_alloc | apply pw_below_drewN | apply below_drew1 | refine below_set ?_ GE221.out) | exact HB.out))) hk)), Kd.freshB (g := gb221) (o := .cells #[.slice A1_0 l1_0.length c1_0, .string a1_1] 38 (0, 0)) (by (with_reducible repeat (first | refine blk_drewN ?_ _ | refine blk_drew ?_ | refine blk_alloc ?_ _)); exact BK221.out) k_ hk⟩)); (case aO => exact (by (with_reducible repeat (first | apply Kd.N_alloc | apply Kd.N_drewN | apply Kd.N_drew)); exact HO234.out)); (case aS => exact (below_size (by repeat (first | (with_reducible first | exact HB.out | apply below_alloc | apply pw_below_drewN | apply below_drew1 | refine below_set ?_ GE221.out) | exact HB.out)))); (case aL => have := LMc12.out; omega); intro v241 w21 ho hb hg hat; rw [← Ny240.out] at ho; have n0_ := Aside0.mk (Kd.V_afterv (ok := (fun k_ => ((P0_ k_ ∨ P1_0_ k_) ∨ w.heap.size ≤ k_) ∧ k_ ≠ gb221)) (by (with_reducible repeat (first | apply Kd.V_alloc | apply Kd.V_drewN | apply Kd.V_drew)); exact HO0.out) hg hat); have n1_ := Aside0.mk (Kd.V_afterv (ok := (fun k_ => ((P0_ k_ ∨ P1_0_ k_) ∨ w.heap.size ≤ k_) ∧ k_ ≠ gb221)) (by (with_reducible repeat (first | apply Kd.V_alloc | apply Kd.V_drewN | apply Kd.V_drew)); exact HO1_0.out) hg hat); have n2_ := Aside0.mk (blk_grown (g := gb221) (o := .cells #[.slice A1_0 l1_0.length c1_0, .string a1_1] 38 (0, 0)) (by (with_reducible repeat (first | refine blk_drewN ?_ _ | refine blk_drew ?_ | refine blk_alloc ?_ _)); exact BK221.out) hg (Kd.N_away HO234.out (fun _ hk => hk.2))); have n3_ := Aside0.mk (Kd.V_afterv (ok := (fun k_ => ((P0_ k_ ∨ P1_0_ k_) ∨ w.heap.size ≤ k_) ∧ k_ ≠ gb221)) (by (with_reducible repeat (first | apply Kd.V_alloc | apply Kd.V_drewN | apply Kd.V_drew)); exact HO228.out) hg hat); have n4_ := Aside0.mk (Kd.V_afterv (ok := (fun k_ => ((P0_ k_ ∨ P1_0_ k_) ∨ w.heap.size ≤ k_) ∧ k_ ≠ gb221)) (by (with_reducible repeat (first | apply Kd.V_alloc | apply Kd.V_drewN | apply Kd.V_drew)); exact HO239.out) hg hat); have n5_ := Aside0.mk (hb); have n6_ := Aside0.mk (ho); clear HO0; clear HO1_0; clear BK221; clear HO228; clear HO239; clear HB; clear HO234; have HO0 := n0_; have HO1_0 := n1_; have BK221 := n2_; have HO228 := n3_; have HO239 := n4_; have HB := n5_; have HO242 := n6_; clear n0_ n1_ n2_ n3_ n4_ n5_ n6_; clear ho hb hg hat; obtain ⟨Ao22, co22, eo22⟩ := Kd.N_slice HO242.out; subst eo22) | ((with_reducible refine gate_callee (f := 21) rfl ?_); refine goesL_ (some 33) rfl rfl Try.func21 (by kernel_rfl) rfl #[.slice Ao22 y240.length co22] rfl (by (try simp only [List.map_toArray, List.map_cons, List.map_nil]); first | done | rfl | (simp only [List.length_drop, List.length_take]; rfl)) ?_; (with_reducible refine (cadastreref09_Copies.calls k _ _ y240 t243 _ ?side1 ?side2 A13.out).mono ?_); (case side1 => repeat (first | exact (Kd.N_reads' HO242.out).2.2 | (with_reducible refine Kd.C_alloc ?_ _) | (with_reducible refine Kd.C_drewN ?_ _) | (with_reducible refine Kd.C_drew ?_))); (case side2 => exact (Kd.N_reads' HO242.out).2.1); rintro e w23 ⟨v244, rfl, ho0, hb⟩; refine ⟨_, rfl, ?_⟩; have n0_ := Aside0.mk (Kd.V_elder' (by (with_reducible repeat (first | apply Kd.V_alloc | apply Kd.V_drewN | apply Kd.V_drew)); exact HO0.out) (by first | exact Kd.N_base ho0 | exact Kd.S_base ho0) hb); have n1_ := Aside0.mk (Kd.V_elder' (by (with_reducible repeat (first | apply Kd.V_alloc | apply Kd.V_drewN | apply Kd.V_drew)); exact HO1_0.out) (by first | exact Kd.N_base ho0 | exact Kd.S_base ho0) hb); have n2_ := Aside0.mk (Kd.V_elder' (by (with_reducible repeat (first | apply Kd.V_alloc | apply Kd.V_drewN | apply Kd.V_drew)); exact HO228.out) (by first | exact Kd.N_base ho0 | exact Kd.S_base ho0) hb); have n3_ := Aside0.mk (Kd.V_elder' (by (with_reducible repeat (first | apply Kd.V_alloc | apply Kd.V_drewN | apply Kd.V_drew)); exact HO239.out) (by first | exact Kd.N_base ho0 | exact Kd.S_base ho0) hb); have n4_ := Aside0.mk (Kd.N_elder' (by (with_reducible repeat (first | apply Kd.N_alloc | apply Kd.N_drewN | apply Kd.N_drew)); exact HO242.out) (by first | exact Kd.N_base ho0 | exact Kd.S_base ho0) hb); have n5_ := Aside0.mk (Kd.N_lower (Kd.N_mono (ok' := fun k_ => ((P0_ k_ ∨ P1_0_ k_) ∨ w.heap.size ≤ k_) ∧ some k_ ≠ (.slice Ao22 y240.length co22 : Value).ownBlock ∧ k_ ≠ gb221) (Kd.S_N (Kd.S_bound ho0)) (fun k_ hk_ => ⟨(.inr (Nat.le_trans (below_size (by repeat (first | (with_reducible first | exact HB.out | apply below_alloc | apply pw_below_drewN | apply below_drew1 | refine below_set ?_ GE221.out) | exact HB.out))) hk_.2.1)), (Kd.fresh' (Kd.N_lt (by (with_reducible repeat (first | apply Kd.N_alloc | apply Kd.N_drewN | apply Kd.N_drew)); exact HO242.out)) k_ hk_.2.1), (Kd.freshB (g := gb221) (o := .cells #[.slice A1_0 l1_0.length c1_0, .string a1_1] 38 (0, 0)) (by (with_reducible repeat (first | refine blk_drewN ?_ _ | refine blk_drew ?_ | refine blk_alloc ?_ _)); exact BK221.out) k_ hk_.2.1)⟩)) (below_size (by repeat (first | (with_reducible first | exact HB.out | apply below_alloc | apply pw_below_drewN | apply below_drew1 | refine below_set ?_ GE221.out) | exact HB.out)))); have n6_ := Aside0.mk (blk_below (g := gb221) (o := .cells #[.slice A1_0 l1_0.length c1_0, .string a1_1] 38 (0, 0)) (by (with_reducible repeat (first | refine blk_drewN ?_ _ | refine blk_drew ?_ | refine blk_alloc ?_ _)); exact BK221.out) hb); have n7_ := Aside0.mk (below_step (by repeat (first | (with_reducible first | exact HB.out | apply below_alloc | apply pw_below_drewN | apply below_drew1 | refine below_set ?_ GE221.out) | exact HB.out)) hb); clear HO0; clear HO1_0; clear HO228; clear HO239; clear HO242; clear BK221; clear HB; have HO0 := n0_; have HO1_0 := n1_; have HO228 := n2_; have HO239 := n3_; have HO242 := n4_; have HO245 := n5_; have BK221 := n6_; have HB := n7_; clear n0_ n1_ n2_ n3_ n4_ n5_ n6_ n7_; (try clear hb); (try clear hb2); (try clear hk); (try clear hi); (try clear ho0)))
                  go_ret
                  exact ⟨_, by first | rfl | (simp [errW_none, errW_some] <;> rfl) | (simp only [← hji9]; first | rfl | (simp [errW_none, errW_some] <;> rfl)) | (simp [*, errW_none, errW_some] <;> rfl), by (with_reducible repeat (first | apply Kd.N_alloc | apply Kd.N_drewN | apply Kd.N_drew)); exact Kd.N_mono HO245.out (fun _ hk => hk.1), by repeat (first | (with_reducible first | exact HB.out | apply below_alloc | apply pw_below_drewN | apply below_drew1 | refine below_set ?_ GE221.out) | exact HB.out)⟩
                · rw [if_neg c12] at H
                  exact absurd H (by simp)
              · rw [if_neg c11] at H
                exact absurd H (by simp)
            · rw [if_neg c10] at H
              exact absurd H (by simp)
          · replace c8 := Bool.eq_false_iff.mpr c8
            subst c8
            have H1 : ((some (l0.drop (t222 : Int).toNat : List (S38))).bind fun y246 => (if y232.length + y246.length < 3518437208883 then ((cadastreref09_Copies.f k (y232 ++ y246)).bind fun t254 => (some t254)) else (none))) = some r := by rw [if_neg (show ¬ (false = true) by decide)] at H; exact H
            clear H
            have H := H1
            clear H1
            have c24b0 := eq_true (of_decide_eq_true (by first | (with_reducible assumption) | assumption) : 0 ≤ t222)
            have c25b0 := eq_true (of_decide_eq_true (by first | (with_reducible assumption) | assumption) : t222 ≤ (l0.length : Int))
            obtain ⟨y246, hy246⟩ : ∃ y_ : List (S38), y_ = (l0.drop (t222 : Int).toNat) := ⟨_, rfl⟩
            replace H : (if y232.length + y246.length < 3518437208883 then ((cadastreref09_Copies.f k (y232 ++ y246)).bind fun t254 => (some t254)) else (none)) = some r := by first | (rw [hy246]; with_reducible exact H) | (have H2_ := (Option.bind_some _ _).symm.trans H; rw [hy246]; with_reducible exact H2_) | (have H2_ := (Option.bind_some _ _).symm.trans H; with_reducible exact H2_) | with_reducible exact H | (rw [hy246]; exact H) | exact H
            have Ny246 := Aside0.mk hy246
            clear hy246
            by_cases c26 : y232.length + y246.length < 3518437208883
            · rw [if_pos c26] at H
              have LMc26 := Aside0.mk c26
              clear c26
              obtain ⟨y251, hy251⟩ : ∃ y_ : List (S38), y_ = (y232 ++ y246) := ⟨_, rfl⟩
              replace H : ((cadastreref09_Copies.f k y251).bind fun t254 => (some t254)) = some r := by first | (rw [hy251]; with_reducible exact H) | (have H2_ := (Option.bind_some _ _).symm.trans H; rw [hy251]; with_reducible exact H2_) | (have H2_ := (Option.bind_some _ _).symm.trans H; with_reducible exact H2_) | with_reducible exact H | (rw [hy251]; exact H) | exact H
              have Ny251 := Aside0.mk hy251
              clear hy251
              replace H := Option.bind_eq_some_iff.mp H
              obtain ⟨t254, A270, H⟩ := H
              replace H : (some t254) = some r := H
              have A27 := Aside0.mk A270
              clear A270
              obtain rfl := Option.some.inj H
              go_enter Try.func27, Try.ntmps27
              go_wp2_with (first | ((with_reducible refine gate_dst (N := 3) rfl ?_); refine box_event ?hg (N := 3) ?hd (cs := #[.slice A1_0 l1_0.length c1_0, .string a1_1]) (t := 38) ?hr ?_; (case hd => rfl); (case hg => rfl); (case hr => first | (go_simp; done) | (go_simp; rfl)); intro gb221 hg w28 hbox hb; have n0_ := Aside0.mk (Kd.V_below (Kd.V_elderB (by (with_reducible repeat (first | apply Kd.V_alloc | apply Kd.V_drewN | apply Kd.V_drew)); exact HO0.out) gb221 (Nat.le_of_eq hg.symm)) hb); have n1_ := Aside0.mk (Kd.V_below (Kd.V_elderB (by (with_reducible repeat (first | apply Kd.V_alloc | apply Kd.V_drewN | apply Kd.V_drew)); exact HO1_0.out) gb221 (Nat.le_of_eq hg.symm)) hb); have n2_ := Aside0.mk (below_step (by repeat (first | (with_reducible first | exact HB.out | apply below_alloc | apply pw_below_drewN | apply below_drew1) | exact HB.out)) hb); have n3_ := Aside0.mk (hbox); have n4_ := Aside0.mk ((by rw [hg]; exact (below_size (by repeat (first | (with_reducible first | exact HB.out | apply below_alloc | apply pw_below_drewN | apply below_drew1) | exact HB.out))) : w.heap.size ≤ gb221)); have n5_ := Aside0.mk ((by rw [hg]; exact (below_size (by repeat (first | (with_reducible first | exact HB.out | apply below_alloc | apply pw_below_drewN | apply below_drew1) | exact HB.out))) : w.heap.size ≤ gb221)); clear HO0; clear HO1_0; clear HB; have HO0 := n0_; have HO1_0 := n1_; have HB := n2_; have BK221 := n3_; have GW221 := n4_; have GE221 := n5_; clear n0_ n1_ n2_ n3_ n4_ n5_; clear hb hbox hg; have hcz29_0 : w28.cell? ⟨gb221, 0, none⟩ = some (.slice A1_0 l1_0.length c1_0) := (blk_cell BK221.out 0).trans rfl; have hcz29_1 : w28.cell? ⟨gb221, 1, none⟩ = some (.string a1_1) := (blk_cell BK221.out 1).trans rfl; have hfz29_0 := blk_frozen BK221.out 0; have hfz29_1 := blk_frozen BK221.out 1) | ((with_reducible refine gate_callee (f := 26) rfl ?_); refine goesL_ (some 12) rfl rfl Try.func26 (by kernel_rfl) rfl #[.slice A0 l0.length c0, .slice A1_0 l1_0.length c1_0] rfl (by (try simp only [List.map_toArray, List.map_cons, List.map_nil]); first | done | rfl | (simp only [List.length_drop, List.length_take]; rfl)) ?_; (with_reducible refine (cadastreref10_Find.calls k _ _ l0 _ _ l1_0 t222 false _ ?side1 ?side2 ?side3 ?side4 A3.out).mono ?_); (case side1 => repeat (first | exact (Kd.V_reads' HO0.out).2.2 | (with_reducible refine Kd.C_alloc ?_ _) | (with_reducible refine Kd.C_drewN ?_ _) | (with_reducible refine Kd.C_drew ?_))); (case side2 => exact (Kd.V_reads' HO0.out).2.1); (case side3 => repeat (first | exact (Kd.V_reads' HO1_0.out).2.2 | (with_reducible refine Kd.C_alloc ?_ _) | (with_reducible refine Kd.C_drewN ?_ _) | (with_reducible refine Kd.C_drew ?_))); (case side4 => exact (Kd.V_reads' HO1_0.out).2.1); rintro e w' ⟨rfl, ⟨nd, rfl⟩⟩; refine ⟨_, rfl, ?_⟩; have q30 : (t222 : Int) ≤ ((l0.length : Int) : Int) := of_decide_eq_true (by first | (with_reducible assumption) | assumption); obtain ⟨i030, hi030, _, hsz30, _⟩ := info_parts info38; have hroom30 : l0.length ≤ c0 := (Kd.V_reads' HO0.out).2.1; have hC30 : Kd.F k38 _ _ A0 l0.length l0 := (Kd.V_at (base := w.heap.size) HO0.out).2.2; have hcut30 := cut_to (P := Try.prog) 22 38 .i64 Try.underlying22 hi030 A0 l0.length c0 t222 (of_decide_eq_true (by first | (with_reducible assumption) | assumption)) q30 hroom30; have hr30 := Kd.F_take (m := (t222 : Int).toNat) hC30 (by omega); have hy30 : y224.length = (t222 : Int).toNat := (by rw [Ny224.out, List.length_take]; omega); rw [← Ny224.out] at hr30; rw [← hy30] at hcut30; have HO228 := Aside0.mk (show Kd.V k38 38 _ w.heap.size _ (.slice A0 y224.length c0) y224 from Kd.V_mk (by omega) hr30); have HC228 := Aside0.mk (show y224.length ≤ c0 from by omega); clear hr30 hC30 hroom30 hi030 hsz30; have KY30 := Aside0.mk hy30; clear hy30; replace q30 := eq_true q30) | ((with_reducible refine gate_builtin (b := .append) (xs := #[.tmp 15, .tmp 18]) rfl ?_); at_builtin; refine Kd.N_append_rows k38 (w0 := w) w.heap.size rfl (.tmp 15) (.tmp 18) 22 38 (.agg #[(.slice none 0 0), (.string ⟨#[]⟩)]) 40 rfl Try.underlying22 info38 rfl (by decide) (by omega) (.slice none 0 0) ([] : List (S38)) y224 _ _ _ (fun k_ => ((P0_ k_ ∨ P1_0_ k_) ∨ w.heap.size ≤ k_) ∧ k_ ≠ gb221) (fun k_ => ((fun k_ => ((P0_ k_ ∨ P1_0_ k_) ∨ w.heap.size ≤ k_) ∧ k_ ≠ gb221)) k_ ∧ some k_ ≠ (.slice none 0 0 : Value).ownBlock) rfl rfl ?aO ?aR (fun _ hk => hk) ?aF ?aB ?aS ?aL ?_; (case aR => exact (by skip; first | exact Kd.V_F (e := 38) (base := w.heap.size) (Kd.V_mono (ok' := (fun k_ => ((fun k_ => ((P0_ k_ ∨ P1_0_ k_) ∨ w.heap.size ≤ k_) ∧ k_ ≠ gb221)) k_ ∧ some k_ ≠ (.slice none 0 0 : Value).ownBlock)) (HO228.out) (fun k_ hk => ⟨⟨hk.1, hk.2⟩, (by simp [Value.ownBlock])⟩)) | exact Kd.V_F (e := 38) (base := w.heap.size) (Kd.V_mono (ok' := (fun k_ => ((fun k_ => ((P0_ k_ ∨ P1_0_ k_) ∨ w.heap.size ≤ k_) ∧ k_ ≠ gb221)) k_ ∧ some k_ ≠ (.slice none 0 0 : Value).ownBlock)) (Kd.V_drewN HO228.out _) (fun k_ hk => ⟨⟨hk.1, hk.2⟩, (by simp [Value.ownBlock])⟩)))); (case aB => exact (by repeat (first | (with_reducible first | exact HB.out | apply below_alloc | apply pw_below_drewN | apply below_drew1 | refine below_set ?_ GE221.out) | exact HB.out))); (case aF => exact (fun k_ hk => ⟨(.inr (Nat.le_trans (below_size (by repeat (first | (with_reducible first | exact HB.out | apply below_alloc | apply pw_below_drewN | apply below_drew1 | refine below_set ?_ GE221.out) | exact HB.out))) hk)), Kd.freshB (g := gb221) (o := .cells #[.slice A1_0 l1_0.length c1_0, .string a1_1] 38 (0, 0)) (by (with_reducible repeat (first | refine blk_drewN ?_ _ | refine blk_drew ?_ | refine blk_alloc ?_ _)); exact BK221.out) k_ hk⟩)); (case aO => exact ((Kd.N_nil _ _ _ _ (fun k_ => ((P0_ k_ ∨ P1_0_ k_) ∨ w.heap.size ≤ k_) ∧ k_ ≠ gb221)))); (case aS => exact (below_size (by repeat (first | (with_reducible first | exact HB.out | apply below_alloc | apply pw_below_drewN | apply below_drew1 | refine below_set ?_ GE221.out) | exact HB.out)))); (case aL => have := LMc6.out; omega); intro v230 w31 ho hb hg hat; rw [← Ny229.out] at ho; have n0_ := Aside0.mk (Kd.V_afterv (Kd.V_apart_nil (by (with_reducible repeat (first | apply Kd.V_alloc | apply Kd.V_drewN | apply Kd.V_drew)); exact HO0.out)) hg hat); have n1_ := Aside0.mk (Kd.V_afterv (Kd.V_apart_nil (by (with_reducible repeat (first | apply Kd.V_alloc | apply Kd.V_drewN | apply Kd.V_drew)); exact HO1_0.out)) hg hat); have n2_ := Aside0.mk (blk_grown (g := gb221) (o := .cells #[.slice A1_0 l1_0.length c1_0, .string a1_1] 38 (0, 0)) (by (with_reducible repeat (first | refine blk_drewN ?_ _ | refine blk_drew ?_ | refine blk_alloc ?_ _)); exact BK221.out) hg (by simp [Value.ownBlock])); have n3_ := Aside0.mk (Kd.V_afterv (Kd.V_apart_nil (by (with_reducible repeat (first | apply Kd.V_alloc | apply Kd.V_drewN | apply Kd.V_drew)); exact HO228.out)) hg hat); have n4_ := Aside0.mk (hb); have n5_ := Aside0.mk (ho); clear HO0; clear HO1_0; clear BK221; clear HO228; clear HB; have HO0 := n0_; have HO1_0 := n1_; have BK221 := n2_; have HO228 := n3_; have HB := n4_; have HO231 := n5_; clear n0_ n1_ n2_ n3_ n4_ n5_; clear ho hb hg hat; have hcz32_0 : w31.cell? ⟨gb221, 0, none⟩ = some (.slice A1_0 l1_0.length c1_0) := (blk_cell BK221.out 0).trans rfl; have hcz32_1 : w31.cell? ⟨gb221, 1, none⟩ = some (.string a1_1) := (blk_cell BK221.out 1).trans rfl; have hfz32_0 := blk_frozen BK221.out 0; have hfz32_1 := blk_frozen BK221.out 1) | ((with_reducible refine gate_builtin (b := .append) (xs := #[.tmp 20, .tmp 22]) rfl ?_); at_builtin; refine Kd.N_append k38 (w0 := w) w.heap.size rfl (.tmp 20) (.tmp 22) 22 38 (.agg #[(.slice none 0 0), (.string ⟨#[]⟩)]) 40 rfl Try.underlying22 info38 rfl (by decide) (by omega) v230 y229 (⟨l1_0, a1_1⟩ : S38) [.slice A1_0 l1_0.length c1_0, .string a1_1] (fun k_ => ((P0_ k_ ∨ P1_0_ k_) ∨ w.heap.size ≤ k_) ∧ k_ ≠ gb221) (fun k_ => ((fun k_ => ((P0_ k_ ∨ P1_0_ k_) ∨ w.heap.size ≤ k_) ∧ k_ ≠ gb221)) k_ ∧ some k_ ≠ (v230 : Value).ownBlock) rfl rfl ?aP (fun _ hk => hk) ?aF ?aO ?aB ?aS ?aL ?_; (case aP => exact (k38_mkF _ _ (⟨l1_0, a1_1⟩ : S38) (Kd.V_reads' (Kd.V_mono (ok' := (fun k_ => ((fun k_ => ((P0_ k_ ∨ P1_0_ k_) ∨ w.heap.size ≤ k_) ∧ k_ ≠ gb221)) k_ ∧ some k_ ≠ (v230 : Value).ownBlock)) (HO1_0.out) (fun k_ hk => ⟨⟨hk.1.1, hk.1.2⟩, hk.2⟩))).2.1 (Kd.V_F (Kd.V_mono (ok' := (fun k_ => ((fun k_ => ((P0_ k_ ∨ P1_0_ k_) ∨ w.heap.size ≤ k_) ∧ k_ ≠ gb221)) k_ ∧ some k_ ≠ (v230 : Value).ownBlock)) (HO1_0.out) (fun k_ hk => ⟨⟨hk.1.1, hk.1.2⟩, hk.2⟩))))); (case aB => exact (by repeat (first | (with_reducible first | exact HB.out | apply below_alloc | apply pw_below_drewN | apply below_drew1 | refine below_set ?_ GE221.out) | exact HB.out))); (case aF => exact (fun k_ hk => ⟨(.inr (Nat.le_trans (below_size (by repeat (first | (with_reducible first | exact HB.out | apply below_alloc | apply pw_below_drewN | apply below_drew1 | refine below_set ?_ GE221.out) | exact HB.out))) hk)), Kd.freshB (g := gb221) (o := .cells #[.slice A1_0 l1_0.length c1_0, .string a1_1] 38 (0, 0)) (by (with_reducible repeat (first | refine blk_drewN ?_ _ | refine blk_drew ?_ | refine blk_alloc ?_ _)); exact BK221.out) k_ hk⟩)); (case aO => exact (by (with_reducible repeat (first | apply Kd.N_alloc | apply Kd.N_drewN | apply Kd.N_drew)); exact HO231.out)); (case aS => exact (below_size (by repeat (first | (with_reducible first | exact HB.out | apply below_alloc | apply pw_below_drewN | apply below_drew1 | refine below_set ?_ GE221.out) | exact HB.out)))); (case aL => have := LMc7.out; omega); intro v233 w33 ho hb hg hat; rw [← Ny232.out] at ho; have n0_ := Aside0.mk (Kd.V_afterv (ok := (fun k_ => ((P0_ k_ ∨ P1_0_ k_) ∨ w.heap.size ≤ k_) ∧ k_ ≠ gb221)) (by (with_reducible repeat (first | apply Kd.V_alloc | apply Kd.V_drewN | apply Kd.V_drew)); exact HO0.out) hg hat); have n1_ := Aside0.mk (Kd.V_afterv (ok := (fun k_ => ((P0_ k_ ∨ P1_0_ k_) ∨ w.heap.size ≤ k_) ∧ k_ ≠ gb221)) (by (with_reducible repeat (first | apply Kd.V_alloc | apply Kd.V_drewN | apply Kd.V_drew)); exact HO1_0.out) hg hat); have n2_ := Aside0.mk (blk_grown (g := gb221) (o := .cells #[.slice A1_0 l1_0.length c1_0, .string a1_1] 38 (0, 0)) (by (with_reducible repeat (first | refine blk_drewN ?_ _ | refine blk_drew ?_ | refine blk_alloc ?_ _)); exact BK221.out) hg (Kd.N_away HO231.out (fun _ hk => hk.2))); have n3_ := Aside0.mk (Kd.V_afterv (ok := (fun k_ => ((P0_ k_ ∨ P1_0_ k_) ∨ w.heap.size ≤ k_) ∧ k_ ≠ gb221)) (by (with_reducible repeat (first | apply Kd.V_alloc | apply Kd.V_drewN | apply Kd.V_drew)); exact HO228.out) hg hat); have n4_ := Aside0.mk (hb); have n5_ := Aside0.mk (ho); clear HO0; clear HO1_0; clear BK221; clear HO228; clear HB; clear HO231; have HO0 := n0_; have HO1_0 := n1_; have BK221 := n2_; have HO228 := n3_; have HB := n4_; have HO234 := n5_; clear n0_ n1_ n2_ n3_ n4_ n5_; clear ho hb hg hat; have q34 : (t222 : Int) ≤ ((l0.length : Int) : Int) := of_decide_eq_true (by first | (with_reducible assumption) | assumption); obtain ⟨i034, hi034, _, hsz34, _⟩ := info_parts info38; have hroom34 : l0.length ≤ c0 := (Kd.V_reads' HO0.out).2.1; have hC34 : Kd.F k38 _ _ A0 l0.length l0 := (Kd.V_at (base := w.heap.size) HO0.out).2.2; have q034 : (0 : Int) ≤ (t222 : Int) := of_decide_eq_true (by first | (with_reducible assumption) | assumption); have hcut34 := cut_from (P := Try.prog) 22 38 .i64 Try.underlying22 hi034 2 hsz34 A0 l0.length c0 t222 q034 q34; have hr34 := Kd.F_cut (m := (t222 : Int).toNat) (c := c0) hC34 (by omega) hroom34; obtain ⟨A34, hA34⟩ : ∃ A1, A1 = (if c0 = (t222 : Int).toNat then A0 else (A0 : Option Addr).map (·.add ((t222 : Int).toNat * 2))) := ⟨_, rfl⟩; obtain ⟨c34, hc34⟩ : ∃ c1, c1 = c0 - (t222 : Int).toNat := ⟨_, rfl⟩; have hy34 : y246.length = l0.length - (t222 : Int).toNat := (by rw [Ny246.out, List.length_drop] <;> omega); rw [show (l0).drop (t222 : Int).toNat = y246 from Ny246.out.symm] at hr34; replace hr34 : Kd.F k38 _ _ A34 y246.length y246 := (by rw [hA34]; exact hr34); rw [← hy34, ← hA34, ← hc34] at hcut34; have HO250 := Aside0.mk (show Kd.V k38 38 _ w.heap.size _ (.slice A34 y246.length c34) y246 from Kd.V_mk (by rw [hy34, hc34]; exact Nat.sub_le_sub_right hroom34 _) hr34); have HC250 := Aside0.mk (show y246.length ≤ c34 from by rw [hy34, hc34]; exact Nat.sub_le_sub_right hroom34 _); clear hr34 hC34 hroom34 hi034 hsz34 hc34; have KY34 := Aside0.mk hy34; have KA34 := Aside0.mk hA34; clear hy34 hA34; replace q34 := eq_true q34) | ((with_reducible refine gate_builtin (b := .append) (xs := #[.tmp 27, .tmp 30]) rfl ?_); at_builtin; refine Kd.N_append_rows k38 (w0 := w) w.heap.size rfl (.tmp 27) (.tmp 30) 22 38 (.agg #[(.slice none 0 0), (.string ⟨#[]⟩)]) 40 rfl Try.underlying22 info38 rfl (by decide) (by omega) v233 y232 y246 _ _ _ (fun k_ => ((P0_ k_ ∨ P1_0_ k_) ∨ w.heap.size ≤ k_) ∧ k_ ≠ gb221) (fun k_ => ((fun k_ => ((P0_ k_ ∨ P1_0_ k_) ∨ w.heap.size ≤ k_) ∧ k_ ≠ gb221)) k_ ∧ some k_ ≠ (v233 : Value).ownBlock) rfl rfl ?aO ?aR (fun _ hk => hk) ?aF ?aB ?aS ?aL ?_; (case aR => exact (by skip; first | exact Kd.V_F (e := 38) (base := w.heap.size) (Kd.V_mono (ok' := (fun k_ => ((fun k_ => ((P0_ k_ ∨ P1_0_ k_) ∨ w.heap.size ≤ k_) ∧ k_ ≠ gb221)) k_ ∧ some k_ ≠ (v233 : Value).ownBlock)) (HO250.out) (fun k_ hk => ⟨⟨hk.1.1, hk.1.2⟩, hk.2⟩)) | exact Kd.V_F (e := 38) (base := w.heap.size) (Kd.V_mono (ok' := (fun k_ => ((fun k_ => ((P0_ k_ ∨ P1_0_ k_) ∨ w.heap.size ≤ k_) ∧ k_ ≠ gb221)) k_ ∧ some k_ ≠ (v233 : Value).ownBlock)) (Kd.V_drewN HO250.out _) (fun k_ hk => ⟨⟨hk.1.1, hk.1.2⟩, hk.2⟩)))); (case aB => exact (by repeat (first | (with_reducible first | exact HB.out | apply below_alloc | apply pw_below_drewN | apply below_drew1 | refine below_set ?_ GE221.out) | exact HB.out))); (case aF => exact (fun k_ hk => ⟨(.inr (Nat.le_trans (below_size (by repeat (first | (with_reducible first | exact HB.out | apply below_alloc | apply pw_below_drewN | apply below_drew1 | refine below_set ?_ GE221.out) | exact HB.out))) hk)), Kd.freshB (g := gb221) (o := .cells #[.slice A1_0 l1_0.length c1_0, .string a1_1] 38 (0, 0)) (by (with_reducible repeat (first | refine blk_drewN ?_ _ | refine blk_drew ?_ | refine blk_alloc ?_ _)); exact BK221.out) k_ hk⟩)); (case aO => exact (by (with_reducible repeat (first | apply Kd.N_alloc | apply Kd.N_drewN | apply Kd.N_drew)); exact HO234.out)); (case aS => exact (below_size (by repeat (first | (with_reducible first | exact HB.out | apply below_alloc | apply pw_below_drewN | apply below_drew1 | refine below_set ?_ GE221.out) | exact HB.out)))); (case aL => have := LMc26.out; omega); intro v252 w35 ho hb hg hat; rw [← Ny251.out] at ho; have n0_ := Aside0.mk (Kd.V_afterv (ok := (fun k_ => ((P0_ k_ ∨ P1_0_ k_) ∨ w.heap.size ≤ k_) ∧ k_ ≠ gb221)) (by (with_reducible repeat (first | apply Kd.V_alloc | apply Kd.V_drewN | apply Kd.V_drew)); exact HO0.out) hg hat); have n1_ := Aside0.mk (Kd.V_afterv (ok := (fun k_ => ((P0_ k_ ∨ P1_0_ k_) ∨ w.heap.size ≤ k_) ∧ k_ ≠ gb221)) (by (with_reducible repeat (first | apply Kd.V_alloc | apply Kd.V_drewN | apply Kd.V_drew)); exact HO1_0.out) hg hat); have n2_ := Aside0.mk (blk_grown (g := gb221) (o := .cells #[.slice A1_0 l1_0.length c1_0, .string a1_1] 38 (0, 0)) (by (with_reducible repeat (first | refine blk_drewN ?_ _ | refine blk_drew ?_ | refine blk_alloc ?_ _)); exact BK221.out) hg (Kd.N_away HO234.out (fun _ hk => hk.2))); have n3_ := Aside0.mk (Kd.V_afterv (ok := (fun k_ => ((P0_ k_ ∨ P1_0_ k_) ∨ w.heap.size ≤ k_) ∧ k_ ≠ gb221)) (by (with_reducible repeat (first | apply Kd.V_alloc | apply Kd.V_drewN | apply Kd.V_drew)); exact HO228.out) hg hat); have n4_ := Aside0.mk (Kd.V_afterv (ok := (fun k_ => ((P0_ k_ ∨ P1_0_ k_) ∨ w.heap.size ≤ k_) ∧ k_ ≠ gb221)) (by (with_reducible repeat (first | apply Kd.V_alloc | apply Kd.V_drewN | apply Kd.V_drew)); exact HO250.out) hg hat); have n5_ := Aside0.mk (hb); have n6_ := Aside0.mk (ho); clear HO0; clear HO1_0; clear BK221; clear HO228; clear HO250; clear HB; clear HO234; have HO0 := n0_; have HO1_0 := n1_; have BK221 := n2_; have HO228 := n3_; have HO250 := n4_; have HB := n5_; have HO253 := n6_; clear n0_ n1_ n2_ n3_ n4_ n5_ n6_; clear ho hb hg hat; obtain ⟨Ao36, co36, eo36⟩ := Kd.N_slice HO253.out; subst eo36) | ((with_reducible refine gate_callee (f := 21) rfl ?_); refine goesL_ (some 33) rfl rfl Try.func21 (by kernel_rfl) rfl #[.slice Ao36 y251.length co36] rfl (by (try simp only [List.map_toArray, List.map_cons, List.map_nil]); first | done | rfl | (simp only [List.length_drop, List.length_take]; rfl)) ?_; (with_reducible refine (cadastreref09_Copies.calls k _ _ y251 t254 _ ?side1 ?side2 A27.out).mono ?_); (case side1 => repeat (first | exact (Kd.N_reads' HO253.out).2.2 | (with_reducible refine Kd.C_alloc ?_ _) | (with_reducible refine Kd.C_drewN ?_ _) | (with_reducible refine Kd.C_drew ?_))); (case side2 => exact (Kd.N_reads' HO253.out).2.1); rintro e w37 ⟨v255, rfl, ho0, hb⟩; refine ⟨_, rfl, ?_⟩; have n0_ := Aside0.mk (Kd.V_elder' (by (with_reducible repeat (first | apply Kd.V_alloc | apply Kd.V_drewN | apply Kd.V_drew)); exact HO0.out) (by first | exact Kd.N_base ho0 | exact Kd.S_base ho0) hb); have n1_ := Aside0.mk (Kd.V_elder' (by (with_reducible repeat (first | apply Kd.V_alloc | apply Kd.V_drewN | apply Kd.V_drew)); exact HO1_0.out) (by first | exact Kd.N_base ho0 | exact Kd.S_base ho0) hb); have n2_ := Aside0.mk (Kd.V_elder' (by (with_reducible repeat (first | apply Kd.V_alloc | apply Kd.V_drewN | apply Kd.V_drew)); exact HO228.out) (by first | exact Kd.N_base ho0 | exact Kd.S_base ho0) hb); have n3_ := Aside0.mk (Kd.V_elder' (by (with_reducible repeat (first | apply Kd.V_alloc | apply Kd.V_drewN | apply Kd.V_drew)); exact HO250.out) (by first | exact Kd.N_base ho0 | exact Kd.S_base ho0) hb); have n4_ := Aside0.mk (Kd.N_elder' (by (with_reducible repeat (first | apply Kd.N_alloc | apply Kd.N_drewN | apply Kd.N_drew)); exact HO253.out) (by first | exact Kd.N_base ho0 | exact Kd.S_base ho0) hb); have n5_ := Aside0.mk (Kd.N_lower (Kd.N_mono (ok' := fun k_ => ((P0_ k_ ∨ P1_0_ k_) ∨ w.heap.size ≤ k_) ∧ some k_ ≠ (.slice Ao36 y251.length co36 : Value).ownBlock ∧ k_ ≠ gb221) (Kd.S_N (Kd.S_bound ho0)) (fun k_ hk_ => ⟨(.inr (Nat.le_trans (below_size (by repeat (first | (with_reducible first | exact HB.out | apply below_alloc | apply pw_below_drewN | apply below_drew1 | refine below_set ?_ GE221.out) | exact HB.out))) hk_.2.1)), (Kd.fresh' (Kd.N_lt (by (with_reducible repeat (first | apply Kd.N_alloc | apply Kd.N_drewN | apply Kd.N_drew)); exact HO253.out)) k_ hk_.2.1), (Kd.freshB (g := gb221) (o := .cells #[.slice A1_0 l1_0.length c1_0, .string a1_1] 38 (0, 0)) (by (with_reducible repeat (first | refine blk_drewN ?_ _ | refine blk_drew ?_ | refine blk_alloc ?_ _)); exact BK221.out) k_ hk_.2.1)⟩)) (below_size (by repeat (first | (with_reducible first | exact HB.out | apply below_alloc | apply pw_below_drewN | apply below_drew1 | refine below_set ?_ GE221.out) | exact HB.out)))); have n6_ := Aside0.mk (blk_below (g := gb221) (o := .cells #[.slice A1_0 l1_0.length c1_0, .string a1_1] 38 (0, 0)) (by (with_reducible repeat (first | refine blk_drewN ?_ _ | refine blk_drew ?_ | refine blk_alloc ?_ _)); exact BK221.out) hb); have n7_ := Aside0.mk (below_step (by repeat (first | (with_reducible first | exact HB.out | apply below_alloc | apply pw_below_drewN | apply below_drew1 | refine below_set ?_ GE221.out) | exact HB.out)) hb); clear HO0; clear HO1_0; clear HO228; clear HO250; clear HO253; clear BK221; clear HB; have HO0 := n0_; have HO1_0 := n1_; have HO228 := n2_; have HO250 := n3_; have HO253 := n4_; have HO256 := n5_; have BK221 := n6_; have HB := n7_; clear n0_ n1_ n2_ n3_ n4_ n5_ n6_ n7_; (try clear hb); (try clear hb2); (try clear hk); (try clear hi); (try clear ho0)))
              go_ret
              exact ⟨_, by first | rfl | (simp [errW_none, errW_some] <;> rfl) | (simp [*, errW_none, errW_some] <;> rfl), by (with_reducible repeat (first | apply Kd.N_alloc | apply Kd.N_drewN | apply Kd.N_drew)); exact Kd.N_mono HO256.out (fun _ hk => hk.1), by repeat (first | (with_reducible first | exact HB.out | apply below_alloc | apply pw_below_drewN | apply below_drew1 | refine below_set ?_ GE221.out) | exact HB.out)⟩
            · rw [if_neg c26] at H
              exact absurd H (by simp)
        · rw [if_neg c7] at H
          exact absurd H (by simp)
      · rw [if_neg c6] at H
        exact absurd H (by simp)
    · rw [if_neg c5] at H
      exact absurd H (by simp)
  · rw [if_neg c4] at H
    exact absurd H (by simp)

end Go.Proofs.Ytafpfggijpigfaa.Bkt
