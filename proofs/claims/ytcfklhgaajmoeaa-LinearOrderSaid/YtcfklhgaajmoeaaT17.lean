import Derived.Test.YtcfklhgaajmoeaaT16
namespace Go.Proofs.Ytcfklhgaajmoeaa.Lin
open Go.RowKit Go.Proofs.YtcfklhgaajmoeaaW.PrintWords Go.Proofs.YtcfklhgaajmoeaaW.PrintLast Go.Proofs.YtcfklhgaajmoeaaW.PrintMore
attribute [local go_sem] max2_int min2_int max_two min_two max_three min_three max_four min_four
set_option linter.unusedVariables false
set_option linter.unusedSimpArgs false
set_option maxHeartbeats 4000000 in
theorem range14 (A0 : Option Addr) (c0 : Nat) (A1 : Option Addr) (c1 : Nat) (w : World) (hr0 : Ct w A0 [0]) (hr1 : Ct w A1 [1073741824]) :
    Calls Try.prog 14 #[.agg #[.slice A0 1 c0, .slice A1 1 c1], .int .i64 1, .int .i64 1] w fun e w' => ∃ v, e = .returned (.tuple #[v, .int .i64 0]) ∧ Kd.R (Kd.int .i64) 3 w' w.heap.size (fun _ => True) v [0, 1] ∧ Below w.heap.size w w' := by
  have HR0 := Aside0.mk hr0
  have HR1 := Aside0.mk hr1
  clear hr0 hr1
  have hu33 := Try.underlying33
  go_enter Try.func14, Try.ntmps14
  go_upto_region 3 with (go_at_call 13; refine (linear_is.calls 1 1 true _ (by first | rfl | decide)).mono ?_; rintro e w' ⟨rfl, ⟨nd, rfl⟩⟩)
  have hb3 : ((w.alloc (Obj.cells #[Value.slice A0 1 c0, Value.slice A1 1 c1] 33)).drewN nd).heap[w.heap.size]? = some (.cells #[.slice A0 1 c0, .slice A1 1 c1] 33 (0, 0)) := blk_new w _
  have hB : Below w.heap.size w ((w.alloc (Obj.cells #[Value.slice A0 1 c0, Value.slice A1 1 c1] 33)).drewN nd) := pw_below_drewN (below_alloc (Below.refl _ _) _) _
  generalize (w.alloc (Obj.cells #[Value.slice A0 1 c0, Value.slice A1 1 c1] 33)).drewN nd = W0 at hb3 hB ⊢
  obtain ⟨q0, q1⟩ := blk_cell0 hb3
  have HB3 := Aside0.mk hb3
  have HB := Aside0.mk hB
  have HD0 := Aside0.mk (Ct_below HR0.out hB)
  have HD1 := Aside0.mk (Ct_below HR1.out hB)
  clear hb3 hB
  go_wp2_with (go_at_call 19; refine (range19 A0 c0 A1 c1 _ HD0.out HD1.out).mono ?_; rintro e w1 ⟨A, c, rfl, hc, hb⟩; have HC := Aside0.mk hc; have HB1 := Aside0.mk hb; clear hc hb)
  have hX := Aside0.mk (below_step HB.out HB1.out)
  have hY := Aside0.mk ((HB1.out.block _ (blk_lt HB3.out)).trans HB3.out)
  clear HB1 HD0 HD1 HB3 HB q0 q1
  go_loopw [36, 10] (fun v36 v10 wr => ((v36 = .int .i64 0 ∧ v10 = .slice none 0 0 ∧ Aside0 (Kd.C (Kd.int .i64) wr A 1 [0])) ∨ (v36 = .int .i64 1 ∧ Aside0 (Kd.R (Kd.int .i64) 3 wr w.heap.size (fun _ => True) v10 [0, 1]))) ∧ Aside0 (wr.heap[w.heap.size]? = some (.cells #[.slice A0 1 c0, .slice A1 1 c1] 33 (0, 0))) ∧ Aside0 (Below w.heap.size w wr)) (fun v _ _ => 1 - (intOf v).toNat)
  case atStart => exact ⟨Or.inl ⟨rfl, rfl, HC⟩, hY, hX⟩
  case round =>
    obtain ⟨h, HB3, HB⟩ := hrel
    rcases h with ⟨rfl, rfl, HC0⟩ | ⟨rfl, HR⟩
    · obtain ⟨ad0, e0, hc0⟩ := Kd.at_int HC0.out 0 (by omega) (by decide)
      cases e0
      have hr0 : rd [0] 0 = 0 := rfl
      rw [hr0] at hc0
      have hc0' := hc0
      simp only [Int.toNat_zero] at hc0'
      have hc1 : wr.cell? ad0 = some (.int .i64 0) := by first | simpa [Addr.add] using hc0' | simpa using hc0' | (cases ad0; simpa [Addr.add] using hc0')
      go_wp2_with fail
      go_loopw [49, 10] (fun v49 v10 w5 => ∃ h : Nat, h ≤ 2 ∧ v49 = .int .i64 h ∧ Aside0 (Kd.R (Kd.int .i64) 3 w5 w.heap.size (fun _ => True) v10 (([0, 1] : List Int).take h)) ∧ Aside0 (w5.heap[w.heap.size]? = some (.cells #[.slice A0 1 c0, .slice A1 1 c1] 33 (0, 0))) ∧ Aside0 (Below w.heap.size w w5)) (fun v _ _ => 2 - (intOf v).toNat)
      case atStart => exact ⟨0, by decide, rfl, ⟨Kd.R_nil _ _ _ _ _⟩, HB3, HB⟩
      case round =>
        obtain ⟨h, hh, rfl, HR, HB3, HB⟩ := hrel
        by_cases hlt : h < 2
        · obtain ⟨lo, hi, hbl, hm⟩ : ∃ lo hi : Int, boxUpto 1 2 h 2 = ([lo], [hi]) ∧ meets [lo] [hi] [0] [1073741824] = true := by
            rcases (by omega : h = 0 ∨ h = 1) with rfl | rfl
            · exact ⟨_, _, rfl, by decide⟩
            · exact ⟨_, _, rfl, by decide⟩
          have hg : ∀ (W : World) (y : Int), y = (h : Int) → Calls Try.prog 18 #[.int .i64 1, .int .i64 2, .int .i64 y] W (BoxPost W [lo] [hi] 0) := fun W y hy => by
            have hx := box18' 1 2 h 2 y W (by decide) (by decide) (by decide) (by omega) rfl hy
            rw [hbl] at hx
            exact hx
          have HG := Aside0.mk hg
          have HM := Aside0.mk hm
          obtain ⟨q0, q1⟩ := blk_cell0 HB3.out
          have n6 := blk_lt HB3.out
          have HCL := HB.out.size
          clear hg hm hbl hc0 hc0' hc1 hr0
          go_upto_region 15 with (fail)
          have hw18 : ∀ W : World, Below wr.heap.size wr W → True := fun _ _ => trivial
          go_upto_region 16 with (go_at_call 18; go_loud (refine (HG.out _ _ (by omega)).mono ?_); rintro e wa ⟨v0, v1, rfl, hr1, hr2, hba⟩; obtain ⟨A1', k1, rfl⟩ := Kd.R_slice hr1; obtain ⟨A2', k2, rfl⟩ := Kd.R_slice hr2; have R1 := Aside0.mk (Ct_of_Rw (Rw_of hr1)); have R2 := Aside0.mk (Ct_of_Rw (Rw_of hr2)); have HBA := Aside0.mk hba; clear hr1 hr2 hba)
          have hbA : (wa.alloc (Obj.cells #[.slice A1' 1 k1, .slice A2' 1 k2] 33)).heap[wa.heap.size]? = some (.cells #[.slice A1' 1 k1, .slice A2' 1 k2] 33 (0, 0)) := blk_new _ _
          have hB1 : Below wa.heap.size wa (wa.alloc (Obj.cells #[.slice A1' 1 k1, .slice A2' 1 k2] 33)) := below_alloc (Below.refl _ _) _
          generalize wa.alloc (Obj.cells #[.slice A1' 1 k1, .slice A2' 1 k2] 33) = W1 at hbA hB1 ⊢
          have hB2 := below_step HBA.out hB1
          have S1 := Aside0.mk (Ct_below R1.out hB1)
          have S2 := Aside0.mk (Ct_below R2.out hB1)
          have hbw := below_step HB.out hB2
          have S3 := Aside0.mk (Ct_below HR0.out hbw)
          have S4 := Aside0.mk (Ct_below HR1.out hbw)
          have hb6 := (hB2.block _ n6).trans HB3.out
          have HB6 := Aside0.mk hb6
          have HBW := Aside0.mk hbw
          have HRW := Aside0.mk (Kd.R_below HR.out hB2)
          obtain ⟨a0, a1⟩ := blk_cell0 hbA
          obtain ⟨p0, p1⟩ := blk_cell0 hb6
          have n14 := blk_lt hbA
          have n6' := blk_lt hb6
          clear hbA hB1 hB2 hbw hb6 q0 q1 HBA R1 R2 HG
          go_upto_region 18 with (go_at_call 20; go_loud (refine (meet20 _ _ [lo] _ _ [hi] _ _ [0] _ _ [1073741824] _ (Ct_C S1.out) (Ct_C S2.out) (Ct_C S3.out) (Ct_C S4.out) rfl rfl rfl (by simp)).mono ?_); rintro e w6 ⟨Am, An, nm, nn, cm, cn, rfl, hb⟩; rw [HM.out]; have HBM := Aside0.mk hb; clear hb)
          have hB7 : Below W1.heap.size W1 (w6.alloc (Obj.cells #[.slice Am nm cm, .slice An nn cn] 33)) := below_alloc HBM.out _
          generalize w6.alloc (Obj.cells #[.slice Am nm cm, .slice An nn cn] 33) = W2 at hB7 ⊢
          have h7 := below_step HBW.out hB7
          have hb6 := (hB7.block _ n6').trans HB6.out
          have hR7 := Kd.R_below HRW.out hB7
          have hown := Kd.own_of_R hR7
          have hne := Kd.R_ne hR7 hb6 (by decide)
          have HB6' := Aside0.mk hb6
          have H7 := Aside0.mk h7
          have h7s := h7.size
          have hlt6 := blk_lt hb6
          have HOW := Aside0.mk hown
          have HNE := Aside0.mk hne
          clear hB7 h7 hb6 hR7 hown hne HR HB HBW HB6 S1 S2 S3 S4 a0 a1 p0 p1 HRW HB3
          go_wp2_with (at_builtin; go_loud (refine print_append_num (w0 := w) w.heap.size rfl _ _ 42 3 .i64 8 rfl Try.underlying42 info3 (by decide) u10 (([0, 1] : List Int).take h) (h : Int) rfl (by simp [Act.eval]) HOW.out H7.out h7s (by simp; omega) ?_); intro v1 w8 hown8 hb8 hg8 hat8; have HO8 := Aside0.mk hown8; have HB8 := Aside0.mk hb8; have HG8 := Aside0.mk hg8; clear hown8 hb8 hg8 hat8)
          have htk : ([0, 1] : List Int).take (h + 1) = ([0, 1] : List Int).take h ++ [(h : Int)] := by
            rcases (by omega : h = 0 ∨ h = 1) with rfl | rfl <;> rfl
          refine ⟨⟨h + 1, by omega, by first | rfl | go_num, ⟨?_⟩, ⟨?_⟩, HB8⟩, by simp [intOf]; omega⟩
          · rw [htk]
            exact Kd.R_of_own HO8.out (fun _ _ => trivial)
          · exact (HG8.out.block _ hlt6 HNE.out).trans HB6'.out
        · have hh2 : h = 2 := by omega
          subst hh2
          go_wp2_with fail
          exact ⟨⟨Or.inr ⟨rfl, HR⟩, HB3, HB⟩, by decide⟩
    · go_wp2_with fail
      exact bodyPost_ret (v := .tuple #[u10, .int .i64 0]) (by simp [results, Try.results14, go_sem]) rfl ⟨_, rfl, HR.out, HB.out⟩
end Go.Proofs.Ytcfklhgaajmoeaa.Lin
