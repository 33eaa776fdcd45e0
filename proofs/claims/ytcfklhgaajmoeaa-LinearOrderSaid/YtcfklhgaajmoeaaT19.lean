import Derived.Test.YtcfklhgaajmoeaaT18
namespace Go.Proofs.Ytcfklhgaajmoeaa.Lin
open Go.RowKit Go.Proofs.YtcfklhgaajmoeaaW.PrintWords Go.Proofs.YtcfklhgaajmoeaaW.PrintLast Go.Proofs.YtcfklhgaajmoeaaW.PrintMore
attribute [local go_sem] max2_int min2_int max_two min_two max_three min_three max_four min_four
set_option linter.unusedVariables false
set_option linter.unusedSimpArgs false
def cadastrelaw18_live.f : Option Bool := some true
set_option maxHeartbeats 4000000 in
theorem cadastrelaw18_live.calls (r : Bool) (w : World) (h : cadastrelaw18_live.f = some r) :
    Calls Try.prog 7 #[] w fun e w' => e = .returned (.bool r) ∧ Below w.heap.size w w' := by
  obtain rfl := Option.some.inj h
  clear h
  have hu33 := Try.underlying33
  go_enter Try.func7, Try.ntmps7
  go_upto_region 3 with (first | (go_at_call 9; first | (with_reducible refine (linear_Count.calls 1 1 3 0 _ v_count1).mono ?_; rintro e w' ⟨rfl, ⟨nd, rfl⟩⟩) | (with_reducible refine (linear_Count.calls 1 2 0 1 _ v_count2).mono ?_; rintro e w' ⟨rfl, ⟨nd2, rfl⟩⟩)))
  have hB0 : Below w.heap.size w (w.drewN (nd + nd2)) := pw_below_drewN (Below.refl _ _) _
  generalize w.drewN (nd + nd2) = W0 at hB0 ⊢
  have HB0 := Aside0.mk hB0
  clear hB0
  go_upto_region 4 with (go_at_call 10; go_loud (with_reducible refine (find_live (some ⟨W0.heap.size, 0, none⟩) 1 _ (lit_Ct (by decide) (blk_new W0 (Obj.cells #[.int .u32 1073741824] 38))) (Nat.le_refl _)).mono ?_); rintro e w1 ⟨rfl, hb⟩; have HB1 := Aside0.mk (below_step (below_alloc HB0.out _) hb); clear hb)
  go_upto_region 5 with (go_at_call 11; go_loud (with_reducible refine (box_live _).mono ?_); rintro e w2 ⟨A0, c0, A1, c1, rfl, k0, k1, hr1, hr2, hb⟩; have R1 := Aside0.mk hr1; have R2 := Aside0.mk hr2; have HB2 := Aside0.mk (below_step HB1.out hb); clear hr1 hr2 hb)
  have hb7 := blk_new w2 (Obj.cells #[.slice A0 1 c0, .slice A1 1 c1] 33)
  have hB3 : Below w2.heap.size w2 (w2.alloc (Obj.cells #[.slice A0 1 c0, .slice A1 1 c1] 33)) := below_alloc (Below.refl _ _) _
  generalize w2.alloc (Obj.cells #[.slice A0 1 c0, .slice A1 1 c1] 33) = W3 at hb7 hB3 ⊢
  have S1 := Aside0.mk (Ct_below R1.out hB3)
  have S2 := Aside0.mk (Ct_below R2.out hB3)
  have HB3 := Aside0.mk (below_step HB2.out hB3)
  have HB7 := Aside0.mk hb7
  clear hb7 hB3 R1 R2 HB2 HB1 HB0
  go_upto_region 6 with (go_at_call 14; go_loud (with_reducible refine (range_live (some ⟨W3.heap.size, 0, none⟩) 1 (some ⟨W3.heap.size + 1, 0, none⟩) 1 ((W3.alloc (Obj.cells #[.int .u32 0] 38)).alloc (Obj.cells #[.int .u32 1073741824] 38)) (lit_Ct (by decide) (blk_alloc (blk_new W3 (Obj.cells #[.int .u32 0] 38)) _)) (lit_Ct (by decide) (blk_new1 (by simp)))).mono ?_); rintro e w4 ⟨Al, cl, rfl, kl, hrl, hb⟩; have HRL := Aside0.mk hrl; have HB4 := Aside0.mk (below_step (below_alloc (below_alloc (Below.refl W3.heap.size W3) _) _) hb); clear hrl hb)
  go_upto_region 9 with (first | (go_at_call 6; with_reducible refine (grow_live _).mono ?_; rintro e w' ⟨rfl, ⟨n1, rfl⟩⟩) | (go_at_call 8; first | (with_reducible refine (shrink_live _).mono ?_; rintro e w' ⟨rfl, ⟨n2, rfl⟩⟩) | (with_reducible refine (shrink0_live _).mono ?_; rintro e w' ⟨rfl, ⟨n3, rfl⟩⟩)))
  have hB5 : Below W3.heap.size W3 (w4.drewN (n1 + n2 + n3)) := pw_below_drewN HB4.out _
  have hC5 : Kd.C (Kd.int .i64) (w4.drewN (n1 + n2 + n3)) Al 2 [0, 1] := Kd.C_below HRL.out (pw_below_drewN (Below.refl _ _) _)
  generalize w4.drewN (n1 + n2 + n3) = W5 at hB5 hC5 ⊢
  obtain ⟨p0, p1⟩ := blk_cell0 ((hB5.block _ (blk_lt HB7.out)).trans HB7.out)
  have hB6 : Below W5.heap.size W5 ((W5.alloc (Obj.cells #[.int .u32 2147483648] 38)).alloc (Obj.cells #[.int .u32 4294967295] 38)) := below_alloc (below_alloc (Below.refl _ _) _) _
  have T1 := Aside0.mk (Ct_below (Ct_below S1.out hB5) hB6)
  have T2 := Aside0.mk (Ct_below (Ct_below S2.out hB5) hB6)
  have HC5 := Aside0.mk hC5
  have HB5 := Aside0.mk (below_step HB3.out hB5)
  have HB6 := Aside0.mk hB6
  clear hB5 hC5 hB6 S1 S2 HB3 HB4 HRL HB7
  go_wp2_with (first | (go_at_call 15; go_loud (with_reducible refine (same_live A0 A1 (some ⟨W5.heap.size, 0, none⟩) (some ⟨W5.heap.size + 1, 0, none⟩) c0 c1 1 1 ((W5.alloc (Obj.cells #[.int .u32 2147483648] 38)).alloc (Obj.cells #[.int .u32 4294967295] 38)) T1.out k0 T2.out k1 (lit_Ct (by decide) (blk_alloc (blk_new W5 (Obj.cells #[.int .u32 2147483648] 38)) _)) (Nat.le_refl _) (lit_Ct (by decide) (blk_new1 (by simp))) (Nat.le_refl _)).mono ?_); rintro e w6 ⟨rfl, hb⟩; have HB7 := Aside0.mk (below_step HB6.out hb); clear hb) | (go_at_call 16; go_loud (with_reducible refine (ints_live Al (some ⟨w6.heap.size, 0, none⟩) cl 2 (w6.alloc (Obj.cells #[.int .i64 0, .int .i64 1] 3)) (Kd.C_below (Kd.C_below HC5.out HB7.out) (below_alloc (Below.refl _ _) _)) kl (R_toC (lit_R (B := 0) (xs := [0, 1]) (by decide) (Nat.zero_le _) (blk_new w6 (Obj.cells #[.int .i64 0, .int .i64 1] 3)))) (Nat.le_refl _)).mono ?_); rintro e w' ⟨rfl, ⟨n4, rfl⟩⟩))
  go_ret
  exact ⟨rfl, pw_below_drewN (below_alloc (below_step HB5.out HB7.out) _) _⟩
end Go.Proofs.Ytcfklhgaajmoeaa.Lin
