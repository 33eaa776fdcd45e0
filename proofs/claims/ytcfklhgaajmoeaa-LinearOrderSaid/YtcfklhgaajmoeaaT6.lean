import Derived.Test.YtcfklhgaajmoeaaT5
namespace Go.Proofs.Ytcfklhgaajmoeaa.Lin
open Go.RowKit Go.Proofs.YtcfklhgaajmoeaaW.PrintWords Go.Proofs.YtcfklhgaajmoeaaW.PrintLast Go.Proofs.YtcfklhgaajmoeaaW.PrintMore
attribute [local go_sem] max2_int min2_int max_two min_two max_three min_three max_four min_four
set_option linter.unusedVariables false
set_option linter.unusedSimpArgs false
theorem has41 (A0 : Option Addr) (c0 : Nat) (l0 : List Int) (A1 : Option Addr) (c1 : Nat) (l1 : List Int) (d : Int) (w : World) (hr0 : Kd.C (Kd.int .u32) w A0 l0.length l0) (hr1 : Kd.C (Kd.int .u32) w A1 l1.length l1)
    (h0 : 0 ≤ d) (h1 : d < l0.length) (hk : chkBox l0 l1 l0.length = 0) :
    Calls Try.prog 41 #[.agg #[.slice A0 l0.length c0, .slice A1 l1.length c1], .int .i64 d] w fun e w' => e = .returned (.bool true) ∧ Below w.heap.size w w' := by
  have HR0 := Aside0.mk hr0
  have HR1 := Aside0.mk hr1
  clear hr0 hr1
  have hu33 := Try.underlying33
  have hkb : (chkBox l0 l1 l0.length == 0) = true := by simp [hk]
  clear hk
  go_enter Try.func41, Try.ntmps41
  go_wp2_with (go_at_call 27; go_loud (refine (checkBox27 _ _ l0 _ _ l1 _ _ (Kd.C_below HR0.out (below_alloc (Below.refl _ _) _)) (Kd.C_below HR1.out (below_alloc (Below.refl _ _) _))).mono ?_); rintro e w' ⟨rfl, hb⟩; have HB := Aside0.mk (below_step (below_alloc (Below.refl w.heap.size w) _) hb); clear hb)
  go_ret
  exact ⟨rfl, HB.out⟩
theorem le2_spec {l0 l1 : List Int} (h : le2 l0 l1 = true) : l0.length = l1.length ∧ ∀ j : Nat, j < l0.length → rd l0 j ≤ rd l1 j := by
  unfold le2 at h
  rw [Bool.and_eq_true, decide_eq_true_iff, List.all_eq_true] at h
  exact ⟨h.1, fun j hj => of_decide_eq_true (h.2 j (List.mem_range.2 hj))⟩
theorem chkBox_len {l h : List Int} {d : Int} (hk : chkBox l h d = 0) : h.length = l.length := by
  unfold chkBox at hk
  split at hk
  · rename_i hh; exact (le2_spec hh.2).1.symm
  · cases hk
def midOf (a b : Int) : Int := a + (b - a) / 2
theorem middle35 (A0 : Option Addr) (c0 : Nat) (l0 : List Int) (A1 : Option Addr) (c1 : Nat) (l1 : List Int) (d : Int) (w : World) (hr0 : Kd.C (Kd.int .u32) w A0 l0.length l0) (hr1 : Kd.C (Kd.int .u32) w A1 l1.length l1)
    (h0 : 0 ≤ d) (h1 : d < l0.length) (hk : chkBox l0 l1 l0.length = 0) (h2 : 0 ≤ rd l0 d) (h3 : rd l0 d < rd l1 d) (h4 : rd l1 d ≤ 4294967295) :
    Calls Try.prog 35 #[.agg #[.slice A0 l0.length c0, .slice A1 l1.length c1], .int .i64 d] w fun e w' => e = .returned (.tuple #[.int .u32 (midOf (rd l0 d) (rd l1 d)), .bool true]) ∧ Below w.heap.size w w' := by
  have HR0 := Aside0.mk hr0
  have HR1 := Aside0.mk hr1
  have HK := Aside0.mk hk
  clear hr0 hr1 hk
  have hu33 := Try.underlying33
  go_enter Try.func35, Try.ntmps35
  go_wp2_with (go_at_call 41; go_loud (refine (has41 _ _ l0 _ _ l1 _ _ (Kd.C_below HR0.out (below_alloc (Below.refl _ _) _)) (Kd.C_below HR1.out (below_alloc (Below.refl _ _) _)) h0 h1 HK.out).mono ?_); rintro e w' ⟨rfl, hb⟩; have HB := Aside0.mk (below_step (below_alloc (Below.refl w.heap.size w) _) hb); obtain ⟨q0, q1⟩ := blk_cell0 (W := w') (g := w.heap.size) ((hb.block _ (by simp)).trans (blk_new _ _)); have HR0' := Aside0.mk (Kd.C_below HR0.out HB.out); have HR1' := Aside0.mk (Kd.C_below HR1.out HB.out); clear hb)
  obtain ⟨ad0, e0, hc0⟩ := Kd.at_int HR0'.out d h0 h1
  obtain ⟨ad1, e1, hc1⟩ := Kd.at_int HR1'.out d h0 (by rw [chkBox_len HK.out]; exact h1)
  cases e0
  cases e1
  have h1' : d < (l1.length : Int) := by rw [chkBox_len HK.out]; exact h1
  clear HR0' HR1' HR0 HR1
  go_quiet (fail)
  have hm : 0 ≤ (rd l1 d - rd l0 d) / 2 := by omega
  go_wp2_with fail
  go_ret2
  exact ⟨rfl, pw_below_drewN HB.out _⟩
end Go.Proofs.Ytcfklhgaajmoeaa.Lin
