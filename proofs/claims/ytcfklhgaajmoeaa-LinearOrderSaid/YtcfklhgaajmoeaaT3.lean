import Derived.Test.YtcfklhgaajmoeaaT2
namespace Go.Proofs.Ytcfklhgaajmoeaa.Lin
open Go.RowKit Go.Proofs.YtcfklhgaajmoeaaW.PrintWords Go.Proofs.YtcfklhgaajmoeaaW.PrintLast Go.Proofs.YtcfklhgaajmoeaaW.PrintMore
attribute [local go_sem] max2_int min2_int max_two min_two max_three min_three max_four min_four
set_option linter.unusedVariables false
set_option linter.unusedSimpArgs false
def chk (n : Nat) (d : Int) : Int := if 1 ≤ d ∧ d ≤ 6 ∧ (n : Int) = d then 0 else 1
theorem check37 (A0 : Option Addr) (c0 n : Nat) (d : Int) (w : World) :
    Calls Try.prog 37 #[.slice A0 n c0, .int .i64 d] w fun e w' => e = .returned (.int .i64 (chk n d)) ∧ w' = w := by
  by_cases h1 : 1 ≤ d
  · by_cases h2 : d ≤ 6
    · by_cases h3 : (n : Int) = d
      · have h3b : ((n : Int) != d) = false := by simp [h3]
        have he : chk n d = 0 := if_pos ⟨h1, h2, h3⟩
        rw [he]
        clear he h3
        go_enter Try.func37, Try.ntmps37
        go_wp2
        go_ret
        exact ⟨rfl, rfl⟩
      · have h3b : ((n : Int) != d) = true := by simp [h3]
        have he : chk n d = 1 := if_neg (fun h => h3 h.2.2)
        rw [he]
        clear he h3
        go_enter Try.func37, Try.ntmps37
        go_wp2
        go_ret
        exact ⟨rfl, rfl⟩
    · have he : chk n d = 1 := if_neg (fun h => h2 h.2.1)
      rw [he]
      clear he
      go_enter Try.func37, Try.ntmps37
      go_wp2
      go_ret
      exact ⟨rfl, rfl⟩
  · have he : chk n d = 1 := if_neg (fun h => h1 h.1)
    rw [he]
    clear he
    go_enter Try.func37, Try.ntmps37
    go_wp2
    go_ret
    exact ⟨rfl, rfl⟩
def chkBox (l h : List Int) (d : Int) : Int := if chk l.length d = 0 ∧ le2 l h = true then 0 else 1
theorem checkBox27 (A0 : Option Addr) (c0 : Nat) (l0 : List Int) (A1 : Option Addr) (c1 : Nat) (l1 : List Int) (d : Int) (w : World) (hr0 : Kd.C (Kd.int .u32) w A0 l0.length l0) (hr1 : Kd.C (Kd.int .u32) w A1 l1.length l1) :
    Calls Try.prog 27 #[.agg #[.slice A0 l0.length c0, .slice A1 l1.length c1], .int .i64 d] w fun e w' => e = .returned (.int .i64 (chkBox l0 l1 d)) ∧ Below w.heap.size w w' := by
  have HR0 := Aside0.mk hr0
  have HR1 := Aside0.mk hr1
  clear hr0 hr1
  have hu33 := Try.underlying33
  by_cases hc : chk l0.length d = 0
  · have hcb : (chk l0.length d != 0) = false := by simp [hc]
    cases hl : le2 l0 l1 with
    | true =>
      rw [show chkBox l0 l1 d = 0 from if_pos ⟨hc, hl⟩]
      have HL := Aside0.mk hl
      clear hc
      go_enter Try.func27, Try.ntmps27
      go_wp2_with (first | (go_at_call 37; refine (check37 _ _ _ _ _).mono ?_; rintro e w' ⟨rfl, rfl⟩) | (go_at_call 38; go_loud (refine (all38 _ _ l0 _ _ l1 _ (Kd.C_below HR0.out (below_alloc (Below.refl _ _) _)) (Kd.C_below HR1.out (below_alloc (Below.refl _ _) _))).mono ?_); rintro e w' ⟨rfl, ⟨nd, rfl⟩⟩))
      go_ret
      exact ⟨rfl, by repeat (first | exact Below.refl _ _ | apply below_alloc | apply pw_below_drewN | apply below_drew)⟩
    | false =>
      rw [show chkBox l0 l1 d = 1 from if_neg (fun h => by rw [hl] at h; cases h.2)]
      have HL := Aside0.mk hl
      clear hc
      go_enter Try.func27, Try.ntmps27
      go_wp2_with (first | (go_at_call 37; refine (check37 _ _ _ _ _).mono ?_; rintro e w' ⟨rfl, rfl⟩) | (go_at_call 38; go_loud (refine (all38 _ _ l0 _ _ l1 _ (Kd.C_below HR0.out (below_alloc (Below.refl _ _) _)) (Kd.C_below HR1.out (below_alloc (Below.refl _ _) _))).mono ?_); rintro e w' ⟨rfl, ⟨nd, rfl⟩⟩))
      go_ret
      exact ⟨rfl, by repeat (first | exact Below.refl _ _ | apply below_alloc | apply pw_below_drewN | apply below_drew)⟩
  · have hcb : (chk l0.length d != 0) = true := by simp [hc]
    rw [show chkBox l0 l1 d = 1 from if_neg (fun h => hc h.1)]
    clear hc
    go_enter Try.func27, Try.ntmps27
    go_wp2_with (first | (go_at_call 37; refine (check37 _ _ _ _ _).mono ?_; rintro e w' ⟨rfl, rfl⟩) | (go_at_call 38; go_loud (refine (all38 _ _ l0 _ _ l1 _ (Kd.C_below HR0.out (below_alloc (Below.refl _ _) _)) (Kd.C_below HR1.out (below_alloc (Below.refl _ _) _))).mono ?_); rintro e w' ⟨rfl, ⟨nd, rfl⟩⟩))
    go_ret
    exact ⟨rfl, by repeat (first | exact Below.refl _ _ | apply below_alloc | apply pw_below_drewN | apply below_drew)⟩
end Go.Proofs.Ytcfklhgaajmoeaa.Lin
