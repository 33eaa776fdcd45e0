import Derived.Test.YtcfklhgaajmoeaaLinx0
import Derived.Lib.SliceRun
import Derived.Outline
namespace Go.Proofs.Ytcfklhgaajmoeaa.Lin
open Go.RowKit Go.Proofs.YtcfklhgaajmoeaaW.PrintWords Go.Proofs.YtcfklhgaajmoeaaW.PrintLast Go.Proofs.YtcfklhgaajmoeaaW.PrintMore
attribute [local go_sem] max2_int min2_int max_two min_two max_three min_three max_four min_four
set_option linter.unusedVariables false
set_option linter.unusedSimpArgs false
def le2 (l0 l1 : List Int) : Bool := decide (l0.length = l1.length) && (List.range l0.length).all fun j => decide (rd l0 j ≤ rd l1 j)
theorem le2_yes {l0 l1 : List Int} (h : l0.length = l1.length) (h1 : ∀ j : Nat, j < l0.length → rd l0 j ≤ rd l1 j) : le2 l0 l1 = true := by
  unfold le2
  rw [decide_eq_true h, Bool.true_and, List.all_eq_true]
  intro j hj
  exact decide_eq_true (h1 j (List.mem_range.1 hj))
theorem le2_no {l0 l1 : List Int} (j : Nat) (hj : j < l0.length) (h1 : ¬ rd l0 j ≤ rd l1 j) : le2 l0 l1 = false := by
  unfold le2
  rw [Bool.and_eq_false_iff]
  right
  rw [List.all_eq_false]
  exact ⟨j, List.mem_range.2 hj, by rw [decide_eq_true_iff]; exact h1⟩
theorem le2_len {l0 l1 : List Int} (h : l0.length ≠ l1.length) : le2 l0 l1 = false := by
  unfold le2
  rw [decide_eq_false h]; rfl
theorem atMost39 (a b : Int) (w : World) : Calls Try.prog 39 #[.int .u32 a, .int .u32 b] w fun e w' => e = .returned (.bool (decide (a ≤ b))) ∧ w' = w := by
  go_enter Try.func39, Try.ntmps39
  go_wp2
  go_ret
  exact ⟨rfl, rfl⟩
set_option maxHeartbeats 1000000 in
theorem all38 (A0 : Option Addr) (c0 : Nat) (l0 : List Int) (A1 : Option Addr) (c1 : Nat) (l1 : List Int) (w : World) (hr0 : Kd.C (Kd.int .u32) w A0 l0.length l0) (hr1 : Kd.C (Kd.int .u32) w A1 l1.length l1) :
    Calls Try.prog 38 #[.slice A0 l0.length c0, .slice A1 l1.length c1, .func (.func 39) #[] #[]] w fun e w' => e = .returned (.bool (le2 l0 l1)) ∧ Drawn0 w w' := by
  have hm : l0.length ≤ 9223372036854775807 := hr0.2.1
  have HR0 := Aside0.mk hr0
  have HR1 := Aside0.mk hr1
  clear hr0 hr1
  by_cases hl : l0.length = l1.length
  · have HL := Aside0.mk hl
    have hl' : ((l0.length : Int) != (l1.length : Int)) = false := by simp [hl]
    have hle : l0.length ≤ l1.length := by omega
    clear hl
    go_enter Try.func38, Try.ntmps38
    go_wp2_with fail
    go_loopw [15] (fun v wr => ∃ k : Nat, k ≤ l0.length ∧ v = .int .i64 k ∧ Aside0 (∀ j : Nat, j < k → rd l0 j ≤ rd l1 j) ∧ Drawn0 w wr) (fun v _ => l0.length - (intOf v).toNat)
    case atStart => exact ⟨0, Nat.zero_le _, rfl, ⟨fun j hj => absurd hj (Nat.not_lt_zero _)⟩, Drawn0.refl _⟩
    case round =>
      obtain ⟨k, hk, rfl, HK, ⟨n, rfl⟩⟩ := hrel
      by_cases hlt : k < l0.length
      · obtain ⟨ad0, e0, hc0⟩ := Kd.at_int HR0.out k (by omega) (by omega)
        obtain ⟨ad1, e1, hc1⟩ := Kd.at_int HR1.out k (by omega) (by omega)
        cases e0
        cases e1
        rw [Int.toNat_natCast] at hc0 hc1
        have hlt1 : k < l1.length := by omega
        by_cases hc : rd l0 k ≤ rd l1 k
        · have hcb : decide (rd l0 k ≤ rd l1 k) = true := decide_eq_true hc
          have HC := Aside0.mk hc
          clear hc
          go_wp2_with fail
          go_quiet ((go_at_call 39; exact (atMost39 _ _ _).mono fun _ _ hz => ⟨hz.1, _, hz.2⟩))
          go_wp2_with fail
          go_roundw
          case rel =>
            refine ⟨k + 1, by omega, by go_num, ⟨fun j hj => ?_⟩, by repeat (first | exact Drawn0.refl _ | apply Drawn0.step)⟩
            rcases Nat.lt_succ_iff_lt_or_eq.1 hj with h | h
            · exact HK.out j h
            · rw [h]; exact HC.out
          case measure => simp [intOf]; omega
        · have hcb : decide (rd l0 k ≤ rd l1 k) = false := decide_eq_false hc
          have HC := Aside0.mk hc
          clear hc
          go_wp2_with fail
          go_quiet ((go_at_call 39; exact (atMost39 _ _ _).mono fun _ _ hz => ⟨hz.1, _, hz.2⟩))
          go_wp2_with fail
          go_ret
          exact ⟨by rw [le2_no k hlt (Int.not_le.2 HC.out)]; rfl, by repeat (first | exact Drawn0.refl _ | apply Drawn0.step)⟩
      · have hk' : k = l0.length := by omega
        subst hk'
        go_wp2_with fail
        go_ret
        exact ⟨by rw [le2_yes HL.out HK.out]; rfl, by repeat (first | exact Drawn0.refl _ | apply Drawn0.step)⟩
  · have hl' : ((l0.length : Int) != (l1.length : Int)) = true := by simp; omega
    have HL := Aside0.mk hl
    clear hl
    go_enter Try.func38, Try.ntmps38
    go_wp2_with fail
    go_ret
    exact ⟨by rw [le2_len HL.out]; rfl, Drawn0.refl _⟩
end Go.Proofs.Ytcfklhgaajmoeaa.Lin
