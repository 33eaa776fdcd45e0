import Derived.Test.YtcfklhgaajmoeaaT19
namespace Go.Proofs.Ytcfklhgaajmoeaa.Lin
open Go.RowKit Go.Proofs.YtcfklhgaajmoeaaW.PrintWords Go.Proofs.YtcfklhgaajmoeaaW.PrintLast Go.Proofs.YtcfklhgaajmoeaaW.PrintMore
theorem w_small {x : Int} (h0 : -1000000000000 ≤ x) (h1 : x ≤ 1000000000000) : wrap64 x = x := by unfold wrap64; omega
theorem pow_le {L : Nat} (hL : L ≤ 11) : 2 ^ L ≤ 2048 := Nat.le_trans (Nat.pow_le_pow_right (by decide) hL) (by decide)
theorem is_true {L N : Nat} (hL : L ≤ 10) (hN : N < 2 ^ L) : linear_is.f (L : Int) (N : Int) = some true := by
  unfold linear_is.f
  rw [if_pos (by omega), if_pos (by omega), if_pos (by omega), if_pos (by omega), shl_one L hL]
  congr 1
  exact decide_eq_true (by omega)
theorem is_cases (a0 a1 : Int) : linear_is.f a0 a1 = some false ∨ ∃ L N : Nat, a0 = L ∧ a1 = N ∧ L ≤ 10 ∧ N < 2 ^ L := by
  unfold linear_is.f
  by_cases h0 : a0 ≥ 0
  · by_cases h1 : a0 ≤ 10
    · by_cases h2 : a1 ≥ 0
      · have h0' : 0 ≤ a0 := h0
        obtain ⟨L, rfl⟩ := Int.eq_ofNat_of_zero_le h0'
        obtain ⟨N, rfl⟩ := Int.eq_ofNat_of_zero_le h2
        have hL : L ≤ 10 := by omega
        rw [if_pos h0, if_pos h1, if_pos h2, if_pos h0', shl_one L hL]
        by_cases h3 : (N : Int) < ((2 ^ L : Nat) : Int)
        · exact Or.inr ⟨L, N, rfl, rfl, hL, by omega⟩
        · left
          congr 1
          exact decide_eq_false h3
      · left; rw [if_pos h0, if_pos h1, if_neg h2]
    · left; rw [if_pos h0, if_neg h1]
  · left; rw [if_neg h0]
theorem grow_bad {a0 a1 : Int} (h : linear_is.f a0 a1 = some false) : linear_Grow.f a0 a1 = some (0, 0, 0, 1) := by
  unfold linear_Grow.f
  rw [h]
  rfl
theorem count_bad {a0 a1 : Int} (h : linear_is.f a0 a1 = some false) : linear_Count.f a0 a1 = some (0, 1) := by
  unfold linear_Count.f
  rw [h]
  rfl
theorem grow_top {N : Nat} (hN : N < 2 ^ 10) : linear_Grow.f (10 : Nat) N = some (0, 0, 0, 4) := by
  unfold linear_Grow.f
  rw [is_true (by decide) hN]
  rfl
theorem grow_up {L N : Nat} (hL : L < 10) (hN : N + 1 = 2 ^ L) : linear_Grow.f L N = some (((L + 1 : Nat) : Int), 0, ((2 * N : Nat) : Int), 0) := by
  have hp := pow_le (show L ≤ 11 by omega)
  unfold linear_Grow.f
  rw [is_true (by omega) (by omega), shl_one L (by omega)]
  simp only [Option.bind_some, if_true]
  rw [if_neg (by omega), if_pos (by omega), w_small (by omega) (by omega), if_pos (by omega), w_small (by omega) (by omega), w_small (by omega) (by omega)]
  rfl
theorem grow_on {L N : Nat} (hL : L < 10) (hN : N + 1 < 2 ^ L) : linear_Grow.f L N = some ((L : Int), ((N + 1 : Nat) : Int), ((2 * N : Nat) : Int), 0) := by
  have hp := pow_le (show L ≤ 11 by omega)
  unfold linear_Grow.f
  rw [is_true (by omega) (by omega), shl_one L (by omega)]
  simp only [Option.bind_some, if_true]
  rw [if_neg (by omega), if_pos (by omega), w_small (by omega) (by omega), if_neg (by omega), w_small (by omega) (by omega)]
  rfl
theorem count_good {L N : Nat} (hL : L ≤ 10) (hN : N < 2 ^ L) : linear_Count.f L N = some (((2 ^ L + N : Nat) : Int), 0) := by
  have hp := pow_le (show L ≤ 11 by omega)
  unfold linear_Count.f
  rw [is_true hL hN, shl_one L hL]
  simp only [Option.bind_some, if_true]
  rw [if_pos (by omega), w_small (by omega) (by omega)]
  rw [show (((2 ^ L : Nat) : Int) + (N : Int)) = ((2 ^ L + N : Nat) : Int) by omega]
theorem shrink_on {k L N : Nat} (hL : L ≤ 10) (hN : N < 2 ^ L) (h1 : 1 ≤ N) : linear_Shrink.f (k + 1) L N = some ((L : Int), ((N - 1 : Nat) : Int), ((2 * (N - 1) : Nat) : Int), 0) := by
  have hp := pow_le (show L ≤ 11 by omega)
  have hL1 : L ≠ 0 := by rintro rfl; omega
  unfold linear_Shrink.f
  rw [is_true hL hN, show ((L : Int) == 0) = false by simp; omega]
  simp only [Option.bind_some, if_true, linear_Shrink.j0]
  rw [if_neg (by decide), if_neg (by omega), w_small (by omega) (by omega), w_small (by omega) (by omega)]
  rw [show ((N : Int) - 1) = ((N - 1 : Nat) : Int) by omega]
  rfl
theorem shrink_down {k L : Nat} (hL : L < 10) : linear_Shrink.f (k + 1) ((L + 1 : Nat) : Int) 0 = some ((L : Int), ((2 ^ L - 1 : Nat) : Int), ((2 * (2 ^ L - 1) : Nat) : Int), 0) := by
  have hp := pow_le (show L ≤ 11 by omega)
  have hp0 : 0 < 2 ^ L := Nat.pow_pos (by decide)
  have hi := is_true (L := L + 1) (N := 0) (by omega) (Nat.pow_pos (by decide))
  unfold linear_Shrink.f
  rw [show (0 : Int) = ((0 : Nat) : Int) from rfl, hi, show (((L + 1 : Nat) : Int) == ((0 : Nat) : Int)) = false by simp; omega]
  simp only [Option.bind_some, if_true, linear_Shrink.j0]
  rw [if_neg (by decide), if_pos (by rfl), if_pos (by rw [w_small (by omega) (by omega)]; omega)]
  rw [w_small (x := ((L + 1 : Nat) : Int) - 1) (by omega) (by omega), show ((L + 1 : Nat) : Int) - 1 = (L : Int) by omega, shl_one L (by omega), w_small (x := ((2 ^ L : Nat) : Int) - 1) (by omega) (by omega), w_small (by omega) (by omega)]
  rw [show ((2 ^ L : Nat) : Int) - 1 = ((2 ^ L - 1 : Nat) : Int) by omega]
  rfl
end Go.Proofs.Ytcfklhgaajmoeaa.Lin
