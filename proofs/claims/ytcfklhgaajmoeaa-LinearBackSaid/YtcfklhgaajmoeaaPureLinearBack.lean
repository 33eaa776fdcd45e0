-- What 'LinearBack' computes is true for every pair of numbers: plain law, no program in sight.
import Derived.Test.YtcfklhgaajmoeaaLinx3
import Derived.Test.YtcfklhgaajmoeaaT20
namespace Go.Proofs.Ytcfklhgaajmoeaa.Pure
open Go.RowKit Go.Proofs.Ytcfklhgaajmoeaa.Lin Go.Proofs.YtcfklhgaajmoeaaW.PrintWords Go.Proofs.YtcfklhgaajmoeaaW.PrintLast
theorem LinearBack : cadastrelaw18_LinearBack.Pure := by
  intro a0 a1 _ _
  refine ⟨1, ?_⟩
  unfold cadastrelaw18_LinearBack.f
  rcases is_cases a0 a1 with h | ⟨L, N, rfl, rfl, hL, hN⟩
  · rw [grow_bad h]
    rfl
  · have hp := pow_le (show L ≤ 11 by omega)
    by_cases h10 : L = 10
    · subst h10
      rw [grow_top hN]
      rfl
    · have hL' : L < 10 := by omega
      have hp1 : 2 ^ (L + 1) = 2 * 2 ^ L := by rw [Nat.pow_succ]; omega
      by_cases hup : N + 1 = 2 ^ L
      · rw [grow_up hL' hup]
        simp only [Option.bind_some, if_true]
        rw [shrink_down (k := 0) hL', count_good hL hN, show (0 : Int) = ((0 : Nat) : Int) from rfl, count_good (L := L + 1) (N := 0) (by omega) (Nat.pow_pos (by decide))]
        simp only [Option.bind_some]
        repeat rw [if_pos (by first | trivial | rfl | omega | (rw [w_small (by omega) (by omega)]; omega))]
        rfl
      · have hon : N + 1 < 2 ^ L := by omega
        rw [grow_on hL' hon]
        simp only [Option.bind_some, if_true]
        rw [shrink_on (k := 0) (N := N + 1) hL hon (by omega), count_good hL hN, count_good hL hon]
        simp only [Option.bind_some]
        repeat rw [if_pos (by first | trivial | rfl | omega | (rw [w_small (by omega) (by omega)]; omega))]
        rfl
end Go.Proofs.Ytcfklhgaajmoeaa.Pure
