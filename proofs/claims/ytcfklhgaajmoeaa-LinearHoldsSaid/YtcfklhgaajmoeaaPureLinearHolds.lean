-- What 'LinearHolds' computes is true for every point, level and next: plain law, no program in sight.
import Derived.Test.YtcfklhgaajmoeaaLinx4
import Derived.Test.YtcfklhgaajmoeaaT23
import Derived.DataShut
namespace Go.Proofs.Ytcfklhgaajmoeaa.Pure
open Go.RowKit Go.Proofs.Ytcfklhgaajmoeaa.Lin Go.Proofs.YtcfklhgaajmoeaaW.PrintWords Go.Proofs.YtcfklhgaajmoeaaW.PrintLast
theorem j3_true {k : Nat} {n s m : Nat} (hs : n ≤ 5000) (h1 : n < s → m = n) (h2 : s < n → m = n + 1) (h3 : n = s → m = n ∨ m = n + 1) : cadastrelaw18_LinearHolds.j3 (k + 1) (n : Int) (s : Int) (m : Int) ((0 : Int) != 0) = some true := by
  rw [cadastrelaw18_LinearHolds.j3, if_neg (by decide)]
  have hw : wrap64 ((n : Int) + 1) = (n : Int) + 1 := w_small (by omega) (by omega)
  rw [hw]
  by_cases a1 : n < s
  · rw [if_pos (by omega), if_pos (by have := h1 a1; omega)]; rfl
  · rw [if_neg (by omega)]
    by_cases a2 : s < n
    · rw [if_pos (by omega), if_pos (by have := h2 a2; omega)]; rfl
    · rw [if_neg (by omega)]
      rcases h3 (by omega) with e | e
      · rw [if_pos (by omega)]; rfl
      · rw [if_neg (by omega), if_pos (by omega)]; rfl
theorem j2_true {ks : List Int} {k L N : Nat} (h1 : 1 ≤ ks.length) (h6 : ks.length ≤ 6) (hL : L ≤ 9) (hN : N < 2 ^ L) (hk0 : ∀ x ∈ ks, 0 ≤ x) (hkk : 15 ≤ k) :
    cadastrelaw18_LinearHolds.j2 (k + 1) ks (L : Int) (N : Int) ((chainOf ks L N : Nat) : Int) false = some true := by
  obtain ⟨k, rfl⟩ : ∃ k', k = k' + 1 := ⟨k - 1, by omega⟩
  have hp := pow_le (show L ≤ 11 by omega)
  have hcl := chain_lt (ks := ks) hN
  have hp1 : 2 ^ (L + 1) = 2 * 2 ^ L := by rw [Nat.pow_succ]; omega
  rw [cadastrelaw18_LinearHolds.j2, if_neg (by decide)]
  by_cases hup : N + 1 = 2 ^ L
  · obtain ⟨c1, c2, c3⟩ := chain_up (ks := ks) hup
    rw [grow_up (by omega) hup, Option.bind_some]
    show ((linear_Find.f (k + 1) ks ((L + 1 : Nat) : Int) ((0 : Nat) : Int)).bind _) = _
    rw [find_f ks h1 h6 hk0 (L := L + 1) (N := 0) (by omega) (Nat.pow_pos (by decide)) (k + 1) (by omega), Option.bind_some, if_pos rfl]
    exact j3_true (by omega) c1 (fun h => absurd h c2) c3
  · obtain ⟨c1, c2, c3⟩ := chain_on (ks := ks) (L := L) (N := N) (by omega)
    rw [grow_on (by omega) (by omega), Option.bind_some]
    show ((linear_Find.f (k + 1) ks (L : Int) ((N + 1 : Nat) : Int)).bind _) = _
    rw [find_f ks h1 h6 hk0 (L := L) (N := N + 1) (by omega) (by omega) (k + 1) (by omega), Option.bind_some, if_pos rfl]
    exact j3_true (by omega) c1 c2 c3
theorem LinearHolds : cadastrelaw18_LinearHolds.Pure := by
  intro ks a1 a2 _ _ hwf _ _
  refine ⟨40, ?_⟩
  have hk0 : ∀ x ∈ ks, 0 ≤ x ∧ x ≤ 4294967295 := fun x hx => by
    have h := (Lit.wf_int_iff .u32 x).mp (hwf x hx)
    have e1 : IntKind.u32.min = 0 := by decide
    have e2 : IntKind.u32.max = 4294967295 := by decide
    rw [e1, e2] at h
    exact h
  have hk : ∀ j : Nat, j < ks.length → 0 ≤ rd ks j ∧ rd ks j ≤ 4294967295 := fun j hj => by
    unfold rd
    rw [Int.toNat_natCast, List.getD_eq_getElem?_getD, List.getElem?_eq_getElem hj]
    exact hk0 _ (List.getElem_mem hj)
  unfold cadastrelaw18_LinearHolds.f
  rcases is_cases a1 a2 with h | ⟨L, N, rfl, rfl, hL, hN⟩
  · rw [find_not ks h 40, Option.bind_some, if_neg (by decide), cadastrelaw18_LinearHolds.j0, if_pos rfl]
    rfl
  · by_cases hd : 1 ≤ ks.length ∧ ks.length ≤ 6
    · obtain ⟨h1, h6⟩ := hd
      rw [find_f ks h1 h6 (fun x hx => (hk0 x hx).1) hL hN 40 (by decide), Option.bind_some, if_pos rfl]
      by_cases h9 : (L : Int) > 9
      · rw [if_pos h9, cadastrelaw18_LinearHolds.j0, if_pos rfl]
        rfl
      · rw [if_neg h9, show decide ((ks.length : Int) > 6) = false from decide_eq_false (by omega), cadastrelaw18_LinearHolds.j0, if_neg (by decide)]
        have hp := pow_le (show L ≤ 11 by omega)
        have hcl := chain_lt (ks := ks) hN
        obtain ⟨e0, e1, e2⟩ := boxOf_len h1 h6 hL hN hcl hk
        have hin : cadastreref08_In.f 39 ks (boxOf ks.length L N (chainOf ks L N)).1 (boxOf ks.length L N (chainOf ks L N)).2 = some true := by
          rcases in_f h6 e0 e1 39 (by decide) with ⟨h, _⟩ | ⟨_, h⟩
          · exact h
          · exact absurd (e2.mpr rfl) h
        dsimp only
        rw [box_f h1 h6 hL hN hcl, Option.bind_some, if_pos rfl]
        dsimp only
        rw [hin, Option.bind_some, cadastrelaw18_LinearHolds.j1, if_neg (by decide), w_small (x := ((chainOf ks L N : Nat) : Int) + 1) (by omega) (by omega), w_small (x := ((chainOf ks L N : Nat) : Int) - 1) (by omega) (by omega)]
        have hj2 := j2_true (k := 37) h1 h6 (by omega) hN (fun x hx => (hk0 x hx).1) (by decide)
        rcases beside h1 h6 hL hN hk (((chainOf ks L N : Nat) : Int) + 1) (by omega) 38 (by decide) with u | ⟨lo, hi, u, ui⟩ <;>
        rcases beside h1 h6 hL hN hk (((chainOf ks L N : Nat) : Int) - 1) (by omega) 38 (by decide) with v | ⟨lo', hi', v, vi⟩ <;>
        rw [u, v, Option.bind_some, Option.bind_some]
        · rw [if_neg (by decide), if_neg (by decide)]
          exact hj2
        · rw [if_neg (by decide), if_pos rfl]
          dsimp only
          rw [vi, Option.bind_some]
          exact hj2
        · rw [if_pos rfl]
          dsimp only
          rw [ui, Option.bind_some, if_neg (by decide), if_neg (by decide)]
          exact hj2
        · rw [if_pos rfl]
          dsimp only
          rw [ui, Option.bind_some, if_neg (by decide), if_pos rfl, vi, Option.bind_some]
          exact hj2
    · rw [find_bad ks hd hL hN 40 (by decide), Option.bind_some, if_neg (by decide), cadastrelaw18_LinearHolds.j0, if_pos rfl]
      rfl
end Go.Proofs.Ytcfklhgaajmoeaa.Pure
