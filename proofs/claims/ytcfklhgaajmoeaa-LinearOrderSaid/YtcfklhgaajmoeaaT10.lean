import Derived.Test.YtcfklhgaajmoeaaT9
namespace Go.Proofs.Ytcfklhgaajmoeaa.Lin
open Go.RowKit Go.Proofs.YtcfklhgaajmoeaaW.PrintWords Go.Proofs.YtcfklhgaajmoeaaW.PrintLast Go.Proofs.YtcfklhgaajmoeaaW.PrintMore
attribute [local go_sem] max2_int min2_int max_two min_two max_three min_three max_four min_four
set_option linter.unusedVariables false
set_option linter.unusedSimpArgs false
/-- bit number i (from the highest) of an address of so many bits -/
def bitAt (depth addr i : Nat) : Bool := addr / 2 ^ (depth - 1 - i) % 2 == 1
def stepBox (dim depth addr i : Nat) (b : List Int × List Int) : List Int × List Int :=
  if bitAt depth addr i = true then (b.1.set (i % dim) (midOf (rd b.1 (i % dim : Nat)) (rd b.2 (i % dim : Nat)) + 1), b.2)
  else (b.1, b.2.set (i % dim) (midOf (rd b.1 (i % dim : Nat)) (rd b.2 (i % dim : Nat))))
def boxUpto (dim depth addr : Nat) : Nat → List Int × List Int
  | 0 => (List.replicate dim 0, List.replicate dim 4294967295)
  | i + 1 => stepBox dim depth addr i (boxUpto dim depth addr i)
/-- what is known of a box behind i steps -/
structure BoxOk (dim i : Nat) (b : List Int × List Int) : Prop where
  l0 : b.1.length = dim
  l1 : b.2.length = dim
  lo : ∀ c : Nat, c < dim → 0 ≤ rd b.1 c
  hi : ∀ c : Nat, c < dim → rd b.2 c ≤ 4294967295
  wd : ∀ c : Nat, c < dim → rd b.1 c + (2 ^ (32 - i) - 1 : Nat) ≤ rd b.2 c
theorem rd_rep (n : Nat) (v : Int) (c : Nat) (h : c < n) : rd (List.replicate n v) c = v := by simp [rd, List.getD_eq_getElem?_getD, List.getElem?_replicate, h]
theorem rd_set' (ys : List Int) (k j : Nat) (x : Int) (hj : j < ys.length) : rd (ys.set k x) j = if j = k then x else rd ys j := by
  by_cases h : j = k
  · subst h
    rw [if_pos rfl]
    exact rd_set_same _ _ _ hj
  · rw [if_neg h]
    exact rd_set_other _ _ _ _ h
theorem boxOk_zero (dim : Nat) : BoxOk dim 0 (List.replicate dim 0, List.replicate dim 4294967295) where
  l0 := List.length_replicate
  l1 := List.length_replicate
  lo := fun c h => by rw [rd_rep _ _ _ h]; omega
  hi := fun c h => by rw [rd_rep _ _ _ h]; omega
  wd := fun c h => by rw [rd_rep _ _ _ h, rd_rep _ _ _ h]; decide
theorem boxOk_step {dim depth addr i : Nat} {b : List Int × List Int} (h : BoxOk dim i b) (hi : i < 32) (hd : 0 < dim) : BoxOk dim (i + 1) (stepBox dim depth addr i b) := by
  have hp : 2 ^ (32 - i) = 2 * 2 ^ (32 - (i + 1)) := by
    rw [show 32 - i = (32 - (i + 1)) + 1 by omega, Nat.pow_succ]; omega
  have hpos : 0 < 2 ^ (32 - (i + 1)) := Nat.two_pow_pos _
  have hm := Nat.mod_lt i hd
  obtain ⟨l0, l1, lo, hi', wd⟩ := h
  have w1 := wd _ hm
  have w2 := lo _ hm
  have w3 := hi' _ hm
  unfold stepBox midOf
  by_cases hb : bitAt depth addr i = true
  · rw [if_pos hb]
    refine ⟨by rw [List.length_set]; exact l0, l1, fun c hc => ?_, hi', fun c hc => ?_⟩
    · dsimp only
      rw [rd_set' _ _ _ _ (by omega)]
      have := lo c hc
      split <;> omega
    · dsimp only
      rw [rd_set' _ _ _ _ (by omega)]
      have := wd c hc
      split
      · subst c; omega
      · omega
  · rw [if_neg hb]
    refine ⟨l0, by rw [List.length_set]; exact l1, lo, fun c hc => ?_, fun c hc => ?_⟩
    · dsimp only
      rw [rd_set' _ _ _ _ (by omega)]
      have := hi' c hc
      split
      · subst c; omega
      · omega
    · dsimp only
      rw [rd_set' _ _ _ _ (by omega)]
      have := wd c hc
      split
      · subst c; omega
      · omega
theorem boxOk_upto (dim depth addr : Nat) (hd : 0 < dim) : ∀ i, i ≤ 32 → BoxOk dim i (boxUpto dim depth addr i)
  | 0, _ => boxOk_zero dim
  | i + 1, h => boxOk_step (boxOk_upto dim depth addr hd i (by omega)) (by omega) hd
theorem boxOk_chk {dim i : Nat} {b : List Int × List Int} (h : BoxOk dim i b) (h1 : 1 ≤ dim) (h6 : dim ≤ 6) : chkBox b.1 b.2 b.1.length = 0 := by
  unfold chkBox
  rw [if_pos]
  refine ⟨?_, le2_yes (by rw [h.l0, h.l1]) (fun j hj => by have := h.wd j (by rw [← h.l0]; exact hj); omega)⟩
  unfold chk
  rw [h.l0, if_pos ⟨by omega, by omega, rfl⟩]
theorem isAddr24 (depth addr : Nat) (w : World) (hd : depth ≤ 12) (ha : addr < 2 ^ depth) : Calls Try.prog 24 #[.int .i64 depth, .int .i64 addr] w fun e w' => e = .returned (.bool true) ∧ w = w' := by
  obtain rfl | rfl | rfl | rfl | rfl | rfl | rfl | rfl | rfl | rfl | rfl | rfl | rfl : depth = 0 ∨ depth = 1 ∨ depth = 2 ∨ depth = 3 ∨ depth = 4 ∨ depth = 5 ∨ depth = 6 ∨ depth = 7 ∨ depth = 8 ∨ depth = 9 ∨ depth = 10 ∨ depth = 11 ∨ depth = 12 := by omega
  all_goals
    have hb : addr < _ := ha
    simp only [Nat.reducePow] at hb
    clear ha
    go_enter Try.func24, Try.ntmps24
    go_wp2
    go_ret
    exact ⟨by simp; omega, rfl⟩
end Go.Proofs.Ytcfklhgaajmoeaa.Lin
