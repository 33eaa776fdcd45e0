import Derived.Test.YtcfklhgaajmoeaaT17
namespace Go.Proofs.Ytcfklhgaajmoeaa.Lin
open Go.RowKit Go.Proofs.YtcfklhgaajmoeaaW.PrintWords Go.Proofs.YtcfklhgaajmoeaaW.PrintLast Go.Proofs.YtcfklhgaajmoeaaW.PrintMore
attribute [local go_sem] max2_int min2_int max_two min_two max_three min_three max_four min_four
set_option linter.unusedVariables false
set_option linter.unusedSimpArgs false
theorem lit_R {k : IntKind} {e : Nat} {W : World} {g B : Nat} {xs : List Int} (hn : xs.length ≤ maxLen) (hB : B ≤ g) (h : W.heap[g]? = some (.cells (encs (Value.int k) xs).toArray e (0, 0))) : Kd.R (Kd.int k) e W B (fun _ => True) (.slice (some ⟨g, 0, none⟩) xs.length xs.length) xs := by
  refine Kd.R_of_own ⟨?_, Or.inr ⟨g, xs.length, (encs (Value.int k) xs).toArray, ?_, hB, h, ?_, ?_, ?_, ?_⟩⟩ (fun _ _ => trivial)
  · simp [encs, List.take_of_length_le]
  · rfl
  · exact Nat.le_refl _
  · exact hn
  · simp [encs, List.take_of_length_le]
  · simp [encs, List.take_of_length_le]
theorem lit_Ct {W : World} {g : Nat} {xs : List Int} (hn : xs.length ≤ maxLen) (h : W.heap[g]? = some (.cells (encs (Value.int .u32) xs).toArray 38 (0, 0))) : Ct W (some ⟨g, 0, none⟩) xs :=
  Ct_of_Rw (Rw_of (lit_R (B := 0) hn (Nat.zero_le _) h))
theorem v_count1 : linear_Count.f 1 1 = some (3, 0) := by kernel_rfl
theorem v_count2 : linear_Count.f 1 2 = some (0, 1) := by kernel_rfl
theorem v_find : linear_Find.f 40 [1073741824] 1 1 = some (1, 0) := by kernel_rfl
theorem v_box : linear_Box.f 1 1 1 2 = some ([2147483648], [4294967295], 0) := by kernel_rfl
theorem v_grow : linear_Grow.f 1 1 = some (2, 0, 2, 0) := by kernel_rfl
theorem v_shrink : linear_Shrink.f 40 2 0 = some (1, 1, 2, 0) := by kernel_rfl
theorem v_shrink0 : linear_Shrink.f 40 0 0 = some (0, 0, 0, 1) := by kernel_rfl
theorem v_same : cadastreref08_SameBox.f 40 [2147483648] [4294967295] [2147483648] [4294967295] = some true := by kernel_rfl
theorem v_ints : cadastreref04_Ints.f 40 [0, 1] [0, 1] = some true := by kernel_rfl
theorem find_live (A : Option Addr) (c : Nat) (W : World) (h : Ct W A [1073741824]) (hc : 1 ≤ c) : Calls Try.prog 10 #[.slice A 1 c, .int .i64 1, .int .i64 1] W fun e w' => e = .returned (.tuple #[.int .i64 1, .int .i64 0]) ∧ Below W.heap.size W w' :=
  linear_Find.calls 40 A c [1073741824] 1 1 1 0 W h.1 hc v_find
theorem box_live (W : World) : Calls Try.prog 11 #[.int .i64 1, .int .i64 1, .int .i64 1, .int .i64 2] W fun e w' => ∃ A c A' c', e = .returned (.tuple #[.agg #[.slice A 1 c, .slice A' 1 c'], .int .i64 0]) ∧ 1 ≤ c ∧ 1 ≤ c' ∧ Ct w' A [2147483648] ∧ Ct w' A' [4294967295] ∧ Below W.heap.size W w' := by
  refine (linear_Box.calls 1 1 1 2 [2147483648] [4294967295] 0 W v_box).mono ?_
  rintro e w' ⟨v0, v1, rfl, hr1, hr2, hb⟩
  obtain ⟨A, c, rfl⟩ := Kd.R_slice hr1
  obtain ⟨A', c', rfl⟩ := Kd.R_slice hr2
  exact ⟨A, c, A', c', rfl, (Kd.R_reads' hr1).2.1, (Kd.R_reads' hr2).2.1, Ct_of_Rw (Rw_of hr1), Ct_of_Rw (Rw_of hr2), hb⟩
theorem range_live (A : Option Addr) (c : Nat) (A' : Option Addr) (c' : Nat) (W : World) (h : Ct W A [0]) (h' : Ct W A' [1073741824]) : Calls Try.prog 14 #[.agg #[.slice A 1 c, .slice A' 1 c'], .int .i64 1, .int .i64 1] W fun e w' => ∃ A c, e = .returned (.tuple #[.slice A 2 c, .int .i64 0]) ∧ 2 ≤ c ∧ Kd.C (Kd.int .i64) w' A 2 [0, 1] ∧ Below W.heap.size W w' := by
  refine (range14 A c A' c' W h h').mono ?_
  rintro e w' ⟨v, rfl, hr, hb⟩
  obtain ⟨A, c, rfl⟩ := Kd.R_slice hr
  exact ⟨A, c, rfl, (Kd.R_reads' hr).2.1, (Kd.R_reads' hr).2.2, hb⟩
theorem grow_live (W : World) : Calls Try.prog 6 #[.int .i64 1, .int .i64 1] W fun e w' => e = .returned (.tuple #[.int .i64 2, .int .i64 0, .int .i64 2, .int .i64 0]) ∧ Drawn0 W w' := linear_Grow.calls 1 1 2 0 2 0 W v_grow
theorem shrink_live (W : World) : Calls Try.prog 8 #[.int .i64 2, .int .i64 0] W fun e w' => e = .returned (.tuple #[.int .i64 1, .int .i64 1, .int .i64 2, .int .i64 0]) ∧ Drawn0 W w' := linear_Shrink.calls 40 2 0 1 1 2 0 W v_shrink
theorem shrink0_live (W : World) : Calls Try.prog 8 #[.int .i64 0, .int .i64 0] W fun e w' => e = .returned (.tuple #[.int .i64 0, .int .i64 0, .int .i64 0, .int .i64 1]) ∧ Drawn0 W w' := linear_Shrink.calls 40 0 0 0 0 0 1 W v_shrink0
theorem same_live (A0 A1 A2 A3 : Option Addr) (c0 c1 c2 c3 : Nat) (W : World) (h0 : Ct W A0 [2147483648]) (k0 : 1 ≤ c0) (h1 : Ct W A1 [4294967295]) (k1 : 1 ≤ c1) (h2 : Ct W A2 [2147483648]) (k2 : 1 ≤ c2) (h3 : Ct W A3 [4294967295]) (k3 : 1 ≤ c3) :
    Calls Try.prog 15 #[.agg #[.slice A0 1 c0, .slice A1 1 c1], .agg #[.slice A2 1 c2, .slice A3 1 c3]] W fun e w' => e = .returned (.bool true) ∧ Below W.heap.size W w' :=
  cadastreref08_SameBox.calls 40 A0 c0 [2147483648] A1 c1 [4294967295] A2 c2 [2147483648] A3 c3 [4294967295] true W h0.1 k0 h1.1 k1 h2.1 k2 h3.1 k3 v_same
theorem ints_live (A0 A1 : Option Addr) (c0 c1 : Nat) (W : World) (h0 : Kd.C (Kd.int .i64) W A0 2 [0, 1]) (k0 : 2 ≤ c0) (h1 : Kd.C (Kd.int .i64) W A1 2 [0, 1]) (k1 : 2 ≤ c1) :
    Calls Try.prog 16 #[.slice A0 2 c0, .slice A1 2 c1] W fun e w' => e = .returned (.bool true) ∧ Drawn0 W w' :=
  cadastreref04_Ints.calls 40 A0 c0 [0, 1] A1 c1 [0, 1] true W h0 k0 h1 k1 v_ints
end Go.Proofs.Ytcfklhgaajmoeaa.Lin
