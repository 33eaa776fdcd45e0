import Derived.Test.YtcfklhgaajmoeaaT15
namespace Go.Proofs.Ytcfklhgaajmoeaa.Lin
open Go.RowKit Go.Proofs.YtcfklhgaajmoeaaW.PrintWords Go.Proofs.YtcfklhgaajmoeaaW.PrintLast Go.Proofs.YtcfklhgaajmoeaaW.PrintMore
attribute [local go_sem] max2_int min2_int max_two min_two max_three min_three max_four min_four
set_option linter.unusedVariables false
set_option linter.unusedSimpArgs false
theorem shl_one : ∀ L : Nat, L ≤ 10 → shl .i64 1 (L : Int) = ((2 ^ L : Nat) : Int) := by decide
theorem count_ok {a1 a2 n : Int} (h : linear_Count.f a1 a2 = some (n, 0)) : ∃ L N : Nat, a1 = L ∧ a2 = N ∧ L ≤ 10 ∧ N < 2 ^ L ∧ n = ((2 ^ L + N : Nat) : Int) := by
  unfold linear_Count.f linear_is.f at h
  by_cases h0 : a1 ≥ 0
  · by_cases h1 : a1 ≤ 10
    · by_cases h2 : a2 ≥ 0
      · have h0' : 0 ≤ a1 := h0
        obtain ⟨L, rfl⟩ := Int.eq_ofNat_of_zero_le h0'
        obtain ⟨N, rfl⟩ := Int.eq_ofNat_of_zero_le h2
        have hL : L ≤ 10 := by omega
        simp only [if_pos h0, if_pos h1, if_pos h2, if_pos h0', Option.bind_some, shl_one L hL] at h
        by_cases h3 : (N : Int) < ((2 ^ L : Nat) : Int)
        · simp only [h3, decide_true, if_true, Option.some.injEq, Prod.mk.injEq, and_true] at h
          have hp : 2 ^ L ≤ 2 ^ 10 := Nat.pow_le_pow_right (by decide) hL
          refine ⟨L, N, rfl, rfl, hL, by omega, ?_⟩
          rw [← h]
          have hs : (((2 ^ L : Nat) : Int) + (N : Int)) = ((2 ^ L + N : Nat) : Int) := by omega
          rw [hs]
          unfold wrap64; omega
        · simp only [h3, decide_false, Bool.false_eq_true, if_false, Option.some.injEq, Prod.mk.injEq] at h; omega
      · simp [if_pos h0, if_pos h1, if_neg h2] at h
    · simp [if_pos h0, if_neg h1] at h
  · simp [if_neg h0] at h
def linear_Box.f (a0 a1 a2 a3 : Int) : Option (List Int × List Int × Int) :=
  if 1 ≤ a0 ∧ a0 ≤ 6 then (linear_Count.f a1 a2).bind fun t =>
    if t.2 ≠ 0 ∨ a3 < 0 ∨ t.1 ≤ a3 then some ([], [], 1)
    else if a3 < 2 * a2 then some ((boxUpto a0.toNat (a1.toNat + 1) a3.toNat (a1.toNat + 1)).1, (boxUpto a0.toNat (a1.toNat + 1) a3.toNat (a1.toNat + 1)).2, 0)
    else some ((boxUpto a0.toNat a1.toNat (a3 - a2).toNat a1.toNat).1, (boxUpto a0.toNat a1.toNat (a3 - a2).toNat a1.toNat).2, 0)
  else none
def BoxPost (w : World) (lo hi : List Int) (r : Int) (e : Ending) (w' : World) : Prop := ∃ v0_ v1_ : Value, e = .returned (.tuple #[.agg #[v0_, v1_], .int .i64 r]) ∧ Kd.R (Kd.int .u32) 38 w' w.heap.size (fun k_ => some k_ ≠ v1_.ownBlock) v0_ lo ∧ Kd.R (Kd.int .u32) 38 w' w.heap.size (fun k_ => some k_ ≠ v0_.ownBlock) v1_ hi ∧ Below w.heap.size w w'
theorem box18' (d D c : Nat) (x y : Int) (w : World) (h1 : 1 ≤ d) (h6 : d ≤ 6) (hD : D ≤ 12) (ha : c < 2 ^ D) (hx : x = (D : Int)) (hy : y = (c : Int)) :
    Calls Try.prog 18 #[.int .i64 d, .int .i64 x, .int .i64 y] w (BoxPost w (boxUpto d D c D).1 (boxUpto d D c D).2 0) := by
  subst hx hy
  refine (box18 d D c w h1 h6 hD ha).mono ?_
  rintro e w' ⟨Aa, Ab, ca, cb, rfl, hr1, hr2, hb⟩
  exact ⟨_, _, rfl, hr1, hr2, hb⟩
set_option maxHeartbeats 1000000 in
theorem box11a (d L N c n : Nat) (lo hi : List Int) (w : World) (h0 : decide ((c : Int) < 0) = false) (t1 : decide (n ≤ c) = false) (t2 : decide ((c : Int) < 2 * (N : Int)) = true) (hL : L ≤ 10) (hN : N ≤ 1024) (hcnt : linear_Count.f L N = some ((n : Int), 0))
    (hg : ∀ W, Calls Try.prog 18 #[.int .i64 d, .int .i64 ((L : Int) + 1), .int .i64 c] W (BoxPost W lo hi 0)) :
    Calls Try.prog 11 #[.int .i64 d, .int .i64 L, .int .i64 N, .int .i64 c] w (BoxPost w lo hi 0) := by
  have HC := Aside0.mk hcnt
  have HG := Aside0.mk hg
  clear hcnt hg
  have hu33 := Try.underlying33
  go_enter Try.func11, Try.ntmps11
  go_wp2_with (first | (go_at_call 9; refine (linear_Count.calls _ _ _ _ _ HC.out).mono ?_; rintro e w' ⟨rfl, ⟨nd, rfl⟩⟩) | (go_at_call 18; go_loud (refine (HG.out _).mono ?_); rintro e w2 ⟨v0, v1, rfl, hr1, hr2, hb⟩; obtain ⟨A0, c0, rfl⟩ := Kd.R_slice hr1; obtain ⟨A1, c1, rfl⟩ := Kd.R_slice hr2; have hbk : w2.heap[w.heap.size]? = some (.cells #[.slice none 0 0, .slice none 0 0] 33 (0, 0)) := (hb.block _ (show w.heap.size < (w.alloc (Obj.cells #[Value.slice none 0 0, Value.slice none 0 0] 33)).heap.size by simp)).trans (blk_new w (Obj.cells #[Value.slice none 0 0, Value.slice none 0 0] 33)); have HR1 := Aside0.mk hr1; have HR2 := Aside0.mk hr2; have HB := Aside0.mk (below_step (pw_below_drewN (below_alloc (Below.refl w.heap.size w) (Obj.cells #[Value.slice none 0 0, Value.slice none 0 0] 33)) nd) hb); have HBK := Aside0.mk hbk; obtain ⟨z0, z1⟩ := blk_cell0 hbk; have z2 := blk_frozen hbk 0; have z3 := blk_frozen hbk 1; have z4 : w.heap.size < w2.heap.size := blk_lt hbk; have HBS := Aside0.mk (show w.heap.size ≤ ((w.alloc (Obj.cells #[Value.slice none 0 0, Value.slice none 0 0] 33)).drewN nd).heap.size from (pw_below_drewN (below_alloc (Below.refl w.heap.size w) (Obj.cells #[Value.slice none 0 0, Value.slice none 0 0] 33)) nd).size); clear hr1 hr2 hb hbk))
  have r1 := Kd.R_mono (Kd.R_far (p := ⟨w.heap.size, 1, none⟩) (Kd.R_far (p := ⟨w.heap.size, 0, none⟩) (Kd.R_types HR1.out HBK.out (by decide)) (fun _ hk => hk.2) (.slice A0 lo.length c0)) (fun _ hk => hk.2) (.slice A1 hi.length c1)) (fun _ hk => hk.1)
  have r2 := Kd.R_mono (Kd.R_far (p := ⟨w.heap.size, 1, none⟩) (Kd.R_far (p := ⟨w.heap.size, 0, none⟩) (Kd.R_types HR2.out HBK.out (by decide)) (fun _ hk => hk.2) (.slice A0 lo.length c0)) (fun _ hk => hk.2) (.slice A1 hi.length c1)) (fun _ hk => hk.1)
  exact bodyPost_ret (v := .tuple #[.agg #[.slice A0 lo.length c0, .slice A1 hi.length c1], .int .i64 0]) (by simp [results, Try.results11, go_sem, z0, z1]) rfl ⟨_, _, rfl, Kd.R_lower r1 HBS.out, Kd.R_lower r2 HBS.out, (HB.out.setCell (by exact Nat.le_refl _) _).setCell (by exact Nat.le_refl _) _⟩
set_option maxHeartbeats 1000000 in
theorem box11b (d L N c n : Nat) (lo hi : List Int) (w : World) (h0 : decide ((c : Int) < 0) = false) (t1 : decide (n ≤ c) = false) (hcN : c < 4096) (t2 : decide ((c : Int) < 2 * (N : Int)) = false) (hL : L ≤ 10) (hN : N ≤ 1024) (hcnt : linear_Count.f L N = some ((n : Int), 0))
    (hg : ∀ W, Calls Try.prog 18 #[.int .i64 d, .int .i64 L, .int .i64 ((c : Int) - (N : Int))] W (BoxPost W lo hi 0)) :
    Calls Try.prog 11 #[.int .i64 d, .int .i64 L, .int .i64 N, .int .i64 c] w (BoxPost w lo hi 0) := by
  have HC := Aside0.mk hcnt
  have HG := Aside0.mk hg
  clear hcnt hg
  have hu33 := Try.underlying33
  go_enter Try.func11, Try.ntmps11
  go_wp2_with (first | (go_at_call 9; refine (linear_Count.calls _ _ _ _ _ HC.out).mono ?_; rintro e w' ⟨rfl, ⟨nd, rfl⟩⟩) | (go_at_call 18; go_loud (refine (HG.out _).mono ?_); rintro e w2 ⟨v0, v1, rfl, hr1, hr2, hb⟩; obtain ⟨A0, c0, rfl⟩ := Kd.R_slice hr1; obtain ⟨A1, c1, rfl⟩ := Kd.R_slice hr2; have hbk : w2.heap[w.heap.size]? = some (.cells #[.slice none 0 0, .slice none 0 0] 33 (0, 0)) := (hb.block _ (show w.heap.size < (w.alloc (Obj.cells #[Value.slice none 0 0, Value.slice none 0 0] 33)).heap.size by simp)).trans (blk_new w (Obj.cells #[Value.slice none 0 0, Value.slice none 0 0] 33)); have HR1 := Aside0.mk hr1; have HR2 := Aside0.mk hr2; have HB := Aside0.mk (below_step (pw_below_drewN (below_alloc (Below.refl w.heap.size w) (Obj.cells #[Value.slice none 0 0, Value.slice none 0 0] 33)) nd) hb); have HBK := Aside0.mk hbk; obtain ⟨z0, z1⟩ := blk_cell0 hbk; have z2 := blk_frozen hbk 0; have z3 := blk_frozen hbk 1; have z4 : w.heap.size < w2.heap.size := blk_lt hbk; have HBS := Aside0.mk (show w.heap.size ≤ ((w.alloc (Obj.cells #[Value.slice none 0 0, Value.slice none 0 0] 33)).drewN nd).heap.size from (pw_below_drewN (below_alloc (Below.refl w.heap.size w) (Obj.cells #[Value.slice none 0 0, Value.slice none 0 0] 33)) nd).size); clear hr1 hr2 hb hbk))
  have r1 := Kd.R_mono (Kd.R_far (p := ⟨w.heap.size, 1, none⟩) (Kd.R_far (p := ⟨w.heap.size, 0, none⟩) (Kd.R_types HR1.out HBK.out (by decide)) (fun _ hk => hk.2) (.slice A0 lo.length c0)) (fun _ hk => hk.2) (.slice A1 hi.length c1)) (fun _ hk => hk.1)
  have r2 := Kd.R_mono (Kd.R_far (p := ⟨w.heap.size, 1, none⟩) (Kd.R_far (p := ⟨w.heap.size, 0, none⟩) (Kd.R_types HR2.out HBK.out (by decide)) (fun _ hk => hk.2) (.slice A0 lo.length c0)) (fun _ hk => hk.2) (.slice A1 hi.length c1)) (fun _ hk => hk.1)
  exact bodyPost_ret (v := .tuple #[.agg #[.slice A0 lo.length c0, .slice A1 hi.length c1], .int .i64 0]) (by simp [results, Try.results11, go_sem, z0, z1]) rfl ⟨_, _, rfl, Kd.R_lower r1 HBS.out, Kd.R_lower r2 HBS.out, (HB.out.setCell (by exact Nat.le_refl _) _).setCell (by exact Nat.le_refl _) _⟩
set_option maxHeartbeats 1000000 in
theorem box11c (a0 a1 a2 a3 n e : Int) (w : World) (hcnt : linear_Count.f a1 a2 = some (n, e)) (h : e ≠ 0 ∨ a3 < 0 ∨ n ≤ a3) :
    Calls Try.prog 11 #[.int .i64 a0, .int .i64 a1, .int .i64 a2, .int .i64 a3] w (BoxPost w [] [] 1) := by
  have HC := Aside0.mk hcnt
  clear hcnt
  have hu33 := Try.underlying33
  have HE : ∀ W, Below w.heap.size w W → BoxPost w [] [] 1 (.returned (.tuple #[.agg #[.slice none 0 0, .slice none 0 0], .int .i64 1])) W := fun W hb => ⟨_, _, rfl, Kd.R_nil _ _ _ _ _, Kd.R_nil _ _ _ _ _, hb⟩
  have HB : ∀ nd : Nat, Below w.heap.size w ((((w.alloc (Obj.cells #[Value.slice none 0 0, Value.slice none 0 0] 33)).drewN nd).setCell ⟨w.heap.size, 0, none⟩ (Value.slice none 0 0)).setCell ⟨w.heap.size, 1, none⟩ (Value.slice none 0 0)) := fun nd => ((pw_below_drewN (below_alloc (Below.refl w.heap.size w) _) nd).setCell (by exact Nat.le_refl _) _).setCell (by exact Nat.le_refl _) _
  have HBE := Aside0.mk HB
  have HEE := Aside0.mk HE
  clear HB HE
  by_cases he : e = 0
  · subst he
    by_cases h0 : a3 < 0
    · have t0 : decide (a3 < 0) = true := decide_eq_true h0
      clear h
      go_enter Try.func11, Try.ntmps11
      go_wp2_with (first | (go_at_call 9; refine (linear_Count.calls _ _ _ _ _ HC.out).mono ?_; rintro e w' ⟨rfl, ⟨nd, rfl⟩⟩))
      exact bodyPost_ret (v := .tuple #[.agg #[.slice none 0 0, .slice none 0 0], .int .i64 1]) (by simp [results, Try.results11, go_sem]) rfl (HEE.out _ (HBE.out _))
    · have t0 : decide (a3 < 0) = false := decide_eq_false h0
      have t1 : decide (n ≤ a3) = true := decide_eq_true (by omega)
      clear h
      go_enter Try.func11, Try.ntmps11
      go_wp2_with (first | (go_at_call 9; refine (linear_Count.calls _ _ _ _ _ HC.out).mono ?_; rintro e w' ⟨rfl, ⟨nd, rfl⟩⟩))
      exact bodyPost_ret (v := .tuple #[.agg #[.slice none 0 0, .slice none 0 0], .int .i64 1]) (by simp [results, Try.results11, go_sem]) rfl (HEE.out _ (HBE.out _))
  · have t0 : (e != 0) = true := by simp [he]
    clear h he
    go_enter Try.func11, Try.ntmps11
    go_wp2_with (first | (go_at_call 9; refine (linear_Count.calls _ _ _ _ _ HC.out).mono ?_; rintro e w' ⟨rfl, ⟨nd, rfl⟩⟩))
    exact bodyPost_ret (v := .tuple #[.agg #[.slice none 0 0, .slice none 0 0], .int .i64 1]) (by simp [results, Try.results11, go_sem]) rfl (HEE.out _ (HBE.out _))
theorem linear_Box.calls (a0 a1 a2 a3 : Int) (r1 r2 : List Int) (r3 : Int) (w : World) (h : linear_Box.f a0 a1 a2 a3 = some (r1, r2, r3)) :
    Calls Try.prog 11 #[.int .i64 a0, .int .i64 a1, .int .i64 a2, .int .i64 a3] w fun e w' => ∃ v0_ v1_ : Value, e = .returned (.tuple #[.agg #[v0_, v1_], .int .i64 r3]) ∧ Kd.R (Kd.int .u32) 38 w' w.heap.size (fun k_ => some k_ ≠ v1_.ownBlock) v0_ r1 ∧ Kd.R (Kd.int .u32) 38 w' w.heap.size (fun k_ => some k_ ≠ v0_.ownBlock) v1_ r2 ∧ Below w.heap.size w w' := by
  unfold linear_Box.f at h
  by_cases hd : 1 ≤ a0 ∧ a0 ≤ 6
  · rw [if_pos hd] at h
    obtain ⟨⟨n, e⟩, hc, h⟩ := Option.bind_eq_some_iff.mp h
    dsimp only at h
    by_cases hq : e ≠ 0 ∨ a3 < 0 ∨ n ≤ a3
    · rw [if_pos hq] at h
      simp only [Option.some.injEq, Prod.mk.injEq] at h
      obtain ⟨rfl, rfl, rfl⟩ := h
      exact box11c a0 a1 a2 a3 n e w hc hq
    · rw [if_neg hq] at h
      have he : e = 0 := by omega
      subst he
      obtain ⟨L, N, rfl, rfl, hL, hN, hn⟩ := count_ok hc
      obtain ⟨d, rfl⟩ := Int.eq_ofNat_of_zero_le (show 0 ≤ a0 by omega)
      obtain ⟨c, rfl⟩ := Int.eq_ofNat_of_zero_le (show 0 ≤ a3 by omega)
      have hp : 2 ^ L ≤ 2 ^ 10 := Nat.pow_le_pow_right (by decide) hL
      have hp1 : 2 ^ (L + 1) = 2 * 2 ^ L := by rw [Nat.pow_succ]; omega
      have hcn : c < 2 ^ L + N := by omega
      rw [hn] at hc
      by_cases h2 : (c : Int) < 2 * (N : Int)
      · rw [if_pos h2] at h
        simp only [Option.some.injEq, Prod.mk.injEq, Int.toNat_natCast] at h
        obtain ⟨rfl, rfl, rfl⟩ := h
        exact box11a d L N c _ _ _ w (decide_eq_false (by omega)) (decide_eq_false (by omega)) (decide_eq_true h2) hL (by omega) hc (fun W => box18' d (L + 1) c _ _ W (by omega) (by omega) (by omega) (by omega) (by omega) rfl)
      · rw [if_neg h2] at h
        have hs : ((c : Int) - (N : Int)).toNat = c - N := by omega
        simp only [Option.some.injEq, Prod.mk.injEq, Int.toNat_natCast, hs] at h
        obtain ⟨rfl, rfl, rfl⟩ := h
        exact box11b d L N c _ _ _ w (decide_eq_false (by omega)) (decide_eq_false (by omega)) (by omega) (decide_eq_false h2) hL (by omega) hc (fun W => box18' d L (c - N) _ _ W (by omega) (by omega) (by omega) (by omega) rfl (by omega))
  · rw [if_neg hd] at h; cases h
end Go.Proofs.Ytcfklhgaajmoeaa.Lin
