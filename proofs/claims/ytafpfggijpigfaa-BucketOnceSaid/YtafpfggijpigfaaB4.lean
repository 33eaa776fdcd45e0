import Derived.Test.YtafpfggijpigfaaBktx1
import Derived.Test.YtafpfggijpigfaaBktx3
import Derived.Test.YtafpfggijpigfaaHB0
import Derived.Test.YtafpfggijpigfaaB0
namespace Go.Proofs.Ytafpfggijpigfaa.Bkt
open Go.RowKit Go.Proofs.YtafpfggijpigfaaW.PrintWords Go.Proofs.YtafpfggijpigfaaW.PrintLast Go.Proofs.YtafpfggijpigfaaW.PrintMore
attribute [local go_sem] max2_int min2_int max_two min_two max_three min_three max_four min_four
set_option linter.unusedVariables false
set_option linter.unusedSimpArgs false
theorem cmp45 (k : Nat) (A : Option Addr) (c : Nat) (x : List Int) (s : ByteArray) (A1 : Option Addr) (c1 : Nat) (y : List Int) (r : Int) (w : World) (hx : Kd.C (Kd.int .u32) w A x.length x) (hc : x.length ≤ c) (hy : Kd.C (Kd.int .u32) w A1 y.length y) (hc1 : y.length ≤ c1) (h : key_Compare.f k x y = some r) :
    Calls Try.prog 45 #[.agg #[.slice A x.length c, .string s], .slice A1 y.length c1] w fun e w' => e = .returned (.int .i64 r) ∧ Below w.heap.size w w' := by
  have HX := Aside0.mk hx
  have HY := Aside0.mk hy
  have HA := Aside0.mk h
  clear hx hy h
  go_enter Try.func45, Try.ntmps45
  go_wp2_with (go_at_call 46; go_loud (refine (key_Compare.calls k A c x A1 c1 y r _ (Kd.C_alloc HX.out _) hc (Kd.C_alloc HY.out _) hc1 HA.out).mono ?_); rintro e w1 ⟨rfl, hb⟩; have HB := Aside0.mk hb; clear hb)
  go_ret
  exact ⟨rfl, below_step (below_alloc (Below.refl _ _) _) HB.out.below⟩
def bsl (k : Nat) (l : List S38) (y : List Int) : Nat → Nat → Nat → Option Nat
  | 0, _, _ => none
  | f + 1, i, j => if i < j then (key_Compare.f k (rd_T38 l (((i + j) / 2 : Nat) : Int)).f0 y).bind fun c => if c < 0 then bsl k l y f ((i + j) / 2 + 1) j else bsl k l y f i ((i + j) / 2) else some i
def bucket_Find.f (k : Nat) (l : List S38) (y : List Int) : Option (Int × Bool) :=
  if l.length ≤ 4611686018427387903 then (bsl k l y k 0 l.length).bind fun i => if i < l.length then (key_Compare.f k (rd_T38 l (i : Int)).f0 y).bind fun c => some ((i : Int), c == 0) else some ((i : Int), false) else none
set_option maxHeartbeats 1000000 in
theorem search44 (k : Nat) (A : Option Addr) (c : Nat) (l : List S38) (A1 : Option Addr) (c1 : Nat) (y : List Int) (r1 : Int) (r2 : Bool) (w : World) (hx : Kd.C k38 w A l.length l) (hc : l.length ≤ c) (hy : Kd.C (Kd.int .u32) w A1 y.length y) (hc1 : y.length ≤ c1) (h : bucket_Find.f k l y = some (r1, r2)) :
    Calls Try.prog 44 #[.slice A l.length c, .slice A1 y.length c1, .func (.func 45) #[] #[]] w fun e w' => e = .returned (.tuple #[.int .i64 r1, .bool r2]) ∧ Below w.heap.size w w' := by
  unfold bucket_Find.f at h
  by_cases hlen : l.length ≤ 4611686018427387903
  case neg => rw [if_neg hlen] at h; cases h
  rw [if_pos hlen] at h
  obtain ⟨p, hp, h⟩ := Option.bind_eq_some_iff.mp h
  have HX := Aside0.mk hx
  have HY := Aside0.mk hy
  have HA := Aside0.mk h
  have HP := Aside0.mk hp
  have hu38 := Try.underlying38
  clear hx hy h hp
  go_enter Try.func44, Try.ntmps44
  go_wp2_with fail
  go_loopg [9, 10] k (fun kq v9 v10 w' => ∃ i j : Nat, v9 = .int .i64 i ∧ v10 = .int .i64 j ∧ j ≤ l.length ∧ Aside0 (bsl k l y kq i j = some p) ∧ Aside0 (kq ≤ k) ∧ Aside0 (Below w.heap.size w w'))
  case atStart => exact ⟨0, l.length, rfl, rfl, Nat.le_refl _, HP, ⟨Nat.le_refl _⟩, ⟨Below.refl _ _⟩⟩
  case round =>
    clear HP
    obtain ⟨i, j, rfl, rfl, hj, HP, HK, HB⟩ := hrel
    cases gk with
    | zero => exact absurd HP.out (by simp [bsl])
    | succ k1 =>
      have H := HP.out
      clear HP
      simp only [bsl] at H
      by_cases hij : i < j
      · rw [if_pos hij] at H
        obtain ⟨d, hd, H⟩ := Option.bind_eq_some_iff.mp H
        have HD := Aside0.mk hd
        clear hd
        have hm0 : (i + j) / 2 < l.length := by omega
        obtain ⟨ad, A0, c0, e, hx0, hx1, hl, hi⟩ := at_T38 HX.out (((i + j) / 2 : Nat) : Int) (by omega) (by omega)
        cases e
        rw [Int.toNat_natCast] at hx0 hx1
        replace hx0 := (HB.out.cell (World.block_lt_of_cell? w _ hx0)).trans hx0
        replace hx1 := (HB.out.cell (World.block_lt_of_cell? w _ hx1)).trans hx1
        have HI := Aside0.mk hi
        clear hi
        by_cases hd0 : d < 0
        · rw [if_pos hd0] at H
          have H' := Aside0.mk H
          clear H
          go_wp2_with (go_at_call 45; go_loud (refine (cmp45 k A0 c0 _ _ A1 c1 y d _ (Kd.C_below HI.out HB.out) hl (Kd.C_below HY.out HB.out) hc1 HD.out).mono ?_); rintro e w1 ⟨rfl, hb⟩; have HB1 := Aside0.mk (below_step HB.out hb); clear hb)
          go_roundg k1
          case measure => have := HK.out; omega
          case rel => exact ⟨(i + j) / 2 + 1, j, by first | rfl | (simp; done), rfl, hj, H', ⟨by have := HK.out; omega⟩, HB1⟩
        · rw [if_neg hd0] at H
          have H' := Aside0.mk H
          clear H
          go_wp2_with (go_at_call 45; go_loud (refine (cmp45 k A0 c0 _ _ A1 c1 y d _ (Kd.C_below HI.out HB.out) hl (Kd.C_below HY.out HB.out) hc1 HD.out).mono ?_); rintro e w1 ⟨rfl, hb⟩; have HB1 := Aside0.mk (below_step HB.out hb); clear hb)
          go_roundg k1
          case measure => have := HK.out; omega
          case rel => exact ⟨i, (i + j) / 2, rfl, by first | rfl | (simp; done), by omega, H', ⟨by have := HK.out; omega⟩, HB1⟩
      · rw [if_neg hij] at H
        have e := Option.some.inj H
        subst e
        have H := HA.out
        clear HA
        by_cases hil : i < l.length
        · rw [if_pos hil] at H
          obtain ⟨d, hd, H⟩ := Option.bind_eq_some_iff.mp H
          have HD := Aside0.mk hd
          clear hd
          simp only [Option.some.injEq, Prod.mk.injEq] at H
          obtain ⟨rfl, rfl⟩ := H
          obtain ⟨ad, A0, c0, e, hx0, hx1, hl, hi⟩ := at_T38 HX.out (i : Int) (by omega) (by omega)
          cases e
          rw [Int.toNat_natCast] at hx0 hx1
          replace hx0 := (HB.out.cell (World.block_lt_of_cell? w _ hx0)).trans hx0
          replace hx1 := (HB.out.cell (World.block_lt_of_cell? w _ hx1)).trans hx1
          have HI := Aside0.mk hi
          clear hi
          have t0 : decide (i < l.length) = true := decide_eq_true hil
          go_wp2_with (go_at_call 45; go_loud (refine (cmp45 k A0 c0 _ _ A1 c1 y d _ (Kd.C_below HI.out HB.out) hl (Kd.C_below HY.out HB.out) hc1 HD.out).mono ?_); rintro e w1 ⟨rfl, hb⟩; have HB1 := Aside0.mk (below_step HB.out hb); clear hb)
          go_ret2
          exact ⟨rfl, HB1.out⟩
        · rw [if_neg hil] at H
          simp only [Option.some.injEq, Prod.mk.injEq] at H
          obtain ⟨rfl, rfl⟩ := H
          have t0 : decide (i < l.length) = false := decide_eq_false hil
          go_wp2_with fail
          go_ret2
          exact ⟨rfl, HB.out⟩
theorem bsl_mono (k : Nat) (l : List S38) (y : List Int) : ∀ f i j, LeO (bsl k l y f i j) (bsl (k + 1) l y (f + 1) i j)
  | 0, i, j => fun r h => by simp [bsl] at h
  | f + 1, i, j => by
    have ih := bsl_mono k l y f
    unfold bsl
    refine LeO.ite (LeO.bind (key_Compare.mono _ _ _) (fun c => LeO.ite (ih _ _) (ih _ _))) (LeO.refl _)
theorem bucket_Find.mono : ∀ a0 a1 k, LeO (bucket_Find.f k a0 a1) (bucket_Find.f (k + 1) a0 a1) := by
  intro a0 a1 k
  unfold bucket_Find.f
  exact LeO.ite (LeO.bind (bsl_mono k a0 a1 k 0 _) (fun i => LeO.ite (LeO.bind (key_Compare.mono _ _ _) (fun c => LeO.refl _)) (LeO.refl _))) (LeO.refl _)
theorem bucket_Find.calls (k : Nat) (A : Option Addr) (c : Nat) (l : List S38) (A1 : Option Addr) (c1 : Nat) (y : List Int) (r1 : Int) (r2 : Bool) (w : World) (hx : Kd.C k38 w A l.length l) (hc : l.length ≤ c) (hy : Kd.C (Kd.int .u32) w A1 y.length y) (hc1 : y.length ≤ c1) (h : bucket_Find.f k l y = some (r1, r2)) :
    Calls Try.prog 25 #[.slice A l.length c, .slice A1 y.length c1] w fun e w' => e = .returned (.tuple #[.int .i64 r1, .bool r2]) ∧ Below w.heap.size w w' := by
  have HX := Aside0.mk hx
  have HY := Aside0.mk hy
  have HA := Aside0.mk h
  clear hx hy h
  go_enter Try.func25, Try.ntmps25
  go_wp2_with (go_at_call 44; go_loud (refine (search44 k A c l A1 c1 y r1 r2 _ HX.out hc HY.out hc1 HA.out).mono ?_); rintro e w1 ⟨rfl, hb⟩; have HB := Aside0.mk hb; clear hb)
  go_ret2
  exact ⟨rfl, HB.out⟩
end Go.Proofs.Ytafpfggijpigfaa.Bkt
