import Derived.Test.YtcfklhgaajmoeaaT23
import Derived.DataShut
namespace Go.Proofs.Ytcfklhgaajmoeaa.Lin
open Go.RowKit Go.Proofs.YtcfklhgaajmoeaaW.PrintWords Go.Proofs.YtcfklhgaajmoeaaW.PrintLast Go.Proofs.YtcfklhgaajmoeaaW.PrintMore
attribute [local go_sem] max2_int min2_int max_two min_two max_three min_three max_four min_four
set_option linter.unusedVariables false
set_option linter.unusedSimpArgs false
theorem find1 (k : Nat) (A : Option Addr) (c : Nat) (x L N m e : Int) (W : World) (h : Ct W A [x]) (hc : 1 ≤ c) (hm : linear_Find.f k [x] L N = some (m, e)) : Calls Try.prog 10 #[.slice A 1 c, .int .i64 L, .int .i64 N] W fun e' w' => e' = .returned (.tuple #[.int .i64 m, .int .i64 e]) ∧ Below W.heap.size W w' :=
  linear_Find.calls k A c [x] L N m e W h.1 hc hm
theorem lit1_Ct {W : World} {g : Nat} {x : Int} (h : W.heap[g]? = some (.cells #[.int .u32 x] 38 (0, 0))) : Ct W (some ⟨g, 0, none⟩) [x] := lit_Ct (xs := [x]) (show (1 : Nat) ≤ maxLen by decide) h
theorem live_ (W : World) : Calls Try.prog 7 #[] W fun e w' => e = .returned (.bool true) ∧ Below W.heap.size W w' := cadastrelaw18_live.calls true W rfl
set_option maxHeartbeats 1000000 in
theorem order5 (k : Nat) (a b L N m e n f : Int) (w : World) (hm : linear_Find.f k [a] L N = some (m, e)) (hn : linear_Find.f k [b] L N = some (n, f)) (hef : e = f) (hmn : e = 0 → a ≤ b → m ≤ n) :
    Calls Try.prog 5 #[.agg #[.int .u32 a, .int .u32 b, .int .i64 L, .int .i64 N]] w fun e' w' => e' = .returned (.bool true) ∧ Below w.heap.size w w' := by
  subst hef
  have HM := Aside0.mk hm
  have HN := Aside0.mk hn
  have HMN := Aside0.mk hmn
  clear hm hn hmn
  have hu40 := Try.underlying40
  go_enter Try.func5, Try.ntmps5
  go_upto_region 1 with (fail)
  have hB0 : Below w.heap.size w (w.alloc (Obj.cells #[.int .u32 a, .int .u32 b, .int .i64 L, .int .i64 N] 40)) := below_alloc (Below.refl _ _) _
  have hbk := blk_new w (Obj.cells #[.int .u32 a, .int .u32 b, .int .i64 L, .int .i64 N] 40)
  generalize w.alloc (Obj.cells #[.int .u32 a, .int .u32 b, .int .i64 L, .int .i64 N] 40) = W0 at hB0 hbk ⊢
  have q0 : W0.cell? ⟨w.heap.size, 0, none⟩ = some (.int .u32 a) := by simp [World.cell?, hbk]
  have q1 : W0.cell? ⟨w.heap.size, 1, none⟩ = some (.int .u32 b) := by simp [World.cell?, hbk]
  have q2 : W0.cell? ⟨w.heap.size, 2, none⟩ = some (.int .i64 L) := by simp [World.cell?, hbk]
  have q3 : W0.cell? ⟨w.heap.size, 3, none⟩ = some (.int .i64 N) := by simp [World.cell?, hbk]
  have HB0 := Aside0.mk hB0
  clear hbk hB0
  go_quiet (fail)
  have hAA : ((W0.drewN nq).alloc (Obj.cells #[.int .u32 a] 38)).heap[W0.heap.size]? = some (.cells #[.int .u32 a] 38 (0, 0)) := blk_new (W0.drewN nq) _
  go_upto_region 3 with (go_at_call 10; go_loud (with_reducible refine (find1 k (some ⟨W0.heap.size, 0, none⟩) 1 a L N m e ((W0.drewN nq).alloc (Obj.cells #[.int .u32 a] 38)) (lit1_Ct hAA) (Nat.le_refl _) HM.out).mono ?_); rintro e' w1 ⟨rfl, hb⟩; have HB1 := Aside0.mk (below_step (below_alloc (pw_below_drewN HB0.out _) _) hb); clear hb)
  go_upto_region 4 with (go_at_call 10; go_loud (with_reducible refine (find1 k (some ⟨w1.heap.size, 0, none⟩) 1 b L N n e (w1.alloc (Obj.cells #[.int .u32 b] 38)) (lit1_Ct (blk_new w1 (Obj.cells #[.int .u32 b] 38))) (Nat.le_refl _) HN.out).mono ?_); rintro e' w2 ⟨rfl, hb⟩; have HB2 := Aside0.mk (below_step (below_alloc HB1.out _) hb); clear hb)
  by_cases he : e = 0
  · have he0 : (e != 0) = false := by simp [he]
    subst he
    by_cases hab : a ≤ b
    · have hab0 : decide (b < a) = false := decide_eq_false (by omega)
      have hmn0 : decide (m ≤ n) = true := decide_eq_true (HMN.out rfl hab)
      go_wp2_with (go_at_call 7; with_reducible refine (live_ _).mono ?_; rintro e' w3 ⟨rfl, hb⟩; have HB3 := Aside0.mk (below_step HB2.out hb); clear hb)
      go_ret
      exact ⟨rfl, HB3.out⟩
    · have hab0 : decide (b < a) = true := decide_eq_true (by omega)
      go_wp2_with (go_at_call 7; with_reducible refine (live_ _).mono ?_; rintro e' w3 ⟨rfl, hb⟩; have HB3 := Aside0.mk (below_step HB2.out hb); clear hb)
      go_ret
      exact ⟨rfl, HB3.out⟩
  · have he0 : (e != 0) = true := by simp [he]
    have he1 : (e == e) = true := by simp
    go_wp2_with (go_at_call 7; with_reducible refine (live_ _).mono ?_; rintro e' w3 ⟨rfl, hb⟩; have HB3 := Aside0.mk (below_step HB2.out hb); clear hb)
    go_ret
    exact ⟨rfl, HB3.out⟩
theorem order5_all (a b L N : Int) (w : World) (w0 : (Lit.int .u32 a).wf = true) (w1 : (Lit.int .u32 b).wf = true) :
    Calls Try.prog 5 #[.agg #[.int .u32 a, .int .u32 b, .int .i64 L, .int .i64 N]] w fun e' w' => e' = .returned (.bool true) ∧ Below w.heap.size w w' := by
  have e1 : IntKind.u32.min = 0 := by decide
  have e2 : IntKind.u32.max = 4294967295 := by decide
  have ha := (Lit.wf_int_iff .u32 a).mp w0
  have hb := (Lit.wf_int_iff .u32 b).mp w1
  rw [e1, e2] at ha hb
  rcases is_cases L N with h | ⟨l, n, rfl, rfl, hL, hN⟩
  · exact order5 1 a b L N 0 1 0 1 w (find_not _ h 1) (find_not _ h 1) rfl (fun h => by omega)
  · obtain ⟨a, rfl⟩ := Int.eq_ofNat_of_zero_le ha.1
    obtain ⟨b, rfl⟩ := Int.eq_ofNat_of_zero_le hb.1
    refine order5 13 a b l n _ 0 _ 0 w (find_f [(a : Int)] (by simp) (by simp) (by simp) hL hN 13 (by decide)) (find_f [(b : Int)] (by simp) (by simp) (by simp) hL hN 13 (by decide)) rfl (fun _ hab => ?_)
    have := chain_one (a := a) (b := b) (L := l) (N := n) (by omega) (by omega) hL (by omega)
    omega
end Go.Proofs.Ytcfklhgaajmoeaa.Lin
