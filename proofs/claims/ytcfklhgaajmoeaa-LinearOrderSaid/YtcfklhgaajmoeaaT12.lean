import Derived.Test.YtcfklhgaajmoeaaT11
namespace Go.Proofs.Ytcfklhgaajmoeaa.Lin
open Go.RowKit Go.Proofs.YtcfklhgaajmoeaaW.PrintWords Go.Proofs.YtcfklhgaajmoeaaW.PrintLast Go.Proofs.YtcfklhgaajmoeaaW.PrintMore
attribute [local go_sem] max2_int min2_int max_two min_two max_three min_three max_four min_four
set_option linter.unusedVariables false
set_option linter.unusedSimpArgs false
theorem below_lower {B C : Nat} {w w1 : World} (h : Below C w w1) (hB : B ≤ C) : Below B w w1 := ⟨h.os, h.tape, h.output, h.size, fun i hi => h.block i (Nat.lt_of_lt_of_le hi hB)⟩
theorem info3 : (Try.prog.info? 3).map (fun i => (i.zero, i.size, i.bytes)) = some (some (.int .i64 0), 1, 8) := by kernel_rfl
set_option maxHeartbeats 1000000 in
theorem no28 (A0 : Option Addr) (c0 : Nat) (lo : List Int) (A1 : Option Addr) (c1 : Nat) (hi : List Int) (a n : Int) (gb : Nat) (A2 : Option Addr) (c2 : Nat) (bl : List Int) (A3 : Option Addr) (c3 : Nat) (bh : List Int) (p4 p5 p6 p7 : Value) (w : World)
    (hr0 : Kd.C (Kd.int .u32) w A0 lo.length lo) (hr1 : Kd.C (Kd.int .u32) w A1 hi.length hi) (hr2 : Kd.C (Kd.int .u32) w A2 bl.length bl) (hr3 : Kd.C (Kd.int .u32) w A3 bh.length bh)
    (q0 : w.cell? ⟨gb, 0, none⟩ = some (.slice A2 bl.length c2)) (q1 : w.cell? ⟨gb, 1, none⟩ = some (.slice A3 bh.length c3))
    (h1 : hi.length = lo.length) (h2 : bl.length = lo.length) (h3 : bh.length = lo.length) (hl : lo.length ≤ 70368744177664) (hm : meets lo hi bl bh = false) :
    Calls Try.prog 28 #[.agg #[.slice A0 lo.length c0, .slice A1 hi.length c1], .int .i64 a, .int .i64 n, .pointer (some ⟨gb, 0, none⟩), p4, p5, p6, p7] w fun e w' => e = .returned (.tuple #[]) ∧ Below w.heap.size w w' := by
  have HR0 := Aside0.mk hr0
  have HR1 := Aside0.mk hr1
  have HR2 := Aside0.mk hr2
  have HR3 := Aside0.mk hr3
  have H1 := Aside0.mk h1
  have H2 := Aside0.mk h2
  have H3 := Aside0.mk h3
  have HM := Aside0.mk hm
  clear hr0 hr1 hr2 hr3 h1 h2 h3 hm
  have hu33 := Try.underlying33
  have lb := World.block_lt_of_cell? _ _ q0
  simp only at lb
  go_enter Try.func28, Try.ntmps28
  go_wp2_with (go_at_call 20; go_loud (refine (meet20 _ _ lo _ _ hi _ _ bl _ _ bh _ (Kd.C_below HR0.out (below_alloc (Below.refl _ _) _)) (Kd.C_below HR1.out (below_alloc (Below.refl _ _) _)) (Kd.C_below HR2.out (below_alloc (Below.refl _ _) _)) (Kd.C_below HR3.out (below_alloc (Below.refl _ _) _)) H1.out H2.out H3.out hl).mono ?_); rintro e w1 ⟨Am, An, nm, nn, cm, cn, rfl, hb⟩; rw [HM.out]; have HB := Aside0.mk (below_step (below_alloc (Below.refl _ _) _) hb); clear hb)
  exact bodyPost_ret (v := .tuple #[]) (by simp [results, Try.results28, go_sem]) rfl ⟨rfl, below_alloc HB.out _⟩
set_option maxHeartbeats 1000000 in
theorem yes28 (A0 : Option Addr) (c0 : Nat) (lo : List Int) (A1 : Option Addr) (c1 : Nat) (hi : List Int) (a n : Int) (gb : Nat) (A2 : Option Addr) (c2 : Nat) (bl : List Int) (A3 : Option Addr) (c3 : Nat) (bh : List Int) (gd gl : Nat) (p6 p7 : Value) (w : World)
    (hr0 : Kd.C (Kd.int .u32) w A0 lo.length lo) (hr1 : Kd.C (Kd.int .u32) w A1 hi.length hi) (hr2 : Kd.C (Kd.int .u32) w A2 bl.length bl) (hr3 : Kd.C (Kd.int .u32) w A3 bh.length bh)
    (q0 : w.cell? ⟨gb, 0, none⟩ = some (.slice A2 bl.length c2)) (q1 : w.cell? ⟨gb, 1, none⟩ = some (.slice A3 bh.length c3))
    (q2 : w.cell? ⟨gd, 0, none⟩ = some (.int .i64 n)) (q3 : w.cell? ⟨gl, 0, none⟩ = some (.slice none 0 0)) (q4 : w.frozen? ⟨gl, 0, none⟩ = false)
    (h1 : hi.length = lo.length) (h2 : bl.length = lo.length) (h3 : bh.length = lo.length) (hl : lo.length ≤ 70368744177664) (hm : meets lo hi bl bh = true) :
    Calls Try.prog 28 #[.agg #[.slice A0 lo.length c0, .slice A1 hi.length c1], .int .i64 a, .int .i64 n, .pointer (some ⟨gb, 0, none⟩), .pointer (some ⟨gd, 0, none⟩), .pointer (some ⟨gl, 0, none⟩), p6, p7] w fun e w' => ∃ A c, e = .returned (.tuple #[]) ∧ w'.cell? ⟨gl, 0, none⟩ = some (.slice A 1 c) ∧ Kd.C (Kd.int .i64) w' A 1 [a] ∧ KeepBut w w' gl none ∧ Below gl w w' := by
  have HR0 := Aside0.mk hr0
  have HR1 := Aside0.mk hr1
  have HR2 := Aside0.mk hr2
  have HR3 := Aside0.mk hr3
  have H1 := Aside0.mk h1
  have H2 := Aside0.mk h2
  have H3 := Aside0.mk h3
  have HM := Aside0.mk hm
  clear hr0 hr1 hr2 hr3 h1 h2 h3 hm
  have hu33 := Try.underlying33
  have hn : (n == n) = true := by simp
  have lb := World.block_lt_of_cell? _ _ q0
  have lc := World.block_lt_of_cell? _ _ q2
  have ld := World.block_lt_of_cell? _ _ q3
  simp only at lb lc ld
  go_enter Try.func28, Try.ntmps28
  go_wp2_with (first | (go_at_call 20; go_loud (refine (meet20 _ _ lo _ _ hi _ _ bl _ _ bh _ (Kd.C_below HR0.out (below_alloc (Below.refl _ _) _)) (Kd.C_below HR1.out (below_alloc (Below.refl _ _) _)) (Kd.C_below HR2.out (below_alloc (Below.refl _ _) _)) (Kd.C_below HR3.out (below_alloc (Below.refl _ _) _)) H1.out H2.out H3.out hl).mono ?_); rintro e w1 ⟨Am, An, nm, nn, cm, cn, rfl, hb⟩; rw [HM.out]; have HB := Aside0.mk (below_step (below_alloc (Below.refl _ _) _) hb); have r2 := pw_cell_below HB.out q2; have r3 := pw_cell_below HB.out q3; have r4 := fz_below HB.out q3 q4; have ls := HB.out.size; have lb1 : gb < w1.heap.size := Nat.lt_of_lt_of_le lb ls; have lc1 : gd < w1.heap.size := Nat.lt_of_lt_of_le lc ls; have ld1 : gl < w1.heap.size := Nat.lt_of_lt_of_le ld ls; clear hb) | (at_builtin; go_loud (refine print_append_num (w0 := w) w.heap.size rfl _ _ 42 3 .i64 8 rfl Try.underlying42 info3 (by decide) (.slice none 0 0) [] a rfl (by simp [Act.eval]) (own_nil _ _ _ _) (below_alloc HB.out _) (by simp only [World.size_alloc]; omega) (by simp) ?_); intro v1 w2 hown hb2 hg hat; obtain ⟨gv, cv, rfl, hgv, hgl⟩ := hown.form (by simp); have HO := Aside0.mk hown; have HB2 := Aside0.mk hb2; have x3 := pw_cell_below hb2 q3; have x4 := fz_below hb2 q3 q4; clear hown hb2 hg hat))
  have hR : (Kd.int .i64).R 3 w2 w.heap.size (fun k => w.heap.size ≤ k) (.slice (some ⟨gv, 0, none⟩) 1 cv) [a] := Kd.R_of_own HO.out (fun k hk => own_base HO.out k hk)
  have hC := R_toC (Kd.R_far hR (p := ⟨gl, 0, none⟩) (fun k hk => by simp only []; omega) (.slice (some ⟨gv, 0, none⟩) 1 cv))
  exact bodyPost_ret (v := .tuple #[]) (by simp [results, Try.results28, go_sem]) rfl ⟨some ⟨gv, 0, none⟩, cv, rfl, by go_simp, hC, KeepBut.set_ (KeepBut.of_below HB2.out gl none) 0 _, Below.setCell (below_lower HB2.out (Nat.le_of_lt ld)) (Nat.le_refl _) _⟩
end Go.Proofs.Ytcfklhgaajmoeaa.Lin
