import Derived.Deep.RegionWith
import Derived.Test.YtcfklhgaajmoeaaT13
import Derived.Test.YtcfklhgaajmoeaaT14
import Derived.Test.YtcfklhgaajmoeaaLinx1
import Derived.Test.YtcfklhgaajmoeaaLinx2
namespace Go.Proofs.Ytcfklhgaajmoeaa.Lin
open Go.RowKit Go.Proofs.YtcfklhgaajmoeaaW.PrintWords Go.Proofs.YtcfklhgaajmoeaaW.PrintLast Go.Proofs.YtcfklhgaajmoeaaW.PrintMore
attribute [local go_sem] max2_int min2_int max_two min_two max_three min_three max_four min_four
set_option linter.unusedVariables false
set_option linter.unusedSimpArgs false
theorem run_store_func (P : Program) (w : World) (a : Addr) (f : Fn) (ts cs : Array Value) (m : Mode) : (store a (.func f ts cs) m).run P w = stored P w a (.func f ts cs) m := run_store P w a _ m rfl
attribute [local go_sem] run_store_func
theorem blk_setc {W : World} {g t : Nat} {x a : Value} (h : W.heap[g]? = some (.cells #[x] t (0, 0))) : (W.setCell ⟨g, 0, none⟩ a).heap[g]? = some (.cells #[a] t (0, 0)) := by
  unfold World.setCell
  simp only [Array.getElem?_modify, h]
  simp
theorem blk_frozen1 {W : World} {g : Nat} {a : Value} {t : Nat} (h : W.heap[g]? = some (.cells #[a] t (0, 0))) (o : Nat) : W.frozen? ⟨g, o, none⟩ = false := by simp [World.frozen?, h]
theorem blk_cell1 {W : World} {g t : Nat} {a : Value} (h : W.heap[g]? = some (.cells #[a] t (0, 0))) : W.cell? ⟨g, 0, none⟩ = some a := by simp [World.cell?, h]
set_option maxHeartbeats 4000000 in
theorem range19 (A0 : Option Addr) (c0 : Nat) (A1 : Option Addr) (c1 : Nat) (w : World) (hr0 : Ct w A0 [0]) (hr1 : Ct w A1 [1073741824]) :
    Calls Try.prog 19 #[.agg #[.slice A0 1 c0, .slice A1 1 c1], .int .i64 1, .int .i64 1] w fun e w' => ∃ A c, e = .returned (.tuple #[.slice A 1 c, .int .i64 0]) ∧ Kd.C (Kd.int .i64) w' A 1 [0] ∧ Below w.heap.size w w' := by
  have HR0 := Aside0.mk hr0
  have HR1 := Aside0.mk hr1
  clear hr0 hr1
  have hu33 := Try.underlying33
  go_enter Try.func19, Try.ntmps19
  go_upto_region 1 with (fail)
  have hb3 : (((w.alloc (Obj.cells #[Value.slice A0 1 c0, Value.slice A1 1 c1] 33)).alloc (Obj.cells #[Value.int .i64 1] 3)).alloc (Obj.cells #[Value.int .i64 1] 3)).heap[w.heap.size]? = some (.cells #[.slice A0 1 c0, .slice A1 1 c1] 33 (0, 0)) := blk_alloc (blk_alloc (blk_new _ _) _) _
  have hb4 : (((w.alloc (Obj.cells #[Value.slice A0 1 c0, Value.slice A1 1 c1] 33)).alloc (Obj.cells #[Value.int .i64 1] 3)).alloc (Obj.cells #[Value.int .i64 1] 3)).heap[w.heap.size + 1]? = some (.cells #[.int .i64 1] 3 (0, 0)) := blk_alloc (blk_new1 (by simp)) _
  have hb5 : (((w.alloc (Obj.cells #[Value.slice A0 1 c0, Value.slice A1 1 c1] 33)).alloc (Obj.cells #[Value.int .i64 1] 3)).alloc (Obj.cells #[Value.int .i64 1] 3)).heap[w.heap.size + 1 + 1]? = some (.cells #[.int .i64 1] 3 (0, 0)) := blk_new1 (by simp)
  have hB : Below w.heap.size w (((w.alloc (Obj.cells #[Value.slice A0 1 c0, Value.slice A1 1 c1] 33)).alloc (Obj.cells #[Value.int .i64 1] 3)).alloc (Obj.cells #[Value.int .i64 1] 3)) := below_alloc (below_alloc (below_alloc (Below.refl _ _) _) _) _
  generalize ((w.alloc (Obj.cells #[Value.slice A0 1 c0, Value.slice A1 1 c1] 33)).alloc (Obj.cells #[Value.int .i64 1] 3)).alloc (Obj.cells #[Value.int .i64 1] 3) = W0 at hb3 hb4 hb5 hB ⊢
  obtain ⟨q0, q1⟩ := blk_cell0 hb3
  have q2 := blk_cell1 hb4
  have q3 := blk_cell1 hb5
  have HB3 := Aside0.mk hb3
  have HB4 := Aside0.mk hb4
  have HB5 := Aside0.mk hb5
  have HB := Aside0.mk hB
  have HD0 := Aside0.mk (Ct_below HR0.out hB)
  have HD1 := Aside0.mk (Ct_below HR1.out hB)
  clear hb3 hb4 hb5 hB
  go_upto_region 3 with (first | (go_at_call 27; refine (checkBox27 _ _ [0] _ _ [1073741824] _ _ (Ct_C HD0.out) (Ct_C HD1.out)).mono ?_; rintro e w1 ⟨rfl, hb⟩; rw [show chkBox [0] [1073741824] 1 = 0 by decide]; have r3 := pw_cell_below hb q3; have HB1 := Aside0.mk hb; clear hb) | (go_at_call 22; go_loud (refine (excell_isDepth.calls 1 true _ (by first | rfl | decide)).mono ?_); rintro e w' ⟨rfl, ⟨nd, rfl⟩⟩))
  have hB2 : Below W0.heap.size W0 (w1.drewN nd) := by first | exact pw_below_drewN HB1.out _ | exact pw_below_drewN _ HB1.out | exact pw_below_drewN HB1.out
  clear r3
  generalize w1.drewN nd = w2 at hB2 ⊢
  have l3 := blk_lt HB3.out
  have l4 := blk_lt HB4.out
  have l5 := blk_lt HB5.out
  have b3 := (hB2.block _ l3).trans HB3.out
  have b4 := (hB2.block _ l4).trans HB4.out
  have b5 := (hB2.block _ l5).trans HB5.out
  have ls := hB2.size
  have HBW := Aside0.mk (below_step HB.out hB2)
  have D0 := Aside0.mk (Ct_below HD0.out hB2)
  have D1 := Aside0.mk (Ct_below HD1.out hB2)
  have HBW' := HBW.out.size
  have B3 := Aside0.mk b3
  have B4 := Aside0.mk b4
  have B5 := Aside0.mk b5
  have k3 := blk_lt b3
  have k4 := blk_lt b4
  have k5 := blk_lt b5
  clear b3 b4 b5 q0 q1 q2 q3 HB3 HB4 HB5 l3 l4 l5 HB1 hB2 ls HD0 HD1
  go_upto_region 5 with (fail)
  have c8 : ((w2.alloc (Obj.cells #[Value.slice none 0 0] 42)).alloc (Obj.cells #[Value.nilFunc] 57)).heap[w2.heap.size]? = some (.cells #[.slice none 0 0] 42 (0, 0)) := blk_alloc (blk_new _ _) _
  have c9 : ((w2.alloc (Obj.cells #[Value.slice none 0 0] 42)).alloc (Obj.cells #[Value.nilFunc] 57)).heap[w2.heap.size + 1]? = some (.cells #[.nilFunc] 57 (0, 0)) := blk_new1 (by simp)
  have hB3 : Below w2.heap.size w2 ((w2.alloc (Obj.cells #[Value.slice none 0 0] 42)).alloc (Obj.cells #[Value.nilFunc] 57)) := below_alloc (below_alloc (Below.refl _ _) _) _
  generalize (w2.alloc (Obj.cells #[Value.slice none 0 0] 42)).alloc (Obj.cells #[Value.nilFunc] 57) = w3 at c8 c9 hB3 ⊢
  have c9' := blk_cell1 c9
  have c9f : w3.frozen? ⟨w2.heap.size + 1, 0, none⟩ = false := by simp [World.frozen?, c9]
  go_upto_region 6 with (fail)
  have e8 := blk_other c8 (a := ⟨w2.heap.size + 1, 0, none⟩) (by simp) (Value.func (Fn.func 28) #[] #[.pointer (some ⟨w.heap.size, 0, none⟩), .pointer (some ⟨w.heap.size + 1 + 1, 0, none⟩), .pointer (some ⟨w2.heap.size, 0, none⟩), .pointer (some ⟨w.heap.size + 1, 0, none⟩), .pointer (some ⟨w2.heap.size + 1, 0, none⟩)])
  have e9 := blk_setc c9 (a := (Value.func (Fn.func 28) #[] #[.pointer (some ⟨w.heap.size, 0, none⟩), .pointer (some ⟨w.heap.size + 1 + 1, 0, none⟩), .pointer (some ⟨w2.heap.size, 0, none⟩), .pointer (some ⟨w.heap.size + 1, 0, none⟩), .pointer (some ⟨w2.heap.size + 1, 0, none⟩)]))
  have hB4 : Below w2.heap.size w2 (w3.setCell ⟨w2.heap.size + 1, 0, none⟩ (Value.func (Fn.func 28) #[] #[.pointer (some ⟨w.heap.size, 0, none⟩), .pointer (some ⟨w.heap.size + 1 + 1, 0, none⟩), .pointer (some ⟨w2.heap.size, 0, none⟩), .pointer (some ⟨w.heap.size + 1, 0, none⟩), .pointer (some ⟨w2.heap.size + 1, 0, none⟩)])) := hB3.setCell (by simp) _
  generalize w3.setCell ⟨w2.heap.size + 1, 0, none⟩ (Value.func (Fn.func 28) #[] #[.pointer (some ⟨w.heap.size, 0, none⟩), .pointer (some ⟨w.heap.size + 1 + 1, 0, none⟩), .pointer (some ⟨w2.heap.size, 0, none⟩), .pointer (some ⟨w.heap.size + 1, 0, none⟩), .pointer (some ⟨w2.heap.size + 1, 0, none⟩)]) = w4 at e8 e9 hB4 ⊢
  have HB4 := Aside0.mk hB4
  have HX := Aside0.mk (below_step HBW.out hB4)
  have E8 := Aside0.mk e8
  have E9 := Aside0.mk e9
  have d3 := (hB4.block _ k3).trans B3.out
  have d4 := (hB4.block _ k4).trans B4.out
  have d5 := (hB4.block _ k5).trans B5.out
  have F3 := Aside0.mk d3
  have F5 := Aside0.mk d5
  have G0 := Aside0.mk (Ct_below D0.out hB4)
  have G1 := Aside0.mk (Ct_below D1.out hB4)
  have p4 := blk_cell1 d4
  have p9 := blk_cell1 e9
  have m4 := blk_lt d4
  have m9 := blk_lt e9
  have m8 := blk_lt e8
  clear c9' c9f c8 c9 hB3 D0 D1 e8 e9 d3 d4 d5 hB4 B3 B4 B5
  go_region_with (first | (go_at_call 25; refine (whole25 1 _ (by decide) (by decide)).mono ?_; rintro e wa ⟨g1, g2, rfl, hc1, hc2, hb, hg1, hg2⟩; have HC1 := Aside0.mk hc1; have HC2 := Aside0.mk hc2; have hBW : Below w4.heap.size w4 wa := (by first | exact below_step (below_drew (Below.refl _ _)) hb | exact hb); have x4 := pw_cell_below hBW p4; have x9 := pw_cell_below hBW p9; clear hb hg1 hg2 hc1 hc2) | (go_at_call 28; have x3 := (hBW.block _ (blk_lt F3.out)).trans F3.out; have x5 := (hBW.block _ (blk_lt F5.out)).trans F5.out; have x8 := (hBW.block _ m8).trans E8.out; go_loud (refine (top28 _ _ _ _ _ _ _ _ _ _ _ _ _ wa (Ct_C (Ct_of_reps (n := 1) (v := 0) (by decide) HC1.out)) (Ct_C (Ct_of_reps (n := 1) (v := 4294967295) (by decide) HC2.out)) (Ct_below G0.out hBW) (Ct_below G1.out hBW) ⟨_, _, x8⟩ (blk_cell0 x3).1 (blk_cell0 x3).2 (blk_cell1 x5) (blk_cell1 x8) (blk_frozen1 x8 0) x4 x9 (by omega) (by omega) (by omega) (by omega)).mono ?_); rintro e wb ⟨Az, cz, rfl, hgz, hCz, hkz, hbz⟩; have HGZ := Aside0.mk hgz; have HCZ := Aside0.mk hCz; have hfin := Below.trans (below_step HX.out hBW) (below_lower hbz (by omega)); clear hbz hkz))
  all_goals
    go_wp2_with fail
    exact bodyPost_ret (v := .tuple #[.slice Az 1 cz, .int .i64 0]) (by simp [results, Try.results19, go_sem]) rfl ⟨Az, cz, rfl, HCZ.out, hfin⟩
end Go.Proofs.Ytcfklhgaajmoeaa.Lin
