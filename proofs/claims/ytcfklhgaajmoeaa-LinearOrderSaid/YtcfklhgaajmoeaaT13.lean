import Derived.Test.YtcfklhgaajmoeaaT12
namespace Go.Proofs.Ytcfklhgaajmoeaa.Lin
open Go.RowKit Go.Proofs.YtcfklhgaajmoeaaW.PrintWords Go.Proofs.YtcfklhgaajmoeaaW.PrintLast Go.Proofs.YtcfklhgaajmoeaaW.PrintMore
attribute [local go_sem] max2_int min2_int max_two min_two max_three min_three max_four min_four
set_option linter.unusedVariables false
set_option linter.unusedSimpArgs false
theorem keep_blk {w w1 : World} {g i : Nat} {o : Obj} (h : KeepBut w w1 g none) (hi : w.heap[i]? = some o) (hne : i ≠ g) : w1.heap[i]? = some o := (h.2 i (blk_lt hi) hne (by simp)).trans hi
theorem keep_cell {w w1 : World} {g : Nat} {a : Addr} {v : Value} (h : KeepBut w w1 g none) (hc : w.cell? a = some v) (hne : a.block ≠ g) : w1.cell? a = some v := by
  have := World.block_lt_of_cell? w a hc
  unfold World.cell? at hc ⊢
  rw [h.2 _ this hne (by simp)]
  exact hc
theorem Ct_keep {w w1 : World} {g : Nat} {A : Option Addr} {xs : List Int} (h : Ct w A xs) (hk : KeepBut w w1 g none) (hg : ∃ cs fr, w.heap[g]? = some (.cells cs 42 fr)) : Ct w1 A xs := by
  have hne : ∀ ad, A = some ad → ad.block ≠ g := fun ad e hb => by
    obtain ⟨cells, fr', hc⟩ := h.2 ad e
    obtain ⟨cs, fr, hg⟩ := hg
    rw [hb, hg] at hc
    injection hc with hc
    injection hc with _ hc
    cases hc
  refine ⟨⟨h.1.1, h.1.2.1, fun hn => ?_⟩, fun ad e => ?_⟩
  · obtain ⟨ad, e, hc⟩ := h.1.2.2 hn
    refine ⟨ad, e, fun j q hj => ?_⟩
    obtain ⟨c, hs, hr, hcell⟩ := hc j q hj
    refine ⟨c, hs, hr, fun i v hi => keep_cell hk (hcell i v hi) ?_⟩
    have : (ad.add (j * (Kd.int .u32).sz + i)).block = ad.block := by unfold Addr.add; split <;> rfl
    rw [this]
    exact hne ad e
  · obtain ⟨cells, fr', hc⟩ := h.2 ad e
    exact ⟨cells, fr', keep_blk hk hc (hne ad e)⟩
set_option maxHeartbeats 4000000 in
theorem top28 (A0 : Option Addr) (c0 : Nat) (A1 : Option Addr) (c1 : Nat) (gb : Nat) (A2 : Option Addr) (c2 : Nat) (A3 : Option Addr) (c3 : Nat) (gd gl gm gf : Nat) (w : World)
    (hr0 : Kd.C (Kd.int .u32) w A0 1 [0]) (hr1 : Kd.C (Kd.int .u32) w A1 1 [4294967295]) (hr2 : Ct w A2 [0]) (hr3 : Ct w A3 [1073741824]) (hgl : ∃ cs fr, w.heap[gl]? = some (.cells cs 42 fr))
    (q0 : w.cell? ⟨gb, 0, none⟩ = some (.slice A2 1 c2)) (q1 : w.cell? ⟨gb, 1, none⟩ = some (.slice A3 1 c3))
    (q2 : w.cell? ⟨gd, 0, none⟩ = some (.int .i64 1)) (q3 : w.cell? ⟨gl, 0, none⟩ = some (.slice none 0 0)) (q4 : w.frozen? ⟨gl, 0, none⟩ = false) (q5 : w.cell? ⟨gm, 0, none⟩ = some (.int .i64 1))
    (q6 : w.cell? ⟨gf, 0, none⟩ = some (.func (.func 28) #[] #[.pointer (some ⟨gb, 0, none⟩), .pointer (some ⟨gd, 0, none⟩), .pointer (some ⟨gl, 0, none⟩), .pointer (some ⟨gm, 0, none⟩), .pointer (some ⟨gf, 0, none⟩)]))
    (n1 : gb ≠ gl) (n2 : gd ≠ gl) (n3 : gm ≠ gl) (n4 : gf ≠ gl) :
    Calls Try.prog 28 #[.agg #[.slice A0 1 c0, .slice A1 1 c1], .int .i64 0, .int .i64 0, .pointer (some ⟨gb, 0, none⟩), .pointer (some ⟨gd, 0, none⟩), .pointer (some ⟨gl, 0, none⟩), .pointer (some ⟨gm, 0, none⟩), .pointer (some ⟨gf, 0, none⟩)] w fun e w' => ∃ A c, e = .returned (.tuple #[]) ∧ w'.cell? ⟨gl, 0, none⟩ = some (.slice A 1 c) ∧ Kd.C (Kd.int .i64) w' A 1 [0] ∧ KeepBut w w' gl none ∧ Below gl w w' := by
  have HR0 := Aside0.mk hr0
  have HR1 := Aside0.mk hr1
  have HR2 := Aside0.mk hr2
  have HR3 := Aside0.mk hr3
  clear hr0 hr1 hr2 hr3
  have hu33 := Try.underlying33
  have lb := World.block_lt_of_cell? _ _ q0
  have lc := World.block_lt_of_cell? _ _ q2
  have ld := World.block_lt_of_cell? _ _ q3
  have lm := World.block_lt_of_cell? _ _ q5
  have lf := World.block_lt_of_cell? _ _ q6
  simp only at lb lc ld lm lf
  have Q6 := Aside0.mk q6
  clear q6
  go_enter Try.func28, Try.ntmps28
  go_upto_region 5 with (go_at_call 20; go_loud (refine (meet20 _ _ [0] _ _ [4294967295] _ _ [0] _ _ [1073741824] _ (Kd.C_below HR0.out (below_alloc (Below.refl _ _) _)) (Kd.C_below HR1.out (below_alloc (Below.refl _ _) _)) (Ct_C (Ct_below HR2.out (below_alloc (Below.refl _ _) _))) (Ct_C (Ct_below HR3.out (below_alloc (Below.refl _ _) _))) rfl rfl rfl (by decide)).mono ?_); rintro e w1 ⟨Am, An, nm, nn, cm, cn, rfl, hb⟩; rw [show meets [0] [4294967295] [0] [1073741824] = true by decide]; have HB := Aside0.mk (below_step (below_alloc (Below.refl _ _) _) hb); have HB1 := Aside0.mk ((hb.block _ (by simp)).trans (blk_new w (Obj.cells #[Value.slice A0 1 c0, Value.slice A1 1 c1] 33))); have ls := HB.out.size; have r2 := pw_cell_below HB.out q2; have lc1 : gd < w1.heap.size := Nat.lt_of_lt_of_le lc ls; clear hb)
  have h0 : (w1.alloc (Obj.cells #[Value.slice Am nm cm, Value.slice An nn cn] 33)).heap[w.heap.size]? = some (.cells #[.slice A0 1 c0, .slice A1 1 c1] 33 (0, 0)) := blk_alloc HB1.out _
  have h1 : Below w.heap.size w (w1.alloc (Obj.cells #[Value.slice Am nm cm, Value.slice An nn cn] 33)) := below_alloc HB.out _
  clear r2 lc1
  generalize w1.alloc (Obj.cells #[Value.slice Am nm cm, Value.slice An nn cn] 33) = wr at h0 h1 ⊢
  have p5 := pw_cell_below h1 q5
  obtain ⟨p0, p1⟩ := blk_cell0 h0
  have HH0 := Aside0.mk h0
  have HH1 := Aside0.mk h1
  clear h0 h1
  have i0 : (Int.tmod 0 1) = 0 := by decide
  go_cut [13, 14] (fun v10 v11 wc => ∃ g10 g11, v10 = .pointer (some ⟨g10, 0, none⟩) ∧ v11 = .pointer (some ⟨g11, 0, none⟩) ∧ Aside0 (BxC wc g10 [0] [2147483647]) ∧ Aside0 (BxC wc g11 [2147483648] [4294967295]) ∧ Aside0 (Below wr.heap.size wr wc))
  case first =>
    go_region_held3 (fun w' => Below wr.heap.size wr w' ∧ w'.cell? ⟨w.heap.size, 0, none⟩ = some (.slice A0 1 c0) ∧ w'.cell? ⟨w.heap.size, 1, none⟩ = some (.slice A1 1 c1) ∧ w'.cell? ⟨gm, 0, none⟩ = some (.int .i64 1))
      ((refine (fun hK_ => ⟨hK_, pw_cell_below hK_ p0, pw_cell_below hK_ p1, pw_cell_below hK_ p5⟩) ?_; repeat (with_reducible first | assumption | exact Below.refl _ _ | exact below_drew (Below.refl _ _) | apply below_alloc | apply below_drew | refine Below.setCell ?_ (by first | (simp; done) | (simp; omega)) _)))
      ((go_at_call 26; have hz : Below wr.heap.size wr _ ∧ _ := (by assumption); refine (halves26 _ _ [0] _ _ [4294967295] 0 _ (Kd.C_below (Kd.C_below HR0.out HH1.out) hz.1) (Kd.C_below (Kd.C_below HR1.out HH1.out) hz.1) (by decide) (by decide) (by decide) (by decide) (by decide) (by decide) (by decide)).mono ?_; rintro e wa ⟨A1, A2, A3, A4, k1, k2, k3, k4, rfl, r1, r2, r3, r4, hba⟩; obtain ⟨pp, hpp, r1, r2, r3, r4⟩ := (⟨_, rfl, r1, r2, r3, r4⟩ : ∃ p, p = _ ∧ Rw wa p wa.heap.size _ _ ∧ Rw wa p wa.heap.size _ _ ∧ Rw wa p wa.heap.size _ _ ∧ Rw wa p wa.heap.size _ _); (try simp at hpp); have HPP := Aside0.mk hpp; clear hpp; have hBW := below_step hz.1 hba; obtain ⟨hcB, hfB⟩ := bcell hba; have hsB := hba.size; (try simp at hsB); (try (have hsW : wr.heap.size < wa.heap.size := by omega))))
    all_goals
      have hp1 := HPP.out
      clear hcB hfB q0 q1 q2 q3 q4 q5 p0 p1 p5
    all_goals
      go_wp2_with fail
      go_meet
      case rel =>
        refine ⟨_, _, rfl, rfl, ⟨A1, k1, A2, k2, ?_, ?_, ?_⟩, ⟨A3, k3, A4, k4, ?_, ?_, ?_⟩, ⟨?_⟩⟩
        · simp only [List.length_cons, List.length_nil, Nat.zero_add]
          (repeat (with_reducible first | (refine blk_new1 (by first | (simp; done) | rfl)) | (refine blk_set2 (x := .slice none 0 0) (y := .slice none 0 0) ?_) | (refine blk_alloc ?_ _) | (refine blk_other ?_ (by first | (simp; done) | (simp; omega)) _) | (refine (hba.block _ (by first | (simp; done) | (simp; omega))).trans ?_) | (refine blk_drew ?_)))
        · (refine Ct_of_Rw (n := 1) (c := k1) (p := pp) (q := wa.heap.size) ?_; repeat (with_reducible first | exact r1 | (refine Rw_alloc ?_ _) | (refine Rw_far ?_ (by first | (simp; done) | (simp; omega)) _)); (try exact r1))
        · (refine Ct_of_Rw (n := 1) (c := k2) (p := pp) (q := wa.heap.size) ?_; repeat (with_reducible first | exact r2 | (refine Rw_alloc ?_ _) | (refine Rw_far ?_ (by first | (simp; done) | (simp; omega)) _)); (try exact r2))
        · simp only [List.length_cons, List.length_nil, Nat.zero_add]
          (repeat (with_reducible first | (refine blk_new1 (by first | (simp; done) | rfl)) | (refine blk_set2 (x := .slice none 0 0) (y := .slice none 0 0) ?_) | (refine blk_alloc ?_ _) | (refine blk_other ?_ (by first | (simp; done) | (simp; omega)) _) | (refine (hba.block _ (by first | (simp; done) | (simp; omega))).trans ?_) | (refine blk_drew ?_)))
        · (refine Ct_of_Rw (n := 1) (c := k3) (p := pp) (q := wa.heap.size) ?_; repeat (with_reducible first | exact r3 | (refine Rw_alloc ?_ _) | (refine Rw_far ?_ (by first | (simp; done) | (simp; omega)) _)); (try exact r3))
        · (refine Ct_of_Rw (n := 1) (c := k4) (p := pp) (q := wa.heap.size) ?_; repeat (with_reducible first | exact r4 | (refine Rw_alloc ?_ _) | (refine Rw_far ?_ (by first | (simp; done) | (simp; omega)) _)); (try exact r4))
        · repeat (with_reducible first | assumption | exact Below.refl _ _ | exact below_drew (Below.refl _ _) | apply below_alloc | apply below_drew | refine Below.setCell ?_ (by first | (simp; done) | (simp; omega)) _)
  case rest =>
    obtain ⟨g10, g11, rfl, rfl, H10, H11, HBc⟩ := hcut
    have hw : Below w.heap.size w wc := below_step HH1.out HBc.out
    obtain ⟨A1, k1, A2', k2, b10, e1, e2⟩ := H10.out
    obtain ⟨A3', k3, A4, k4, b11, e3, e4⟩ := H11.out
    obtain ⟨x0, x1⟩ := blk_cell0 b10
    obtain ⟨y0, y1⟩ := blk_cell0 b11
    have s0 := pw_cell_below hw q0
    have s1 := pw_cell_below hw q1
    have s2 := pw_cell_below hw q2
    have s3 := pw_cell_below hw q3
    have s4 := fz_below hw q3 q4
    have s6 := pw_cell_below hw Q6.out
    obtain ⟨cs, fr, hgl'⟩ := hgl
    have hgc := (hw.block _ (blk_lt hgl')).trans hgl'
    have D2 := Aside0.mk (Ct_below HR2.out hw)
    have D3 := Aside0.mk (Ct_below HR3.out hw)
    have E1 := Aside0.mk e1
    have E2 := Aside0.mk e2
    have E3 := Aside0.mk e3
    have E4 := Aside0.mk e4
    have HGC := Aside0.mk (⟨cs, fr, hgc⟩ : ∃ cs fr, wc.heap[gl]? = some (.cells cs 42 fr))
    have B11 := Aside0.mk b11
    have HW := Aside0.mk hw
    have S6 := Aside0.mk s6
    have N11 := Aside0.mk (show g11 ≠ gl from fun e => by rw [e, hgc] at b11; injection b11 with b11; injection b11 with _ b11; cases b11)
    have S0 := Aside0.mk s0
    have S1 := Aside0.mk s1
    have N1 := Aside0.mk n1
    have N4 := Aside0.mk n4
    clear e1 e2 e3 e4 hgc b11 b10 hw hgl' HB HB1 y0 y1 q0 q1 q2 q3 q4 q5 p0 p1 p5 n1 n2 n3 n4
    go_wp2_with (fail)
    refine (yes28 _ _ [0] _ _ [2147483647] _ _ _ _ _ [0] _ _ [1073741824] _ _ _ _ _ (Ct_C E1.out) (Ct_C E2.out) (Ct_C D2.out) (Ct_C D3.out) s0 s1 s2 s3 s4 rfl rfl rfl (by decide) (by decide)).mono ?_
    rintro e w2 ⟨Av, cv, rfl, hcell, hC, hk, hbl⟩
    have t6 := keep_cell hk S6.out N4.out
    obtain ⟨y0, y1⟩ := blk_cell0 (keep_blk hk B11.out N11.out)
    have t0 := keep_cell hk S0.out N1.out
    have t1 := keep_cell hk S1.out N1.out
    have F3 := Aside0.mk (Ct_keep E3.out hk HGC.out)
    have F4 := Aside0.mk (Ct_keep E4.out hk HGC.out)
    have F5 := Aside0.mk (Ct_keep D2.out hk HGC.out)
    have F6 := Aside0.mk (Ct_keep D3.out hk HGC.out)
    have HK := Aside0.mk hk
    have HBL := Aside0.mk (Below.trans (below_lower HW.out (Nat.le_of_lt ld)) hbl)
    have hgs := HK.out.1
    have hgw := HW.out.size
    have HCC := Aside0.mk hC
    clear hk hC hbl s0 s1 s2 s3 s4 s6 x0 x1
    go_wp2_with (fail)
    refine (no28 _ _ [2147483648] _ _ [4294967295] _ _ _ _ _ [0] _ _ [1073741824] _ _ _ _ _ (Ct_C F3.out) (Ct_C F4.out) (Ct_C F5.out) (Ct_C F6.out) t0 t1 rfl rfl rfl (by decide) (by decide)).mono ?_
    rintro e w3 ⟨rfl, hb3⟩
    have u0 := pw_cell_below hb3 hcell
    have U1 := Aside0.mk (Kd.C_below HCC.out hb3)
    have HB3 := Aside0.mk hb3
    clear hb3
    go_wp2_with fail
    exact bodyPost_end (v := .tuple #[]) (by simp [results, Try.results28, go_sem]) rfl ⟨Av, cv, rfl, u0, U1.out, KeepBut.trans (KeepBut.trans (KeepBut.of_below HW.out gl none) HK.out (Or.inl rfl)) (KeepBut.of_below HB3.out gl none) (Or.inl rfl), Below.trans HBL.out (below_lower HB3.out (by omega))⟩
end Go.Proofs.Ytcfklhgaajmoeaa.Lin
