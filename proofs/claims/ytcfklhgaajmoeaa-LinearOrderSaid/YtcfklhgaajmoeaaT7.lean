import Derived.Test.YtcfklhgaajmoeaaT1
import Derived.Test.YtcfklhgaajmoeaaT6
namespace Go.Proofs.Ytcfklhgaajmoeaa.Lin
open Go.RowKit Go.Proofs.YtcfklhgaajmoeaaW.PrintWords Go.Proofs.YtcfklhgaajmoeaaW.PrintLast Go.Proofs.YtcfklhgaajmoeaaW.PrintMore
attribute [local go_sem] max2_int min2_int max_two min_two max_three min_three max_four min_four
set_option linter.unusedVariables false
set_option linter.unusedSimpArgs false
/-- A row of numbers whose block lies between p and q. -/
def Rw (w : World) (p q : Nat) (v : Value) (xs : List Int) : Prop := Kd.R (Kd.int .u32) 38 w 0 (fun k => p ≤ k ∧ k < q) v xs
theorem Rw_of {w : World} {base : Nat} {ok : Nat → Prop} {v : Value} {xs : List Int} (h : Kd.R (Kd.int .u32) 38 w base ok v xs) : Rw w base w.heap.size v xs := Kd.R_lower (R_track h) (Nat.zero_le _)
theorem Rw_below {w w1 : World} {p q : Nat} {v : Value} {xs : List Int} (h : Rw w p q v xs) (hb : Below w.heap.size w w1) : Rw w1 p q v xs := Kd.R_below h hb
theorem Rw_wide {w : World} {p q p' q' : Nat} {v : Value} {xs : List Int} (h : Rw w p q v xs) (hp : p' ≤ p) (hq : q ≤ q') : Rw w p' q' v xs := Kd.R_mono h (fun _ hk => ⟨Nat.le_trans hp hk.1, Nat.lt_of_lt_of_le hk.2 hq⟩)
theorem Rw_alloc {w : World} {p q : Nat} {v : Value} {xs : List Int} (h : Rw w p q v xs) (o : Obj) : Rw (w.alloc o) p q v xs := Kd.R_alloc h o
theorem Rw_drewN {w : World} {p q : Nat} {v : Value} {xs : List Int} (h : Rw w p q v xs) (n : Nat) : Rw (w.drewN n) p q v xs := Kd.R_drewN h n
theorem Rw_drew {w : World} {p q : Nat} {v : Value} {xs : List Int} (h : Rw w p q v xs) : Rw w.drew p q v xs := Kd.R_drew h
theorem Rw_far {w : World} {p q : Nat} {v : Value} {xs : List Int} (h : Rw w p q v xs) {a : Addr} (ha : ¬ (p ≤ a.block ∧ a.block < q)) (u : Value) : Rw (w.setCell a u) p q v xs := Kd.R_far h (fun k hk e => ha (e ▸ hk)) u
theorem Rw_C {w : World} {p q n c : Nat} {A : Option Addr} {xs : List Int} (h : Rw w p q (.slice A n c) xs) : Kd.C (Kd.int .u32) w A xs.length xs := R_toC h
theorem blk_set2 {W : World} {g t : Nat} {x y a b : Value} (h : W.heap[g]? = some (.cells #[x, y] t (0, 0))) : ((W.setCell ⟨g, 0, none⟩ a).setCell ⟨g, 1, none⟩ b).heap[g]? = some (.cells #[a, b] t (0, 0)) := by
  have hlt := (Array.getElem?_eq_some_iff.1 h).1
  have h1 : (W.setCell ⟨g, 0, none⟩ a).heap[g]? = some (.cells #[a, y] t (0, 0)) := by
    unfold World.setCell
    simp only [Array.getElem?_modify, h]
    simp
  unfold World.setCell at h1 ⊢
  simp only [Array.getElem?_modify, h1]
  simp
theorem blk_other {W : World} {g : Nat} {o : Obj} (h : W.heap[g]? = some o) {a : Addr} (ha : a.block ≠ g) (u : Value) : (W.setCell a u).heap[g]? = some o := (Below.heap_setCell W a u g (Ne.symm ha)).trans h
/-- A box of rows of its own. -/
def Bx (w : World) (g : Nat) (la lb : List Int) (p q r : Nat) : Prop := ∃ Aa ca Ab cb, w.heap[g]? = some (.cells #[.slice Aa la.length ca, .slice Ab lb.length cb] 33 (0, 0)) ∧ Rw w p q (.slice Aa la.length ca) la ∧ Rw w q r (.slice Ab lb.length cb) lb
theorem Bx_below {w w1 : World} {g : Nat} {la lb : List Int} {p q r : Nat} (h : Bx w g la lb p q r) (hb : Below w.heap.size w w1) : Bx w1 g la lb p q r := by
  obtain ⟨Aa, ca, Ab, cb, ha, ra, rb⟩ := h
  exact ⟨Aa, ca, Ab, cb, (hb.block _ (blk_lt ha)).trans ha, Rw_below ra hb, Rw_below rb hb⟩
set_option maxHeartbeats 4000000 in
theorem halves26 (A0 : Option Addr) (c0 : Nat) (l0 : List Int) (A1 : Option Addr) (c1 : Nat) (l1 : List Int) (d : Int) (w : World) (hr0 : Kd.C (Kd.int .u32) w A0 l0.length l0) (hr1 : Kd.C (Kd.int .u32) w A1 l1.length l1)
    (h0 : 0 ≤ d) (h1 : d < l0.length) (hk : chkBox l0 l1 l0.length = 0) (h2 : 0 ≤ rd l0 d) (h3 : rd l0 d < rd l1 d) (h4 : rd l1 d ≤ 4294967295) (hn : l0.length ≤ 35184372088832) :
    Calls Try.prog 26 #[.agg #[.slice A0 l0.length c0, .slice A1 l1.length c1], .int .i64 d] w fun e w' => ∃ (Aa Ab Ac Ad : Option Addr) (ca cb cc cd : Nat), e = .returned (.tuple #[.agg #[.slice Aa l0.length ca, .slice Ab l1.length cb], .agg #[.slice Ac l0.length cc, .slice Ad l1.length cd], .bool true]) ∧
      Rw w' w.heap.size w'.heap.size (.slice Aa l0.length ca) l0 ∧ Rw w' w.heap.size w'.heap.size (.slice Ab l1.length cb) (l1.set d.toNat (midOf (rd l0 d) (rd l1 d))) ∧ Rw w' w.heap.size w'.heap.size (.slice Ac l0.length cc) (l0.set d.toNat (midOf (rd l0 d) (rd l1 d) + 1)) ∧ Rw w' w.heap.size w'.heap.size (.slice Ad l1.length cd) l1 ∧ Below w.heap.size w w' := by
  have HR0 := Aside0.mk hr0
  have HR1 := Aside0.mk hr1
  have HN := Aside0.mk (show l0.length ≤ 35184372088832 ∧ l1.length ≤ 35184372088832 from ⟨hn, by rw [chkBox_len hk]; exact hn⟩)
  have HK := Aside0.mk hk
  have H3 := Aside0.mk h3
  clear hr0 hr1 hk hn h3
  have hu33 := Try.underlying33
  go_enter Try.func26, Try.ntmps26
  go_upto_region 4 with (go_at_call 35; refine (middle35 _ _ l0 _ _ l1 _ _ (Kd.C_below HR0.out (new3 w _ _ _).1) (Kd.C_below HR1.out (new3 w _ _ _).1) h0 h1 HK.out h2 H3.out h4).mono ?_; rintro e w1 ⟨rfl, hb⟩; obtain ⟨n0, n1, n2, n3⟩ := new3 w (Obj.cells #[Value.slice A0 l0.length c0, Value.slice A1 l1.length c1] 33) (Obj.cells #[Value.slice none 0 0, Value.slice none 0 0] 33) (Obj.cells #[Value.slice none 0 0, Value.slice none 0 0] 33); have B0 := Aside0.mk ((hb.block _ (by first | omega | (simp; done) | (simp; omega))).trans n1); have B1 := Aside0.mk ((hb.block _ (by simp)).trans n2); have B2 := Aside0.mk ((hb.block _ (by simp)).trans n3); have HB := Aside0.mk (below_step n0 hb); clear hb n0 n1 n2 n3)
  go_cut [9] (fun v9 wc => ∃ g9 p q r, v9 = .pointer (some ⟨g9, 0, none⟩) ∧ Aside0 (w1.heap.size ≤ p ∧ p ≤ q ∧ q ≤ r ∧ r ≤ wc.heap.size ∧ w1.heap.size ≤ g9 ∧ g9 < wc.heap.size) ∧ Bx wc g9 l0 l1 p q r ∧ Aside0 (Below w1.heap.size w1 wc))
  case first =>
    obtain ⟨q0, q1⟩ := blk_cell0 B0.out
    go_region_held3 (fun w' => Below w1.heap.size w1 w' ∧ w'.cell? ⟨w.heap.size, 0, none⟩ = some (.slice A0 l0.length c0) ∧ w'.cell? ⟨w.heap.size, 1, none⟩ = some (.slice A1 l1.length c1)) ((refine (fun hK_ => ⟨hK_, pw_cell_below hK_ q0, pw_cell_below hK_ q1⟩) ?_; repeat (first | assumption | exact Below.refl _ _ | exact below_drew (Below.refl _ _) | apply below_alloc | apply below_drew | refine Below.setCell ?_ (by first | exact Nat.le_refl _ | (have := hBW.size; simp only []; omega)) _)))
      (first | (go_at_call 36; have hz : Below w1.heap.size w1 _ ∧ _ := (by assumption); with_reducible refine (clone36 _ _ l0 _ (Kd.C_below (Kd.C_below HR0.out HB.out) hz.1) (by have := HN.out; omega)).mono ?_; rintro e wa ⟨va, rfl, hoa, hba⟩; obtain ⟨Ava, cva, rfl⟩ := Kd.R_slice hoa; have hBW := below_step hz.1 hba; obtain ⟨hcBa, hfBa⟩ := bcell hba; have hsBa := hba.size; (try simp at hsBa); (try (have hsW : w1.heap.size < wa.heap.size := by omega))) | (go_at_call 36; have hz : Below w1.heap.size w1 _ ∧ _ := (by assumption); with_reducible refine (clone36 _ _ l1 _ (Kd.C_below (Kd.C_below HR1.out HB.out) hz.1) (by have := HN.out; omega)).mono ?_; rintro e wb ⟨vb, rfl, hob, hbb⟩; obtain ⟨Avb, cvb, rfl⟩ := Kd.R_slice hob; have hBW := below_step hz.1 hbb; obtain ⟨hcBb, hfBb⟩ := bcell hbb; have hsBb := hbb.size; (try simp at hsBb); (try (have hsW : w1.heap.size < wb.heap.size := by omega))))
    all_goals
      have hoa1 := Rw_of hoa
      have hob1 := Rw_of hob
      have hoa2 := Rw_below hoa1 (by first | exact hbb | exact below_step (below_alloc (Below.refl _ _) _) hbb)
      have hsz1 := hba.size
      have hsz2 := hbb.size
      simp at hsz1 hsz2
    all_goals
      go_wp2_with fail
      go_meet
      case rel =>
        refine ⟨_, w1.heap.size, wa.heap.size, wb.heap.size, rfl, ⟨?_⟩, ⟨Ava, cva, Avb, cvb, ?_, ?_, ?_⟩, ⟨?_⟩⟩
        rotate_left
        · first | exact blk_new _ _ | exact blk_set2 ((hbb.block _ (by simp)).trans (blk_new _ _)) | exact blk_set2 ((hbb.block _ (by first | omega | (simp; done) | (simp; omega))).trans ((hba.block _ (by simp)).trans (blk_new _ _)))
        · refine Rw_wide (by first | exact Rw_alloc hoa2 _ | exact Rw_far (Rw_far hoa2 (by first | omega | (simp; done) | (simp; omega)) _) (by first | omega | (simp; done) | (simp; omega)) _) (by first | omega | (simp; done) | (simp; omega)) (by first | omega | (simp; done) | (simp; omega))
        · refine Rw_wide (by first | exact Rw_alloc hob1 _ | exact Rw_far (Rw_far hob1 (by first | omega | (simp; done) | (simp; omega)) _) (by first | omega | (simp; done) | (simp; omega)) _) (by first | omega | (simp; done) | (simp; omega)) (by first | omega | (simp; done) | (simp; omega))
        · repeat (first | assumption | exact Below.refl _ _ | exact below_drew (Below.refl _ _) | apply below_alloc | apply below_drew | refine Below.setCell ?_ (by first | exact Nat.le_refl _ | (have := hBW.size; simp only []; omega)) _)
        · first | omega | (simp; omega)
  case rest =>
    obtain ⟨g9, p, q, r, rfl, H9, HX, HBc⟩ := hcut
    obtain ⟨w2, rfl⟩ : ∃ x, x = wc := ⟨_, rfl⟩
    have HSW := Aside0.mk (blk_lt B2.out)
    have B0 := Aside0.mk ((HBc.out.block _ (blk_lt B0.out)).trans B0.out)
    have B1 := Aside0.mk ((HBc.out.block _ (blk_lt B1.out)).trans B1.out)
    have B2 := Aside0.mk ((HBc.out.block _ (blk_lt B2.out)).trans B2.out)
    have HB := Aside0.mk (below_step HB.out HBc.out)
    clear HBc
    have HX := Aside0.mk HX
    go_upto_region 5 with (fail)
    go_cut [10] (fun v9 wc => ∃ g10 p q r, v9 = .pointer (some ⟨g10, 0, none⟩) ∧ Aside0 (w2.heap.size ≤ p ∧ p ≤ q ∧ q ≤ r ∧ r ≤ wc.heap.size ∧ w2.heap.size ≤ g10 ∧ g10 < wc.heap.size) ∧ Bx wc g10 l0 l1 p q r ∧ Aside0 (Below w2.heap.size w2 wc))
    case first =>
      obtain ⟨q0, q1⟩ := blk_cell0 B0.out
      go_region_held3 (fun w' => Below w2.heap.size w2 w' ∧ w'.cell? ⟨w.heap.size, 0, none⟩ = some (.slice A0 l0.length c0) ∧ w'.cell? ⟨w.heap.size, 1, none⟩ = some (.slice A1 l1.length c1)) ((refine (fun hK_ => ⟨hK_, pw_cell_below hK_ q0, pw_cell_below hK_ q1⟩) ?_; repeat (first | assumption | exact Below.refl _ _ | exact below_drew (Below.refl _ _) | apply below_alloc | apply below_drew | refine Below.setCell ?_ (by first | exact Nat.le_refl _ | (have := hBW.size; simp only []; omega)) _)))
        (first | (go_at_call 36; have hz : Below w2.heap.size w2 _ ∧ _ := (by assumption); with_reducible refine (clone36 _ _ l0 _ (Kd.C_below (Kd.C_below HR0.out HB.out) hz.1) (by have := HN.out; omega)).mono ?_; rintro e wa ⟨va, rfl, hoa, hba⟩; obtain ⟨Ava, cva, rfl⟩ := Kd.R_slice hoa; have hBW := below_step hz.1 hba; obtain ⟨hcBa, hfBa⟩ := bcell hba; have hsBa := hba.size; (try simp at hsBa); (try (have hsW : w2.heap.size < wa.heap.size := by omega))) | (go_at_call 36; have hz : Below w2.heap.size w2 _ ∧ _ := (by assumption); with_reducible refine (clone36 _ _ l1 _ (Kd.C_below (Kd.C_below HR1.out HB.out) hz.1) (by have := HN.out; omega)).mono ?_; rintro e wb ⟨vb, rfl, hob, hbb⟩; obtain ⟨Avb, cvb, rfl⟩ := Kd.R_slice hob; have hBW := below_step hz.1 hbb; obtain ⟨hcBb, hfBb⟩ := bcell hbb; have hsBb := hbb.size; (try simp at hsBb); (try (have hsW : w2.heap.size < wb.heap.size := by omega))))
      all_goals
        have hoa1 := Rw_of hoa
        have hob1 := Rw_of hob
        have hoa2 := Rw_below hoa1 (by first | exact hbb | exact below_step (below_alloc (Below.refl _ _) _) hbb)
        have hsz1 := hba.size
        have hsz2 := hbb.size
        simp at hsz1 hsz2
      all_goals
        go_wp2_with fail
        go_meet
        case rel =>
          refine ⟨_, w2.heap.size, wa.heap.size, wb.heap.size, rfl, ⟨?_⟩, ⟨Ava, cva, Avb, cvb, ?_, ?_, ?_⟩, ⟨?_⟩⟩
          rotate_left
          · first | exact blk_new _ _ | exact blk_set2 ((hbb.block _ (by simp)).trans (blk_new _ _)) | exact blk_set2 ((hbb.block _ (by first | omega | (simp; done) | (simp; omega))).trans ((hba.block _ (by simp)).trans (blk_new _ _)))
          · refine Rw_wide (by first | exact Rw_alloc hoa2 _ | exact Rw_far (Rw_far hoa2 (by first | omega | (simp; done) | (simp; omega)) _) (by first | omega | (simp; done) | (simp; omega)) _) (by first | omega | (simp; done) | (simp; omega)) (by first | omega | (simp; done) | (simp; omega))
          · refine Rw_wide (by first | exact Rw_alloc hob1 _ | exact Rw_far (Rw_far hob1 (by first | omega | (simp; done) | (simp; omega)) _) (by first | omega | (simp; done) | (simp; omega)) _) (by first | omega | (simp; done) | (simp; omega)) (by first | omega | (simp; done) | (simp; omega))
          · repeat (first | assumption | exact Below.refl _ _ | exact below_drew (Below.refl _ _) | apply below_alloc | apply below_drew | refine Below.setCell ?_ (by first | exact Nat.le_refl _ | (have := hBW.size; simp only []; omega)) _)
          · first | omega | (simp; omega)
    case rest =>
      obtain ⟨g10, p', q', r', rfl, H10, HY, HBd⟩ := hcut
      have HX := Aside0.mk (Bx_below HX.out HBd.out)
      have HY := Aside0.mk HY
      have B1 := Aside0.mk ((HBd.out.block _ (blk_lt B1.out)).trans B1.out)
      have B2 := Aside0.mk ((HBd.out.block _ (blk_lt B2.out)).trans B2.out)
      have HSX := Aside0.mk HBd.out.size
      have HB := Aside0.mk (below_step HB.out HBd.out)
      clear HBd B0
      obtain ⟨Aa, ca, Ab, cb, ha, ra, rb⟩ := HX.out
      obtain ⟨Ac, cc, Ad, cd, hc, rc, rd'⟩ := HY.out
      obtain ⟨gb, kb, eb, _, _⟩ := Kd.R_form rb (by rw [chkBox_len HK.out]; omega)
      obtain ⟨gc, kc, ec, _, _⟩ := Kd.R_form rc (by omega)
      injection eb with eb eb1 eb2
      injection ec with ec ec1 ec2
      subst eb ec
      clear eb1 eb2 ec1 ec2
      obtain ⟨a0, a1⟩ := blk_cell0 ha
      obtain ⟨d0, d1⟩ := blk_cell0 hc
      have hd1 : d < (l1.length : Int) := by rw [chkBox_len HK.out]; exact h1
      obtain ⟨ub, fb⟩ := Kd.R_celln 0 rb d h0 hd1
      obtain ⟨uc, fc⟩ := Kd.R_celln 0 rc d h0 h1
      have hne : gb ≠ gc := by
        have z1 := (rb.1 gb rfl)
        have z2 := (rc.1 gc rfl)
        have z3 := H9.out
        have z4 := H10.out
        omega
      have x1 : ¬ gb = g9 := fun e => Kd.R_ne rb ha (by decide) (by rw [e]; rfl)
      have x2 : ¬ gb = g10 := fun e => Kd.R_ne rb hc (by decide) (by rw [e]; rfl)
      have x3 : ¬ gc = g9 := fun e => Kd.R_ne rc ha (by decide) (by rw [e]; rfl)
      have x4 : ¬ gc = g10 := fun e => Kd.R_ne rc hc (by decide) (by rw [e]; rfl)
      have y1 := Ne.symm x1
      have y2 := Ne.symm x2
      have y3 := Ne.symm x3
      have y4 := Ne.symm x4
      have y5 := Ne.symm hne
      have hm0 : 0 ≤ midOf (rd l0 d) (rd l1 d) := by have := H3.out; unfold midOf; omega
      have hm1 : midOf (rd l0 d) (rd l1 d) + 1 ≤ 4294967295 := by have := H3.out; unfold midOf; omega
      have Ha := Aside0.mk ha
      have Hc := Aside0.mk hc
      have Ra := Aside0.mk ra
      have Rb := Aside0.mk rb
      have Rc := Aside0.mk rc
      have Rd := Aside0.mk rd'
      clear ha hc ra rb rc rd' HX HY
      go_wp2_with fail
      go_region
      have z1 := Rb.out.1 gb rfl
      have z2 := Rc.out.1 gc rfl
      have z3 := H9.out
      have z4 := H10.out
      have z5 := HSW.out
      have z6 := HSX.out
      have f1 : Rw (((wc.setCell ⟨gb, d.toNat, none⟩ (.int .u32 (midOf (rd l0 d) (rd l1 d)))).setCell ⟨gc, d.toNat, none⟩ (.int .u32 (midOf (rd l0 d) (rd l1 d) + 1))).drew) p q (.slice Aa l0.length ca) l0 := Rw_drew (Rw_far (Rw_far Ra.out (by simp only []; omega) _) (by simp only []; omega) _)
      have f2 : Rw (((wc.setCell ⟨gb, d.toNat, none⟩ (.int .u32 (midOf (rd l0 d) (rd l1 d)))).setCell ⟨gc, d.toNat, none⟩ (.int .u32 (midOf (rd l0 d) (rd l1 d) + 1))).drew) q r (.slice (some ⟨gb, 0, none⟩) l1.length cb) (l1.set d.toNat (midOf (rd l0 d) (rd l1 d))) := Rw_drew (Rw_far (Kd.R_putn Rb.out d (midOf (rd l0 d) (rd l1 d))) (by simp only []; omega) _)
      have f3 : Rw (((wc.setCell ⟨gb, d.toNat, none⟩ (.int .u32 (midOf (rd l0 d) (rd l1 d)))).setCell ⟨gc, d.toNat, none⟩ (.int .u32 (midOf (rd l0 d) (rd l1 d) + 1))).drew) p' q' (.slice (some ⟨gc, 0, none⟩) l0.length cc) (l0.set d.toNat (midOf (rd l0 d) (rd l1 d) + 1)) := Rw_drew (Kd.R_putn (Rw_far Rc.out (a := ⟨gb, d.toNat, none⟩) (by simp only []; omega) _) d (midOf (rd l0 d) (rd l1 d) + 1))
      have f4 : Rw (((wc.setCell ⟨gb, d.toNat, none⟩ (.int .u32 (midOf (rd l0 d) (rd l1 d)))).setCell ⟨gc, d.toNat, none⟩ (.int .u32 (midOf (rd l0 d) (rd l1 d) + 1))).drew) q' r' (.slice Ad l1.length cd) l1 := Rw_drew (Rw_far (Rw_far Rd.out (by simp only []; omega) _) (by simp only []; omega) _)
      have k1 := blk_drew (blk_other (a := ⟨gc, d.toNat, none⟩) (blk_other (a := ⟨gb, d.toNat, none⟩) Ha.out x1 (.int .u32 (midOf (rd l0 d) (rd l1 d)))) x3 (.int .u32 (midOf (rd l0 d) (rd l1 d) + 1)))
      have k2 := blk_drew (blk_other (a := ⟨gc, d.toNat, none⟩) (blk_other (a := ⟨gb, d.toNat, none⟩) Hc.out x2 (.int .u32 (midOf (rd l0 d) (rd l1 d)))) x4 (.int .u32 (midOf (rd l0 d) (rd l1 d) + 1)))
      have k3 := blk_drew (blk_other (a := ⟨gc, d.toNat, none⟩) (blk_other (a := ⟨gb, d.toNat, none⟩) B1.out (fun e => Kd.R_ne Rb.out B1.out (by decide) (by rw [← e]; rfl)) (.int .u32 (midOf (rd l0 d) (rd l1 d)))) (fun e => Kd.R_ne Rc.out B1.out (by decide) (by rw [← e]; rfl)) (.int .u32 (midOf (rd l0 d) (rd l1 d) + 1)))
      have k4 := blk_drew (blk_other (a := ⟨gc, d.toNat, none⟩) (blk_other (a := ⟨gb, d.toNat, none⟩) B2.out (fun e => Kd.R_ne Rb.out B2.out (by decide) (by rw [← e]; rfl)) (.int .u32 (midOf (rd l0 d) (rd l1 d)))) (fun e => Kd.R_ne Rc.out B2.out (by decide) (by rw [← e]; rfl)) (.int .u32 (midOf (rd l0 d) (rd l1 d) + 1)))
      have k5 : Below w.heap.size w (((wc.setCell ⟨gb, d.toNat, none⟩ (.int .u32 (midOf (rd l0 d) (rd l1 d)))).setCell ⟨gc, d.toNat, none⟩ (.int .u32 (midOf (rd l0 d) (rd l1 d) + 1))).drew) := below_drew ((HB.out.setCell (by simp only []; omega) _).setCell (by simp only []; omega) _)
      have hsz4 : (((wc.setCell ⟨gb, d.toNat, none⟩ (.int .u32 (midOf (rd l0 d) (rd l1 d)))).setCell ⟨gc, d.toNat, none⟩ (.int .u32 (midOf (rd l0 d) (rd l1 d) + 1))).drew).heap.size = wc.heap.size := by simp
      generalize (((wc.setCell ⟨gb, d.toNat, none⟩ (.int .u32 (midOf (rd l0 d) (rd l1 d)))).setCell ⟨gc, d.toNat, none⟩ (.int .u32 (midOf (rd l0 d) (rd l1 d) + 1))).drew) = w4 at f1 f2 f3 f4 k1 k2 k3 k4 k5 hsz4 ⊢
      obtain ⟨a0', a1'⟩ := blk_cell0 k1
      obtain ⟨d0', d1'⟩ := blk_cell0 k2
      obtain ⟨s0, s1⟩ := blk_cell0 k3
      obtain ⟨s2, s3⟩ := blk_cell0 k4
      have s4 := blk_frozen k3 0
      have s5 := blk_frozen k3 1
      have s6 := blk_frozen k4 0
      have s7 := blk_frozen k4 1
      have F1 := Aside0.mk f1
      have F2 := Aside0.mk f2
      have F3 := Aside0.mk f3
      have F4 := Aside0.mk f4
      have K5 := Aside0.mk k5
      have z7 : wc.heap.size ≤ w4.heap.size := by rw [hsz4]; exact Nat.le_refl _
      have n1 : ¬ g9 = w.heap.size + 1 := by omega
      have n2 : ¬ g9 = w.heap.size + 1 + 1 := by omega
      have n3 : ¬ g10 = w.heap.size + 1 := by omega
      have n4 : ¬ g10 = w.heap.size + 1 + 1 := by omega
      have HZ7 := Aside0.mk z7
      clear f1 f2 f3 f4 k1 k2 k3 k4 k5 hsz4 z7 z1 z2 z3 z4 z5 z6 a0 a1 d0 d1 ub fb uc fc
      go_wp2_with fail
      go_region
      go_wp2_with fail
      have z3 := H9.out
      have z4 := H10.out
      have z5 := HSW.out
      have z6 := HSX.out
      have z7 := HZ7.out
      have far : ∀ {a b : Nat} {v : Value} {xs : List Int} (h : Rw w4 a b v xs) (ha : w.heap.size + 1 + 1 < a) (u1 u2 u3 u4 : Value), Rw ((((w4.setCell ⟨w.heap.size + 1, 0, none⟩ u1).setCell ⟨w.heap.size + 1, 1, none⟩ u2).setCell ⟨w.heap.size + 1 + 1, 0, none⟩ u3).setCell ⟨w.heap.size + 1 + 1, 1, none⟩ u4).drew a b v xs := fun h ha u1 u2 u3 u4 => Rw_drew (Rw_far (Rw_far (Rw_far (Rw_far h (by simp only []; omega) _) (by simp only []; omega) _) (by simp only []; omega) _) (by simp only []; omega) _)
      exact bodyPost_ret (v := .tuple #[.agg #[.slice Aa l0.length ca, .slice (some ⟨gb, 0, none⟩) l1.length cb], .agg #[.slice (some ⟨gc, 0, none⟩) l0.length cc, .slice Ad l1.length cd], .bool true]) (by simp [results, Try.results26, go_sem, s0, s1, s2, s3]) rfl
        ⟨Aa, some ⟨gb, 0, none⟩, some ⟨gc, 0, none⟩, Ad, ca, cb, cc, cd, rfl, Rw_wide (far F1.out (by omega) (.slice Aa l0.length ca) (.slice (some ⟨gb, 0, none⟩) l1.length cb) (.slice (some ⟨gc, 0, none⟩) l0.length cc) (.slice Ad l1.length cd)) (by omega) (by simp; omega), Rw_wide (far F2.out (by omega) (.slice Aa l0.length ca) (.slice (some ⟨gb, 0, none⟩) l1.length cb) (.slice (some ⟨gc, 0, none⟩) l0.length cc) (.slice Ad l1.length cd)) (by omega) (by simp; omega), Rw_wide (far F3.out (by omega) (.slice Aa l0.length ca) (.slice (some ⟨gb, 0, none⟩) l1.length cb) (.slice (some ⟨gc, 0, none⟩) l0.length cc) (.slice Ad l1.length cd)) (by omega) (by simp; omega), Rw_wide (far F4.out (by omega) (.slice Aa l0.length ca) (.slice (some ⟨gb, 0, none⟩) l1.length cb) (.slice (some ⟨gc, 0, none⟩) l0.length cc) (.slice Ad l1.length cd)) (by omega) (by simp; omega),
          below_drew ((((K5.out.setCell (by simp only []; omega) _).setCell (by simp only []; omega) _).setCell (by simp only []; omega) _).setCell (by simp only []; omega) _)⟩
end Go.Proofs.Ytcfklhgaajmoeaa.Lin
