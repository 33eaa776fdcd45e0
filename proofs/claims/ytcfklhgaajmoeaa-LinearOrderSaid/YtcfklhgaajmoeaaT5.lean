import Derived.Test.YtcfklhgaajmoeaaT4
namespace Go.Proofs.Ytcfklhgaajmoeaa.Lin
open Go.RowKit Go.Proofs.YtcfklhgaajmoeaaW.PrintWords Go.Proofs.YtcfklhgaajmoeaaW.PrintLast Go.Proofs.YtcfklhgaajmoeaaW.PrintMore
attribute [local go_sem] max2_int min2_int max_two min_two max_three min_three max_four min_four
set_option linter.unusedVariables false
set_option linter.unusedSimpArgs false
/-- do two boxes of one dimension meet? -/
def meets (al ah bl bh : List Int) : Bool := chkBox (zipW mx al bl) (zipW mn ah bh) al.length == 0
theorem new3 (w : World) (o0 o1 o2 : Obj) : Below w.heap.size w (((w.alloc o0).alloc o1).alloc o2) ∧ (((w.alloc o0).alloc o1).alloc o2).heap[w.heap.size]? = some o0 ∧ (((w.alloc o0).alloc o1).alloc o2).heap[w.heap.size + 1]? = some o1 ∧ (((w.alloc o0).alloc o1).alloc o2).heap[w.heap.size + 1 + 1]? = some o2 := by
  refine ⟨below_alloc (below_alloc (below_alloc (Below.refl _ _) _) _) _, ?_, ?_, ?_⟩
  · show (((w.heap.push o0).push o1).push o2)[w.heap.size]? = _
    simp only [Array.getElem?_push, Array.size_push]
    rw [if_neg (by omega), if_neg (by omega), if_pos trivial]
  · show (((w.heap.push o0).push o1).push o2)[w.heap.size + 1]? = _
    simp only [Array.getElem?_push, Array.size_push]
    rw [if_neg (by omega), if_pos trivial]
  · show (((w.heap.push o0).push o1).push o2)[w.heap.size + 1 + 1]? = _
    simp only [Array.getElem?_push, Array.size_push]
    rw [if_pos trivial]
theorem bcell {W w1 : World} (hb : Below W.heap.size W w1) : (∀ b o, b < W.heap.size → w1.cell? ⟨b, o, none⟩ = W.cell? ⟨b, o, none⟩) ∧ (∀ b o, b < W.heap.size → w1.frozen? ⟨b, o, none⟩ = W.frozen? ⟨b, o, none⟩) :=
  ⟨fun b o h => hb.cell (p := ⟨b, o, none⟩) h, fun b o h => hb.frozen (p := ⟨b, o, none⟩) h⟩
theorem R_track {α : Type} {d : Kd α} {e base : Nat} {ok : Nat → Prop} {w : World} {v : Value} {xs : List α} (h : d.R e w base ok v xs) : d.R e w base (fun k => base ≤ k ∧ k < w.heap.size) v xs := Kd.R_mono (Kd.R_bound h) (fun k hk => ⟨hk.2.1, hk.2.2.1⟩)
theorem R_toC {α : Type} {d : Kd α} {e base : Nat} {ok : Nat → Prop} {w : World} {A : Option Addr} {n c : Nat} {xs : List α} (h : d.R e w base ok (.slice A n c) xs) : d.C w A xs.length xs := (Kd.R_reads' h).2.2
theorem blk_frozen {W : World} {g : Nat} {a b : Value} {t : Nat} (h : W.heap[g]? = some (.cells #[a, b] t (0, 0))) (o : Nat) : W.frozen? ⟨g, o, none⟩ = false := by simp [World.frozen?, h]
theorem fz_below {w w1 : World} (hb : Below w.heap.size w w1) {a : Addr} {v : Value} (hc : w.cell? a = some v) (hf : w.frozen? a = false) : w1.frozen? a = false := (hb.frozen (World.block_lt_of_cell? w a hc)).trans hf
theorem blk_cell0 {W : World} {g : Nat} {a b : Value} {t : Nat} (h : W.heap[g]? = some (.cells #[a, b] t (0, 0))) : W.cell? ⟨g, 0, none⟩ = some a ∧ W.cell? ⟨g, 1, none⟩ = some b := by
  constructor <;> simp [World.cell?, h]
set_option maxHeartbeats 1000000 in
theorem meet20 (A0 : Option Addr) (c0 : Nat) (l0 : List Int) (A1 : Option Addr) (c1 : Nat) (l1 : List Int) (A2 : Option Addr) (c2 : Nat) (l2 : List Int) (A3 : Option Addr) (c3 : Nat) (l3 : List Int) (w : World)
    (hr0 : Kd.C (Kd.int .u32) w A0 l0.length l0) (hr1 : Kd.C (Kd.int .u32) w A1 l1.length l1) (hr2 : Kd.C (Kd.int .u32) w A2 l2.length l2) (hr3 : Kd.C (Kd.int .u32) w A3 l3.length l3)
    (h1 : l1.length = l0.length) (h2 : l2.length = l0.length) (h3 : l3.length = l0.length) (hl : l0.length ≤ 70368744177664) :
    Calls Try.prog 20 #[.agg #[.slice A0 l0.length c0, .slice A1 l1.length c1], .agg #[.slice A2 l2.length c2, .slice A3 l3.length c3]] w fun e w' => ∃ (Am An : Option Addr) (nm nn cm cn : Nat), e = .returned (.tuple #[.agg #[.slice Am nm cm, .slice An nn cn], .bool (meets l0 l1 l2 l3)]) ∧ Below w.heap.size w w' := by
  have HR0 := Aside0.mk hr0
  have HR1 := Aside0.mk hr1
  have HR2 := Aside0.mk hr2
  have HR3 := Aside0.mk hr3
  clear hr0 hr1 hr2 hr3
  have hu33 := Try.underlying33
  have e1 : ((l1.length : Int) != (l0.length : Int)) = false := by simp [h1]
  have e2 : ((l2.length : Int) != (l0.length : Int)) = false := by simp [h2]
  have e3 : ((l3.length : Int) != (l0.length : Int)) = false := by simp [h3]
  have H1 := Aside0.mk h1
  have H2 := Aside0.mk h2
  have H3 := Aside0.mk h3
  clear h1 h2 h3
  go_enter Try.func20, Try.ntmps20
  go_upto_region 4 with (fail)
  go_cut [7] (fun v7 wc => ∃ (g : Nat) (Aa Ab : Option Addr) (ca cb : Nat), v7 = .pointer (some ⟨g, 0, none⟩) ∧ Aside0 (wc.cell? ⟨g, 0, none⟩ = some (.slice Aa (zipW mx l0 l2).length ca) ∧ wc.cell? ⟨g, 1, none⟩ = some (.slice Ab (zipW mn l1 l3).length cb)) ∧ Aside0 (Kd.C (Kd.int .u32) wc Aa (zipW mx l0 l2).length (zipW mx l0 l2)) ∧ Aside0 (Kd.C (Kd.int .u32) wc Ab (zipW mn l1 l3).length (zipW mn l1 l3)) ∧ Aside0 (wc.cell? ⟨w.heap.size + 1 + 1, 0, none⟩ = some (.slice none 0 0) ∧ wc.cell? ⟨w.heap.size + 1 + 1, 1, none⟩ = some (.slice none 0 0) ∧ wc.frozen? ⟨w.heap.size + 1 + 1, 0, none⟩ = false ∧ wc.frozen? ⟨w.heap.size + 1 + 1, 1, none⟩ = false) ∧ Aside0 (Below w.heap.size w wc))
  case first =>
    go_wp2_with fail
    obtain ⟨hB, hb0, hb1, hb2⟩ := new3 w (Obj.cells #[Value.slice A0 l0.length c0, Value.slice A1 l1.length c1] 33) (Obj.cells #[Value.slice A2 l2.length c2, Value.slice A3 l3.length c3] 33) (Obj.cells #[Value.slice none 0 0, Value.slice none 0 0] 33)
    generalize (((w.alloc (Obj.cells #[Value.slice A0 l0.length c0, Value.slice A1 l1.length c1] 33)).alloc (Obj.cells #[Value.slice A2 l2.length c2, Value.slice A3 l3.length c3] 33)).alloc (Obj.cells #[Value.slice none 0 0, Value.slice none 0 0] 33)) = W at hB hb0 hb1 hb2 ⊢
    obtain ⟨q0, q1⟩ := blk_cell0 hb0
    obtain ⟨q2, q3⟩ := blk_cell0 hb1
    have HB := Aside0.mk hB
    have HB2 := Aside0.mk hb2
    clear hB hb0 hb1 hb2
    go_region_held3 (fun w' => Below W.heap.size W w' ∧ w'.cell? ⟨w.heap.size, 0, none⟩ = some (.slice A0 l0.length c0) ∧ w'.cell? ⟨w.heap.size, 1, none⟩ = some (.slice A1 l1.length c1) ∧ w'.cell? ⟨w.heap.size + 1, 0, none⟩ = some (.slice A2 l2.length c2) ∧ w'.cell? ⟨w.heap.size + 1, 1, none⟩ = some (.slice A3 l3.length c3)) ((refine (fun hK_ => ⟨hK_, pw_cell_below hK_ q0, pw_cell_below hK_ q1, pw_cell_below hK_ q2, pw_cell_below hK_ q3⟩) ?_; repeat (first | assumption | exact Below.refl _ _ | exact below_drew (Below.refl _ _) | apply below_alloc | apply below_drew | refine Below.setCell ?_ (by first | exact Nat.le_refl _ | (have := hBW.size; simp only []; omega)) _)))
      (first | (go_at_call 29; have hz : Below W.heap.size W _ ∧ _ := (by assumption); with_reducible refine (zip29 30 mx cf30 max30 _ _ l0 _ _ l2 _ (Kd.C_below (Kd.C_below HR0.out HB.out) hz.1) (Kd.C_below (Kd.C_below HR2.out HB.out) hz.1) (by have := H2.out; omega) (by omega)).mono ?_; rintro e wa ⟨va, rfl, hoa, hba⟩; obtain ⟨Ava, cva, rfl⟩ := Kd.R_slice hoa; have hBW := below_step hz.1 hba; obtain ⟨hcBa, hfBa⟩ := bcell hba; have hsBa := hba.size; (try simp at hsBa); (try (have hsW : W.heap.size < wa.heap.size := by omega))) | (go_at_call 29; have hz : Below W.heap.size W _ ∧ _ := (by assumption); with_reducible refine (zip29 31 mn cf31 min31 _ _ l1 _ _ l3 _ (Kd.C_below (Kd.C_below HR1.out HB.out) hz.1) (Kd.C_below (Kd.C_below HR3.out HB.out) hz.1) (by have := H3.out; have := H1.out; omega) (by have := H1.out; omega)).mono ?_; rintro e wb ⟨vb, rfl, hob, hbb⟩; obtain ⟨Avb, cvb, rfl⟩ := Kd.R_slice hob; have hBW := below_step hz.1 hbb; obtain ⟨hcBb, hfBb⟩ := bcell hbb; have hsBb := hbb.size; (try simp at hsBb); (try (have hsW : W.heap.size < wb.heap.size := by omega))))
    all_goals
      have hoa1 := R_track hoa
      have hob1 := R_track hob
      have hoa2 := Kd.R_below hoa1 (by first | exact hbb | exact below_step (below_alloc (Below.refl _ _) _) hbb)
    all_goals
      go_wp2_with fail
      go_meet
      case rel =>
        refine ⟨_, Ava, Avb, cva, cvb, rfl, ⟨?_, ?_⟩, ⟨?_⟩, ⟨?_⟩, ⟨?_⟩, ⟨?_⟩⟩
        · go_simp
        · go_simp
        · first | exact R_toC (Kd.R_alloc hoa2 _) | exact R_toC (Kd.R_far (Kd.R_far hoa2 (fun k hk => by have h1 := hk.1; have h2 := hk.2; simp at h1 ⊢; omega) _) (fun k hk => by have h1 := hk.1; have h2 := hk.2; simp at h1 ⊢; omega) _)
        · first | exact R_toC (Kd.R_alloc hob1 _) | exact R_toC (Kd.R_far (Kd.R_far hob1 (fun k hk => by have h1 := hk.1; have h2 := hk.2; simp at h1 ⊢; omega) _) (fun k hk => by have h1 := hk.1; have h2 := hk.2; simp at h1 ⊢; omega) _)
        · refine (fun hF => ⟨pw_cell_below hF (blk_cell0 HB2.out).1, pw_cell_below hF (blk_cell0 HB2.out).2, (hF.frozen (p := ⟨_, 0, none⟩) (blk_lt HB2.out)).trans (blk_frozen HB2.out 0), (hF.frozen (p := ⟨_, 1, none⟩) (blk_lt HB2.out)).trans (blk_frozen HB2.out 1)⟩) (?_ : Below W.heap.size W _)
          repeat (first | assumption | exact Below.refl _ _ | exact below_drew (Below.refl _ _) | apply below_alloc | apply below_drew | refine Below.setCell ?_ (by first | exact Nat.le_refl _ | (have := hBW.size; simp only []; omega)) _)
        · refine below_step HB.out ?_
          repeat (first | assumption | exact Below.refl _ _ | exact below_drew (Below.refl _ _) | apply below_alloc | apply below_drew | refine Below.setCell ?_ (by first | exact Nat.le_refl _ | (have := hBW.size; simp only []; omega)) _)
  case rest =>
    obtain ⟨g, Aa, Ab, ca, cb, rfl, HC, HA, HD, HZ, HBw⟩ := hcut
    obtain ⟨q0, q1⟩ := HC.out
    obtain ⟨z0, z1, z2, z3⟩ := HZ.out
    have hsz := HBw.out.size
    have HSZ := Aside0.mk (below_size HBw.out)
    by_cases hk : chkBox (zipW mx l0 l2) (zipW mn l1 l3) l0.length = 0
    · have hkb : (chkBox (zipW mx l0 l2) (zipW mn l1 l3) l0.length != 0) = false := by simp [hk]
      have HM := Aside0.mk (show meets l0 l1 l2 l3 = true by unfold meets; rw [hk]; rfl)
      clear hk
      go_wp2_with (go_at_call 27; refine (checkBox27 _ _ _ _ _ _ _ _ HA.out HD.out).mono ?_; rintro e w' ⟨rfl, hb⟩; have r0 := pw_cell_below hb q0; have r1 := pw_cell_below hb q1; have s0 := pw_cell_below hb z0; have s1 := pw_cell_below hb z1; have s2 := fz_below hb z0 z2; have s3 := fz_below hb z1 z3; have HBZ := Aside0.mk (below_step HBw.out hb); clear hb)
      exact bodyPost_ret (v := .tuple #[.agg #[.slice Aa (zipW mx l0 l2).length ca, .slice Ab (zipW mn l1 l3).length cb], .bool true]) (by simp [results, Try.results20, go_sem, s0, s1]) rfl ⟨_, _, _, _, _, _, by rw [HM.out], (HBZ.out.setCell (by simp only []; omega) _).setCell (by simp only []; omega) _⟩
    · have hkb : (chkBox (zipW mx l0 l2) (zipW mn l1 l3) l0.length != 0) = true := by simp [hk]
      have HM := Aside0.mk (show meets l0 l1 l2 l3 = false by unfold meets; simp [hk])
      clear hk
      go_wp2_with (go_at_call 27; refine (checkBox27 _ _ _ _ _ _ _ _ HA.out HD.out).mono ?_; rintro e w' ⟨rfl, hb⟩; have r0 := pw_cell_below hb q0; have r1 := pw_cell_below hb q1; have s0 := pw_cell_below hb z0; have s1 := pw_cell_below hb z1; have s2 := fz_below hb z0 z2; have s3 := fz_below hb z1 z3; have HBZ := Aside0.mk (below_step HBw.out hb); clear hb)
      exact bodyPost_ret (v := .tuple #[.agg #[.slice none 0 0, .slice none 0 0], .bool false]) (by simp [results, Try.results20, go_sem, s0, s1]) rfl ⟨_, _, _, _, _, _, by rw [HM.out], (HBZ.out.setCell (by simp only []; omega) _).setCell (by simp only []; omega) _⟩
end Go.Proofs.Ytcfklhgaajmoeaa.Lin
