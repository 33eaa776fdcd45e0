-- Written by a program of this session (wip/pp.py) for this seat. Not trusted: Lean checks it.
import Derived.Test.YtcfklhgaajmoeaaLinx0
import Derived.Test.YtcfklhgaajmoeaaLinx1
import Derived.Test.YtcfklhgaajmoeaaLinx2
import Derived.Test.YtcfklhgaajmoeaaHL
namespace Go.Proofs.Ytcfklhgaajmoeaa.Lin
open Go.RowKit Go.Proofs.YtcfklhgaajmoeaaW.PrintWords Go.Proofs.YtcfklhgaajmoeaaW.PrintLast Go.Proofs.YtcfklhgaajmoeaaW.PrintMore
attribute [local go_sem] max2_int min2_int max_two min_two max_three min_three max_four min_four   -- for this text's walks alone
set_option linter.unusedVariables false
set_option linter.unusedSimpArgs false

/-! ### cadastrelaw18_LinearHolds: function 4 -/
mutual
def cadastrelaw18_LinearHolds.j0 : Nat → List Int → Int → Int → Int → Bool → Option (Bool)
  | 0, _, _, _, _, _ => none
  | k + 1, x0, x1, x2, x7, x38 => if x38 = true then ((cadastrelaw18_live.f).bind fun t146 => (some t146)) else ((linear_Box.f (x0.length : Int) x1 x2 x7).bind fun bt147 => (if bt147.2.2 = 0 then ((cadastreref08_In.f k x0 bt147.1 bt147.2.1).bind fun t155 => (cadastrelaw18_LinearHolds.j1 k x0 x1 x2 x7 (!t155))) else (cadastrelaw18_LinearHolds.j1 k x0 x1 x2 x7 true)))
def cadastrelaw18_LinearHolds.j1 : Nat → List Int → Int → Int → Int → Bool → Option (Bool)
  | 0, _, _, _, _, _ => none
  | k + 1, x0, x1, x2, x7, x56 => if x56 = true then (some false) else ((linear_Box.f (x0.length : Int) x1 x2 (wrap64 (x7 + 1))).bind fun bt156 => ((linear_Box.f (x0.length : Int) x1 x2 (wrap64 (x7 - 1))).bind fun bt164 => (if bt156.2.2 = 0 then ((cadastreref08_In.f k x0 bt156.1 bt156.2.1).bind fun t172 => (if t172 = true then (cadastrelaw18_LinearHolds.j2 k x0 x1 x2 x7 true) else (if bt164.2.2 = 0 then ((cadastreref08_In.f k x0 bt164.1 bt164.2.1).bind fun t173 => (cadastrelaw18_LinearHolds.j2 k x0 x1 x2 x7 t173)) else (cadastrelaw18_LinearHolds.j2 k x0 x1 x2 x7 false)))) else (if bt164.2.2 = 0 then ((cadastreref08_In.f k x0 bt164.1 bt164.2.1).bind fun t174 => (cadastrelaw18_LinearHolds.j2 k x0 x1 x2 x7 t174)) else (cadastrelaw18_LinearHolds.j2 k x0 x1 x2 x7 false)))))
def cadastrelaw18_LinearHolds.j2 : Nat → List Int → Int → Int → Int → Bool → Option (Bool)
  | 0, _, _, _, _, _ => none
  | k + 1, x0, x1, x2, x7, x92 => if x92 = true then (some false) else ((linear_Grow.f x1 x2).bind fun bt175 => ((linear_Find.f k x0 bt175.1 bt175.2.1).bind fun bt179 => (if bt175.2.2.2 = 0 then (cadastrelaw18_LinearHolds.j3 k x7 bt175.2.2.1 bt179.1 (bt179.2 != 0)) else (cadastrelaw18_LinearHolds.j3 k x7 bt175.2.2.1 bt179.1 true))))
def cadastrelaw18_LinearHolds.j3 : Nat → Int → Int → Int → Bool → Option (Bool)
  | 0, _, _, _, _ => none
  | k + 1, x7, x17, x19, x113 => if x113 = true then (some false) else (if x7 < x17 then (if x19 = x7 then ((cadastrelaw18_live.f).bind fun t181 => (some t181)) else (some false)) else (if x7 > x17 then (if x19 = (wrap64 (x7 + 1)) then ((cadastrelaw18_live.f).bind fun t182 => (some t182)) else (some false)) else (if x19 = x7 then ((cadastrelaw18_live.f).bind fun t183 => (some t183)) else (if x19 = (wrap64 (x7 + 1)) then ((cadastrelaw18_live.f).bind fun t184 => (some t184)) else (some false)))))
end
def cadastrelaw18_LinearHolds.f (k : Nat) (l0 : List Int) (a1 : Int) (a2 : Int) : Option (Bool) := (linear_Find.f k l0 a1 a2).bind fun bt144 => (if bt144.2 = 0 then (if a1 > 9 then (cadastrelaw18_LinearHolds.j0 k l0 a1 a2 bt144.1 true) else (cadastrelaw18_LinearHolds.j0 k l0 a1 a2 bt144.1 (decide ((l0.length : Int) > 6)))) else (cadastrelaw18_LinearHolds.j0 k l0 a1 a2 bt144.1 true))
theorem cadastrelaw18_LinearHolds.mono_l : ∀ k, (∀ y0 y1 y2 y3 y4, LeO (cadastrelaw18_LinearHolds.j0 k y0 y1 y2 y3 y4) (cadastrelaw18_LinearHolds.j0 (k + 1) y0 y1 y2 y3 y4)) ∧ (∀ y0 y1 y2 y3 y4, LeO (cadastrelaw18_LinearHolds.j1 k y0 y1 y2 y3 y4) (cadastrelaw18_LinearHolds.j1 (k + 1) y0 y1 y2 y3 y4)) ∧ (∀ y0 y1 y2 y3 y4, LeO (cadastrelaw18_LinearHolds.j2 k y0 y1 y2 y3 y4) (cadastrelaw18_LinearHolds.j2 (k + 1) y0 y1 y2 y3 y4)) ∧ (∀ y0 y1 y2 y3, LeO (cadastrelaw18_LinearHolds.j3 k y0 y1 y2 y3) (cadastrelaw18_LinearHolds.j3 (k + 1) y0 y1 y2 y3))
  | 0 => ⟨fun _ _ _ _ _ r h => by simp [cadastrelaw18_LinearHolds.j0] at h, fun _ _ _ _ _ r h => by simp [cadastrelaw18_LinearHolds.j1] at h, fun _ _ _ _ _ r h => by simp [cadastrelaw18_LinearHolds.j2] at h, fun _ _ _ _ r h => by simp [cadastrelaw18_LinearHolds.j3] at h⟩
  | k + 1 => by
    obtain ⟨ih0, ih1, ih2, ih3⟩ := cadastrelaw18_LinearHolds.mono_l k
    refine ⟨?_, ?_, ?_, ?_⟩
    · intro y0 y1 y2 y3 y4
      unfold cadastrelaw18_LinearHolds.j0
      repeat' first
      | (with_reducible exact ih0 _ _ _ _ _)
      | (with_reducible exact ih1 _ _ _ _ _)
      | (with_reducible exact ih2 _ _ _ _ _)
      | (with_reducible exact ih3 _ _ _ _)
      | (with_reducible exact cadastreref08_In.mono _ _ _ _)
      | (with_reducible exact linear_Find.mono _ _ _ _)
      | (with_reducible exact LeO.refl _)
      | (with_reducible exact LeO.none _)
      | (with_reducible refine LeO.ite ?_ ?_)
      | (with_reducible refine LeO.bind ?_ (fun _ => ?_))
      | exact ih0 _ _ _ _ _
      | exact ih1 _ _ _ _ _
      | exact ih2 _ _ _ _ _
      | exact ih3 _ _ _ _
      | exact cadastreref08_In.mono _ _ _ _
      | exact linear_Find.mono _ _ _ _
      | exact LeO.none _
      | refine LeO.ite ?_ ?_
      | refine LeO.bind ?_ (fun _ => ?_)
    · intro y0 y1 y2 y3 y4
      unfold cadastrelaw18_LinearHolds.j1
      repeat' first
      | (with_reducible exact ih0 _ _ _ _ _)
      | (with_reducible exact ih1 _ _ _ _ _)
      | (with_reducible exact ih2 _ _ _ _ _)
      | (with_reducible exact ih3 _ _ _ _)
      | (with_reducible exact cadastreref08_In.mono _ _ _ _)
      | (with_reducible exact linear_Find.mono _ _ _ _)
      | (with_reducible exact LeO.refl _)
      | (with_reducible exact LeO.none _)
      | (with_reducible refine LeO.ite ?_ ?_)
      | (with_reducible refine LeO.bind ?_ (fun _ => ?_))
      | exact ih0 _ _ _ _ _
      | exact ih1 _ _ _ _ _
      | exact ih2 _ _ _ _ _
      | exact ih3 _ _ _ _
      | exact cadastreref08_In.mono _ _ _ _
      | exact linear_Find.mono _ _ _ _
      | exact LeO.none _
      | refine LeO.ite ?_ ?_
      | refine LeO.bind ?_ (fun _ => ?_)
    · intro y0 y1 y2 y3 y4
      unfold cadastrelaw18_LinearHolds.j2
      repeat' first
      | (with_reducible exact ih0 _ _ _ _ _)
      | (with_reducible exact ih1 _ _ _ _ _)
      | (with_reducible exact ih2 _ _ _ _ _)
      | (with_reducible exact ih3 _ _ _ _)
      | (with_reducible exact cadastreref08_In.mono _ _ _ _)
      | (with_reducible exact linear_Find.mono _ _ _ _)
      | (with_reducible exact LeO.refl _)
      | (with_reducible exact LeO.none _)
      | (with_reducible refine LeO.ite ?_ ?_)
      | (with_reducible refine LeO.bind ?_ (fun _ => ?_))
      | exact ih0 _ _ _ _ _
      | exact ih1 _ _ _ _ _
      | exact ih2 _ _ _ _ _
      | exact ih3 _ _ _ _
      | exact cadastreref08_In.mono _ _ _ _
      | exact linear_Find.mono _ _ _ _
      | exact LeO.none _
      | refine LeO.ite ?_ ?_
      | refine LeO.bind ?_ (fun _ => ?_)
    · intro y0 y1 y2 y3
      unfold cadastrelaw18_LinearHolds.j3
      repeat' first
      | (with_reducible exact ih0 _ _ _ _ _)
      | (with_reducible exact ih1 _ _ _ _ _)
      | (with_reducible exact ih2 _ _ _ _ _)
      | (with_reducible exact ih3 _ _ _ _)
      | (with_reducible exact cadastreref08_In.mono _ _ _ _)
      | (with_reducible exact linear_Find.mono _ _ _ _)
      | (with_reducible exact LeO.refl _)
      | (with_reducible exact LeO.none _)
      | (with_reducible refine LeO.ite ?_ ?_)
      | (with_reducible refine LeO.bind ?_ (fun _ => ?_))
      | exact ih0 _ _ _ _ _
      | exact ih1 _ _ _ _ _
      | exact ih2 _ _ _ _ _
      | exact ih3 _ _ _ _
      | exact cadastreref08_In.mono _ _ _ _
      | exact linear_Find.mono _ _ _ _
      | exact LeO.none _
      | refine LeO.ite ?_ ?_
      | refine LeO.bind ?_ (fun _ => ?_)
theorem cadastrelaw18_LinearHolds.mono : ∀ a0 a1 a2 k, LeO (cadastrelaw18_LinearHolds.f k a0 a1 a2) (cadastrelaw18_LinearHolds.f (k + 1) a0 a1 a2) := by
  intro a0 a1 a2 k
  obtain ⟨ih0, ih1, ih2, ih3⟩ := cadastrelaw18_LinearHolds.mono_l k
  unfold cadastrelaw18_LinearHolds.f
  repeat' first
      | (with_reducible exact ih0 _ _ _ _ _)
      | (with_reducible exact ih1 _ _ _ _ _)
      | (with_reducible exact ih2 _ _ _ _ _)
      | (with_reducible exact ih3 _ _ _ _)
      | (with_reducible exact cadastreref08_In.mono _ _ _ _)
      | (with_reducible exact linear_Find.mono _ _ _ _)
      | (with_reducible exact LeO.refl _)
      | (with_reducible exact LeO.none _)
      | (with_reducible refine LeO.ite ?_ ?_)
      | (with_reducible refine LeO.bind ?_ (fun _ => ?_))
      | exact ih0 _ _ _ _ _
      | exact ih1 _ _ _ _ _
      | exact ih2 _ _ _ _ _
      | exact ih3 _ _ _ _
      | exact cadastreref08_In.mono _ _ _ _
      | exact linear_Find.mono _ _ _ _
      | exact LeO.none _
      | refine LeO.ite ?_ ?_
      | refine LeO.bind ?_ (fun _ => ?_)
set_option maxHeartbeats 8000000 in
set_option maxRecDepth 100000 in
theorem cadastrelaw18_LinearHolds.calls (k : Nat) (A0 : Option Addr) (c0 : Nat) (l0 : List Int) (a1 : Int) (a2 : Int) (r : Bool) (w : World) (hr0 : Kd.C (Kd.int .u32) w A0 l0.length l0) (hc0 : l0.length ≤ c0) (h : cadastrelaw18_LinearHolds.f k l0 a1 a2 = some r) :
    Calls Try.prog 4 #[.slice A0 l0.length c0, .int .i64 a1, .int .i64 a2] w fun e w' => e = .returned (.bool r) ∧ Below w.heap.size w w' := by
  have hu33 := Try.underlying33
  have HR0 := Aside0.mk hr0
  have HC0 := Aside0.mk hc0
  clear hr0 hc0
  have HB := Aside0.mk (Below.refl w.heap.size w)
  have H : ((linear_Find.f k l0 a1 a2).bind fun bt144 => (if bt144.2 = 0 then (if a1 > 9 then (cadastrelaw18_LinearHolds.j0 k l0 a1 a2 bt144.1 true) else (cadastrelaw18_LinearHolds.j0 k l0 a1 a2 bt144.1 (decide ((l0.length : Int) > 6)))) else (cadastrelaw18_LinearHolds.j0 k l0 a1 a2 bt144.1 true))) = some r := h
  clear h
  replace H := Option.bind_eq_some_iff.mp H
  obtain ⟨⟨t144, t145⟩, A40, H⟩ := H
  replace H : (if t145 = 0 then (if a1 > 9 then (cadastrelaw18_LinearHolds.j0 k l0 a1 a2 t144 true) else (cadastrelaw18_LinearHolds.j0 k l0 a1 a2 t144 (decide ((l0.length : Int) > 6)))) else (cadastrelaw18_LinearHolds.j0 k l0 a1 a2 t144 true)) = some r := H
  have A4 := Aside0.mk A40
  clear A40
  have HC5 := Aside0.mk H
  clear H
  go_enter Try.func4, Try.ntmps4
  go_upto_region 2 with (first | ((with_reducible refine gate_callee (f := 10) rfl ?_); refine goesL_ (some 25) rfl rfl Try.func10 (by kernel_rfl) rfl #[.slice A0 l0.length c0, .int .i64 a1, .int .i64 a2] rfl (by (try simp only [List.map_toArray, List.map_cons, List.map_nil]); first | done | rfl | (simp only [List.length_drop, List.length_take]; rfl)) ?_; (with_reducible refine (linear_Find.calls k _ _ l0 a1 a2 t144 t145 _ ?side1 ?side2 A4.out).mono ?_); (case side1 => repeat (first | exact HR0.out | (with_reducible refine Kd.C_alloc ?_ _) | (with_reducible refine Kd.C_drewN ?_ _) | (with_reducible refine Kd.C_drew ?_))); (case side2 => exact HC0.out); rintro e w6 ⟨rfl, hb⟩; refine ⟨_, rfl, ?_⟩; have n0_ := Aside0.mk (below_step (by repeat (first | (with_reducible first | exact HB.out | apply below_alloc | apply pw_below_drewN | apply below_drew1) | exact HB.out)) hb); clear HB; have HB := n0_; clear n0_; (try clear hb); (try clear hb2); (try clear hk); (try clear hi)))
  (try simp only [Act.put, List.setIfInBounds_toArray, List.set_cons_zero, List.set_cons_succ])
  go_cut [38] (fun v38 wc => ∃ (kq : Nat) (x38_4 : Bool), v38 = .bool x38_4 ∧ Aside0 (cadastrelaw18_LinearHolds.j0 kq l0 a1 a2 t144 x38_4 = some r) ∧ Aside0 (kq ≤ k) ∧ Aside0 (Below w.heap.size w wc))
  case first =>
    have H := HC5.out
    clear HC5
    by_cases c7 : t145 = 0
    · rw [if_pos c7] at H
      have c7b0 : (t145 == 0) = true := beq_iff_eq.mpr c7
      have c7b1 : (t145 != 0) = false := bne_eq_false_iff_eq.mpr c7
      clear c7
      (first | rw [c7b0] | (simp only [i64_w, i32_w]; rw [c7b0]) | skip)
      by_cases c8 : a1 > 9
      · rw [if_pos c8] at H
        have c8b0 : decide (9 < a1) = true := decide_eq_true c8
        clear c8
        have H' := Aside0.mk H
        clear H
        go_wp2
        go_meet
        case rel => exact ⟨_, (true), (by first | rfl | (simp; done) | (simp [*]; done)), H', ⟨by first | omega | exact Nat.le_refl _⟩, ⟨by repeat (first | (with_reducible first | exact HB.out | apply below_alloc | apply pw_below_drewN | apply below_drew1) | exact HB.out)⟩⟩
      · rw [if_neg c8] at H
        have c8b0 : decide (9 < a1) = false := decide_eq_false c8
        clear c8
        have H' := Aside0.mk H
        clear H
        go_wp2
        go_meet
        case rel => exact ⟨_, (decide ((l0.length : Int) > 6)), (by first | rfl | (simp; done) | (simp [*]; done)), H', ⟨by first | omega | exact Nat.le_refl _⟩, ⟨by repeat (first | (with_reducible first | exact HB.out | apply below_alloc | apply pw_below_drewN | apply below_drew1) | exact HB.out)⟩⟩
    · rw [if_neg c7] at H
      have c7b0 : (t145 == 0) = false := beq_eq_false_iff_ne.mpr c7
      have c7b1 : (t145 != 0) = true := bne_iff_ne.mpr c7
      (first | rw [c7b0] | (simp only [i64_w, i32_w]; rw [c7b0]) | skip)
      have H' := Aside0.mk H
      clear H
      go_wp2
      go_meet
      case rel => exact ⟨_, (true), (by first | rfl | (simp; done) | (simp [*]; done)), H', ⟨by first | omega | exact Nat.le_refl _⟩, ⟨by repeat (first | (with_reducible first | exact HB.out | apply below_alloc | apply pw_below_drewN | apply below_drew1) | exact HB.out)⟩⟩
  case rest =>
    clear HC5
    try clear c1
    try clear p2
    try clear c4
    try clear c7
    try clear c7b0
    try clear c7b1
    try clear c8
    try clear c8b0
    obtain ⟨kq, x38_4, rfl, HA, HJ4, HB⟩ := hcut
    cases kq with
    | zero => exact absurd HA.out (by simp [cadastrelaw18_LinearHolds.j0])
    | succ kj4 =>
      have H := HA.out
      clear HA
      simp only [cadastrelaw18_LinearHolds.j0] at H
      by_cases c9 : x38_4 = true
      · subst c9
        have H1 : ((cadastrelaw18_live.f).bind fun t146 => (some t146)) = some r := by rw [if_pos rfl] at H; exact H
        clear H
        have H := H1
        clear H1
        replace H := Option.bind_eq_some_iff.mp H
        obtain ⟨t146, A100, H⟩ := H
        replace H : (some t146) = some r := H
        have A10 := Aside0.mk A100
        clear A100
        obtain rfl := Option.some.inj H
        go_wp2_with (first | ((with_reducible refine gate_callee (f := 7) rfl ?_); refine goesL_ (some 39) rfl rfl Try.func7 (by kernel_rfl) rfl #[] rfl (by (try simp only [List.map_toArray, List.map_cons, List.map_nil]); first | done | rfl | (simp only [List.length_drop, List.length_take]; rfl)) ?_; (with_reducible refine (cadastrelaw18_live.calls  t146 _ A10.out).mono ?_); rintro e w11 ⟨rfl, hb⟩; refine ⟨_, rfl, ?_⟩; have n0_ := Aside0.mk (below_step (by repeat (first | (with_reducible first | exact HB.out | apply below_alloc | apply pw_below_drewN | apply below_drew1) | exact HB.out)) hb); clear HB; have HB := n0_; clear n0_; (try clear hb); (try clear hb2); (try clear hk); (try clear hi)))
        go_ret
        exact ⟨by first | rfl | (simp [errW_none, errW_some] <;> rfl) | (simp [*, errW_none, errW_some] <;> rfl), by repeat (first | (with_reducible first | exact HB.out | apply below_alloc | apply pw_below_drewN | apply below_drew1) | exact HB.out)⟩
      · replace c9 := Bool.eq_false_iff.mpr c9
        subst c9
        have H1 : ((linear_Box.f (l0.length : Int) a1 a2 t144).bind fun bt147 => (if bt147.2.2 = 0 then ((cadastreref08_In.f kj4 l0 bt147.1 bt147.2.1).bind fun t155 => (cadastrelaw18_LinearHolds.j1 kj4 l0 a1 a2 t144 (!t155))) else (cadastrelaw18_LinearHolds.j1 kj4 l0 a1 a2 t144 true))) = some r := by rw [if_neg (show ¬ (false = true) by decide)] at H; exact H
        clear H
        have H := H1
        clear H1
        replace H := Option.bind_eq_some_iff.mp H
        obtain ⟨⟨t147, t150, t153⟩, A120, H⟩ := H
        replace H : (if t153 = 0 then ((cadastreref08_In.f kj4 l0 t147 t150).bind fun t155 => (cadastrelaw18_LinearHolds.j1 kj4 l0 a1 a2 t144 (!t155))) else (cadastrelaw18_LinearHolds.j1 kj4 l0 a1 a2 t144 true)) = some r := H
        have A12 := Aside0.mk A120
        clear A120
        have HC13 := Aside0.mk H
        clear H
        go_upto_region 5 with (first | ((with_reducible refine gate_callee (f := 11) rfl ?_); refine goesL_ (some 46) rfl rfl Try.func11 (by kernel_rfl) rfl #[.int .i64 (l0.length : Int), .int .i64 a1, .int .i64 a2, .int .i64 t144] rfl (by (try simp only [List.map_toArray, List.map_cons, List.map_nil]); first | done | rfl | (simp only [List.length_drop, List.length_take]; rfl)) ?_; (with_reducible refine (linear_Box.calls (l0.length : Int) a1 a2 t144 t147 t150 t153 _ A12.out).mono ?_); rintro e w14 ⟨v148, v151, rfl, ho0, ho1, hb⟩; refine ⟨_, rfl, ?_⟩; have n0_ := Aside0.mk (Kd.R_lower ho0 (below_size (by repeat (first | (with_reducible first | exact HB.out | apply below_alloc | apply pw_below_drewN | apply below_drew1) | exact HB.out)))); have n1_ := Aside0.mk (Kd.R_lower ho1 (below_size (by repeat (first | (with_reducible first | exact HB.out | apply below_alloc | apply pw_below_drewN | apply below_drew1) | exact HB.out)))); have n2_ := Aside0.mk (below_step (by repeat (first | (with_reducible first | exact HB.out | apply below_alloc | apply pw_below_drewN | apply below_drew1) | exact HB.out)) hb); clear HB; have HO149 := n0_; have HO152 := n1_; have HB := n2_; clear n0_ n1_ n2_; (try clear hb); (try clear hb2); (try clear hk); (try clear hi); (try clear ho0); (try clear ho1)) | ((with_reducible refine gate_dst (N := 9) rfl ?_); (try (refine gate_guard (by rfl) ?_; dsimp only)); refine box_event ?hg (N := 9) ?hd (cs := #[.slice none 0 0, .slice none 0 0]) (t := 33) ?hr ?_; (case hd => rfl); (case hg => rfl); (case hr => first | (go_simp; done) | (go_simp; rfl)); intro gb154 hg w15 hbox hb; have n0_ := Aside0.mk (Kd.R_below (by (with_reducible repeat (first | apply Kd.R_alloc | apply Kd.R_drewN | apply Kd.R_drew)); exact HO149.out) hb); have n1_ := Aside0.mk (Kd.R_below (by (with_reducible repeat (first | apply Kd.R_alloc | apply Kd.R_drewN | apply Kd.R_drew)); exact HO152.out) hb); have n2_ := Aside0.mk (below_step (by repeat (first | (with_reducible first | exact HB.out | apply below_alloc | apply pw_below_drewN | apply below_drew1) | exact HB.out)) hb); have n3_ := Aside0.mk (hbox); have n4_ := Aside0.mk ((by rw [hg]; exact (below_size (by repeat (first | (with_reducible first | exact HB.out | apply below_alloc | apply pw_below_drewN | apply below_drew1) | exact HB.out))) : w.heap.size ≤ gb154)); have n5_ := Aside0.mk ((by rw [hg]; exact (below_size (by repeat (first | (with_reducible first | exact HB.out | apply below_alloc | apply pw_below_drewN | apply below_drew1) | exact HB.out))) : w.heap.size ≤ gb154)); clear HO149; clear HO152; clear HB; have HO149 := n0_; have HO152 := n1_; have HB := n2_; have BK154 := n3_; have GW154 := n4_; have GE154 := n5_; clear n0_ n1_ n2_ n3_ n4_ n5_; clear hb hbox hg; obtain ⟨Ao16, co16, eo16⟩ := Kd.R_slice HO149.out; subst eo16; have hcz17_0 : w15.cell? ⟨gb154, 0, none⟩ = some (.slice none 0 0) := (blk_cell BK154.out 0).trans rfl; have hcz17_1 : w15.cell? ⟨gb154, 1, none⟩ = some (.slice none 0 0) := (blk_cell BK154.out 1).trans rfl; have hfz17_0 := blk_frozen BK154.out 0; have hfz17_1 := blk_frozen BK154.out 1; obtain ⟨Ao18, co18, eo18⟩ := Kd.R_slice HO152.out; subst eo18))
        (try simp only [Act.put, List.setIfInBounds_toArray, List.set_cons_zero, List.set_cons_succ])
        go_cut [56] (fun v56 wc => ∃ (kq : Nat) (x56_12 : Bool), v56 = .bool x56_12 ∧ Aside0 (cadastrelaw18_LinearHolds.j1 kq l0 a1 a2 t144 x56_12 = some r) ∧ Aside0 (kq ≤ kj4) ∧ Aside0 (Kd.R (Kd.int .u32) 38 wc w.heap.size (fun k_ => some k_ ≠ ((.slice Ao18 t150.length co18) : Value).ownBlock) (.slice Ao16 t147.length co16) t147) ∧ Aside0 (Kd.R (Kd.int .u32) 38 wc w.heap.size (fun k_ => some k_ ≠ ((.slice Ao16 t147.length co16) : Value).ownBlock) (.slice Ao18 t150.length co18) t150) ∧ Aside0 (wc.heap[gb154]? = some (.cells #[(.slice Ao16 t147.length co16), (.slice Ao18 t150.length co18)] 33 (0, 0))) ∧ Aside0 (Below w.heap.size w wc))
        case first =>
          have H := HC13.out
          clear HC13
          by_cases c19 : t153 = 0
          · rw [if_pos c19] at H
            have c19b0 : (t153 == 0) = true := beq_iff_eq.mpr c19
            have c19b1 : (t153 != 0) = false := bne_eq_false_iff_eq.mpr c19
            clear c19
            (first | rw [c19b0] | (simp only [i64_w, i32_w]; rw [c19b0]) | skip)
            replace H := Option.bind_eq_some_iff.mp H
            obtain ⟨t155, A200, H⟩ := H
            replace H : (cadastrelaw18_LinearHolds.j1 kj4 l0 a1 a2 t144 (!t155)) = some r := H
            have A20 := Aside0.mk A200
            clear A200
            have H' := Aside0.mk H
            clear H
            have hcz21_0 : w15.cell? ⟨gb154, 0, none⟩ = some (.slice none 0 0) := (blk_cell BK154.out 0).trans rfl
            have hcz21_1 : w15.cell? ⟨gb154, 1, none⟩ = some (.slice none 0 0) := (blk_cell BK154.out 1).trans rfl
            have hfz21_0 := blk_frozen BK154.out 0
            have hfz21_1 := blk_frozen BK154.out 1
            go_wp2_with (first | (go_at_call 12; (with_reducible refine (cadastreref08_In.calls kj4 _ _ l0 _ _ t147 _ _ t150 t155 _ ?side1 ?side2 ?side3 ?side4 ?side5 ?side6 A20.out).mono ?_); (case side1 => exact Kd.C_below HR0.out (by repeat (first | (with_reducible first | exact HB.out | apply below_alloc | apply pw_below_drewN | apply below_drew1 | refine below_set ?_ GE154.out) | exact HB.out))); (case side2 => exact HC0.out); (case side3 => refine (Kd.R_reads' (e := 38) (base := w.heap.size) (ok := fun k_ => some k_ ≠ (.slice Ao18 t150.length co18 : Value).ownBlock) (n := t147.length) (c := co16) ?_).2.2; exact (by (with_reducible repeat (first | apply Kd.R_alloc | apply Kd.R_drewN | apply Kd.R_drew)); exact (Kd.R_mono (Kd.R_far (p := ⟨gb154, 1, none⟩) (Kd.R_far (p := ⟨gb154, 0, none⟩) (Kd.R_types HO149.out BK154.out (by decide)) (fun _ hk => hk.2) (.slice Ao16 t147.length co16)) (fun _ hk => hk.2) (.slice Ao18 t150.length co18)) (fun _ h_ => h_.1)))); (case side4 => exact (Kd.R_reads' HO149.out).2.1); (case side5 => refine (Kd.R_reads' (e := 38) (base := w.heap.size) (ok := fun k_ => some k_ ≠ (.slice Ao16 t147.length co16 : Value).ownBlock) (n := t150.length) (c := co18) ?_).2.2; exact (by (with_reducible repeat (first | apply Kd.R_alloc | apply Kd.R_drewN | apply Kd.R_drew)); exact (Kd.R_mono (Kd.R_far (p := ⟨gb154, 1, none⟩) (Kd.R_far (p := ⟨gb154, 0, none⟩) (Kd.R_types HO152.out BK154.out (by decide)) (fun _ hk => hk.2) (.slice Ao16 t147.length co16)) (fun _ hk => hk.2) (.slice Ao18 t150.length co18)) (fun _ h_ => h_.1)))); (case side6 => exact (Kd.R_reads' HO152.out).2.1); rintro e w22 ⟨rfl, hb⟩; have n0_ := Aside0.mk (Kd.R_below (by (with_reducible repeat (first | apply Kd.R_alloc | apply Kd.R_drewN | apply Kd.R_drew)); exact (Kd.R_mono (Kd.R_far (p := ⟨gb154, 1, none⟩) (Kd.R_far (p := ⟨gb154, 0, none⟩) (Kd.R_types HO149.out BK154.out (by decide)) (fun _ hk => hk.2) (.slice Ao16 t147.length co16)) (fun _ hk => hk.2) (.slice Ao18 t150.length co18)) (fun _ h_ => h_.1))) hb); have n1_ := Aside0.mk (Kd.R_below (by (with_reducible repeat (first | apply Kd.R_alloc | apply Kd.R_drewN | apply Kd.R_drew)); exact (Kd.R_mono (Kd.R_far (p := ⟨gb154, 1, none⟩) (Kd.R_far (p := ⟨gb154, 0, none⟩) (Kd.R_types HO152.out BK154.out (by decide)) (fun _ hk => hk.2) (.slice Ao16 t147.length co16)) (fun _ hk => hk.2) (.slice Ao18 t150.length co18)) (fun _ h_ => h_.1))) hb); have n2_ := Aside0.mk (blk_below (g := gb154) (o := .cells #[.slice Ao16 t147.length co16, .slice Ao18 t150.length co18] 33 (0, 0)) (by (with_reducible repeat (first | refine blk_drewN ?_ _ | refine blk_drew ?_ | refine blk_alloc ?_ _)); refine blk_put (cs := #[.slice Ao16 t147.length co16, .slice none 0 0]) ?_ 1 _ rfl; (with_reducible repeat (first | refine blk_drewN ?_ _ | refine blk_drew ?_ | refine blk_alloc ?_ _)); refine blk_put (cs := #[.slice none 0 0, .slice none 0 0]) ?_ 0 _ rfl; (with_reducible repeat (first | refine blk_drewN ?_ _ | refine blk_drew ?_ | refine blk_alloc ?_ _)); exact BK154.out) hb); have n3_ := Aside0.mk (below_step (by repeat (first | (with_reducible first | exact HB.out | apply below_alloc | apply pw_below_drewN | apply below_drew1 | refine below_set ?_ GE154.out) | exact HB.out)) hb); clear HO149; clear HO152; clear BK154; clear HB; have HO149 := n0_; have HO152 := n1_; have BK154 := n2_; have HB := n3_; clear n0_ n1_ n2_ n3_; (try clear hb); (try clear hb2); (try clear hk); (try clear hi)))
            go_meet
            case rel => exact ⟨_, (!t155), (by first | rfl | (simp; done) | (simp [*]; done)), H', ⟨by have := HJ4.out; first | omega | exact Nat.le_refl _⟩, ⟨by (with_reducible repeat (first | apply Kd.R_alloc | apply Kd.R_drewN | apply Kd.R_drew)); exact HO149.out⟩, ⟨by (with_reducible repeat (first | apply Kd.R_alloc | apply Kd.R_drewN | apply Kd.R_drew)); exact HO152.out⟩, ⟨by (with_reducible repeat (first | refine blk_drewN ?_ _ | refine blk_drew ?_ | refine blk_alloc ?_ _)); exact BK154.out⟩, ⟨by repeat (first | (with_reducible first | exact HB.out | apply below_alloc | apply pw_below_drewN | apply below_drew1 | refine below_set ?_ GE154.out) | exact HB.out)⟩⟩
          · rw [if_neg c19] at H
            have c19b0 : (t153 == 0) = false := beq_eq_false_iff_ne.mpr c19
            have c19b1 : (t153 != 0) = true := bne_iff_ne.mpr c19
            (first | rw [c19b0] | (simp only [i64_w, i32_w]; rw [c19b0]) | skip)
            have H' := Aside0.mk H
            clear H
            go_wp2
            go_meet
            case rel => exact ⟨_, (true), (by first | rfl | (simp; done) | (simp [*]; done)), H', ⟨by have := HJ4.out; first | omega | exact Nat.le_refl _⟩, ⟨by (with_reducible repeat (first | apply Kd.R_alloc | apply Kd.R_drewN | apply Kd.R_drew)); exact Kd.R_mono (Kd.R_far (p := ⟨gb154, 1, none⟩) (Kd.R_far (p := ⟨gb154, 0, none⟩) (Kd.R_types HO149.out BK154.out (by decide)) (fun _ hk => hk.2) (.slice Ao16 t147.length co16)) (fun _ hk => hk.2) (.slice Ao18 t150.length co18)) (fun _ hk => hk.1)⟩, ⟨by (with_reducible repeat (first | apply Kd.R_alloc | apply Kd.R_drewN | apply Kd.R_drew)); exact Kd.R_mono (Kd.R_far (p := ⟨gb154, 1, none⟩) (Kd.R_far (p := ⟨gb154, 0, none⟩) (Kd.R_types HO152.out BK154.out (by decide)) (fun _ hk => hk.2) (.slice Ao16 t147.length co16)) (fun _ hk => hk.2) (.slice Ao18 t150.length co18)) (fun _ hk => hk.1)⟩, ⟨by (with_reducible repeat (first | refine blk_drewN ?_ _ | refine blk_drew ?_ | refine blk_alloc ?_ _)); refine blk_put (cs := #[.slice Ao16 t147.length co16, .slice none 0 0]) ?_ 1 _ rfl; (with_reducible repeat (first | refine blk_drewN ?_ _ | refine blk_drew ?_ | refine blk_alloc ?_ _)); refine blk_put (cs := #[.slice none 0 0, .slice none 0 0]) ?_ 0 _ rfl; (with_reducible repeat (first | refine blk_drewN ?_ _ | refine blk_drew ?_ | refine blk_alloc ?_ _)); exact BK154.out⟩, ⟨by repeat (first | (with_reducible first | exact HB.out | apply below_alloc | apply pw_below_drewN | apply below_drew1 | refine below_set ?_ GE154.out) | exact HB.out)⟩⟩
        case rest =>
          clear HC13
          try clear c1
          try clear p2
          try clear c4
          try clear c7
          try clear c7b0
          try clear c7b1
          try clear c8
          try clear c8b0
          try clear c9
          try clear c10
          try clear c11
          try clear c19
          try clear c19b0
          try clear c19b1
          try clear hcz17_0
          try clear hcz17_1
          try clear hcz21_0
          try clear hcz21_1
          try clear hfz17_0
          try clear hfz17_1
          try clear hfz21_0
          try clear hfz21_1
          try clear p2
          obtain ⟨kq, x56_12, rfl, HA, HJ12, HO_155000, HO_155001, BK154, HB⟩ := hcut
          cases kq with
          | zero => exact absurd HA.out (by simp [cadastrelaw18_LinearHolds.j1])
          | succ kj12 =>
            have H := HA.out
            clear HA
            simp only [cadastrelaw18_LinearHolds.j1] at H
            by_cases c23 : x56_12 = true
            · subst c23
              have H1 : (some false) = some r := by rw [if_pos rfl] at H; exact H
              clear H
              have H := H1
              clear H1
              obtain rfl := Option.some.inj H
              go_wp2
              go_ret
              exact ⟨by first | rfl | (simp [errW_none, errW_some] <;> rfl) | (simp [*, errW_none, errW_some] <;> rfl), by repeat (first | (with_reducible first | exact HB.out | apply below_alloc | apply pw_below_drewN | apply below_drew1 | refine below_set ?_ GE154.out) | exact HB.out)⟩
            · replace c23 := Bool.eq_false_iff.mpr c23
              subst c23
              have H1 : ((linear_Box.f (l0.length : Int) a1 a2 (wrap64 (t144 + 1))).bind fun bt156 => ((linear_Box.f (l0.length : Int) a1 a2 (wrap64 (t144 - 1))).bind fun bt164 => (if bt156.2.2 = 0 then ((cadastreref08_In.f kj12 l0 bt156.1 bt156.2.1).bind fun t172 => (if t172 = true then (cadastrelaw18_LinearHolds.j2 kj12 l0 a1 a2 t144 true) else (if bt164.2.2 = 0 then ((cadastreref08_In.f kj12 l0 bt164.1 bt164.2.1).bind fun t173 => (cadastrelaw18_LinearHolds.j2 kj12 l0 a1 a2 t144 t173)) else (cadastrelaw18_LinearHolds.j2 kj12 l0 a1 a2 t144 false)))) else (if bt164.2.2 = 0 then ((cadastreref08_In.f kj12 l0 bt164.1 bt164.2.1).bind fun t174 => (cadastrelaw18_LinearHolds.j2 kj12 l0 a1 a2 t144 t174)) else (cadastrelaw18_LinearHolds.j2 kj12 l0 a1 a2 t144 false))))) = some r := by rw [if_neg (show ¬ (false = true) by decide)] at H; exact H
              clear H
              have H := H1
              clear H1
              replace H := Option.bind_eq_some_iff.mp H
              obtain ⟨⟨t156, t159, t162⟩, A240, H⟩ := H
              replace H : ((linear_Box.f (l0.length : Int) a1 a2 (wrap64 (t144 - 1))).bind fun bt164 => (if t162 = 0 then ((cadastreref08_In.f kj12 l0 t156 t159).bind fun t172 => (if t172 = true then (cadastrelaw18_LinearHolds.j2 kj12 l0 a1 a2 t144 true) else (if bt164.2.2 = 0 then ((cadastreref08_In.f kj12 l0 bt164.1 bt164.2.1).bind fun t173 => (cadastrelaw18_LinearHolds.j2 kj12 l0 a1 a2 t144 t173)) else (cadastrelaw18_LinearHolds.j2 kj12 l0 a1 a2 t144 false)))) else (if bt164.2.2 = 0 then ((cadastreref08_In.f kj12 l0 bt164.1 bt164.2.1).bind fun t174 => (cadastrelaw18_LinearHolds.j2 kj12 l0 a1 a2 t144 t174)) else (cadastrelaw18_LinearHolds.j2 kj12 l0 a1 a2 t144 false)))) = some r := H
              have A24 := Aside0.mk A240
              clear A240
              replace H := Option.bind_eq_some_iff.mp H
              obtain ⟨⟨t164, t167, t170⟩, A250, H⟩ := H
              replace H : (if t162 = 0 then ((cadastreref08_In.f kj12 l0 t156 t159).bind fun t172 => (if t172 = true then (cadastrelaw18_LinearHolds.j2 kj12 l0 a1 a2 t144 true) else (if t170 = 0 then ((cadastreref08_In.f kj12 l0 t164 t167).bind fun t173 => (cadastrelaw18_LinearHolds.j2 kj12 l0 a1 a2 t144 t173)) else (cadastrelaw18_LinearHolds.j2 kj12 l0 a1 a2 t144 false)))) else (if t170 = 0 then ((cadastreref08_In.f kj12 l0 t164 t167).bind fun t174 => (cadastrelaw18_LinearHolds.j2 kj12 l0 a1 a2 t144 t174)) else (cadastrelaw18_LinearHolds.j2 kj12 l0 a1 a2 t144 false))) = some r := H
              have A25 := Aside0.mk A250
              clear A250
              have HC26 := Aside0.mk H
              clear H
              go_upto_region 9 with (first | ((with_reducible refine gate_callee (f := 11) rfl ?_); refine goesL_ (some 64) rfl rfl Try.func11 (by kernel_rfl) rfl #[.int .i64 (l0.length : Int), .int .i64 a1, .int .i64 a2, .int .i64 (wrap64 (t144 + 1))] rfl (by (try simp only [List.map_toArray, List.map_cons, List.map_nil]); first | done | rfl | (simp only [List.length_drop, List.length_take]; rfl)) ?_; (with_reducible refine (linear_Box.calls (l0.length : Int) a1 a2 (wrap64 (t144 + 1)) t156 t159 t162 _ A24.out).mono ?_); rintro e w27 ⟨v157, v160, rfl, ho0, ho1, hb⟩; refine ⟨_, rfl, ?_⟩; have n0_ := Aside0.mk (Kd.R_mono (Kd.R_told (Kd.R_told (Kd.R_old (by (with_reducible repeat (first | apply Kd.R_alloc | apply Kd.R_drewN | apply Kd.R_drew)); exact HO_155000.out) hb) (Kd.R_base ho0)) (Kd.R_base ho1)) (fun _ h_ => h_.1)); have n1_ := Aside0.mk (Kd.R_mono (Kd.R_told (Kd.R_told (Kd.R_old (by (with_reducible repeat (first | apply Kd.R_alloc | apply Kd.R_drewN | apply Kd.R_drew)); exact HO_155001.out) hb) (Kd.R_base ho0)) (Kd.R_base ho1)) (fun _ h_ => h_.1)); have n2_ := Aside0.mk (Kd.R_lower (Kd.R_new' (Kd.R_new' ho0 (Kd.R_lt (by (with_reducible repeat (first | apply Kd.R_alloc | apply Kd.R_drewN | apply Kd.R_drew)); exact HO_155000.out))) (Kd.R_lt (by (with_reducible repeat (first | apply Kd.R_alloc | apply Kd.R_drewN | apply Kd.R_drew)); exact HO_155001.out))) (below_size (by repeat (first | (with_reducible first | exact HB.out | apply below_alloc | apply pw_below_drewN | apply below_drew1 | refine below_set ?_ GE154.out) | exact HB.out)))); have n3_ := Aside0.mk (Kd.R_lower (Kd.R_new' (Kd.R_new' ho1 (Kd.R_lt (by (with_reducible repeat (first | apply Kd.R_alloc | apply Kd.R_drewN | apply Kd.R_drew)); exact HO_155000.out))) (Kd.R_lt (by (with_reducible repeat (first | apply Kd.R_alloc | apply Kd.R_drewN | apply Kd.R_drew)); exact HO_155001.out))) (below_size (by repeat (first | (with_reducible first | exact HB.out | apply below_alloc | apply pw_below_drewN | apply below_drew1 | refine below_set ?_ GE154.out) | exact HB.out)))); have n4_ := Aside0.mk (blk_below (g := gb154) (o := .cells #[.slice Ao16 t147.length co16, .slice Ao18 t150.length co18] 33 (0, 0)) (by (with_reducible repeat (first | refine blk_drewN ?_ _ | refine blk_drew ?_ | refine blk_alloc ?_ _)); exact BK154.out) hb); have n5_ := Aside0.mk (below_step (by repeat (first | (with_reducible first | exact HB.out | apply below_alloc | apply pw_below_drewN | apply below_drew1 | refine below_set ?_ GE154.out) | exact HB.out)) hb); clear HO_155000; clear HO_155001; clear BK154; clear HB; have HO_155000 := n0_; have HO_155001 := n1_; have HO158 := n2_; have HO161 := n3_; have BK154 := n4_; have HB := n5_; clear n0_ n1_ n2_ n3_ n4_ n5_; (try clear hb); (try clear hb2); (try clear hk); (try clear hi); (try clear ho0); (try clear ho1)) | ((with_reducible refine gate_dst (N := 11) rfl ?_); (try (refine gate_guard (by rfl) ?_; dsimp only)); refine box_event ?hg (N := 11) ?hd (cs := #[.slice none 0 0, .slice none 0 0]) (t := 33) ?hr ?_; (case hd => rfl); (case hg => rfl); (case hr => first | (go_simp; done) | (go_simp; rfl)); intro gb163 hg w28 hbox hb; have n0_ := Aside0.mk (Kd.R_below (by (with_reducible repeat (first | apply Kd.R_alloc | apply Kd.R_drewN | apply Kd.R_drew)); exact HO_155000.out) hb); have n1_ := Aside0.mk (Kd.R_below (by (with_reducible repeat (first | apply Kd.R_alloc | apply Kd.R_drewN | apply Kd.R_drew)); exact HO_155001.out) hb); have n2_ := Aside0.mk (Kd.R_below (by (with_reducible repeat (first | apply Kd.R_alloc | apply Kd.R_drewN | apply Kd.R_drew)); exact HO158.out) hb); have n3_ := Aside0.mk (Kd.R_below (by (with_reducible repeat (first | apply Kd.R_alloc | apply Kd.R_drewN | apply Kd.R_drew)); exact HO161.out) hb); have n4_ := Aside0.mk (blk_below (g := gb154) (o := .cells #[.slice Ao16 t147.length co16, .slice Ao18 t150.length co18] 33 (0, 0)) (by (with_reducible repeat (first | refine blk_drewN ?_ _ | refine blk_drew ?_ | refine blk_alloc ?_ _)); exact BK154.out) hb); have n5_ := Aside0.mk (below_step (by repeat (first | (with_reducible first | exact HB.out | apply below_alloc | apply pw_below_drewN | apply below_drew1 | refine below_set ?_ GE154.out) | exact HB.out)) hb); have n6_ := Aside0.mk (hbox); have n7_ := Aside0.mk ((by rw [hg]; exact (below_size (by repeat (first | (with_reducible first | exact HB.out | apply below_alloc | apply pw_below_drewN | apply below_drew1 | refine below_set ?_ GE154.out) | exact HB.out))) : w.heap.size ≤ gb163)); have n8_ := Aside0.mk ((by rw [hg]; exact (below_size (by repeat (first | (with_reducible first | exact HB.out | apply below_alloc | apply pw_below_drewN | apply below_drew1 | refine below_set ?_ GE154.out) | exact HB.out))) : w.heap.size ≤ gb163)); have n9_ := Aside0.mk ((by rw [hg]; exact Nat.ne_of_lt (blk_lt (g := gb154) (o := .cells #[.slice Ao16 t147.length co16, .slice Ao18 t150.length co18] 33 (0, 0)) (by (with_reducible repeat (first | refine blk_drewN ?_ _ | refine blk_drew ?_ | refine blk_alloc ?_ _)); exact BK154.out)) : gb154 ≠ gb163)); have n10_ := Aside0.mk ((by rw [hg]; exact Nat.ne_of_gt (blk_lt (g := gb154) (o := .cells #[.slice Ao16 t147.length co16, .slice Ao18 t150.length co18] 33 (0, 0)) (by (with_reducible repeat (first | refine blk_drewN ?_ _ | refine blk_drew ?_ | refine blk_alloc ?_ _)); exact BK154.out)) : gb163 ≠ gb154)); clear HO_155000; clear HO_155001; clear HO158; clear HO161; clear BK154; clear HB; have HO_155000 := n0_; have HO_155001 := n1_; have HO158 := n2_; have HO161 := n3_; have BK154 := n4_; have HB := n5_; have BK163 := n6_; have GW163 := n7_; have GE163 := n8_; have NB154_163 := n9_; have NB163_154 := n10_; clear n0_ n1_ n2_ n3_ n4_ n5_ n6_ n7_ n8_ n9_ n10_; clear hb hbox hg; obtain ⟨Ao29, co29, eo29⟩ := Kd.R_slice HO158.out; subst eo29; have hnb30 := NB163_154.out; have hnc30 := NB154_163.out; have hcz31_0 : w28.cell? ⟨gb163, 0, none⟩ = some (.slice none 0 0) := (blk_cell BK163.out 0).trans rfl; have hcz31_1 : w28.cell? ⟨gb163, 1, none⟩ = some (.slice none 0 0) := (blk_cell BK163.out 1).trans rfl; have hfz31_0 := blk_frozen BK163.out 0; have hfz31_1 := blk_frozen BK163.out 1; obtain ⟨Ao32, co32, eo32⟩ := Kd.R_slice HO161.out; subst eo32) | ((with_reducible refine gate_callee (f := 11) rfl ?_); refine goesL_ (some 74) rfl rfl Try.func11 (by kernel_rfl) rfl #[.int .i64 (l0.length : Int), .int .i64 a1, .int .i64 a2, .int .i64 (wrap64 (t144 - 1))] rfl (by (try simp only [List.map_toArray, List.map_cons, List.map_nil]); first | done | rfl | (simp only [List.length_drop, List.length_take]; rfl)) ?_; (with_reducible refine (linear_Box.calls (l0.length : Int) a1 a2 (wrap64 (t144 - 1)) t164 t167 t170 _ A25.out).mono ?_); rintro e w33 ⟨v165, v168, rfl, ho0, ho1, hb⟩; refine ⟨_, rfl, ?_⟩; have n0_ := Aside0.mk (Kd.R_mono (Kd.R_told (Kd.R_told (Kd.R_old (by (with_reducible repeat (first | apply Kd.R_alloc | apply Kd.R_drewN | apply Kd.R_drew)); exact (Kd.R_mono (Kd.R_far (p := ⟨gb163, 1, none⟩) (Kd.R_far (p := ⟨gb163, 0, none⟩) (Kd.R_types HO_155000.out BK163.out (by decide)) (fun _ hk => hk.2) (.slice Ao29 t156.length co29)) (fun _ hk => hk.2) (.slice Ao32 t159.length co32)) (fun _ h_ => h_.1))) hb) (Kd.R_base ho0)) (Kd.R_base ho1)) (fun _ h_ => h_.1)); have n1_ := Aside0.mk (Kd.R_mono (Kd.R_told (Kd.R_told (Kd.R_old (by (with_reducible repeat (first | apply Kd.R_alloc | apply Kd.R_drewN | apply Kd.R_drew)); exact (Kd.R_mono (Kd.R_far (p := ⟨gb163, 1, none⟩) (Kd.R_far (p := ⟨gb163, 0, none⟩) (Kd.R_types HO_155001.out BK163.out (by decide)) (fun _ hk => hk.2) (.slice Ao29 t156.length co29)) (fun _ hk => hk.2) (.slice Ao32 t159.length co32)) (fun _ h_ => h_.1))) hb) (Kd.R_base ho0)) (Kd.R_base ho1)) (fun _ h_ => h_.1)); have n2_ := Aside0.mk (Kd.R_mono (Kd.R_told (Kd.R_told (Kd.R_old (by (with_reducible repeat (first | apply Kd.R_alloc | apply Kd.R_drewN | apply Kd.R_drew)); exact (Kd.R_mono (Kd.R_far (p := ⟨gb163, 1, none⟩) (Kd.R_far (p := ⟨gb163, 0, none⟩) (Kd.R_types HO158.out BK163.out (by decide)) (fun _ hk => hk.2) (.slice Ao29 t156.length co29)) (fun _ hk => hk.2) (.slice Ao32 t159.length co32)) (fun _ h_ => h_.1))) hb) (Kd.R_base ho0)) (Kd.R_base ho1)) (fun _ h_ => h_.1)); have n3_ := Aside0.mk (Kd.R_mono (Kd.R_told (Kd.R_told (Kd.R_old (by (with_reducible repeat (first | apply Kd.R_alloc | apply Kd.R_drewN | apply Kd.R_drew)); exact (Kd.R_mono (Kd.R_far (p := ⟨gb163, 1, none⟩) (Kd.R_far (p := ⟨gb163, 0, none⟩) (Kd.R_types HO161.out BK163.out (by decide)) (fun _ hk => hk.2) (.slice Ao29 t156.length co29)) (fun _ hk => hk.2) (.slice Ao32 t159.length co32)) (fun _ h_ => h_.1))) hb) (Kd.R_base ho0)) (Kd.R_base ho1)) (fun _ h_ => h_.1)); have n4_ := Aside0.mk (Kd.R_lower (Kd.R_new' (Kd.R_new' (Kd.R_new' (Kd.R_new' ho0 (Kd.R_lt (by (with_reducible repeat (first | apply Kd.R_alloc | apply Kd.R_drewN | apply Kd.R_drew)); exact (Kd.R_mono (Kd.R_far (p := ⟨gb163, 1, none⟩) (Kd.R_far (p := ⟨gb163, 0, none⟩) (Kd.R_types HO_155000.out BK163.out (by decide)) (fun _ hk => hk.2) (.slice Ao29 t156.length co29)) (fun _ hk => hk.2) (.slice Ao32 t159.length co32)) (fun _ h_ => h_.1))))) (Kd.R_lt (by (with_reducible repeat (first | apply Kd.R_alloc | apply Kd.R_drewN | apply Kd.R_drew)); exact (Kd.R_mono (Kd.R_far (p := ⟨gb163, 1, none⟩) (Kd.R_far (p := ⟨gb163, 0, none⟩) (Kd.R_types HO_155001.out BK163.out (by decide)) (fun _ hk => hk.2) (.slice Ao29 t156.length co29)) (fun _ hk => hk.2) (.slice Ao32 t159.length co32)) (fun _ h_ => h_.1))))) (Kd.R_lt (by (with_reducible repeat (first | apply Kd.R_alloc | apply Kd.R_drewN | apply Kd.R_drew)); exact (Kd.R_mono (Kd.R_far (p := ⟨gb163, 1, none⟩) (Kd.R_far (p := ⟨gb163, 0, none⟩) (Kd.R_types HO158.out BK163.out (by decide)) (fun _ hk => hk.2) (.slice Ao29 t156.length co29)) (fun _ hk => hk.2) (.slice Ao32 t159.length co32)) (fun _ h_ => h_.1))))) (Kd.R_lt (by (with_reducible repeat (first | apply Kd.R_alloc | apply Kd.R_drewN | apply Kd.R_drew)); exact (Kd.R_mono (Kd.R_far (p := ⟨gb163, 1, none⟩) (Kd.R_far (p := ⟨gb163, 0, none⟩) (Kd.R_types HO161.out BK163.out (by decide)) (fun _ hk => hk.2) (.slice Ao29 t156.length co29)) (fun _ hk => hk.2) (.slice Ao32 t159.length co32)) (fun _ h_ => h_.1))))) (below_size (by repeat (first | (with_reducible first | exact HB.out | apply below_alloc | apply pw_below_drewN | apply below_drew1 | refine below_set ?_ GE154.out | refine below_set ?_ GE163.out) | exact HB.out)))); have n5_ := Aside0.mk (Kd.R_lower (Kd.R_new' (Kd.R_new' (Kd.R_new' (Kd.R_new' ho1 (Kd.R_lt (by (with_reducible repeat (first | apply Kd.R_alloc | apply Kd.R_drewN | apply Kd.R_drew)); exact (Kd.R_mono (Kd.R_far (p := ⟨gb163, 1, none⟩) (Kd.R_far (p := ⟨gb163, 0, none⟩) (Kd.R_types HO_155000.out BK163.out (by decide)) (fun _ hk => hk.2) (.slice Ao29 t156.length co29)) (fun _ hk => hk.2) (.slice Ao32 t159.length co32)) (fun _ h_ => h_.1))))) (Kd.R_lt (by (with_reducible repeat (first | apply Kd.R_alloc | apply Kd.R_drewN | apply Kd.R_drew)); exact (Kd.R_mono (Kd.R_far (p := ⟨gb163, 1, none⟩) (Kd.R_far (p := ⟨gb163, 0, none⟩) (Kd.R_types HO_155001.out BK163.out (by decide)) (fun _ hk => hk.2) (.slice Ao29 t156.length co29)) (fun _ hk => hk.2) (.slice Ao32 t159.length co32)) (fun _ h_ => h_.1))))) (Kd.R_lt (by (with_reducible repeat (first | apply Kd.R_alloc | apply Kd.R_drewN | apply Kd.R_drew)); exact (Kd.R_mono (Kd.R_far (p := ⟨gb163, 1, none⟩) (Kd.R_far (p := ⟨gb163, 0, none⟩) (Kd.R_types HO158.out BK163.out (by decide)) (fun _ hk => hk.2) (.slice Ao29 t156.length co29)) (fun _ hk => hk.2) (.slice Ao32 t159.length co32)) (fun _ h_ => h_.1))))) (Kd.R_lt (by (with_reducible repeat (first | apply Kd.R_alloc | apply Kd.R_drewN | apply Kd.R_drew)); exact (Kd.R_mono (Kd.R_far (p := ⟨gb163, 1, none⟩) (Kd.R_far (p := ⟨gb163, 0, none⟩) (Kd.R_types HO161.out BK163.out (by decide)) (fun _ hk => hk.2) (.slice Ao29 t156.length co29)) (fun _ hk => hk.2) (.slice Ao32 t159.length co32)) (fun _ h_ => h_.1))))) (below_size (by repeat (first | (with_reducible first | exact HB.out | apply below_alloc | apply pw_below_drewN | apply below_drew1 | refine below_set ?_ GE154.out | refine below_set ?_ GE163.out) | exact HB.out)))); have n6_ := Aside0.mk (blk_below (g := gb154) (o := .cells #[.slice Ao16 t147.length co16, .slice Ao18 t150.length co18] 33 (0, 0)) (by (with_reducible repeat (first | refine blk_drewN ?_ _ | refine blk_drew ?_ | refine blk_alloc ?_ _)); refine blk_far ?_ NB154_163.out _; (with_reducible repeat (first | refine blk_drewN ?_ _ | refine blk_drew ?_ | refine blk_alloc ?_ _)); refine blk_far ?_ NB154_163.out _; (with_reducible repeat (first | refine blk_drewN ?_ _ | refine blk_drew ?_ | refine blk_alloc ?_ _)); exact BK154.out) hb); have n7_ := Aside0.mk (blk_below (g := gb163) (o := .cells #[.slice Ao29 t156.length co29, .slice Ao32 t159.length co32] 33 (0, 0)) (by (with_reducible repeat (first | refine blk_drewN ?_ _ | refine blk_drew ?_ | refine blk_alloc ?_ _)); refine blk_put (cs := #[.slice Ao29 t156.length co29, .slice none 0 0]) ?_ 1 _ rfl; (with_reducible repeat (first | refine blk_drewN ?_ _ | refine blk_drew ?_ | refine blk_alloc ?_ _)); refine blk_put (cs := #[.slice none 0 0, .slice none 0 0]) ?_ 0 _ rfl; (with_reducible repeat (first | refine blk_drewN ?_ _ | refine blk_drew ?_ | refine blk_alloc ?_ _)); exact BK163.out) hb); have n8_ := Aside0.mk (below_step (by repeat (first | (with_reducible first | exact HB.out | apply below_alloc | apply pw_below_drewN | apply below_drew1 | refine below_set ?_ GE154.out | refine below_set ?_ GE163.out) | exact HB.out)) hb); clear HO_155000; clear HO_155001; clear HO158; clear HO161; clear BK154; clear BK163; clear HB; have HO_155000 := n0_; have HO_155001 := n1_; have HO158 := n2_; have HO161 := n3_; have HO166 := n4_; have HO169 := n5_; have BK154 := n6_; have BK163 := n7_; have HB := n8_; clear n0_ n1_ n2_ n3_ n4_ n5_ n6_ n7_ n8_; (try clear hb); (try clear hb2); (try clear hk); (try clear hi); (try clear ho0); (try clear ho1)) | ((with_reducible refine gate_dst (N := 13) rfl ?_); (try (refine gate_guard (by rfl) ?_; dsimp only)); refine box_event ?hg (N := 13) ?hd (cs := #[.slice none 0 0, .slice none 0 0]) (t := 33) ?hr ?_; (case hd => rfl); (case hg => rfl); (case hr => first | (go_simp; done) | (go_simp; rfl)); intro gb171 hg w34 hbox hb; have n0_ := Aside0.mk (Kd.R_below (by (with_reducible repeat (first | apply Kd.R_alloc | apply Kd.R_drewN | apply Kd.R_drew)); exact HO_155000.out) hb); have n1_ := Aside0.mk (Kd.R_below (by (with_reducible repeat (first | apply Kd.R_alloc | apply Kd.R_drewN | apply Kd.R_drew)); exact HO_155001.out) hb); have n2_ := Aside0.mk (Kd.R_below (by (with_reducible repeat (first | apply Kd.R_alloc | apply Kd.R_drewN | apply Kd.R_drew)); exact HO158.out) hb); have n3_ := Aside0.mk (Kd.R_below (by (with_reducible repeat (first | apply Kd.R_alloc | apply Kd.R_drewN | apply Kd.R_drew)); exact HO161.out) hb); have n4_ := Aside0.mk (Kd.R_below (by (with_reducible repeat (first | apply Kd.R_alloc | apply Kd.R_drewN | apply Kd.R_drew)); exact HO166.out) hb); have n5_ := Aside0.mk (Kd.R_below (by (with_reducible repeat (first | apply Kd.R_alloc | apply Kd.R_drewN | apply Kd.R_drew)); exact HO169.out) hb); have n6_ := Aside0.mk (blk_below (g := gb154) (o := .cells #[.slice Ao16 t147.length co16, .slice Ao18 t150.length co18] 33 (0, 0)) (by (with_reducible repeat (first | refine blk_drewN ?_ _ | refine blk_drew ?_ | refine blk_alloc ?_ _)); exact BK154.out) hb); have n7_ := Aside0.mk (blk_below (g := gb163) (o := .cells #[.slice Ao29 t156.length co29, .slice Ao32 t159.length co32] 33 (0, 0)) (by (with_reducible repeat (first | refine blk_drewN ?_ _ | refine blk_drew ?_ | refine blk_alloc ?_ _)); exact BK163.out) hb); have n8_ := Aside0.mk (below_step (by repeat (first | (with_reducible first | exact HB.out | apply below_alloc | apply pw_below_drewN | apply below_drew1 | refine below_set ?_ GE154.out | refine below_set ?_ GE163.out) | exact HB.out)) hb); have n9_ := Aside0.mk (hbox); have n10_ := Aside0.mk ((by rw [hg]; exact (below_size (by repeat (first | (with_reducible first | exact HB.out | apply below_alloc | apply pw_below_drewN | apply below_drew1 | refine below_set ?_ GE154.out | refine below_set ?_ GE163.out) | exact HB.out))) : w.heap.size ≤ gb171)); have n11_ := Aside0.mk ((by rw [hg]; exact (below_size (by repeat (first | (with_reducible first | exact HB.out | apply below_alloc | apply pw_below_drewN | apply below_drew1 | refine below_set ?_ GE154.out | refine below_set ?_ GE163.out) | exact HB.out))) : w.heap.size ≤ gb171)); have n12_ := Aside0.mk ((by rw [hg]; exact Nat.ne_of_lt (blk_lt (g := gb154) (o := .cells #[.slice Ao16 t147.length co16, .slice Ao18 t150.length co18] 33 (0, 0)) (by (with_reducible repeat (first | refine blk_drewN ?_ _ | refine blk_drew ?_ | refine blk_alloc ?_ _)); exact BK154.out)) : gb154 ≠ gb171)); have n13_ := Aside0.mk ((by rw [hg]; exact Nat.ne_of_gt (blk_lt (g := gb154) (o := .cells #[.slice Ao16 t147.length co16, .slice Ao18 t150.length co18] 33 (0, 0)) (by (with_reducible repeat (first | refine blk_drewN ?_ _ | refine blk_drew ?_ | refine blk_alloc ?_ _)); exact BK154.out)) : gb171 ≠ gb154)); have n14_ := Aside0.mk ((by rw [hg]; exact Nat.ne_of_lt (blk_lt (g := gb163) (o := .cells #[.slice Ao29 t156.length co29, .slice Ao32 t159.length co32] 33 (0, 0)) (by (with_reducible repeat (first | refine blk_drewN ?_ _ | refine blk_drew ?_ | refine blk_alloc ?_ _)); exact BK163.out)) : gb163 ≠ gb171)); have n15_ := Aside0.mk ((by rw [hg]; exact Nat.ne_of_gt (blk_lt (g := gb163) (o := .cells #[.slice Ao29 t156.length co29, .slice Ao32 t159.length co32] 33 (0, 0)) (by (with_reducible repeat (first | refine blk_drewN ?_ _ | refine blk_drew ?_ | refine blk_alloc ?_ _)); exact BK163.out)) : gb171 ≠ gb163)); clear HO_155000; clear HO_155001; clear HO158; clear HO161; clear HO166; clear HO169; clear BK154; clear BK163; clear HB; have HO_155000 := n0_; have HO_155001 := n1_; have HO158 := n2_; have HO161 := n3_; have HO166 := n4_; have HO169 := n5_; have BK154 := n6_; have BK163 := n7_; have HB := n8_; have BK171 := n9_; have GW171 := n10_; have GE171 := n11_; have NB154_171 := n12_; have NB171_154 := n13_; have NB163_171 := n14_; have NB171_163 := n15_; clear n0_ n1_ n2_ n3_ n4_ n5_ n6_ n7_ n8_ n9_ n10_ n11_ n12_ n13_ n14_ n15_; clear hb hbox hg; obtain ⟨Ao35, co35, eo35⟩ := Kd.R_slice HO166.out; subst eo35; have hnb36 := NB171_154.out; have hnc36 := NB154_171.out; have hnb37 := NB171_163.out; have hnc37 := NB163_171.out; have hcz38_0 : w34.cell? ⟨gb171, 0, none⟩ = some (.slice none 0 0) := (blk_cell BK171.out 0).trans rfl; have hcz38_1 : w34.cell? ⟨gb171, 1, none⟩ = some (.slice none 0 0) := (blk_cell BK171.out 1).trans rfl; have hfz38_0 := blk_frozen BK171.out 0; have hfz38_1 := blk_frozen BK171.out 1; obtain ⟨Ao39, co39, eo39⟩ := Kd.R_slice HO169.out; subst eo39))
              (try simp only [Act.put, List.setIfInBounds_toArray, List.set_cons_zero, List.set_cons_succ])
              go_cut [92] (fun v92 wc => ∃ (kq : Nat) (x92_25 : Bool), v92 = .bool x92_25 ∧ Aside0 (cadastrelaw18_LinearHolds.j2 kq l0 a1 a2 t144 x92_25 = some r) ∧ Aside0 (kq ≤ kj12) ∧ Aside0 (Kd.R (Kd.int .u32) 38 wc w.heap.size (fun k_ => some k_ ≠ ((.slice Ao18 t150.length co18) : Value).ownBlock ∧ some k_ ≠ ((.slice Ao29 t156.length co29) : Value).ownBlock ∧ some k_ ≠ ((.slice Ao32 t159.length co32) : Value).ownBlock ∧ some k_ ≠ ((.slice Ao35 t164.length co35) : Value).ownBlock ∧ some k_ ≠ ((.slice Ao39 t167.length co39) : Value).ownBlock) (.slice Ao16 t147.length co16) t147) ∧ Aside0 (Kd.R (Kd.int .u32) 38 wc w.heap.size (fun k_ => some k_ ≠ ((.slice Ao16 t147.length co16) : Value).ownBlock ∧ some k_ ≠ ((.slice Ao29 t156.length co29) : Value).ownBlock ∧ some k_ ≠ ((.slice Ao32 t159.length co32) : Value).ownBlock ∧ some k_ ≠ ((.slice Ao35 t164.length co35) : Value).ownBlock ∧ some k_ ≠ ((.slice Ao39 t167.length co39) : Value).ownBlock) (.slice Ao18 t150.length co18) t150) ∧ Aside0 (Kd.R (Kd.int .u32) 38 wc w.heap.size (fun k_ => some k_ ≠ ((.slice Ao16 t147.length co16) : Value).ownBlock ∧ some k_ ≠ ((.slice Ao18 t150.length co18) : Value).ownBlock ∧ some k_ ≠ ((.slice Ao32 t159.length co32) : Value).ownBlock ∧ some k_ ≠ ((.slice Ao35 t164.length co35) : Value).ownBlock ∧ some k_ ≠ ((.slice Ao39 t167.length co39) : Value).ownBlock) (.slice Ao29 t156.length co29) t156) ∧ Aside0 (Kd.R (Kd.int .u32) 38 wc w.heap.size (fun k_ => some k_ ≠ ((.slice Ao16 t147.length co16) : Value).ownBlock ∧ some k_ ≠ ((.slice Ao18 t150.length co18) : Value).ownBlock ∧ some k_ ≠ ((.slice Ao29 t156.length co29) : Value).ownBlock ∧ some k_ ≠ ((.slice Ao35 t164.length co35) : Value).ownBlock ∧ some k_ ≠ ((.slice Ao39 t167.length co39) : Value).ownBlock) (.slice Ao32 t159.length co32) t159) ∧ Aside0 (Kd.R (Kd.int .u32) 38 wc w.heap.size (fun k_ => some k_ ≠ ((.slice Ao16 t147.length co16) : Value).ownBlock ∧ some k_ ≠ ((.slice Ao18 t150.length co18) : Value).ownBlock ∧ some k_ ≠ ((.slice Ao29 t156.length co29) : Value).ownBlock ∧ some k_ ≠ ((.slice Ao32 t159.length co32) : Value).ownBlock ∧ some k_ ≠ ((.slice Ao39 t167.length co39) : Value).ownBlock) (.slice Ao35 t164.length co35) t164) ∧ Aside0 (Kd.R (Kd.int .u32) 38 wc w.heap.size (fun k_ => some k_ ≠ ((.slice Ao16 t147.length co16) : Value).ownBlock ∧ some k_ ≠ ((.slice Ao18 t150.length co18) : Value).ownBlock ∧ some k_ ≠ ((.slice Ao29 t156.length co29) : Value).ownBlock ∧ some k_ ≠ ((.slice Ao32 t159.length co32) : Value).ownBlock ∧ some k_ ≠ ((.slice Ao35 t164.length co35) : Value).ownBlock) (.slice Ao39 t167.length co39) t167) ∧ Aside0 (wc.heap[gb154]? = some (.cells #[(.slice Ao16 t147.length co16), (.slice Ao18 t150.length co18)] 33 (0, 0))) ∧ Aside0 (wc.heap[gb163]? = some (.cells #[(.slice Ao29 t156.length co29), (.slice Ao32 t159.length co32)] 33 (0, 0))) ∧ Aside0 (wc.heap[gb171]? = some (.cells #[(.slice Ao35 t164.length co35), (.slice Ao39 t167.length co39)] 33 (0, 0))) ∧ Aside0 (Below w.heap.size w wc))
              case first =>
                have H := HC26.out
                clear HC26
                by_cases c40 : t162 = 0
                · rw [if_pos c40] at H
                  have c40b0 : (t162 == 0) = true := beq_iff_eq.mpr c40
                  have c40b1 : (t162 != 0) = false := bne_eq_false_iff_eq.mpr c40
                  clear c40
                  (first | rw [c40b0] | (simp only [i64_w, i32_w]; rw [c40b0]) | skip)
                  replace H := Option.bind_eq_some_iff.mp H
                  obtain ⟨t172, A410, H⟩ := H
                  replace H : (if t172 = true then (cadastrelaw18_LinearHolds.j2 kj12 l0 a1 a2 t144 true) else (if t170 = 0 then ((cadastreref08_In.f kj12 l0 t164 t167).bind fun t173 => (cadastrelaw18_LinearHolds.j2 kj12 l0 a1 a2 t144 t173)) else (cadastrelaw18_LinearHolds.j2 kj12 l0 a1 a2 t144 false))) = some r := H
                  have A41 := Aside0.mk A410
                  clear A410
                  by_cases c42 : t172 = true
                  · subst c42
                    have H1 : (cadastrelaw18_LinearHolds.j2 kj12 l0 a1 a2 t144 true) = some r := by rw [if_pos rfl] at H; exact H
                    clear H
                    have H := H1
                    clear H1
                    have H' := Aside0.mk H
                    clear H
                    have hnb43 := NB163_154.out
                    have hnc43 := NB154_163.out
                    have hnb44 := NB163_171.out
                    have hnc44 := NB171_163.out
                    have hcz45_0 : w34.cell? ⟨gb163, 0, none⟩ = some (.slice Ao29 t156.length co29) := (blk_cell BK163.out 0).trans rfl
                    have hcz45_1 : w34.cell? ⟨gb163, 1, none⟩ = some (.slice Ao32 t159.length co32) := (blk_cell BK163.out 1).trans rfl
                    have hfz45_0 := blk_frozen BK163.out 0
                    have hfz45_1 := blk_frozen BK163.out 1
                    go_wp2_with (first | (go_at_call 12; (with_reducible refine (cadastreref08_In.calls kj12 _ _ l0 _ _ t156 _ _ t159 true _ ?side1 ?side2 ?side3 ?side4 ?side5 ?side6 A41.out).mono ?_); (case side1 => exact Kd.C_below HR0.out (by repeat (first | (with_reducible first | exact HB.out | apply below_alloc | apply pw_below_drewN | apply below_drew1 | refine below_set ?_ GE154.out | refine below_set ?_ GE163.out | refine below_set ?_ GE171.out) | exact HB.out))); (case side2 => exact HC0.out); (case side3 => refine (Kd.R_reads' (e := 38) (base := w.heap.size) (ok := fun k_ => ((((some k_ ≠ (.slice Ao32 t159.length co32 : Value).ownBlock ∧ some k_ ≠ (.slice Ao16 t147.length co16 : Value).ownBlock) ∧ some k_ ≠ (.slice Ao18 t150.length co18 : Value).ownBlock) ∧ some k_ ≠ (.slice Ao35 t164.length co35 : Value).ownBlock) ∧ some k_ ≠ (.slice Ao39 t167.length co39 : Value).ownBlock)) (n := t156.length) (c := co29) ?_).2.2; exact (by (with_reducible repeat (first | apply Kd.R_alloc | apply Kd.R_drewN | apply Kd.R_drew)); exact (Kd.R_mono (Kd.R_far (p := ⟨gb171, 1, none⟩) (Kd.R_far (p := ⟨gb171, 0, none⟩) (Kd.R_types HO158.out BK171.out (by decide)) (fun _ hk => hk.2) (.slice Ao35 t164.length co35)) (fun _ hk => hk.2) (.slice Ao39 t167.length co39)) (fun _ h_ => h_.1)))); (case side4 => exact (Kd.R_reads' HO158.out).2.1); (case side5 => refine (Kd.R_reads' (e := 38) (base := w.heap.size) (ok := fun k_ => ((((some k_ ≠ (.slice Ao29 t156.length co29 : Value).ownBlock ∧ some k_ ≠ (.slice Ao16 t147.length co16 : Value).ownBlock) ∧ some k_ ≠ (.slice Ao18 t150.length co18 : Value).ownBlock) ∧ some k_ ≠ (.slice Ao35 t164.length co35 : Value).ownBlock) ∧ some k_ ≠ (.slice Ao39 t167.length co39 : Value).ownBlock)) (n := t159.length) (c := co32) ?_).2.2; exact (by (with_reducible repeat (first | apply Kd.R_alloc | apply Kd.R_drewN | apply Kd.R_drew)); exact (Kd.R_mono (Kd.R_far (p := ⟨gb171, 1, none⟩) (Kd.R_far (p := ⟨gb171, 0, none⟩) (Kd.R_types HO161.out BK171.out (by decide)) (fun _ hk => hk.2) (.slice Ao35 t164.length co35)) (fun _ hk => hk.2) (.slice Ao39 t167.length co39)) (fun _ h_ => h_.1)))); (case side6 => exact (Kd.R_reads' HO161.out).2.1); rintro e w46 ⟨rfl, hb⟩; have n0_ := Aside0.mk (Kd.R_below (by (with_reducible repeat (first | apply Kd.R_alloc | apply Kd.R_drewN | apply Kd.R_drew)); exact (Kd.R_mono (Kd.R_far (p := ⟨gb171, 1, none⟩) (Kd.R_far (p := ⟨gb171, 0, none⟩) (Kd.R_types HO_155000.out BK171.out (by decide)) (fun _ hk => hk.2) (.slice Ao35 t164.length co35)) (fun _ hk => hk.2) (.slice Ao39 t167.length co39)) (fun _ h_ => h_.1))) hb); have n1_ := Aside0.mk (Kd.R_below (by (with_reducible repeat (first | apply Kd.R_alloc | apply Kd.R_drewN | apply Kd.R_drew)); exact (Kd.R_mono (Kd.R_far (p := ⟨gb171, 1, none⟩) (Kd.R_far (p := ⟨gb171, 0, none⟩) (Kd.R_types HO_155001.out BK171.out (by decide)) (fun _ hk => hk.2) (.slice Ao35 t164.length co35)) (fun _ hk => hk.2) (.slice Ao39 t167.length co39)) (fun _ h_ => h_.1))) hb); have n2_ := Aside0.mk (Kd.R_below (by (with_reducible repeat (first | apply Kd.R_alloc | apply Kd.R_drewN | apply Kd.R_drew)); exact (Kd.R_mono (Kd.R_far (p := ⟨gb171, 1, none⟩) (Kd.R_far (p := ⟨gb171, 0, none⟩) (Kd.R_types HO158.out BK171.out (by decide)) (fun _ hk => hk.2) (.slice Ao35 t164.length co35)) (fun _ hk => hk.2) (.slice Ao39 t167.length co39)) (fun _ h_ => h_.1))) hb); have n3_ := Aside0.mk (Kd.R_below (by (with_reducible repeat (first | apply Kd.R_alloc | apply Kd.R_drewN | apply Kd.R_drew)); exact (Kd.R_mono (Kd.R_far (p := ⟨gb171, 1, none⟩) (Kd.R_far (p := ⟨gb171, 0, none⟩) (Kd.R_types HO161.out BK171.out (by decide)) (fun _ hk => hk.2) (.slice Ao35 t164.length co35)) (fun _ hk => hk.2) (.slice Ao39 t167.length co39)) (fun _ h_ => h_.1))) hb); have n4_ := Aside0.mk (Kd.R_below (by (with_reducible repeat (first | apply Kd.R_alloc | apply Kd.R_drewN | apply Kd.R_drew)); exact (Kd.R_mono (Kd.R_far (p := ⟨gb171, 1, none⟩) (Kd.R_far (p := ⟨gb171, 0, none⟩) (Kd.R_types HO166.out BK171.out (by decide)) (fun _ hk => hk.2) (.slice Ao35 t164.length co35)) (fun _ hk => hk.2) (.slice Ao39 t167.length co39)) (fun _ h_ => h_.1))) hb); have n5_ := Aside0.mk (Kd.R_below (by (with_reducible repeat (first | apply Kd.R_alloc | apply Kd.R_drewN | apply Kd.R_drew)); exact (Kd.R_mono (Kd.R_far (p := ⟨gb171, 1, none⟩) (Kd.R_far (p := ⟨gb171, 0, none⟩) (Kd.R_types HO169.out BK171.out (by decide)) (fun _ hk => hk.2) (.slice Ao35 t164.length co35)) (fun _ hk => hk.2) (.slice Ao39 t167.length co39)) (fun _ h_ => h_.1))) hb); have n6_ := Aside0.mk (blk_below (g := gb154) (o := .cells #[.slice Ao16 t147.length co16, .slice Ao18 t150.length co18] 33 (0, 0)) (by (with_reducible repeat (first | refine blk_drewN ?_ _ | refine blk_drew ?_ | refine blk_alloc ?_ _)); refine blk_far ?_ NB154_171.out _; (with_reducible repeat (first | refine blk_drewN ?_ _ | refine blk_drew ?_ | refine blk_alloc ?_ _)); refine blk_far ?_ NB154_171.out _; (with_reducible repeat (first | refine blk_drewN ?_ _ | refine blk_drew ?_ | refine blk_alloc ?_ _)); exact BK154.out) hb); have n7_ := Aside0.mk (blk_below (g := gb163) (o := .cells #[.slice Ao29 t156.length co29, .slice Ao32 t159.length co32] 33 (0, 0)) (by (with_reducible repeat (first | refine blk_drewN ?_ _ | refine blk_drew ?_ | refine blk_alloc ?_ _)); refine blk_far ?_ NB163_171.out _; (with_reducible repeat (first | refine blk_drewN ?_ _ | refine blk_drew ?_ | refine blk_alloc ?_ _)); refine blk_far ?_ NB163_171.out _; (with_reducible repeat (first | refine blk_drewN ?_ _ | refine blk_drew ?_ | refine blk_alloc ?_ _)); exact BK163.out) hb); have n8_ := Aside0.mk (blk_below (g := gb171) (o := .cells #[.slice Ao35 t164.length co35, .slice Ao39 t167.length co39] 33 (0, 0)) (by (with_reducible repeat (first | refine blk_drewN ?_ _ | refine blk_drew ?_ | refine blk_alloc ?_ _)); refine blk_put (cs := #[.slice Ao35 t164.length co35, .slice none 0 0]) ?_ 1 _ rfl; (with_reducible repeat (first | refine blk_drewN ?_ _ | refine blk_drew ?_ | refine blk_alloc ?_ _)); refine blk_put (cs := #[.slice none 0 0, .slice none 0 0]) ?_ 0 _ rfl; (with_reducible repeat (first | refine blk_drewN ?_ _ | refine blk_drew ?_ | refine blk_alloc ?_ _)); exact BK171.out) hb); have n9_ := Aside0.mk (below_step (by repeat (first | (with_reducible first | exact HB.out | apply below_alloc | apply pw_below_drewN | apply below_drew1 | refine below_set ?_ GE154.out | refine below_set ?_ GE163.out | refine below_set ?_ GE171.out) | exact HB.out)) hb); clear HO_155000; clear HO_155001; clear HO158; clear HO161; clear HO166; clear HO169; clear BK154; clear BK163; clear BK171; clear HB; have HO_155000 := n0_; have HO_155001 := n1_; have HO158 := n2_; have HO161 := n3_; have HO166 := n4_; have HO169 := n5_; have BK154 := n6_; have BK163 := n7_; have BK171 := n8_; have HB := n9_; clear n0_ n1_ n2_ n3_ n4_ n5_ n6_ n7_ n8_ n9_; (try clear hb); (try clear hb2); (try clear hk); (try clear hi)))
                    go_meet
                    case rel => exact ⟨_, (true), (by first | rfl | (simp; done) | (simp [*]; done)), H', ⟨by have := HJ4.out; have := HJ12.out; first | omega | exact Nat.le_refl _⟩, ⟨by (with_reducible repeat (first | apply Kd.R_alloc | apply Kd.R_drewN | apply Kd.R_drew)); exact Kd.R_mono HO_155000.out (fun _ hk => ⟨hk.1.1.1.1, ⟨hk.1.1.1.2, ⟨hk.1.1.2, ⟨hk.1.2, hk.2⟩⟩⟩⟩)⟩, ⟨by (with_reducible repeat (first | apply Kd.R_alloc | apply Kd.R_drewN | apply Kd.R_drew)); exact Kd.R_mono HO_155001.out (fun _ hk => ⟨hk.1.1.1.1, ⟨hk.1.1.1.2, ⟨hk.1.1.2, ⟨hk.1.2, hk.2⟩⟩⟩⟩)⟩, ⟨by (with_reducible repeat (first | apply Kd.R_alloc | apply Kd.R_drewN | apply Kd.R_drew)); exact Kd.R_mono HO158.out (fun _ hk => ⟨hk.1.1.1.2, ⟨hk.1.1.2, ⟨hk.1.1.1.1, ⟨hk.1.2, hk.2⟩⟩⟩⟩)⟩, ⟨by (with_reducible repeat (first | apply Kd.R_alloc | apply Kd.R_drewN | apply Kd.R_drew)); exact Kd.R_mono HO161.out (fun _ hk => ⟨hk.1.1.1.2, ⟨hk.1.1.2, ⟨hk.1.1.1.1, ⟨hk.1.2, hk.2⟩⟩⟩⟩)⟩, ⟨by (with_reducible repeat (first | apply Kd.R_alloc | apply Kd.R_drewN | apply Kd.R_drew)); exact Kd.R_mono HO166.out (fun _ hk => ⟨hk.1.1.1.2, ⟨hk.1.1.2, ⟨hk.1.2, ⟨hk.2, hk.1.1.1.1⟩⟩⟩⟩)⟩, ⟨by (with_reducible repeat (first | apply Kd.R_alloc | apply Kd.R_drewN | apply Kd.R_drew)); exact Kd.R_mono HO169.out (fun _ hk => ⟨hk.1.1.1.2, ⟨hk.1.1.2, ⟨hk.1.2, ⟨hk.2, hk.1.1.1.1⟩⟩⟩⟩)⟩, ⟨by (with_reducible repeat (first | refine blk_drewN ?_ _ | refine blk_drew ?_ | refine blk_alloc ?_ _)); exact BK154.out⟩, ⟨by (with_reducible repeat (first | refine blk_drewN ?_ _ | refine blk_drew ?_ | refine blk_alloc ?_ _)); exact BK163.out⟩, ⟨by (with_reducible repeat (first | refine blk_drewN ?_ _ | refine blk_drew ?_ | refine blk_alloc ?_ _)); exact BK171.out⟩, ⟨by repeat (first | (with_reducible first | exact HB.out | apply below_alloc | apply pw_below_drewN | apply below_drew1 | refine below_set ?_ GE154.out | refine below_set ?_ GE163.out | refine below_set ?_ GE171.out) | exact HB.out)⟩⟩
                  · replace c42 := Bool.eq_false_iff.mpr c42
                    subst c42
                    have H1 : (if t170 = 0 then ((cadastreref08_In.f kj12 l0 t164 t167).bind fun t173 => (cadastrelaw18_LinearHolds.j2 kj12 l0 a1 a2 t144 t173)) else (cadastrelaw18_LinearHolds.j2 kj12 l0 a1 a2 t144 false)) = some r := by rw [if_neg (show ¬ (false = true) by decide)] at H; exact H
                    clear H
                    have H := H1
                    clear H1
                    by_cases c47 : t170 = 0
                    · rw [if_pos c47] at H
                      have c47b0 : (t170 == 0) = true := beq_iff_eq.mpr c47
                      have c47b1 : (t170 != 0) = false := bne_eq_false_iff_eq.mpr c47
                      clear c47
                      replace H := Option.bind_eq_some_iff.mp H
                      obtain ⟨t173, A480, H⟩ := H
                      replace H : (cadastrelaw18_LinearHolds.j2 kj12 l0 a1 a2 t144 t173) = some r := H
                      have A48 := Aside0.mk A480
                      clear A480
                      have H' := Aside0.mk H
                      clear H
                      have hnb49 := NB163_154.out
                      have hnc49 := NB154_163.out
                      have hnb50 := NB163_171.out
                      have hnc50 := NB171_163.out
                      have hcz51_0 : w34.cell? ⟨gb163, 0, none⟩ = some (.slice Ao29 t156.length co29) := (blk_cell BK163.out 0).trans rfl
                      have hcz51_1 : w34.cell? ⟨gb163, 1, none⟩ = some (.slice Ao32 t159.length co32) := (blk_cell BK163.out 1).trans rfl
                      have hfz51_0 := blk_frozen BK163.out 0
                      have hfz51_1 := blk_frozen BK163.out 1
                      go_wp2_with (first | (go_at_call 12; (with_reducible refine (cadastreref08_In.calls kj12 _ _ l0 _ _ t156 _ _ t159 false _ ?side1 ?side2 ?side3 ?side4 ?side5 ?side6 A41.out).mono ?_); (case side1 => exact Kd.C_below HR0.out (by repeat (first | (with_reducible first | exact HB.out | apply below_alloc | apply pw_below_drewN | apply below_drew1 | refine below_set ?_ GE154.out | refine below_set ?_ GE163.out | refine below_set ?_ GE171.out) | exact HB.out))); (case side2 => exact HC0.out); (case side3 => refine (Kd.R_reads' (e := 38) (base := w.heap.size) (ok := fun k_ => ((((some k_ ≠ (.slice Ao32 t159.length co32 : Value).ownBlock ∧ some k_ ≠ (.slice Ao16 t147.length co16 : Value).ownBlock) ∧ some k_ ≠ (.slice Ao18 t150.length co18 : Value).ownBlock) ∧ some k_ ≠ (.slice Ao35 t164.length co35 : Value).ownBlock) ∧ some k_ ≠ (.slice Ao39 t167.length co39 : Value).ownBlock)) (n := t156.length) (c := co29) ?_).2.2; exact (by (with_reducible repeat (first | apply Kd.R_alloc | apply Kd.R_drewN | apply Kd.R_drew)); exact (Kd.R_mono (Kd.R_far (p := ⟨gb171, 1, none⟩) (Kd.R_far (p := ⟨gb171, 0, none⟩) (Kd.R_types HO158.out BK171.out (by decide)) (fun _ hk => hk.2) (.slice Ao35 t164.length co35)) (fun _ hk => hk.2) (.slice Ao39 t167.length co39)) (fun _ h_ => h_.1)))); (case side4 => exact (Kd.R_reads' HO158.out).2.1); (case side5 => refine (Kd.R_reads' (e := 38) (base := w.heap.size) (ok := fun k_ => ((((some k_ ≠ (.slice Ao29 t156.length co29 : Value).ownBlock ∧ some k_ ≠ (.slice Ao16 t147.length co16 : Value).ownBlock) ∧ some k_ ≠ (.slice Ao18 t150.length co18 : Value).ownBlock) ∧ some k_ ≠ (.slice Ao35 t164.length co35 : Value).ownBlock) ∧ some k_ ≠ (.slice Ao39 t167.length co39 : Value).ownBlock)) (n := t159.length) (c := co32) ?_).2.2; exact (by (with_reducible repeat (first | apply Kd.R_alloc | apply Kd.R_drewN | apply Kd.R_drew)); exact (Kd.R_mono (Kd.R_far (p := ⟨gb171, 1, none⟩) (Kd.R_far (p := ⟨gb171, 0, none⟩) (Kd.R_types HO161.out BK171.out (by decide)) (fun _ hk => hk.2) (.slice Ao35 t164.length co35)) (fun _ hk => hk.2) (.slice Ao39 t167.length co39)) (fun _ h_ => h_.1)))); (case side6 => exact (Kd.R_reads' HO161.out).2.1); rintro e w52 ⟨rfl, hb⟩; have n0_ := Aside0.mk (Kd.R_below (by (with_reducible repeat (first | apply Kd.R_alloc | apply Kd.R_drewN | apply Kd.R_drew)); exact (Kd.R_mono (Kd.R_far (p := ⟨gb171, 1, none⟩) (Kd.R_far (p := ⟨gb171, 0, none⟩) (Kd.R_types HO_155000.out BK171.out (by decide)) (fun _ hk => hk.2) (.slice Ao35 t164.length co35)) (fun _ hk => hk.2) (.slice Ao39 t167.length co39)) (fun _ h_ => h_.1))) hb); have n1_ := Aside0.mk (Kd.R_below (by (with_reducible repeat (first | apply Kd.R_alloc | apply Kd.R_drewN | apply Kd.R_drew)); exact (Kd.R_mono (Kd.R_far (p := ⟨gb171, 1, none⟩) (Kd.R_far (p := ⟨gb171, 0, none⟩) (Kd.R_types HO_155001.out BK171.out (by decide)) (fun _ hk => hk.2) (.slice Ao35 t164.length co35)) (fun _ hk => hk.2) (.slice Ao39 t167.length co39)) (fun _ h_ => h_.1))) hb); have n2_ := Aside0.mk (Kd.R_below (by (with_reducible repeat (first | apply Kd.R_alloc | apply Kd.R_drewN | apply Kd.R_drew)); exact (Kd.R_mono (Kd.R_far (p := ⟨gb171, 1, none⟩) (Kd.R_far (p := ⟨gb171, 0, none⟩) (Kd.R_types HO158.out BK171.out (by decide)) (fun _ hk => hk.2) (.slice Ao35 t164.length co35)) (fun _ hk => hk.2) (.slice Ao39 t167.length co39)) (fun _ h_ => h_.1))) hb); have n3_ := Aside0.mk (Kd.R_below (by (with_reducible repeat (first | apply Kd.R_alloc | apply Kd.R_drewN | apply Kd.R_drew)); exact (Kd.R_mono (Kd.R_far (p := ⟨gb171, 1, none⟩) (Kd.R_far (p := ⟨gb171, 0, none⟩) (Kd.R_types HO161.out BK171.out (by decide)) (fun _ hk => hk.2) (.slice Ao35 t164.length co35)) (fun _ hk => hk.2) (.slice Ao39 t167.length co39)) (fun _ h_ => h_.1))) hb); have n4_ := Aside0.mk (Kd.R_below (by (with_reducible repeat (first | apply Kd.R_alloc | apply Kd.R_drewN | apply Kd.R_drew)); exact (Kd.R_mono (Kd.R_far (p := ⟨gb171, 1, none⟩) (Kd.R_far (p := ⟨gb171, 0, none⟩) (Kd.R_types HO166.out BK171.out (by decide)) (fun _ hk => hk.2) (.slice Ao35 t164.length co35)) (fun _ hk => hk.2) (.slice Ao39 t167.length co39)) (fun _ h_ => h_.1))) hb); have n5_ := Aside0.mk (Kd.R_below (by (with_reducible repeat (first | apply Kd.R_alloc | apply Kd.R_drewN | apply Kd.R_drew)); exact (Kd.R_mono (Kd.R_far (p := ⟨gb171, 1, none⟩) (Kd.R_far (p := ⟨gb171, 0, none⟩) (Kd.R_types HO169.out BK171.out (by decide)) (fun _ hk => hk.2) (.slice Ao35 t164.length co35)) (fun _ hk => hk.2) (.slice Ao39 t167.length co39)) (fun _ h_ => h_.1))) hb); have n6_ := Aside0.mk (blk_below (g := gb154) (o := .cells #[.slice Ao16 t147.length co16, .slice Ao18 t150.length co18] 33 (0, 0)) (by (with_reducible repeat (first | refine blk_drewN ?_ _ | refine blk_drew ?_ | refine blk_alloc ?_ _)); refine blk_far ?_ NB154_171.out _; (with_reducible repeat (first | refine blk_drewN ?_ _ | refine blk_drew ?_ | refine blk_alloc ?_ _)); refine blk_far ?_ NB154_171.out _; (with_reducible repeat (first | refine blk_drewN ?_ _ | refine blk_drew ?_ | refine blk_alloc ?_ _)); exact BK154.out) hb); have n7_ := Aside0.mk (blk_below (g := gb163) (o := .cells #[.slice Ao29 t156.length co29, .slice Ao32 t159.length co32] 33 (0, 0)) (by (with_reducible repeat (first | refine blk_drewN ?_ _ | refine blk_drew ?_ | refine blk_alloc ?_ _)); refine blk_far ?_ NB163_171.out _; (with_reducible repeat (first | refine blk_drewN ?_ _ | refine blk_drew ?_ | refine blk_alloc ?_ _)); refine blk_far ?_ NB163_171.out _; (with_reducible repeat (first | refine blk_drewN ?_ _ | refine blk_drew ?_ | refine blk_alloc ?_ _)); exact BK163.out) hb); have n8_ := Aside0.mk (blk_below (g := gb171) (o := .cells #[.slice Ao35 t164.length co35, .slice Ao39 t167.length co39] 33 (0, 0)) (by (with_reducible repeat (first | refine blk_drewN ?_ _ | refine blk_drew ?_ | refine blk_alloc ?_ _)); refine blk_put (cs := #[.slice Ao35 t164.length co35, .slice none 0 0]) ?_ 1 _ rfl; (with_reducible repeat (first | refine blk_drewN ?_ _ | refine blk_drew ?_ | refine blk_alloc ?_ _)); refine blk_put (cs := #[.slice none 0 0, .slice none 0 0]) ?_ 0 _ rfl; (with_reducible repeat (first | refine blk_drewN ?_ _ | refine blk_drew ?_ | refine blk_alloc ?_ _)); exact BK171.out) hb); have n9_ := Aside0.mk (below_step (by repeat (first | (with_reducible first | exact HB.out | apply below_alloc | apply pw_below_drewN | apply below_drew1 | refine below_set ?_ GE154.out | refine below_set ?_ GE163.out | refine below_set ?_ GE171.out) | exact HB.out)) hb); clear HO_155000; clear HO_155001; clear HO158; clear HO161; clear HO166; clear HO169; clear BK154; clear BK163; clear BK171; clear HB; have HO_155000 := n0_; have HO_155001 := n1_; have HO158 := n2_; have HO161 := n3_; have HO166 := n4_; have HO169 := n5_; have BK154 := n6_; have BK163 := n7_; have BK171 := n8_; have HB := n9_; clear n0_ n1_ n2_ n3_ n4_ n5_ n6_ n7_ n8_ n9_; (try clear hb); (try clear hb2); (try clear hk); (try clear hi); have hnb53 := NB171_154.out; have hnc53 := NB154_171.out; have hcz54_0 : w52.cell? ⟨gb171, 0, none⟩ = some (.slice Ao35 t164.length co35) := (blk_cell BK171.out 0).trans rfl; have hcz54_1 : w52.cell? ⟨gb171, 1, none⟩ = some (.slice Ao39 t167.length co39) := (blk_cell BK171.out 1).trans rfl; have hfz54_0 := blk_frozen BK171.out 0; have hfz54_1 := blk_frozen BK171.out 1) | (go_at_call 12; (with_reducible refine (cadastreref08_In.calls kj12 _ _ l0 _ _ t164 _ _ t167 t173 _ ?side1 ?side2 ?side3 ?side4 ?side5 ?side6 A48.out).mono ?_); (case side1 => repeat (first | exact (Kd.C_below HR0.out HB.out) | (with_reducible refine Kd.C_alloc ?_ _) | (with_reducible refine Kd.C_drewN ?_ _) | (with_reducible refine Kd.C_drew ?_))); (case side2 => exact HC0.out); (case side3 => repeat (first | exact (Kd.R_reads' HO166.out).2.2 | (with_reducible refine Kd.C_alloc ?_ _) | (with_reducible refine Kd.C_drewN ?_ _) | (with_reducible refine Kd.C_drew ?_))); (case side4 => exact (Kd.R_reads' HO166.out).2.1); (case side5 => repeat (first | exact (Kd.R_reads' HO169.out).2.2 | (with_reducible refine Kd.C_alloc ?_ _) | (with_reducible refine Kd.C_drewN ?_ _) | (with_reducible refine Kd.C_drew ?_))); (case side6 => exact (Kd.R_reads' HO169.out).2.1); rintro e w55 ⟨rfl, hb⟩; have n0_ := Aside0.mk (Kd.R_below (by (with_reducible repeat (first | apply Kd.R_alloc | apply Kd.R_drewN | apply Kd.R_drew)); exact HO_155000.out) hb); have n1_ := Aside0.mk (Kd.R_below (by (with_reducible repeat (first | apply Kd.R_alloc | apply Kd.R_drewN | apply Kd.R_drew)); exact HO_155001.out) hb); have n2_ := Aside0.mk (Kd.R_below (by (with_reducible repeat (first | apply Kd.R_alloc | apply Kd.R_drewN | apply Kd.R_drew)); exact HO158.out) hb); have n3_ := Aside0.mk (Kd.R_below (by (with_reducible repeat (first | apply Kd.R_alloc | apply Kd.R_drewN | apply Kd.R_drew)); exact HO161.out) hb); have n4_ := Aside0.mk (Kd.R_below (by (with_reducible repeat (first | apply Kd.R_alloc | apply Kd.R_drewN | apply Kd.R_drew)); exact HO166.out) hb); have n5_ := Aside0.mk (Kd.R_below (by (with_reducible repeat (first | apply Kd.R_alloc | apply Kd.R_drewN | apply Kd.R_drew)); exact HO169.out) hb); have n6_ := Aside0.mk (blk_below (g := gb154) (o := .cells #[.slice Ao16 t147.length co16, .slice Ao18 t150.length co18] 33 (0, 0)) (by (with_reducible repeat (first | refine blk_drewN ?_ _ | refine blk_drew ?_ | refine blk_alloc ?_ _)); exact BK154.out) hb); have n7_ := Aside0.mk (blk_below (g := gb163) (o := .cells #[.slice Ao29 t156.length co29, .slice Ao32 t159.length co32] 33 (0, 0)) (by (with_reducible repeat (first | refine blk_drewN ?_ _ | refine blk_drew ?_ | refine blk_alloc ?_ _)); exact BK163.out) hb); have n8_ := Aside0.mk (blk_below (g := gb171) (o := .cells #[.slice Ao35 t164.length co35, .slice Ao39 t167.length co39] 33 (0, 0)) (by (with_reducible repeat (first | refine blk_drewN ?_ _ | refine blk_drew ?_ | refine blk_alloc ?_ _)); exact BK171.out) hb); have n9_ := Aside0.mk (below_step (by repeat (first | (with_reducible first | exact HB.out | apply below_alloc | apply pw_below_drewN | apply below_drew1 | refine below_set ?_ GE154.out | refine below_set ?_ GE163.out | refine below_set ?_ GE171.out) | exact HB.out)) hb); clear HO_155000; clear HO_155001; clear HO158; clear HO161; clear HO166; clear HO169; clear BK154; clear BK163; clear BK171; clear HB; have HO_155000 := n0_; have HO_155001 := n1_; have HO158 := n2_; have HO161 := n3_; have HO166 := n4_; have HO169 := n5_; have BK154 := n6_; have BK163 := n7_; have BK171 := n8_; have HB := n9_; clear n0_ n1_ n2_ n3_ n4_ n5_ n6_ n7_ n8_ n9_; (try clear hb); (try clear hb2); (try clear hk); (try clear hi)))
                      go_meet
                      case rel => exact ⟨_, (t173), (by first | rfl | (simp; done) | (simp [*]; done)), H', ⟨by have := HJ4.out; have := HJ12.out; first | omega | exact Nat.le_refl _⟩, ⟨by (with_reducible repeat (first | apply Kd.R_alloc | apply Kd.R_drewN | apply Kd.R_drew)); exact Kd.R_mono HO_155000.out (fun _ hk => ⟨hk.1.1.1.1, ⟨hk.1.1.1.2, ⟨hk.1.1.2, ⟨hk.1.2, hk.2⟩⟩⟩⟩)⟩, ⟨by (with_reducible repeat (first | apply Kd.R_alloc | apply Kd.R_drewN | apply Kd.R_drew)); exact Kd.R_mono HO_155001.out (fun _ hk => ⟨hk.1.1.1.1, ⟨hk.1.1.1.2, ⟨hk.1.1.2, ⟨hk.1.2, hk.2⟩⟩⟩⟩)⟩, ⟨by (with_reducible repeat (first | apply Kd.R_alloc | apply Kd.R_drewN | apply Kd.R_drew)); exact Kd.R_mono HO158.out (fun _ hk => ⟨hk.1.1.1.2, ⟨hk.1.1.2, ⟨hk.1.1.1.1, ⟨hk.1.2, hk.2⟩⟩⟩⟩)⟩, ⟨by (with_reducible repeat (first | apply Kd.R_alloc | apply Kd.R_drewN | apply Kd.R_drew)); exact Kd.R_mono HO161.out (fun _ hk => ⟨hk.1.1.1.2, ⟨hk.1.1.2, ⟨hk.1.1.1.1, ⟨hk.1.2, hk.2⟩⟩⟩⟩)⟩, ⟨by (with_reducible repeat (first | apply Kd.R_alloc | apply Kd.R_drewN | apply Kd.R_drew)); exact Kd.R_mono HO166.out (fun _ hk => ⟨hk.1.1.1.2, ⟨hk.1.1.2, ⟨hk.1.2, ⟨hk.2, hk.1.1.1.1⟩⟩⟩⟩)⟩, ⟨by (with_reducible repeat (first | apply Kd.R_alloc | apply Kd.R_drewN | apply Kd.R_drew)); exact Kd.R_mono HO169.out (fun _ hk => ⟨hk.1.1.1.2, ⟨hk.1.1.2, ⟨hk.1.2, ⟨hk.2, hk.1.1.1.1⟩⟩⟩⟩)⟩, ⟨by (with_reducible repeat (first | refine blk_drewN ?_ _ | refine blk_drew ?_ | refine blk_alloc ?_ _)); exact BK154.out⟩, ⟨by (with_reducible repeat (first | refine blk_drewN ?_ _ | refine blk_drew ?_ | refine blk_alloc ?_ _)); exact BK163.out⟩, ⟨by (with_reducible repeat (first | refine blk_drewN ?_ _ | refine blk_drew ?_ | refine blk_alloc ?_ _)); exact BK171.out⟩, ⟨by repeat (first | (with_reducible first | exact HB.out | apply below_alloc | apply pw_below_drewN | apply below_drew1 | refine below_set ?_ GE154.out | refine below_set ?_ GE163.out | refine below_set ?_ GE171.out) | exact HB.out)⟩⟩
                    · rw [if_neg c47] at H
                      have c47b0 : (t170 == 0) = false := beq_eq_false_iff_ne.mpr c47
                      have c47b1 : (t170 != 0) = true := bne_iff_ne.mpr c47
                      have H' := Aside0.mk H
                      clear H
                      have hnb56 := NB163_154.out
                      have hnc56 := NB154_163.out
                      have hnb57 := NB163_171.out
                      have hnc57 := NB171_163.out
                      have hcz58_0 : w34.cell? ⟨gb163, 0, none⟩ = some (.slice Ao29 t156.length co29) := (blk_cell BK163.out 0).trans rfl
                      have hcz58_1 : w34.cell? ⟨gb163, 1, none⟩ = some (.slice Ao32 t159.length co32) := (blk_cell BK163.out 1).trans rfl
                      have hfz58_0 := blk_frozen BK163.out 0
                      have hfz58_1 := blk_frozen BK163.out 1
                      go_wp2_with (first | (go_at_call 12; (with_reducible refine (cadastreref08_In.calls kj12 _ _ l0 _ _ t156 _ _ t159 false _ ?side1 ?side2 ?side3 ?side4 ?side5 ?side6 A41.out).mono ?_); (case side1 => exact Kd.C_below HR0.out (by repeat (first | (with_reducible first | exact HB.out | apply below_alloc | apply pw_below_drewN | apply below_drew1 | refine below_set ?_ GE154.out | refine below_set ?_ GE163.out | refine below_set ?_ GE171.out) | exact HB.out))); (case side2 => exact HC0.out); (case side3 => refine (Kd.R_reads' (e := 38) (base := w.heap.size) (ok := fun k_ => ((((some k_ ≠ (.slice Ao32 t159.length co32 : Value).ownBlock ∧ some k_ ≠ (.slice Ao16 t147.length co16 : Value).ownBlock) ∧ some k_ ≠ (.slice Ao18 t150.length co18 : Value).ownBlock) ∧ some k_ ≠ (.slice Ao35 t164.length co35 : Value).ownBlock) ∧ some k_ ≠ (.slice Ao39 t167.length co39 : Value).ownBlock)) (n := t156.length) (c := co29) ?_).2.2; exact (by (with_reducible repeat (first | apply Kd.R_alloc | apply Kd.R_drewN | apply Kd.R_drew)); exact (Kd.R_mono (Kd.R_far (p := ⟨gb171, 1, none⟩) (Kd.R_far (p := ⟨gb171, 0, none⟩) (Kd.R_types HO158.out BK171.out (by decide)) (fun _ hk => hk.2) (.slice Ao35 t164.length co35)) (fun _ hk => hk.2) (.slice Ao39 t167.length co39)) (fun _ h_ => h_.1)))); (case side4 => exact (Kd.R_reads' HO158.out).2.1); (case side5 => refine (Kd.R_reads' (e := 38) (base := w.heap.size) (ok := fun k_ => ((((some k_ ≠ (.slice Ao29 t156.length co29 : Value).ownBlock ∧ some k_ ≠ (.slice Ao16 t147.length co16 : Value).ownBlock) ∧ some k_ ≠ (.slice Ao18 t150.length co18 : Value).ownBlock) ∧ some k_ ≠ (.slice Ao35 t164.length co35 : Value).ownBlock) ∧ some k_ ≠ (.slice Ao39 t167.length co39 : Value).ownBlock)) (n := t159.length) (c := co32) ?_).2.2; exact (by (with_reducible repeat (first | apply Kd.R_alloc | apply Kd.R_drewN | apply Kd.R_drew)); exact (Kd.R_mono (Kd.R_far (p := ⟨gb171, 1, none⟩) (Kd.R_far (p := ⟨gb171, 0, none⟩) (Kd.R_types HO161.out BK171.out (by decide)) (fun _ hk => hk.2) (.slice Ao35 t164.length co35)) (fun _ hk => hk.2) (.slice Ao39 t167.length co39)) (fun _ h_ => h_.1)))); (case side6 => exact (Kd.R_reads' HO161.out).2.1); rintro e w59 ⟨rfl, hb⟩; have n0_ := Aside0.mk (Kd.R_below (by (with_reducible repeat (first | apply Kd.R_alloc | apply Kd.R_drewN | apply Kd.R_drew)); exact (Kd.R_mono (Kd.R_far (p := ⟨gb171, 1, none⟩) (Kd.R_far (p := ⟨gb171, 0, none⟩) (Kd.R_types HO_155000.out BK171.out (by decide)) (fun _ hk => hk.2) (.slice Ao35 t164.length co35)) (fun _ hk => hk.2) (.slice Ao39 t167.length co39)) (fun _ h_ => h_.1))) hb); have n1_ := Aside0.mk (Kd.R_below (by (with_reducible repeat (first | apply Kd.R_alloc | apply Kd.R_drewN | apply Kd.R_drew)); exact (Kd.R_mono (Kd.R_far (p := ⟨gb171, 1, none⟩) (Kd.R_far (p := ⟨gb171, 0, none⟩) (Kd.R_types HO_155001.out BK171.out (by decide)) (fun _ hk => hk.2) (.slice Ao35 t164.length co35)) (fun _ hk => hk.2) (.slice Ao39 t167.length co39)) (fun _ h_ => h_.1))) hb); have n2_ := Aside0.mk (Kd.R_below (by (with_reducible repeat (first | apply Kd.R_alloc | apply Kd.R_drewN | apply Kd.R_drew)); exact (Kd.R_mono (Kd.R_far (p := ⟨gb171, 1, none⟩) (Kd.R_far (p := ⟨gb171, 0, none⟩) (Kd.R_types HO158.out BK171.out (by decide)) (fun _ hk => hk.2) (.slice Ao35 t164.length co35)) (fun _ hk => hk.2) (.slice Ao39 t167.length co39)) (fun _ h_ => h_.1))) hb); have n3_ := Aside0.mk (Kd.R_below (by (with_reducible repeat (first | apply Kd.R_alloc | apply Kd.R_drewN | apply Kd.R_drew)); exact (Kd.R_mono (Kd.R_far (p := ⟨gb171, 1, none⟩) (Kd.R_far (p := ⟨gb171, 0, none⟩) (Kd.R_types HO161.out BK171.out (by decide)) (fun _ hk => hk.2) (.slice Ao35 t164.length co35)) (fun _ hk => hk.2) (.slice Ao39 t167.length co39)) (fun _ h_ => h_.1))) hb); have n4_ := Aside0.mk (Kd.R_below (by (with_reducible repeat (first | apply Kd.R_alloc | apply Kd.R_drewN | apply Kd.R_drew)); exact (Kd.R_mono (Kd.R_far (p := ⟨gb171, 1, none⟩) (Kd.R_far (p := ⟨gb171, 0, none⟩) (Kd.R_types HO166.out BK171.out (by decide)) (fun _ hk => hk.2) (.slice Ao35 t164.length co35)) (fun _ hk => hk.2) (.slice Ao39 t167.length co39)) (fun _ h_ => h_.1))) hb); have n5_ := Aside0.mk (Kd.R_below (by (with_reducible repeat (first | apply Kd.R_alloc | apply Kd.R_drewN | apply Kd.R_drew)); exact (Kd.R_mono (Kd.R_far (p := ⟨gb171, 1, none⟩) (Kd.R_far (p := ⟨gb171, 0, none⟩) (Kd.R_types HO169.out BK171.out (by decide)) (fun _ hk => hk.2) (.slice Ao35 t164.length co35)) (fun _ hk => hk.2) (.slice Ao39 t167.length co39)) (fun _ h_ => h_.1))) hb); have n6_ := Aside0.mk (blk_below (g := gb154) (o := .cells #[.slice Ao16 t147.length co16, .slice Ao18 t150.length co18] 33 (0, 0)) (by (with_reducible repeat (first | refine blk_drewN ?_ _ | refine blk_drew ?_ | refine blk_alloc ?_ _)); refine blk_far ?_ NB154_171.out _; (with_reducible repeat (first | refine blk_drewN ?_ _ | refine blk_drew ?_ | refine blk_alloc ?_ _)); refine blk_far ?_ NB154_171.out _; (with_reducible repeat (first | refine blk_drewN ?_ _ | refine blk_drew ?_ | refine blk_alloc ?_ _)); exact BK154.out) hb); have n7_ := Aside0.mk (blk_below (g := gb163) (o := .cells #[.slice Ao29 t156.length co29, .slice Ao32 t159.length co32] 33 (0, 0)) (by (with_reducible repeat (first | refine blk_drewN ?_ _ | refine blk_drew ?_ | refine blk_alloc ?_ _)); refine blk_far ?_ NB163_171.out _; (with_reducible repeat (first | refine blk_drewN ?_ _ | refine blk_drew ?_ | refine blk_alloc ?_ _)); refine blk_far ?_ NB163_171.out _; (with_reducible repeat (first | refine blk_drewN ?_ _ | refine blk_drew ?_ | refine blk_alloc ?_ _)); exact BK163.out) hb); have n8_ := Aside0.mk (blk_below (g := gb171) (o := .cells #[.slice Ao35 t164.length co35, .slice Ao39 t167.length co39] 33 (0, 0)) (by (with_reducible repeat (first | refine blk_drewN ?_ _ | refine blk_drew ?_ | refine blk_alloc ?_ _)); refine blk_put (cs := #[.slice Ao35 t164.length co35, .slice none 0 0]) ?_ 1 _ rfl; (with_reducible repeat (first | refine blk_drewN ?_ _ | refine blk_drew ?_ | refine blk_alloc ?_ _)); refine blk_put (cs := #[.slice none 0 0, .slice none 0 0]) ?_ 0 _ rfl; (with_reducible repeat (first | refine blk_drewN ?_ _ | refine blk_drew ?_ | refine blk_alloc ?_ _)); exact BK171.out) hb); have n9_ := Aside0.mk (below_step (by repeat (first | (with_reducible first | exact HB.out | apply below_alloc | apply pw_below_drewN | apply below_drew1 | refine below_set ?_ GE154.out | refine below_set ?_ GE163.out | refine below_set ?_ GE171.out) | exact HB.out)) hb); clear HO_155000; clear HO_155001; clear HO158; clear HO161; clear HO166; clear HO169; clear BK154; clear BK163; clear BK171; clear HB; have HO_155000 := n0_; have HO_155001 := n1_; have HO158 := n2_; have HO161 := n3_; have HO166 := n4_; have HO169 := n5_; have BK154 := n6_; have BK163 := n7_; have BK171 := n8_; have HB := n9_; clear n0_ n1_ n2_ n3_ n4_ n5_ n6_ n7_ n8_ n9_; (try clear hb); (try clear hb2); (try clear hk); (try clear hi)))
                      go_meet
                      case rel => exact ⟨_, (false), (by first | rfl | (simp; done) | (simp [*]; done)), H', ⟨by have := HJ4.out; have := HJ12.out; first | omega | exact Nat.le_refl _⟩, ⟨by (with_reducible repeat (first | apply Kd.R_alloc | apply Kd.R_drewN | apply Kd.R_drew)); exact Kd.R_mono HO_155000.out (fun _ hk => ⟨hk.1.1.1.1, ⟨hk.1.1.1.2, ⟨hk.1.1.2, ⟨hk.1.2, hk.2⟩⟩⟩⟩)⟩, ⟨by (with_reducible repeat (first | apply Kd.R_alloc | apply Kd.R_drewN | apply Kd.R_drew)); exact Kd.R_mono HO_155001.out (fun _ hk => ⟨hk.1.1.1.1, ⟨hk.1.1.1.2, ⟨hk.1.1.2, ⟨hk.1.2, hk.2⟩⟩⟩⟩)⟩, ⟨by (with_reducible repeat (first | apply Kd.R_alloc | apply Kd.R_drewN | apply Kd.R_drew)); exact Kd.R_mono HO158.out (fun _ hk => ⟨hk.1.1.1.2, ⟨hk.1.1.2, ⟨hk.1.1.1.1, ⟨hk.1.2, hk.2⟩⟩⟩⟩)⟩, ⟨by (with_reducible repeat (first | apply Kd.R_alloc | apply Kd.R_drewN | apply Kd.R_drew)); exact Kd.R_mono HO161.out (fun _ hk => ⟨hk.1.1.1.2, ⟨hk.1.1.2, ⟨hk.1.1.1.1, ⟨hk.1.2, hk.2⟩⟩⟩⟩)⟩, ⟨by (with_reducible repeat (first | apply Kd.R_alloc | apply Kd.R_drewN | apply Kd.R_drew)); exact Kd.R_mono HO166.out (fun _ hk => ⟨hk.1.1.1.2, ⟨hk.1.1.2, ⟨hk.1.2, ⟨hk.2, hk.1.1.1.1⟩⟩⟩⟩)⟩, ⟨by (with_reducible repeat (first | apply Kd.R_alloc | apply Kd.R_drewN | apply Kd.R_drew)); exact Kd.R_mono HO169.out (fun _ hk => ⟨hk.1.1.1.2, ⟨hk.1.1.2, ⟨hk.1.2, ⟨hk.2, hk.1.1.1.1⟩⟩⟩⟩)⟩, ⟨by (with_reducible repeat (first | refine blk_drewN ?_ _ | refine blk_drew ?_ | refine blk_alloc ?_ _)); exact BK154.out⟩, ⟨by (with_reducible repeat (first | refine blk_drewN ?_ _ | refine blk_drew ?_ | refine blk_alloc ?_ _)); exact BK163.out⟩, ⟨by (with_reducible repeat (first | refine blk_drewN ?_ _ | refine blk_drew ?_ | refine blk_alloc ?_ _)); exact BK171.out⟩, ⟨by repeat (first | (with_reducible first | exact HB.out | apply below_alloc | apply pw_below_drewN | apply below_drew1 | refine below_set ?_ GE154.out | refine below_set ?_ GE163.out | refine below_set ?_ GE171.out) | exact HB.out)⟩⟩
                · rw [if_neg c40] at H
                  have c40b0 : (t162 == 0) = false := beq_eq_false_iff_ne.mpr c40
                  have c40b1 : (t162 != 0) = true := bne_iff_ne.mpr c40
                  (first | rw [c40b0] | (simp only [i64_w, i32_w]; rw [c40b0]) | skip)
                  by_cases c60 : t170 = 0
                  · rw [if_pos c60] at H
                    have c60b0 : (t170 == 0) = true := beq_iff_eq.mpr c60
                    have c60b1 : (t170 != 0) = false := bne_eq_false_iff_eq.mpr c60
                    clear c60
                    replace H := Option.bind_eq_some_iff.mp H
                    obtain ⟨t174, A610, H⟩ := H
                    replace H : (cadastrelaw18_LinearHolds.j2 kj12 l0 a1 a2 t144 t174) = some r := H
                    have A61 := Aside0.mk A610
                    clear A610
                    have H' := Aside0.mk H
                    clear H
                    have hnb62 := NB171_154.out
                    have hnc62 := NB154_171.out
                    have hnb63 := NB171_163.out
                    have hnc63 := NB163_171.out
                    have hcz64_0 : w34.cell? ⟨gb171, 0, none⟩ = some (.slice none 0 0) := (blk_cell BK171.out 0).trans rfl
                    have hcz64_1 : w34.cell? ⟨gb171, 1, none⟩ = some (.slice none 0 0) := (blk_cell BK171.out 1).trans rfl
                    have hfz64_0 := blk_frozen BK171.out 0
                    have hfz64_1 := blk_frozen BK171.out 1
                    go_wp2_with (first | (go_at_call 12; (with_reducible refine (cadastreref08_In.calls kj12 _ _ l0 _ _ t164 _ _ t167 t174 _ ?side1 ?side2 ?side3 ?side4 ?side5 ?side6 A61.out).mono ?_); (case side1 => exact Kd.C_below HR0.out (by repeat (first | (with_reducible first | exact HB.out | apply below_alloc | apply pw_below_drewN | apply below_drew1 | refine below_set ?_ GE154.out | refine below_set ?_ GE163.out | refine below_set ?_ GE171.out) | exact HB.out))); (case side2 => exact HC0.out); (case side3 => refine (Kd.R_reads' (e := 38) (base := w.heap.size) (ok := fun k_ => ((((some k_ ≠ (.slice Ao39 t167.length co39 : Value).ownBlock ∧ some k_ ≠ (.slice Ao16 t147.length co16 : Value).ownBlock) ∧ some k_ ≠ (.slice Ao18 t150.length co18 : Value).ownBlock) ∧ some k_ ≠ (.slice Ao29 t156.length co29 : Value).ownBlock) ∧ some k_ ≠ (.slice Ao32 t159.length co32 : Value).ownBlock)) (n := t164.length) (c := co35) ?_).2.2; exact (by (with_reducible repeat (first | apply Kd.R_alloc | apply Kd.R_drewN | apply Kd.R_drew)); exact (Kd.R_mono (Kd.R_far (p := ⟨gb171, 1, none⟩) (Kd.R_far (p := ⟨gb171, 0, none⟩) (Kd.R_types HO166.out BK171.out (by decide)) (fun _ hk => hk.2) (.slice Ao35 t164.length co35)) (fun _ hk => hk.2) (.slice Ao39 t167.length co39)) (fun _ h_ => h_.1)))); (case side4 => exact (Kd.R_reads' HO166.out).2.1); (case side5 => refine (Kd.R_reads' (e := 38) (base := w.heap.size) (ok := fun k_ => ((((some k_ ≠ (.slice Ao35 t164.length co35 : Value).ownBlock ∧ some k_ ≠ (.slice Ao16 t147.length co16 : Value).ownBlock) ∧ some k_ ≠ (.slice Ao18 t150.length co18 : Value).ownBlock) ∧ some k_ ≠ (.slice Ao29 t156.length co29 : Value).ownBlock) ∧ some k_ ≠ (.slice Ao32 t159.length co32 : Value).ownBlock)) (n := t167.length) (c := co39) ?_).2.2; exact (by (with_reducible repeat (first | apply Kd.R_alloc | apply Kd.R_drewN | apply Kd.R_drew)); exact (Kd.R_mono (Kd.R_far (p := ⟨gb171, 1, none⟩) (Kd.R_far (p := ⟨gb171, 0, none⟩) (Kd.R_types HO169.out BK171.out (by decide)) (fun _ hk => hk.2) (.slice Ao35 t164.length co35)) (fun _ hk => hk.2) (.slice Ao39 t167.length co39)) (fun _ h_ => h_.1)))); (case side6 => exact (Kd.R_reads' HO169.out).2.1); rintro e w65 ⟨rfl, hb⟩; have n0_ := Aside0.mk (Kd.R_below (by (with_reducible repeat (first | apply Kd.R_alloc | apply Kd.R_drewN | apply Kd.R_drew)); exact (Kd.R_mono (Kd.R_far (p := ⟨gb171, 1, none⟩) (Kd.R_far (p := ⟨gb171, 0, none⟩) (Kd.R_types HO_155000.out BK171.out (by decide)) (fun _ hk => hk.2) (.slice Ao35 t164.length co35)) (fun _ hk => hk.2) (.slice Ao39 t167.length co39)) (fun _ h_ => h_.1))) hb); have n1_ := Aside0.mk (Kd.R_below (by (with_reducible repeat (first | apply Kd.R_alloc | apply Kd.R_drewN | apply Kd.R_drew)); exact (Kd.R_mono (Kd.R_far (p := ⟨gb171, 1, none⟩) (Kd.R_far (p := ⟨gb171, 0, none⟩) (Kd.R_types HO_155001.out BK171.out (by decide)) (fun _ hk => hk.2) (.slice Ao35 t164.length co35)) (fun _ hk => hk.2) (.slice Ao39 t167.length co39)) (fun _ h_ => h_.1))) hb); have n2_ := Aside0.mk (Kd.R_below (by (with_reducible repeat (first | apply Kd.R_alloc | apply Kd.R_drewN | apply Kd.R_drew)); exact (Kd.R_mono (Kd.R_far (p := ⟨gb171, 1, none⟩) (Kd.R_far (p := ⟨gb171, 0, none⟩) (Kd.R_types HO158.out BK171.out (by decide)) (fun _ hk => hk.2) (.slice Ao35 t164.length co35)) (fun _ hk => hk.2) (.slice Ao39 t167.length co39)) (fun _ h_ => h_.1))) hb); have n3_ := Aside0.mk (Kd.R_below (by (with_reducible repeat (first | apply Kd.R_alloc | apply Kd.R_drewN | apply Kd.R_drew)); exact (Kd.R_mono (Kd.R_far (p := ⟨gb171, 1, none⟩) (Kd.R_far (p := ⟨gb171, 0, none⟩) (Kd.R_types HO161.out BK171.out (by decide)) (fun _ hk => hk.2) (.slice Ao35 t164.length co35)) (fun _ hk => hk.2) (.slice Ao39 t167.length co39)) (fun _ h_ => h_.1))) hb); have n4_ := Aside0.mk (Kd.R_below (by (with_reducible repeat (first | apply Kd.R_alloc | apply Kd.R_drewN | apply Kd.R_drew)); exact (Kd.R_mono (Kd.R_far (p := ⟨gb171, 1, none⟩) (Kd.R_far (p := ⟨gb171, 0, none⟩) (Kd.R_types HO166.out BK171.out (by decide)) (fun _ hk => hk.2) (.slice Ao35 t164.length co35)) (fun _ hk => hk.2) (.slice Ao39 t167.length co39)) (fun _ h_ => h_.1))) hb); have n5_ := Aside0.mk (Kd.R_below (by (with_reducible repeat (first | apply Kd.R_alloc | apply Kd.R_drewN | apply Kd.R_drew)); exact (Kd.R_mono (Kd.R_far (p := ⟨gb171, 1, none⟩) (Kd.R_far (p := ⟨gb171, 0, none⟩) (Kd.R_types HO169.out BK171.out (by decide)) (fun _ hk => hk.2) (.slice Ao35 t164.length co35)) (fun _ hk => hk.2) (.slice Ao39 t167.length co39)) (fun _ h_ => h_.1))) hb); have n6_ := Aside0.mk (blk_below (g := gb154) (o := .cells #[.slice Ao16 t147.length co16, .slice Ao18 t150.length co18] 33 (0, 0)) (by (with_reducible repeat (first | refine blk_drewN ?_ _ | refine blk_drew ?_ | refine blk_alloc ?_ _)); refine blk_far ?_ NB154_171.out _; (with_reducible repeat (first | refine blk_drewN ?_ _ | refine blk_drew ?_ | refine blk_alloc ?_ _)); refine blk_far ?_ NB154_171.out _; (with_reducible repeat (first | refine blk_drewN ?_ _ | refine blk_drew ?_ | refine blk_alloc ?_ _)); exact BK154.out) hb); have n7_ := Aside0.mk (blk_below (g := gb163) (o := .cells #[.slice Ao29 t156.length co29, .slice Ao32 t159.length co32] 33 (0, 0)) (by (with_reducible repeat (first | refine blk_drewN ?_ _ | refine blk_drew ?_ | refine blk_alloc ?_ _)); refine blk_far ?_ NB163_171.out _; (with_reducible repeat (first | refine blk_drewN ?_ _ | refine blk_drew ?_ | refine blk_alloc ?_ _)); refine blk_far ?_ NB163_171.out _; (with_reducible repeat (first | refine blk_drewN ?_ _ | refine blk_drew ?_ | refine blk_alloc ?_ _)); exact BK163.out) hb); have n8_ := Aside0.mk (blk_below (g := gb171) (o := .cells #[.slice Ao35 t164.length co35, .slice Ao39 t167.length co39] 33 (0, 0)) (by (with_reducible repeat (first | refine blk_drewN ?_ _ | refine blk_drew ?_ | refine blk_alloc ?_ _)); refine blk_put (cs := #[.slice Ao35 t164.length co35, .slice none 0 0]) ?_ 1 _ rfl; (with_reducible repeat (first | refine blk_drewN ?_ _ | refine blk_drew ?_ | refine blk_alloc ?_ _)); refine blk_put (cs := #[.slice none 0 0, .slice none 0 0]) ?_ 0 _ rfl; (with_reducible repeat (first | refine blk_drewN ?_ _ | refine blk_drew ?_ | refine blk_alloc ?_ _)); exact BK171.out) hb); have n9_ := Aside0.mk (below_step (by repeat (first | (with_reducible first | exact HB.out | apply below_alloc | apply pw_below_drewN | apply below_drew1 | refine below_set ?_ GE154.out | refine below_set ?_ GE163.out | refine below_set ?_ GE171.out) | exact HB.out)) hb); clear HO_155000; clear HO_155001; clear HO158; clear HO161; clear HO166; clear HO169; clear BK154; clear BK163; clear BK171; clear HB; have HO_155000 := n0_; have HO_155001 := n1_; have HO158 := n2_; have HO161 := n3_; have HO166 := n4_; have HO169 := n5_; have BK154 := n6_; have BK163 := n7_; have BK171 := n8_; have HB := n9_; clear n0_ n1_ n2_ n3_ n4_ n5_ n6_ n7_ n8_ n9_; (try clear hb); (try clear hb2); (try clear hk); (try clear hi)))
                    go_meet
                    case rel => exact ⟨_, (t174), (by first | rfl | (simp; done) | (simp [*]; done)), H', ⟨by have := HJ4.out; have := HJ12.out; first | omega | exact Nat.le_refl _⟩, ⟨by (with_reducible repeat (first | apply Kd.R_alloc | apply Kd.R_drewN | apply Kd.R_drew)); exact Kd.R_mono HO_155000.out (fun _ hk => ⟨hk.1.1.1.1, ⟨hk.1.1.1.2, ⟨hk.1.1.2, ⟨hk.1.2, hk.2⟩⟩⟩⟩)⟩, ⟨by (with_reducible repeat (first | apply Kd.R_alloc | apply Kd.R_drewN | apply Kd.R_drew)); exact Kd.R_mono HO_155001.out (fun _ hk => ⟨hk.1.1.1.1, ⟨hk.1.1.1.2, ⟨hk.1.1.2, ⟨hk.1.2, hk.2⟩⟩⟩⟩)⟩, ⟨by (with_reducible repeat (first | apply Kd.R_alloc | apply Kd.R_drewN | apply Kd.R_drew)); exact Kd.R_mono HO158.out (fun _ hk => ⟨hk.1.1.1.2, ⟨hk.1.1.2, ⟨hk.1.1.1.1, ⟨hk.1.2, hk.2⟩⟩⟩⟩)⟩, ⟨by (with_reducible repeat (first | apply Kd.R_alloc | apply Kd.R_drewN | apply Kd.R_drew)); exact Kd.R_mono HO161.out (fun _ hk => ⟨hk.1.1.1.2, ⟨hk.1.1.2, ⟨hk.1.1.1.1, ⟨hk.1.2, hk.2⟩⟩⟩⟩)⟩, ⟨by (with_reducible repeat (first | apply Kd.R_alloc | apply Kd.R_drewN | apply Kd.R_drew)); exact Kd.R_mono HO166.out (fun _ hk => ⟨hk.1.1.1.2, ⟨hk.1.1.2, ⟨hk.1.2, ⟨hk.2, hk.1.1.1.1⟩⟩⟩⟩)⟩, ⟨by (with_reducible repeat (first | apply Kd.R_alloc | apply Kd.R_drewN | apply Kd.R_drew)); exact Kd.R_mono HO169.out (fun _ hk => ⟨hk.1.1.1.2, ⟨hk.1.1.2, ⟨hk.1.2, ⟨hk.2, hk.1.1.1.1⟩⟩⟩⟩)⟩, ⟨by (with_reducible repeat (first | refine blk_drewN ?_ _ | refine blk_drew ?_ | refine blk_alloc ?_ _)); exact BK154.out⟩, ⟨by (with_reducible repeat (first | refine blk_drewN ?_ _ | refine blk_drew ?_ | refine blk_alloc ?_ _)); exact BK163.out⟩, ⟨by (with_reducible repeat (first | refine blk_drewN ?_ _ | refine blk_drew ?_ | refine blk_alloc ?_ _)); exact BK171.out⟩, ⟨by repeat (first | (with_reducible first | exact HB.out | apply below_alloc | apply pw_below_drewN | apply below_drew1 | refine below_set ?_ GE154.out | refine below_set ?_ GE163.out | refine below_set ?_ GE171.out) | exact HB.out)⟩⟩
                  · rw [if_neg c60] at H
                    have c60b0 : (t170 == 0) = false := beq_eq_false_iff_ne.mpr c60
                    have c60b1 : (t170 != 0) = true := bne_iff_ne.mpr c60
                    have H' := Aside0.mk H
                    clear H
                    go_wp2
                    go_meet
                    case rel => exact ⟨_, (false), (by first | rfl | (simp; done) | (simp [*]; done)), H', ⟨by have := HJ4.out; have := HJ12.out; first | omega | exact Nat.le_refl _⟩, ⟨by (with_reducible repeat (first | apply Kd.R_alloc | apply Kd.R_drewN | apply Kd.R_drew)); exact Kd.R_mono (Kd.R_far (p := ⟨gb171, 1, none⟩) (Kd.R_far (p := ⟨gb171, 0, none⟩) (Kd.R_types HO_155000.out BK171.out (by decide)) (fun _ hk => hk.2) (.slice Ao35 t164.length co35)) (fun _ hk => hk.2) (.slice Ao39 t167.length co39)) (fun _ hk => ⟨hk.1.1.1.1.1, ⟨hk.1.1.1.1.2, ⟨hk.1.1.1.2, ⟨hk.1.1.2, hk.1.2⟩⟩⟩⟩)⟩, ⟨by (with_reducible repeat (first | apply Kd.R_alloc | apply Kd.R_drewN | apply Kd.R_drew)); exact Kd.R_mono (Kd.R_far (p := ⟨gb171, 1, none⟩) (Kd.R_far (p := ⟨gb171, 0, none⟩) (Kd.R_types HO_155001.out BK171.out (by decide)) (fun _ hk => hk.2) (.slice Ao35 t164.length co35)) (fun _ hk => hk.2) (.slice Ao39 t167.length co39)) (fun _ hk => ⟨hk.1.1.1.1.1, ⟨hk.1.1.1.1.2, ⟨hk.1.1.1.2, ⟨hk.1.1.2, hk.1.2⟩⟩⟩⟩)⟩, ⟨by (with_reducible repeat (first | apply Kd.R_alloc | apply Kd.R_drewN | apply Kd.R_drew)); exact Kd.R_mono (Kd.R_far (p := ⟨gb171, 1, none⟩) (Kd.R_far (p := ⟨gb171, 0, none⟩) (Kd.R_types HO158.out BK171.out (by decide)) (fun _ hk => hk.2) (.slice Ao35 t164.length co35)) (fun _ hk => hk.2) (.slice Ao39 t167.length co39)) (fun _ hk => ⟨hk.1.1.1.1.2, ⟨hk.1.1.1.2, ⟨hk.1.1.1.1.1, ⟨hk.1.1.2, hk.1.2⟩⟩⟩⟩)⟩, ⟨by (with_reducible repeat (first | apply Kd.R_alloc | apply Kd.R_drewN | apply Kd.R_drew)); exact Kd.R_mono (Kd.R_far (p := ⟨gb171, 1, none⟩) (Kd.R_far (p := ⟨gb171, 0, none⟩) (Kd.R_types HO161.out BK171.out (by decide)) (fun _ hk => hk.2) (.slice Ao35 t164.length co35)) (fun _ hk => hk.2) (.slice Ao39 t167.length co39)) (fun _ hk => ⟨hk.1.1.1.1.2, ⟨hk.1.1.1.2, ⟨hk.1.1.1.1.1, ⟨hk.1.1.2, hk.1.2⟩⟩⟩⟩)⟩, ⟨by (with_reducible repeat (first | apply Kd.R_alloc | apply Kd.R_drewN | apply Kd.R_drew)); exact Kd.R_mono (Kd.R_far (p := ⟨gb171, 1, none⟩) (Kd.R_far (p := ⟨gb171, 0, none⟩) (Kd.R_types HO166.out BK171.out (by decide)) (fun _ hk => hk.2) (.slice Ao35 t164.length co35)) (fun _ hk => hk.2) (.slice Ao39 t167.length co39)) (fun _ hk => ⟨hk.1.1.1.1.2, ⟨hk.1.1.1.2, ⟨hk.1.1.2, ⟨hk.1.2, hk.1.1.1.1.1⟩⟩⟩⟩)⟩, ⟨by (with_reducible repeat (first | apply Kd.R_alloc | apply Kd.R_drewN | apply Kd.R_drew)); exact Kd.R_mono (Kd.R_far (p := ⟨gb171, 1, none⟩) (Kd.R_far (p := ⟨gb171, 0, none⟩) (Kd.R_types HO169.out BK171.out (by decide)) (fun _ hk => hk.2) (.slice Ao35 t164.length co35)) (fun _ hk => hk.2) (.slice Ao39 t167.length co39)) (fun _ hk => ⟨hk.1.1.1.1.2, ⟨hk.1.1.1.2, ⟨hk.1.1.2, ⟨hk.1.2, hk.1.1.1.1.1⟩⟩⟩⟩)⟩, ⟨by (with_reducible repeat (first | refine blk_drewN ?_ _ | refine blk_drew ?_ | refine blk_alloc ?_ _)); refine blk_far ?_ NB154_171.out _; (with_reducible repeat (first | refine blk_drewN ?_ _ | refine blk_drew ?_ | refine blk_alloc ?_ _)); refine blk_far ?_ NB154_171.out _; (with_reducible repeat (first | refine blk_drewN ?_ _ | refine blk_drew ?_ | refine blk_alloc ?_ _)); exact BK154.out⟩, ⟨by (with_reducible repeat (first | refine blk_drewN ?_ _ | refine blk_drew ?_ | refine blk_alloc ?_ _)); refine blk_far ?_ NB163_171.out _; (with_reducible repeat (first | refine blk_drewN ?_ _ | refine blk_drew ?_ | refine blk_alloc ?_ _)); refine blk_far ?_ NB163_171.out _; (with_reducible repeat (first | refine blk_drewN ?_ _ | refine blk_drew ?_ | refine blk_alloc ?_ _)); exact BK163.out⟩, ⟨by (with_reducible repeat (first | refine blk_drewN ?_ _ | refine blk_drew ?_ | refine blk_alloc ?_ _)); refine blk_put (cs := #[.slice Ao35 t164.length co35, .slice none 0 0]) ?_ 1 _ rfl; (with_reducible repeat (first | refine blk_drewN ?_ _ | refine blk_drew ?_ | refine blk_alloc ?_ _)); refine blk_put (cs := #[.slice none 0 0, .slice none 0 0]) ?_ 0 _ rfl; (with_reducible repeat (first | refine blk_drewN ?_ _ | refine blk_drew ?_ | refine blk_alloc ?_ _)); exact BK171.out⟩, ⟨by repeat (first | (with_reducible first | exact HB.out | apply below_alloc | apply pw_below_drewN | apply below_drew1 | refine below_set ?_ GE154.out | refine below_set ?_ GE163.out | refine below_set ?_ GE171.out) | exact HB.out)⟩⟩
              case rest =>
                clear HC26
                try clear c1
                try clear c2
                try clear p2
                try clear c3
                try clear c4
                try clear c5
                try clear c6
                try clear p6
                try clear c7
                try clear c7b0
                try clear c7b1
                try clear c8
                try clear c8b0
                try clear c9
                try clear c10
                try clear c11
                try clear c19
                try clear c19b0
                try clear c19b1
                try clear c23
                try clear c30
                try clear c36
                try clear c37
                try clear c40
                try clear c40b0
                try clear c40b1
                try clear c42
                try clear c43
                try clear c44
                try clear c47
                try clear c47b0
                try clear c47b1
                try clear c49
                try clear c50
                try clear c53
                try clear c56
                try clear c57
                try clear c60
                try clear c60b0
                try clear c60b1
                try clear c62
                try clear c63
                try clear p64
                try clear hcz17_0
                try clear hcz17_1
                try clear hcz21_0
                try clear hcz21_1
                try clear hcz31_0
                try clear hcz31_1
                try clear hcz38_0
                try clear hcz38_1
                try clear hcz45_0
                try clear hcz45_1
                try clear hcz51_0
                try clear hcz51_1
                try clear hcz54_0
                try clear hcz54_1
                try clear hcz58_0
                try clear hcz58_1
                try clear hcz64_0
                try clear hcz64_1
                try clear hfz17_0
                try clear hfz17_1
                try clear hfz21_0
                try clear hfz21_1
                try clear hfz31_0
                try clear hfz31_1
                try clear hfz38_0
                try clear hfz38_1
                try clear hfz45_0
                try clear hfz45_1
                try clear hfz51_0
                try clear hfz51_1
                try clear hfz54_0
                try clear hfz54_1
                try clear hfz58_0
                try clear hfz58_1
                try clear hfz64_0
                try clear hfz64_1
                try clear p2
                obtain ⟨kq, x92_25, rfl, HA, HJ25, HO_155000, HO_155001, HO_164000, HO_164001, HO_172000, HO_172001, BK154, BK163, BK171, HB⟩ := hcut
                cases kq with
                | zero => exact absurd HA.out (by simp [cadastrelaw18_LinearHolds.j2])
                | succ kj25 =>
                  have H := HA.out
                  clear HA
                  simp only [cadastrelaw18_LinearHolds.j2] at H
                  by_cases c66 : x92_25 = true
                  · subst c66
                    have H1 : (some false) = some r := by rw [if_pos rfl] at H; exact H
                    clear H
                    have H := H1
                    clear H1
                    obtain rfl := Option.some.inj H
                    go_wp2
                    go_ret
                    exact ⟨by first | rfl | (simp [errW_none, errW_some] <;> rfl) | (simp [*, errW_none, errW_some] <;> rfl), by repeat (first | (with_reducible first | exact HB.out | apply below_alloc | apply pw_below_drewN | apply below_drew1 | refine below_set ?_ GE154.out | refine below_set ?_ GE163.out | refine below_set ?_ GE171.out) | exact HB.out)⟩
                  · replace c66 := Bool.eq_false_iff.mpr c66
                    subst c66
                    have H1 : ((linear_Grow.f a1 a2).bind fun bt175 => ((linear_Find.f kj25 l0 bt175.1 bt175.2.1).bind fun bt179 => (if bt175.2.2.2 = 0 then (cadastrelaw18_LinearHolds.j3 kj25 t144 bt175.2.2.1 bt179.1 (bt179.2 != 0)) else (cadastrelaw18_LinearHolds.j3 kj25 t144 bt175.2.2.1 bt179.1 true)))) = some r := by rw [if_neg (show ¬ (false = true) by decide)] at H; exact H
                    clear H
                    have H := H1
                    clear H1
                    replace H := Option.bind_eq_some_iff.mp H
                    obtain ⟨⟨t175, t176, t177, t178⟩, A670, H⟩ := H
                    replace H : ((linear_Find.f kj25 l0 t175 t176).bind fun bt179 => (if t178 = 0 then (cadastrelaw18_LinearHolds.j3 kj25 t144 t177 bt179.1 (bt179.2 != 0)) else (cadastrelaw18_LinearHolds.j3 kj25 t144 t177 bt179.1 true))) = some r := H
                    have A67 := Aside0.mk A670
                    clear A670
                    replace H := Option.bind_eq_some_iff.mp H
                    obtain ⟨⟨t179, t180⟩, A680, H⟩ := H
                    replace H : (if t178 = 0 then (cadastrelaw18_LinearHolds.j3 kj25 t144 t177 t179 (t180 != 0)) else (cadastrelaw18_LinearHolds.j3 kj25 t144 t177 t179 true)) = some r := H
                    have A68 := Aside0.mk A680
                    clear A680
                    have HC69 := Aside0.mk H
                    clear H
                    go_upto_region 13 with (first | ((with_reducible refine gate_callee (f := 6) rfl ?_); refine goesL_ (some 96) rfl rfl Try.func6 (by kernel_rfl) rfl #[.int .i64 a1, .int .i64 a2] rfl (by (try simp only [List.map_toArray, List.map_cons, List.map_nil]); first | done | rfl | (simp only [List.length_drop, List.length_take]; rfl)) ?_; (with_reducible refine (linear_Grow.calls a1 a2 t175 t176 t177 t178 _ A67.out).mono ?_); rintro e w' ⟨rfl, ⟨nd, rfl⟩⟩; refine ⟨_, rfl, ?_⟩) | ((with_reducible refine gate_callee (f := 10) rfl ?_); refine goesL_ (some 105) rfl rfl Try.func10 (by kernel_rfl) rfl #[.slice A0 l0.length c0, .int .i64 t175, .int .i64 t176] rfl (by (try simp only [List.map_toArray, List.map_cons, List.map_nil]); first | done | rfl | (simp only [List.length_drop, List.length_take]; rfl)) ?_; (with_reducible refine (linear_Find.calls kj25 _ _ l0 t175 t176 t179 t180 _ ?side1 ?side2 A68.out).mono ?_); (case side1 => repeat (first | exact (Kd.C_below HR0.out (by repeat (first | (with_reducible first | exact HB.out | apply below_alloc | apply pw_below_drewN | apply below_drew1 | refine below_set ?_ GE154.out | refine below_set ?_ GE163.out | refine below_set ?_ GE171.out) | exact HB.out))) | (with_reducible refine Kd.C_alloc ?_ _) | (with_reducible refine Kd.C_drewN ?_ _) | (with_reducible refine Kd.C_drew ?_))); (case side2 => exact HC0.out); rintro e w70 ⟨rfl, hb⟩; refine ⟨_, rfl, ?_⟩; have n0_ := Aside0.mk (Kd.R_below (by (with_reducible repeat (first | apply Kd.R_alloc | apply Kd.R_drewN | apply Kd.R_drew)); exact HO_155000.out) hb); have n1_ := Aside0.mk (Kd.R_below (by (with_reducible repeat (first | apply Kd.R_alloc | apply Kd.R_drewN | apply Kd.R_drew)); exact HO_155001.out) hb); have n2_ := Aside0.mk (Kd.R_below (by (with_reducible repeat (first | apply Kd.R_alloc | apply Kd.R_drewN | apply Kd.R_drew)); exact HO_164000.out) hb); have n3_ := Aside0.mk (Kd.R_below (by (with_reducible repeat (first | apply Kd.R_alloc | apply Kd.R_drewN | apply Kd.R_drew)); exact HO_164001.out) hb); have n4_ := Aside0.mk (Kd.R_below (by (with_reducible repeat (first | apply Kd.R_alloc | apply Kd.R_drewN | apply Kd.R_drew)); exact HO_172000.out) hb); have n5_ := Aside0.mk (Kd.R_below (by (with_reducible repeat (first | apply Kd.R_alloc | apply Kd.R_drewN | apply Kd.R_drew)); exact HO_172001.out) hb); have n6_ := Aside0.mk (blk_below (g := gb154) (o := .cells #[.slice Ao16 t147.length co16, .slice Ao18 t150.length co18] 33 (0, 0)) (by (with_reducible repeat (first | refine blk_drewN ?_ _ | refine blk_drew ?_ | refine blk_alloc ?_ _)); exact BK154.out) hb); have n7_ := Aside0.mk (blk_below (g := gb163) (o := .cells #[.slice Ao29 t156.length co29, .slice Ao32 t159.length co32] 33 (0, 0)) (by (with_reducible repeat (first | refine blk_drewN ?_ _ | refine blk_drew ?_ | refine blk_alloc ?_ _)); exact BK163.out) hb); have n8_ := Aside0.mk (blk_below (g := gb171) (o := .cells #[.slice Ao35 t164.length co35, .slice Ao39 t167.length co39] 33 (0, 0)) (by (with_reducible repeat (first | refine blk_drewN ?_ _ | refine blk_drew ?_ | refine blk_alloc ?_ _)); exact BK171.out) hb); have n9_ := Aside0.mk (below_step (by repeat (first | (with_reducible first | exact HB.out | apply below_alloc | apply pw_below_drewN | apply below_drew1 | refine below_set ?_ GE154.out | refine below_set ?_ GE163.out | refine below_set ?_ GE171.out) | exact HB.out)) hb); clear HO_155000; clear HO_155001; clear HO_164000; clear HO_164001; clear HO_172000; clear HO_172001; clear BK154; clear BK163; clear BK171; clear HB; have HO_155000 := n0_; have HO_155001 := n1_; have HO_164000 := n2_; have HO_164001 := n3_; have HO_172000 := n4_; have HO_172001 := n5_; have BK154 := n6_; have BK163 := n7_; have BK171 := n8_; have HB := n9_; clear n0_ n1_ n2_ n3_ n4_ n5_ n6_ n7_ n8_ n9_; (try clear hb); (try clear hb2); (try clear hk); (try clear hi)))
                    (try simp only [Act.put, List.setIfInBounds_toArray, List.set_cons_zero, List.set_cons_succ])
                    go_cut [113] (fun v113 wc => ∃ (kq : Nat) (x113_68 : Bool), v113 = .bool x113_68 ∧ Aside0 (cadastrelaw18_LinearHolds.j3 kq t144 t177 t179 x113_68 = some r) ∧ Aside0 (kq ≤ kj25) ∧ Aside0 (Kd.R (Kd.int .u32) 38 wc w.heap.size (fun k_ => some k_ ≠ ((.slice Ao18 t150.length co18) : Value).ownBlock ∧ some k_ ≠ ((.slice Ao29 t156.length co29) : Value).ownBlock ∧ some k_ ≠ ((.slice Ao32 t159.length co32) : Value).ownBlock ∧ some k_ ≠ ((.slice Ao35 t164.length co35) : Value).ownBlock ∧ some k_ ≠ ((.slice Ao39 t167.length co39) : Value).ownBlock) (.slice Ao16 t147.length co16) t147) ∧ Aside0 (Kd.R (Kd.int .u32) 38 wc w.heap.size (fun k_ => some k_ ≠ ((.slice Ao16 t147.length co16) : Value).ownBlock ∧ some k_ ≠ ((.slice Ao29 t156.length co29) : Value).ownBlock ∧ some k_ ≠ ((.slice Ao32 t159.length co32) : Value).ownBlock ∧ some k_ ≠ ((.slice Ao35 t164.length co35) : Value).ownBlock ∧ some k_ ≠ ((.slice Ao39 t167.length co39) : Value).ownBlock) (.slice Ao18 t150.length co18) t150) ∧ Aside0 (Kd.R (Kd.int .u32) 38 wc w.heap.size (fun k_ => some k_ ≠ ((.slice Ao16 t147.length co16) : Value).ownBlock ∧ some k_ ≠ ((.slice Ao18 t150.length co18) : Value).ownBlock ∧ some k_ ≠ ((.slice Ao32 t159.length co32) : Value).ownBlock ∧ some k_ ≠ ((.slice Ao35 t164.length co35) : Value).ownBlock ∧ some k_ ≠ ((.slice Ao39 t167.length co39) : Value).ownBlock) (.slice Ao29 t156.length co29) t156) ∧ Aside0 (Kd.R (Kd.int .u32) 38 wc w.heap.size (fun k_ => some k_ ≠ ((.slice Ao16 t147.length co16) : Value).ownBlock ∧ some k_ ≠ ((.slice Ao18 t150.length co18) : Value).ownBlock ∧ some k_ ≠ ((.slice Ao29 t156.length co29) : Value).ownBlock ∧ some k_ ≠ ((.slice Ao35 t164.length co35) : Value).ownBlock ∧ some k_ ≠ ((.slice Ao39 t167.length co39) : Value).ownBlock) (.slice Ao32 t159.length co32) t159) ∧ Aside0 (Kd.R (Kd.int .u32) 38 wc w.heap.size (fun k_ => some k_ ≠ ((.slice Ao16 t147.length co16) : Value).ownBlock ∧ some k_ ≠ ((.slice Ao18 t150.length co18) : Value).ownBlock ∧ some k_ ≠ ((.slice Ao29 t156.length co29) : Value).ownBlock ∧ some k_ ≠ ((.slice Ao32 t159.length co32) : Value).ownBlock ∧ some k_ ≠ ((.slice Ao39 t167.length co39) : Value).ownBlock) (.slice Ao35 t164.length co35) t164) ∧ Aside0 (Kd.R (Kd.int .u32) 38 wc w.heap.size (fun k_ => some k_ ≠ ((.slice Ao16 t147.length co16) : Value).ownBlock ∧ some k_ ≠ ((.slice Ao18 t150.length co18) : Value).ownBlock ∧ some k_ ≠ ((.slice Ao29 t156.length co29) : Value).ownBlock ∧ some k_ ≠ ((.slice Ao32 t159.length co32) : Value).ownBlock ∧ some k_ ≠ ((.slice Ao35 t164.length co35) : Value).ownBlock) (.slice Ao39 t167.length co39) t167) ∧ Aside0 (wc.heap[gb154]? = some (.cells #[(.slice Ao16 t147.length co16), (.slice Ao18 t150.length co18)] 33 (0, 0))) ∧ Aside0 (wc.heap[gb163]? = some (.cells #[(.slice Ao29 t156.length co29), (.slice Ao32 t159.length co32)] 33 (0, 0))) ∧ Aside0 (wc.heap[gb171]? = some (.cells #[(.slice Ao35 t164.length co35), (.slice Ao39 t167.length co39)] 33 (0, 0))) ∧ Aside0 (Below w.heap.size w wc))
                    case first =>
                      have H := HC69.out
                      clear HC69
                      by_cases c71 : t178 = 0
                      · rw [if_pos c71] at H
                        have c71b0 : (t178 == 0) = true := beq_iff_eq.mpr c71
                        have c71b1 : (t178 != 0) = false := bne_eq_false_iff_eq.mpr c71
                        clear c71
                        (first | rw [c71b0] | (simp only [i64_w, i32_w]; rw [c71b0]) | skip)
                        have H' := Aside0.mk H
                        clear H
                        go_wp2
                        go_meet
                        case rel => exact ⟨_, ((t180 != 0)), (by first | rfl | (simp; done) | (simp [*]; done)), H', ⟨by have := HJ4.out; have := HJ12.out; have := HJ25.out; first | omega | exact Nat.le_refl _⟩, ⟨by (with_reducible repeat (first | apply Kd.R_alloc | apply Kd.R_drewN | apply Kd.R_drew)); exact HO_155000.out⟩, ⟨by (with_reducible repeat (first | apply Kd.R_alloc | apply Kd.R_drewN | apply Kd.R_drew)); exact HO_155001.out⟩, ⟨by (with_reducible repeat (first | apply Kd.R_alloc | apply Kd.R_drewN | apply Kd.R_drew)); exact HO_164000.out⟩, ⟨by (with_reducible repeat (first | apply Kd.R_alloc | apply Kd.R_drewN | apply Kd.R_drew)); exact HO_164001.out⟩, ⟨by (with_reducible repeat (first | apply Kd.R_alloc | apply Kd.R_drewN | apply Kd.R_drew)); exact HO_172000.out⟩, ⟨by (with_reducible repeat (first | apply Kd.R_alloc | apply Kd.R_drewN | apply Kd.R_drew)); exact HO_172001.out⟩, ⟨by (with_reducible repeat (first | refine blk_drewN ?_ _ | refine blk_drew ?_ | refine blk_alloc ?_ _)); exact BK154.out⟩, ⟨by (with_reducible repeat (first | refine blk_drewN ?_ _ | refine blk_drew ?_ | refine blk_alloc ?_ _)); exact BK163.out⟩, ⟨by (with_reducible repeat (first | refine blk_drewN ?_ _ | refine blk_drew ?_ | refine blk_alloc ?_ _)); exact BK171.out⟩, ⟨by repeat (first | (with_reducible first | exact HB.out | apply below_alloc | apply pw_below_drewN | apply below_drew1 | refine below_set ?_ GE154.out | refine below_set ?_ GE163.out | refine below_set ?_ GE171.out) | exact HB.out)⟩⟩
                      · rw [if_neg c71] at H
                        have c71b0 : (t178 == 0) = false := beq_eq_false_iff_ne.mpr c71
                        have c71b1 : (t178 != 0) = true := bne_iff_ne.mpr c71
                        (first | rw [c71b0] | (simp only [i64_w, i32_w]; rw [c71b0]) | skip)
                        have H' := Aside0.mk H
                        clear H
                        go_wp2
                        go_meet
                        case rel => exact ⟨_, (true), (by first | rfl | (simp; done) | (simp [*]; done)), H', ⟨by have := HJ4.out; have := HJ12.out; have := HJ25.out; first | omega | exact Nat.le_refl _⟩, ⟨by (with_reducible repeat (first | apply Kd.R_alloc | apply Kd.R_drewN | apply Kd.R_drew)); exact HO_155000.out⟩, ⟨by (with_reducible repeat (first | apply Kd.R_alloc | apply Kd.R_drewN | apply Kd.R_drew)); exact HO_155001.out⟩, ⟨by (with_reducible repeat (first | apply Kd.R_alloc | apply Kd.R_drewN | apply Kd.R_drew)); exact HO_164000.out⟩, ⟨by (with_reducible repeat (first | apply Kd.R_alloc | apply Kd.R_drewN | apply Kd.R_drew)); exact HO_164001.out⟩, ⟨by (with_reducible repeat (first | apply Kd.R_alloc | apply Kd.R_drewN | apply Kd.R_drew)); exact HO_172000.out⟩, ⟨by (with_reducible repeat (first | apply Kd.R_alloc | apply Kd.R_drewN | apply Kd.R_drew)); exact HO_172001.out⟩, ⟨by (with_reducible repeat (first | refine blk_drewN ?_ _ | refine blk_drew ?_ | refine blk_alloc ?_ _)); exact BK154.out⟩, ⟨by (with_reducible repeat (first | refine blk_drewN ?_ _ | refine blk_drew ?_ | refine blk_alloc ?_ _)); exact BK163.out⟩, ⟨by (with_reducible repeat (first | refine blk_drewN ?_ _ | refine blk_drew ?_ | refine blk_alloc ?_ _)); exact BK171.out⟩, ⟨by repeat (first | (with_reducible first | exact HB.out | apply below_alloc | apply pw_below_drewN | apply below_drew1 | refine below_set ?_ GE154.out | refine below_set ?_ GE163.out | refine below_set ?_ GE171.out) | exact HB.out)⟩⟩
                    case rest =>
                      clear HC69
                      try clear c1
                      try clear c2
                      try clear p2
                      try clear c3
                      try clear c4
                      try clear c5
                      try clear c6
                      try clear p6
                      try clear c7
                      try clear c7b0
                      try clear c7b1
                      try clear c8
                      try clear c8b0
                      try clear c9
                      try clear c10
                      try clear c11
                      try clear c19
                      try clear c19b0
                      try clear c19b1
                      try clear c23
                      try clear c30
                      try clear c36
                      try clear c37
                      try clear c40
                      try clear c40b0
                      try clear c40b1
                      try clear c42
                      try clear c43
                      try clear c44
                      try clear c47
                      try clear c47b0
                      try clear c47b1
                      try clear c49
                      try clear c50
                      try clear c53
                      try clear c56
                      try clear c57
                      try clear c60
                      try clear c60b0
                      try clear c60b1
                      try clear c62
                      try clear c63
                      try clear p64
                      try clear c66
                      try clear c71
                      try clear c71b0
                      try clear c71b1
                      try clear hcz17_0
                      try clear hcz17_1
                      try clear hcz21_0
                      try clear hcz21_1
                      try clear hcz31_0
                      try clear hcz31_1
                      try clear hcz38_0
                      try clear hcz38_1
                      try clear hcz45_0
                      try clear hcz45_1
                      try clear hcz51_0
                      try clear hcz51_1
                      try clear hcz54_0
                      try clear hcz54_1
                      try clear hcz58_0
                      try clear hcz58_1
                      try clear hcz64_0
                      try clear hcz64_1
                      try clear hfz17_0
                      try clear hfz17_1
                      try clear hfz21_0
                      try clear hfz21_1
                      try clear hfz31_0
                      try clear hfz31_1
                      try clear hfz38_0
                      try clear hfz38_1
                      try clear hfz45_0
                      try clear hfz45_1
                      try clear hfz51_0
                      try clear hfz51_1
                      try clear hfz54_0
                      try clear hfz54_1
                      try clear hfz58_0
                      try clear hfz58_1
                      try clear hfz64_0
                      try clear hfz64_1
                      try clear p2
                      try clear p6
                      try clear p64
                      obtain ⟨kq, x113_68, rfl, HA, HJ68, HO_155000, HO_155001, HO_164000, HO_164001, HO_172000, HO_172001, BK154, BK163, BK171, HB⟩ := hcut
                      cases kq with
                      | zero => exact absurd HA.out (by simp [cadastrelaw18_LinearHolds.j3])
                      | succ kj68 =>
                        have H := HA.out
                        clear HA
                        simp only [cadastrelaw18_LinearHolds.j3] at H
                        by_cases c72 : x113_68 = true
                        · subst c72
                          have H1 : (some false) = some r := by rw [if_pos rfl] at H; exact H
                          clear H
                          have H := H1
                          clear H1
                          obtain rfl := Option.some.inj H
                          go_wp2
                          go_ret
                          exact ⟨by first | rfl | (simp [errW_none, errW_some] <;> rfl) | (simp [*, errW_none, errW_some] <;> rfl), by repeat (first | (with_reducible first | exact HB.out | apply below_alloc | apply pw_below_drewN | apply below_drew1 | refine below_set ?_ GE154.out | refine below_set ?_ GE163.out | refine below_set ?_ GE171.out) | exact HB.out)⟩
                        · replace c72 := Bool.eq_false_iff.mpr c72
                          subst c72
                          have H1 : (if t144 < t177 then (if t179 = t144 then ((cadastrelaw18_live.f).bind fun t181 => (some t181)) else (some false)) else (if t144 > t177 then (if t179 = (wrap64 (t144 + 1)) then ((cadastrelaw18_live.f).bind fun t182 => (some t182)) else (some false)) else (if t179 = t144 then ((cadastrelaw18_live.f).bind fun t183 => (some t183)) else (if t179 = (wrap64 (t144 + 1)) then ((cadastrelaw18_live.f).bind fun t184 => (some t184)) else (some false))))) = some r := by rw [if_neg (show ¬ (false = true) by decide)] at H; exact H
                          clear H
                          have H := H1
                          clear H1
                          by_cases c73 : t144 < t177
                          · rw [if_pos c73] at H
                            have c73b0 : decide (t144 < t177) = true := decide_eq_true c73
                            clear c73
                            by_cases c74 : t179 = t144
                            · rw [if_pos c74] at H
                              have c74b0 : (t179 == t144) = true := beq_iff_eq.mpr c74
                              have c74b1 : (t179 != t144) = false := bne_eq_false_iff_eq.mpr c74
                              clear c74
                              replace H := Option.bind_eq_some_iff.mp H
                              obtain ⟨t181, A750, H⟩ := H
                              replace H : (some t181) = some r := H
                              have A75 := Aside0.mk A750
                              clear A750
                              obtain rfl := Option.some.inj H
                              go_wp2_with (first | (go_at_call 7; (with_reducible refine (cadastrelaw18_live.calls  t181 _ A75.out).mono ?_); rintro e w76 ⟨rfl, hb⟩; have n0_ := Aside0.mk (Kd.R_below (by (with_reducible repeat (first | apply Kd.R_alloc | apply Kd.R_drewN | apply Kd.R_drew)); exact HO_155000.out) hb); have n1_ := Aside0.mk (Kd.R_below (by (with_reducible repeat (first | apply Kd.R_alloc | apply Kd.R_drewN | apply Kd.R_drew)); exact HO_155001.out) hb); have n2_ := Aside0.mk (Kd.R_below (by (with_reducible repeat (first | apply Kd.R_alloc | apply Kd.R_drewN | apply Kd.R_drew)); exact HO_164000.out) hb); have n3_ := Aside0.mk (Kd.R_below (by (with_reducible repeat (first | apply Kd.R_alloc | apply Kd.R_drewN | apply Kd.R_drew)); exact HO_164001.out) hb); have n4_ := Aside0.mk (Kd.R_below (by (with_reducible repeat (first | apply Kd.R_alloc | apply Kd.R_drewN | apply Kd.R_drew)); exact HO_172000.out) hb); have n5_ := Aside0.mk (Kd.R_below (by (with_reducible repeat (first | apply Kd.R_alloc | apply Kd.R_drewN | apply Kd.R_drew)); exact HO_172001.out) hb); have n6_ := Aside0.mk (blk_below (g := gb154) (o := .cells #[.slice Ao16 t147.length co16, .slice Ao18 t150.length co18] 33 (0, 0)) (by (with_reducible repeat (first | refine blk_drewN ?_ _ | refine blk_drew ?_ | refine blk_alloc ?_ _)); exact BK154.out) hb); have n7_ := Aside0.mk (blk_below (g := gb163) (o := .cells #[.slice Ao29 t156.length co29, .slice Ao32 t159.length co32] 33 (0, 0)) (by (with_reducible repeat (first | refine blk_drewN ?_ _ | refine blk_drew ?_ | refine blk_alloc ?_ _)); exact BK163.out) hb); have n8_ := Aside0.mk (blk_below (g := gb171) (o := .cells #[.slice Ao35 t164.length co35, .slice Ao39 t167.length co39] 33 (0, 0)) (by (with_reducible repeat (first | refine blk_drewN ?_ _ | refine blk_drew ?_ | refine blk_alloc ?_ _)); exact BK171.out) hb); have n9_ := Aside0.mk (below_step (by repeat (first | (with_reducible first | exact HB.out | apply below_alloc | apply pw_below_drewN | apply below_drew1 | refine below_set ?_ GE154.out | refine below_set ?_ GE163.out | refine below_set ?_ GE171.out) | exact HB.out)) hb); clear HO_155000; clear HO_155001; clear HO_164000; clear HO_164001; clear HO_172000; clear HO_172001; clear BK154; clear BK163; clear BK171; clear HB; have HO_155000 := n0_; have HO_155001 := n1_; have HO_164000 := n2_; have HO_164001 := n3_; have HO_172000 := n4_; have HO_172001 := n5_; have BK154 := n6_; have BK163 := n7_; have BK171 := n8_; have HB := n9_; clear n0_ n1_ n2_ n3_ n4_ n5_ n6_ n7_ n8_ n9_; (try clear hb); (try clear hb2); (try clear hk); (try clear hi)))
                              go_ret
                              exact ⟨by first | rfl | (simp [errW_none, errW_some] <;> rfl) | (simp [*, errW_none, errW_some] <;> rfl), by repeat (first | (with_reducible first | exact HB.out | apply below_alloc | apply pw_below_drewN | apply below_drew1 | refine below_set ?_ GE154.out | refine below_set ?_ GE163.out | refine below_set ?_ GE171.out) | exact HB.out)⟩
                            · rw [if_neg c74] at H
                              have c74b0 : (t179 == t144) = false := beq_eq_false_iff_ne.mpr c74
                              have c74b1 : (t179 != t144) = true := bne_iff_ne.mpr c74
                              obtain rfl := Option.some.inj H
                              go_wp2
                              go_ret
                              exact ⟨by first | rfl | (simp [errW_none, errW_some] <;> rfl) | (simp [*, errW_none, errW_some] <;> rfl), by repeat (first | (with_reducible first | exact HB.out | apply below_alloc | apply pw_below_drewN | apply below_drew1 | refine below_set ?_ GE154.out | refine below_set ?_ GE163.out | refine below_set ?_ GE171.out) | exact HB.out)⟩
                          · rw [if_neg c73] at H
                            have c73b0 : decide (t144 < t177) = false := decide_eq_false c73
                            clear c73
                            by_cases c77 : t144 > t177
                            · rw [if_pos c77] at H
                              have c77b0 : decide (t177 < t144) = true := decide_eq_true c77
                              clear c77
                              by_cases c78 : t179 = (wrap64 (t144 + 1))
                              · rw [if_pos c78] at H
                                have c78b0 : (t179 == (wrap64 (t144 + 1))) = true := beq_iff_eq.mpr c78
                                have c78b1 : (t179 != (wrap64 (t144 + 1))) = false := bne_eq_false_iff_eq.mpr c78
                                clear c78
                                replace H := Option.bind_eq_some_iff.mp H
                                obtain ⟨t182, A790, H⟩ := H
                                replace H : (some t182) = some r := H
                                have A79 := Aside0.mk A790
                                clear A790
                                obtain rfl := Option.some.inj H
                                go_wp2_with (first | (go_at_call 7; (with_reducible refine (cadastrelaw18_live.calls  t182 _ A79.out).mono ?_); rintro e w80 ⟨rfl, hb⟩; have n0_ := Aside0.mk (Kd.R_below (by (with_reducible repeat (first | apply Kd.R_alloc | apply Kd.R_drewN | apply Kd.R_drew)); exact HO_155000.out) hb); have n1_ := Aside0.mk (Kd.R_below (by (with_reducible repeat (first | apply Kd.R_alloc | apply Kd.R_drewN | apply Kd.R_drew)); exact HO_155001.out) hb); have n2_ := Aside0.mk (Kd.R_below (by (with_reducible repeat (first | apply Kd.R_alloc | apply Kd.R_drewN | apply Kd.R_drew)); exact HO_164000.out) hb); have n3_ := Aside0.mk (Kd.R_below (by (with_reducible repeat (first | apply Kd.R_alloc | apply Kd.R_drewN | apply Kd.R_drew)); exact HO_164001.out) hb); have n4_ := Aside0.mk (Kd.R_below (by (with_reducible repeat (first | apply Kd.R_alloc | apply Kd.R_drewN | apply Kd.R_drew)); exact HO_172000.out) hb); have n5_ := Aside0.mk (Kd.R_below (by (with_reducible repeat (first | apply Kd.R_alloc | apply Kd.R_drewN | apply Kd.R_drew)); exact HO_172001.out) hb); have n6_ := Aside0.mk (blk_below (g := gb154) (o := .cells #[.slice Ao16 t147.length co16, .slice Ao18 t150.length co18] 33 (0, 0)) (by (with_reducible repeat (first | refine blk_drewN ?_ _ | refine blk_drew ?_ | refine blk_alloc ?_ _)); exact BK154.out) hb); have n7_ := Aside0.mk (blk_below (g := gb163) (o := .cells #[.slice Ao29 t156.length co29, .slice Ao32 t159.length co32] 33 (0, 0)) (by (with_reducible repeat (first | refine blk_drewN ?_ _ | refine blk_drew ?_ | refine blk_alloc ?_ _)); exact BK163.out) hb); have n8_ := Aside0.mk (blk_below (g := gb171) (o := .cells #[.slice Ao35 t164.length co35, .slice Ao39 t167.length co39] 33 (0, 0)) (by (with_reducible repeat (first | refine blk_drewN ?_ _ | refine blk_drew ?_ | refine blk_alloc ?_ _)); exact BK171.out) hb); have n9_ := Aside0.mk (below_step (by repeat (first | (with_reducible first | exact HB.out | apply below_alloc | apply pw_below_drewN | apply below_drew1 | refine below_set ?_ GE154.out | refine below_set ?_ GE163.out | refine below_set ?_ GE171.out) | exact HB.out)) hb); clear HO_155000; clear HO_155001; clear HO_164000; clear HO_164001; clear HO_172000; clear HO_172001; clear BK154; clear BK163; clear BK171; clear HB; have HO_155000 := n0_; have HO_155001 := n1_; have HO_164000 := n2_; have HO_164001 := n3_; have HO_172000 := n4_; have HO_172001 := n5_; have BK154 := n6_; have BK163 := n7_; have BK171 := n8_; have HB := n9_; clear n0_ n1_ n2_ n3_ n4_ n5_ n6_ n7_ n8_ n9_; (try clear hb); (try clear hb2); (try clear hk); (try clear hi)))
                                go_ret
                                exact ⟨by first | rfl | (simp [errW_none, errW_some] <;> rfl) | (simp [*, errW_none, errW_some] <;> rfl), by repeat (first | (with_reducible first | exact HB.out | apply below_alloc | apply pw_below_drewN | apply below_drew1 | refine below_set ?_ GE154.out | refine below_set ?_ GE163.out | refine below_set ?_ GE171.out) | exact HB.out)⟩
                              · rw [if_neg c78] at H
                                have c78b0 : (t179 == (wrap64 (t144 + 1))) = false := beq_eq_false_iff_ne.mpr c78
                                have c78b1 : (t179 != (wrap64 (t144 + 1))) = true := bne_iff_ne.mpr c78
                                obtain rfl := Option.some.inj H
                                go_wp2
                                go_ret
                                exact ⟨by first | rfl | (simp [errW_none, errW_some] <;> rfl) | (simp [*, errW_none, errW_some] <;> rfl), by repeat (first | (with_reducible first | exact HB.out | apply below_alloc | apply pw_below_drewN | apply below_drew1 | refine below_set ?_ GE154.out | refine below_set ?_ GE163.out | refine below_set ?_ GE171.out) | exact HB.out)⟩
                            · rw [if_neg c77] at H
                              have c77b0 : decide (t177 < t144) = false := decide_eq_false c77
                              clear c77
                              by_cases c81 : t179 = t144
                              · rw [if_pos c81] at H
                                have c81b0 : (t179 == t144) = true := beq_iff_eq.mpr c81
                                have c81b1 : (t179 != t144) = false := bne_eq_false_iff_eq.mpr c81
                                clear c81
                                replace H := Option.bind_eq_some_iff.mp H
                                obtain ⟨t183, A820, H⟩ := H
                                replace H : (some t183) = some r := H
                                have A82 := Aside0.mk A820
                                clear A820
                                obtain rfl := Option.some.inj H
                                go_wp2_with (first | (go_at_call 7; (with_reducible refine (cadastrelaw18_live.calls  t183 _ A82.out).mono ?_); rintro e w83 ⟨rfl, hb⟩; have n0_ := Aside0.mk (Kd.R_below (by (with_reducible repeat (first | apply Kd.R_alloc | apply Kd.R_drewN | apply Kd.R_drew)); exact HO_155000.out) hb); have n1_ := Aside0.mk (Kd.R_below (by (with_reducible repeat (first | apply Kd.R_alloc | apply Kd.R_drewN | apply Kd.R_drew)); exact HO_155001.out) hb); have n2_ := Aside0.mk (Kd.R_below (by (with_reducible repeat (first | apply Kd.R_alloc | apply Kd.R_drewN | apply Kd.R_drew)); exact HO_164000.out) hb); have n3_ := Aside0.mk (Kd.R_below (by (with_reducible repeat (first | apply Kd.R_alloc | apply Kd.R_drewN | apply Kd.R_drew)); exact HO_164001.out) hb); have n4_ := Aside0.mk (Kd.R_below (by (with_reducible repeat (first | apply Kd.R_alloc | apply Kd.R_drewN | apply Kd.R_drew)); exact HO_172000.out) hb); have n5_ := Aside0.mk (Kd.R_below (by (with_reducible repeat (first | apply Kd.R_alloc | apply Kd.R_drewN | apply Kd.R_drew)); exact HO_172001.out) hb); have n6_ := Aside0.mk (blk_below (g := gb154) (o := .cells #[.slice Ao16 t147.length co16, .slice Ao18 t150.length co18] 33 (0, 0)) (by (with_reducible repeat (first | refine blk_drewN ?_ _ | refine blk_drew ?_ | refine blk_alloc ?_ _)); exact BK154.out) hb); have n7_ := Aside0.mk (blk_below (g := gb163) (o := .cells #[.slice Ao29 t156.length co29, .slice Ao32 t159.length co32] 33 (0, 0)) (by (with_reducible repeat (first | refine blk_drewN ?_ _ | refine blk_drew ?_ | refine blk_alloc ?_ _)); exact BK163.out) hb); have n8_ := Aside0.mk (blk_below (g := gb171) (o := .cells #[.slice Ao35 t164.length co35, .slice Ao39 t167.length co39] 33 (0, 0)) (by (with_reducible repeat (first | refine blk_drewN ?_ _ | refine blk_drew ?_ | refine blk_alloc ?_ _)); exact BK171.out) hb); have n9_ := Aside0.mk (below_step (by repeat (first | (with_reducible first | exact HB.out | apply below_alloc | apply pw_below_drewN | apply below_drew1 | refine below_set ?_ GE154.out | refine below_set ?_ GE163.out | refine below_set ?_ GE171.out) | exact HB.out)) hb); clear HO_155000; clear HO_155001; clear HO_164000; clear HO_164001; clear HO_172000; clear HO_172001; clear BK154; clear BK163; clear BK171; clear HB; have HO_155000 := n0_; have HO_155001 := n1_; have HO_164000 := n2_; have HO_164001 := n3_; have HO_172000 := n4_; have HO_172001 := n5_; have BK154 := n6_; have BK163 := n7_; have BK171 := n8_; have HB := n9_; clear n0_ n1_ n2_ n3_ n4_ n5_ n6_ n7_ n8_ n9_; (try clear hb); (try clear hb2); (try clear hk); (try clear hi)))
                                go_ret
                                exact ⟨by first | rfl | (simp [errW_none, errW_some] <;> rfl) | (simp [*, errW_none, errW_some] <;> rfl), by repeat (first | (with_reducible first | exact HB.out | apply below_alloc | apply pw_below_drewN | apply below_drew1 | refine below_set ?_ GE154.out | refine below_set ?_ GE163.out | refine below_set ?_ GE171.out) | exact HB.out)⟩
                              · rw [if_neg c81] at H
                                have c81b0 : (t179 == t144) = false := beq_eq_false_iff_ne.mpr c81
                                have c81b1 : (t179 != t144) = true := bne_iff_ne.mpr c81
                                by_cases c84 : t179 = (wrap64 (t144 + 1))
                                · rw [if_pos c84] at H
                                  have c84b0 : (t179 == (wrap64 (t144 + 1))) = true := beq_iff_eq.mpr c84
                                  have c84b1 : (t179 != (wrap64 (t144 + 1))) = false := bne_eq_false_iff_eq.mpr c84
                                  clear c84
                                  replace H := Option.bind_eq_some_iff.mp H
                                  obtain ⟨t184, A850, H⟩ := H
                                  replace H : (some t184) = some r := H
                                  have A85 := Aside0.mk A850
                                  clear A850
                                  obtain rfl := Option.some.inj H
                                  go_wp2_with (first | (go_at_call 7; (with_reducible refine (cadastrelaw18_live.calls  t184 _ A85.out).mono ?_); rintro e w86 ⟨rfl, hb⟩; have n0_ := Aside0.mk (Kd.R_below (by (with_reducible repeat (first | apply Kd.R_alloc | apply Kd.R_drewN | apply Kd.R_drew)); exact HO_155000.out) hb); have n1_ := Aside0.mk (Kd.R_below (by (with_reducible repeat (first | apply Kd.R_alloc | apply Kd.R_drewN | apply Kd.R_drew)); exact HO_155001.out) hb); have n2_ := Aside0.mk (Kd.R_below (by (with_reducible repeat (first | apply Kd.R_alloc | apply Kd.R_drewN | apply Kd.R_drew)); exact HO_164000.out) hb); have n3_ := Aside0.mk (Kd.R_below (by (with_reducible repeat (first | apply Kd.R_alloc | apply Kd.R_drewN | apply Kd.R_drew)); exact HO_164001.out) hb); have n4_ := Aside0.mk (Kd.R_below (by (with_reducible repeat (first | apply Kd.R_alloc | apply Kd.R_drewN | apply Kd.R_drew)); exact HO_172000.out) hb); have n5_ := Aside0.mk (Kd.R_below (by (with_reducible repeat (first | apply Kd.R_alloc | apply Kd.R_drewN | apply Kd.R_drew)); exact HO_172001.out) hb); have n6_ := Aside0.mk (blk_below (g := gb154) (o := .cells #[.slice Ao16 t147.length co16, .slice Ao18 t150.length co18] 33 (0, 0)) (by (with_reducible repeat (first | refine blk_drewN ?_ _ | refine blk_drew ?_ | refine blk_alloc ?_ _)); exact BK154.out) hb); have n7_ := Aside0.mk (blk_below (g := gb163) (o := .cells #[.slice Ao29 t156.length co29, .slice Ao32 t159.length co32] 33 (0, 0)) (by (with_reducible repeat (first | refine blk_drewN ?_ _ | refine blk_drew ?_ | refine blk_alloc ?_ _)); exact BK163.out) hb); have n8_ := Aside0.mk (blk_below (g := gb171) (o := .cells #[.slice Ao35 t164.length co35, .slice Ao39 t167.length co39] 33 (0, 0)) (by (with_reducible repeat (first | refine blk_drewN ?_ _ | refine blk_drew ?_ | refine blk_alloc ?_ _)); exact BK171.out) hb); have n9_ := Aside0.mk (below_step (by repeat (first | (with_reducible first | exact HB.out | apply below_alloc | apply pw_below_drewN | apply below_drew1 | refine below_set ?_ GE154.out | refine below_set ?_ GE163.out | refine below_set ?_ GE171.out) | exact HB.out)) hb); clear HO_155000; clear HO_155001; clear HO_164000; clear HO_164001; clear HO_172000; clear HO_172001; clear BK154; clear BK163; clear BK171; clear HB; have HO_155000 := n0_; have HO_155001 := n1_; have HO_164000 := n2_; have HO_164001 := n3_; have HO_172000 := n4_; have HO_172001 := n5_; have BK154 := n6_; have BK163 := n7_; have BK171 := n8_; have HB := n9_; clear n0_ n1_ n2_ n3_ n4_ n5_ n6_ n7_ n8_ n9_; (try clear hb); (try clear hb2); (try clear hk); (try clear hi)))
                                  go_ret
                                  exact ⟨by first | rfl | (simp [errW_none, errW_some] <;> rfl) | (simp [*, errW_none, errW_some] <;> rfl), by repeat (first | (with_reducible first | exact HB.out | apply below_alloc | apply pw_below_drewN | apply below_drew1 | refine below_set ?_ GE154.out | refine below_set ?_ GE163.out | refine below_set ?_ GE171.out) | exact HB.out)⟩
                                · rw [if_neg c84] at H
                                  have c84b0 : (t179 == (wrap64 (t144 + 1))) = false := beq_eq_false_iff_ne.mpr c84
                                  have c84b1 : (t179 != (wrap64 (t144 + 1))) = true := bne_iff_ne.mpr c84
                                  obtain rfl := Option.some.inj H
                                  go_wp2
                                  go_ret
                                  exact ⟨by first | rfl | (simp [errW_none, errW_some] <;> rfl) | (simp [*, errW_none, errW_some] <;> rfl), by repeat (first | (with_reducible first | exact HB.out | apply below_alloc | apply pw_below_drewN | apply below_drew1 | refine below_set ?_ GE154.out | refine below_set ?_ GE163.out | refine below_set ?_ GE171.out) | exact HB.out)⟩

/-- THE ONE PURE STATEMENT of cadastrelaw18_LinearHolds: yours. -/
def cadastrelaw18_LinearHolds.Pure : Prop := ∀ (l0 : List Int) (a1 : Int) (a2 : Int), l0.length ≤ maxLen → l0.length * 4 ≤ 140737488351232 → (∀ x ∈ l0, (Lit.int .u32 x).wf = true) → (Lit.int .i64 a1).wf = true → (Lit.int .i64 a2).wf = true → ∃ k, cadastrelaw18_LinearHolds.f k l0 a1 a2 = some true
theorem cadastrelaw18_LinearHolds.walk (P : cadastrelaw18_LinearHolds.Pure) (a0 : Option Addr) (len0 cap0 : Nat) (z0 : List Int) (a1 : Int) (a2 : Int) (w : World) (w0 : (a0 = none ∧ len0 = 0 ∧ cap0 = 0 ∧ z0 = []) ∨ ∃ x, a0 = some x ∧ len0 ≤ cap0 ∧ cap0 ≤ maxLen ∧ z0.length = cap0 ∧ (∀ i, i < z0.length → w.cell? (x.add i) = some (.int .u32 (z0.getD i 0))) ∧ ∀ n ∈ z0, (Lit.int .u32 n).wf = true) (y0 : len0 * 4 ≤ 140737488351232) (w1 : (Lit.int .i64 a1).wf = true) (w2 : (Lit.int .i64 a2).wf = true) :
    Calls Try.prog 4 #[.slice a0 len0 cap0, .int .i64 a1, .int .i64 a2] w fun e w' => e = .returned (.bool true) ∧ Below w.heap.size w w' := by
  obtain ⟨l0, rfl, hr0, hm0, hw0, hc0⟩ := ReadsInt.ofRowC w0
  obtain ⟨k, h⟩ := P l0 a1 a2 hm0 y0 hw0 w1 w2
  refine (cadastrelaw18_LinearHolds.calls k _ _ l0 a1 a2 true w (Kd.C_of_reads (d := (0 : Int)) (h1 := fun _ => rfl) hr0) hc0 h).mono ?_
  rintro e w' ⟨rfl, hd⟩
  exact ⟨rfl, hd⟩

end Go.Proofs.Ytcfklhgaajmoeaa.Lin
