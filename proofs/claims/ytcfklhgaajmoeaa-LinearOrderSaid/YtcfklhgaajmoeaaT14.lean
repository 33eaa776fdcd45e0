import Derived.Test.YtcfklhgaajmoeaaT11
namespace Go.Proofs.Ytcfklhgaajmoeaa.Lin
open Go.RowKit Go.Proofs.YtcfklhgaajmoeaaW.PrintWords Go.Proofs.YtcfklhgaajmoeaaW.PrintLast Go.Proofs.YtcfklhgaajmoeaaW.PrintMore
attribute [local go_sem] max2_int min2_int max_two min_two max_three min_three max_four min_four
set_option linter.unusedVariables false
set_option linter.unusedSimpArgs false
def Cb (B : Nat) (w : World) (A : Option Addr) (c : Nat) (xs : List Int) : Prop := Kd.R (Kd.int .u32) 38 w B (fun _ => True) (.slice A xs.length c) xs
theorem Cb_below {B : Nat} {w w1 : World} {A : Option Addr} {c : Nat} {xs : List Int} (h : Cb B w A c xs) (hb : Below w.heap.size w w1) : Cb B w1 A c xs := Kd.R_below h hb
theorem Cb_C {B : Nat} {w : World} {A : Option Addr} {c : Nat} {xs : List Int} (h : Cb B w A c xs) : Kd.C (Kd.int .u32) w A xs.length xs := R_toC h
theorem Cb_far {B : Nat} {w : World} {A : Option Addr} {c : Nat} {xs : List Int} (h : Cb B w A c xs) {p : Addr} {cs : Array Value} (hp : w.heap[p.block]? = some (.cells cs 33 (0, 0))) (u : Value) : Cb B (w.setCell p u) A c xs :=
  Kd.R_mono (Kd.R_far (Kd.R_types h hp (by decide)) (fun _ hk => hk.2) u) (fun _ _ => trivial)
theorem Cb_of_Rw {B : Nat} {w : World} {p q n c : Nat} {A : Option Addr} {xs : List Int} (hB : B ≤ p) (h : Rw w p q (.slice A n c) xs) : Cb B w A c xs := by
  have hn : n = xs.length := by
    obtain ⟨_, _, e⟩ := Kd.R_slice h
    injection e
  subst hn
  refine Kd.R_of_own ?_ (fun _ _ => trivial)
  have ho := Kd.own_of_R h
  refine ⟨ho.1, ?_⟩
  rcases ho.2 with h1 | ⟨g, cap, cur, h1, _, h2⟩
  · exact Or.inl h1
  · exact Or.inr ⟨g, cap, cur, h1, Nat.le_trans hB (h.1 g (by rw [h1]; rfl)).1, h2⟩
theorem Cb_of_reps {B : Nat} {W : World} {g n : Nat} {v : Int} (hn : n ≤ 6) (hB : B ≤ g) (h : W.heap[g]? = some (.cells (reps n n v).toArray 38 (0, 0))) : Cb B W (some ⟨g, 0, none⟩) n (List.replicate n v) := by
  refine Kd.R_of_own ⟨?_, Or.inr ⟨g, n, (reps n n v).toArray, ?_, hB, h, ?_, ?_, ?_, ?_⟩⟩ (fun _ _ => trivial)
  · simp [encs]
  · simp
  · simp
  · exact Nat.le_trans hn (by decide)
  · simp [reps]
  · simp [reps, encs]
theorem Cb_ne {B : Nat} {w : World} {A A' : Option Addr} {c c' : Nat} {xs ys : List Int} (h : Cb B w A c xs) (h' : Cb B w A' c' ys) (hl : xs.length = ys.length) (hne : xs ≠ ys) : Kd.R (Kd.int .u32) 38 w B (fun k => some k ≠ (Value.slice A' ys.length c').ownBlock) (.slice A xs.length c) xs := by
  have ho := Kd.own_of_R h
  refine Kd.R_of_own ho (fun k hk hk' => hne ?_)
  have ho' := Kd.own_of_R h'
  rcases ho.2 with h1 | ⟨g, cap, cur, h1, _, hb, _, _, _, ht⟩
  · rw [h1.1] at hk; cases hk
  · rcases ho'.2 with h2 | ⟨g', cap', cur', h2, _, hb', _, _, _, ht'⟩
    · rw [h2.1] at hk'; cases hk'
    · rw [h1] at hk
      rw [h2] at hk'
      injection hk with hk
      injection hk' with hk'
      simp only at hk hk'
      have e : g = g' := by omega
      subst e
      rw [hb] at hb'
      injection hb' with hb'
      injection hb' with hb' _ _
      subst hb'
      rw [hl, ht'] at ht
      have := congrArg (List.map (fun v => match v with | Value.int _ x => x | _ => 0)) ht
      simpa [encs, List.map_map, Function.comp_def] using this.symm
/-- a variable that holds a box of the call's own rows -/
def BxB (B : Nat) (w : World) (g : Nat) (lo hi : List Int) : Prop := ∃ Aa ca Ab cb, w.heap[g]? = some (.cells #[.slice Aa lo.length ca, .slice Ab hi.length cb] 33 (0, 0)) ∧ Cb B w Aa ca lo ∧ Cb B w Ab cb hi
theorem BxB_below {B : Nat} {w w1 : World} {g : Nat} {lo hi : List Int} (h : BxB B w g lo hi) (hb : Below w.heap.size w w1) : BxB B w1 g lo hi := by
  obtain ⟨Aa, ca, Ab, cb, h1, h2, h3⟩ := h
  exact ⟨Aa, ca, Ab, cb, (hb.block _ (blk_lt h1)).trans h1, Cb_below h2 hb, Cb_below h3 hb⟩
theorem boxOk_ne {dim k : Nat} {b : List Int × List Int} (h : BoxOk dim k b) (h1 : 1 ≤ dim) (hk : k ≤ 12) : b.1 ≠ b.2 := by
  intro e
  have hw := h.wd 0 h1
  rw [e] at hw
  have hp : 2 ≤ 2 ^ (32 - k) := Nat.le_trans (by decide) (Nat.pow_le_pow_right (n := 2) (by decide) (show 1 ≤ 32 - k by omega))
  omega
set_option maxHeartbeats 1500000 in
theorem box18 (dim depth addr : Nat) (w : World) (h1 : 1 ≤ dim) (h6 : dim ≤ 6) (hd : depth ≤ 12) (ha : addr < 2 ^ depth) :
    Calls Try.prog 18 #[.int .i64 dim, .int .i64 depth, .int .i64 addr] w fun e w' => ∃ (Aa Ab : Option Addr) (ca cb : Nat), e = .returned (.tuple #[.agg #[.slice Aa dim ca, .slice Ab dim cb], .int .i64 0]) ∧ Kd.R (Kd.int .u32) 38 w' w.heap.size (fun k => some k ≠ (Value.slice Ab dim cb).ownBlock) (.slice Aa dim ca) (boxUpto dim depth addr depth).1 ∧ Kd.R (Kd.int .u32) 38 w' w.heap.size (fun k => some k ≠ (Value.slice Aa dim ca).ownBlock) (.slice Ab dim cb) (boxUpto dim depth addr depth).2 ∧ Below w.heap.size w w' := by
  have HA := Aside0.mk ha
  clear ha
  have hdb : decide ((dim : Int) < 1) = false := decide_eq_false (by omega)
  have hu33 := Try.underlying33
  go_enter Try.func18, Try.ntmps18
  go_wp2_with (first | (go_at_call 24; refine (isAddr24 _ _ _ hd HA.out).mono ?_; rintro e w' ⟨rfl, rfl⟩) | (go_at_call 25; refine (whole25 dim _ h1 h6).mono ?_; rintro e w1 ⟨g1, g2, rfl, hc1, hc2, hb, hg1, hg2⟩; have HG1 := Aside0.mk (Nat.le_trans (below_alloc (Below.refl w.heap.size w) _).size hg1); have HG2 := Aside0.mk (Nat.le_trans (below_alloc (Below.refl w.heap.size w) _).size hg2); have HC1 := Aside0.mk hc1; have HC2 := Aside0.mk hc2; have HB0 := Aside0.mk ((hb.block _ (by simp)).trans (blk_new w (Obj.cells #[Value.slice none 0 0, Value.slice none 0 0] 33))); have HB := Aside0.mk (below_step (below_alloc (Below.refl _ _) _) hb); clear hc1 hc2 hb hg1 hg2))
  have hbx : BxB w.heap.size (w1.alloc (Obj.cells #[Value.slice (some ⟨g1, 0, none⟩) dim dim, Value.slice (some ⟨g2, 0, none⟩) dim dim] 33)) w1.heap.size (boxUpto dim depth addr 0).1 (boxUpto dim depth addr 0).2 := by
    refine ⟨some ⟨g1, 0, none⟩, dim, some ⟨g2, 0, none⟩, dim, ?_, Cb_below (Cb_of_reps h6 HG1.out HC1.out) (below_alloc (Below.refl _ _) _), Cb_below (Cb_of_reps h6 HG2.out HC2.out) (below_alloc (Below.refl _ _) _)⟩
    simp only [boxUpto, List.length_replicate]
    exact blk_new _ _
  have HX := Aside0.mk hbx
  clear hbx
  have HB1 := Aside0.mk (show w.heap.size < w1.heap.size from blk_lt HB0.out)
  go_loopw [29] (fun v wr => ∃ k : Nat, k ≤ depth ∧ v = .int .i64 k ∧ Aside0 (BxB w.heap.size wr w1.heap.size (boxUpto dim depth addr k).1 (boxUpto dim depth addr k).2) ∧ Aside0 (wr.heap[w.heap.size]? = some (.cells #[.slice none 0 0, .slice none 0 0] 33 (0, 0))) ∧ Aside0 (Below w.heap.size w wr)) (fun v _ => depth - (intOf v).toNat)
  case atStart => exact ⟨0, Nat.zero_le _, rfl, HX, ⟨blk_alloc HB0.out _⟩, ⟨below_alloc HB.out _⟩⟩
  case round =>
    obtain ⟨k, hk, rfl, HX, HB0, HB⟩ := hrel
    by_cases hlt : k < depth
    · have hok := boxOk_upto dim depth addr h1 k (by omega)
      have HS := Aside0.mk (show boxUpto dim depth addr (k + 1) = stepBox dim depth addr k (boxUpto dim depth addr k) from rfl)
      generalize boxUpto dim depth addr k = b at HX hok HS
      obtain ⟨lo, hi⟩ := b
      have hx : BxB w.heap.size wr w1.heap.size lo hi := HX.out
      have hl : lo.length = dim := hok.l0
      have hl1 : hi.length = dim := hok.l1
      have hm := Nat.mod_lt k h1
      have hdm : (k : Int).tmod (dim : Int) = ((k % dim : Nat) : Int) := rfl
      have d0 : 0 ≤ (k : Int).tmod (dim : Int) := by omega
      have d1 : (k : Int).tmod (dim : Int) < lo.length := by omega
      have hpw : 2 ≤ 2 ^ (32 - k) := Nat.le_trans (by decide) (Nat.pow_le_pow_right (n := 2) (by decide) (show 1 ≤ 32 - k by omega))
      have e2 : 0 ≤ rd lo ((k : Int).tmod (dim : Int)) := by rw [hdm]; exact hok.lo _ hm
      have e3 : rd lo ((k : Int).tmod (dim : Int)) < rd hi ((k : Int).tmod (dim : Int)) := by rw [hdm]; have h := hok.wd _ hm; simp only at h; omega
      have e4 : rd hi ((k : Int).tmod (dim : Int)) ≤ 4294967295 := by rw [hdm]; exact hok.hi _ hm
      have e5 := boxOk_chk hok h1 h6
      obtain ⟨Aa, ca, Ab, cb, hg, h2, h3⟩ := hx
      obtain ⟨q0, q1⟩ := blk_cell0 hg
      have E2 := Aside0.mk e2
      have E3 := Aside0.mk e3
      have E4 := Aside0.mk e4
      have E5 := Aside0.mk e5
      have HL := Aside0.mk (show lo.length ≤ 35184372088832 by omega)
      have C2 := Aside0.mk h2
      have C3 := Aside0.mk h3
      have HDM := Aside0.mk hdm
      have HG := Aside0.mk hg
      have HOK := Aside0.mk hok
      have HLL := Aside0.mk (And.intro hl hl1)
      have n8 : w1.heap.size < wr.heap.size := blk_lt hg
      have n6 : w.heap.size < wr.heap.size := blk_lt HB0.out
      clear e2 e3 e4 e5 h2 h3 hdm hg hok hl hl1 hpw HX
      have i0 : (0 : Int) ≤ (k : Int) := by omega
      have i1 : (1 : Int) ≤ (dim : Int) := by omega
      have i2 : ¬ (dim : Int) = 0 := by omega
      have i3 : ¬ dim = 0 := by omega
      have i4 : ((dim : Int) == 0) = false := by simp; omega
      go_upto_region 7 with (fail)
      go_cut [10, 11] (fun v10 v11 wc => ∃ g10 g11, v10 = .pointer (some ⟨g10, 0, none⟩) ∧ v11 = .pointer (some ⟨g11, 0, none⟩) ∧ Aside0 (BxB w.heap.size wc g10 lo (hi.set (k % dim) (midOf (rd lo (k % dim : Nat)) (rd hi (k % dim : Nat))))) ∧ Aside0 (BxB w.heap.size wc g11 (lo.set (k % dim) (midOf (rd lo (k % dim : Nat)) (rd hi (k % dim : Nat)) + 1)) hi) ∧ Aside0 (g10 ≠ w1.heap.size ∧ g11 ≠ w1.heap.size) ∧ Aside0 (Below wr.heap.size wr wc))
      case first =>
        go_region_held3 (fun w' => Below wr.heap.size wr w' ∧ w'.cell? ⟨w1.heap.size, 0, none⟩ = some (.slice Aa lo.length ca) ∧ w'.cell? ⟨w1.heap.size, 1, none⟩ = some (.slice Ab hi.length cb))
          ((refine (fun hK_ => ⟨hK_, pw_cell_below hK_ q0, pw_cell_below hK_ q1⟩) ?_; repeat (first | assumption | exact Below.refl _ _ | exact below_drew (Below.refl _ _) | apply below_alloc | apply below_drew | refine Below.setCell ?_ (by first | exact Nat.le_refl _ | (have := hBW.size; simp only []; omega) | (simp; omega)) _)))
          ((go_at_call 26; have hz : Below wr.heap.size wr _ ∧ _ := (by assumption); with_reducible refine (halves26 _ _ lo _ _ hi _ _ (Cb_C (Cb_below C2.out hz.1)) (Cb_C (Cb_below C3.out hz.1)) d0 d1 E5.out E2.out E3.out E4.out HL.out).mono ?_; rintro e wa ⟨A1, A2, A3, A4, k1, k2, k3, k4, rfl, r1, r2, r3, r4, hba⟩; obtain ⟨pp, hpp, r1, r2, r3, r4⟩ := (⟨_, rfl, r1, r2, r3, r4⟩ : ∃ p, p = _ ∧ Rw wa p wa.heap.size _ _ ∧ Rw wa p wa.heap.size _ _ ∧ Rw wa p wa.heap.size _ _ ∧ Rw wa p wa.heap.size _ _); (try simp at hpp); have HPP := Aside0.mk hpp; clear hpp; have hBW := below_step hz.1 hba; obtain ⟨hcB, hfB⟩ := bcell hba; have hsB := hba.size; (try simp at hsB); (try (have hsW : wr.heap.size < wa.heap.size := by omega))))
        all_goals
          have hp1 := HPP.out
          clear hcB hfB q0 q1
        all_goals
          go_wp2_with fail
          go_meet
          case rel =>
            refine ⟨_, _, rfl, rfl, ⟨A1, k1, A2, k2, ?_, ?_, ?_⟩, ⟨A3, k3, A4, k4, ?_, ?_, ?_⟩, ⟨?_, ?_⟩, ⟨?_⟩⟩
            · rw [List.length_set]
              (repeat (with_reducible first | (refine blk_new1 (by first | (simp; done) | rfl)) | (refine blk_set2 (x := .slice none 0 0) (y := .slice none 0 0) ?_) | (refine blk_alloc ?_ _) | (refine blk_other ?_ (by first | (simp; done) | (simp; omega)) _) | (refine (hba.block _ (by first | (simp; done) | (simp; omega))).trans ?_) | (refine blk_drew ?_)))
            · (refine Cb_of_Rw (B := w.heap.size) (by first | omega | (simp at hp1; omega)) (n := lo.length) (c := k1) (p := pp) (q := wa.heap.size) ?_; repeat (with_reducible first | exact r1 | (refine Rw_alloc ?_ _) | (refine Rw_far ?_ (by first | (simp; done) | (simp; omega)) _)); (try exact r1))
            · (refine Cb_of_Rw (B := w.heap.size) (by first | omega | (simp at hp1; omega)) (n := hi.length) (c := k2) (p := pp) (q := wa.heap.size) ?_; repeat (with_reducible first | exact r2 | (refine Rw_alloc ?_ _) | (refine Rw_far ?_ (by first | (simp; done) | (simp; omega)) _)); (try exact r2))
            · rw [List.length_set]
              (repeat (with_reducible first | (refine blk_new1 (by first | (simp; done) | rfl)) | (refine blk_set2 (x := .slice none 0 0) (y := .slice none 0 0) ?_) | (refine blk_alloc ?_ _) | (refine blk_other ?_ (by first | (simp; done) | (simp; omega)) _) | (refine (hba.block _ (by first | (simp; done) | (simp; omega))).trans ?_) | (refine blk_drew ?_)))
            · (refine Cb_of_Rw (B := w.heap.size) (by first | omega | (simp at hp1; omega)) (n := lo.length) (c := k3) (p := pp) (q := wa.heap.size) ?_; repeat (with_reducible first | exact r3 | (refine Rw_alloc ?_ _) | (refine Rw_far ?_ (by first | (simp; done) | (simp; omega)) _)); (try exact r3))
            · (refine Cb_of_Rw (B := w.heap.size) (by first | omega | (simp at hp1; omega)) (n := hi.length) (c := k4) (p := pp) (q := wa.heap.size) ?_; repeat (with_reducible first | exact r4 | (refine Rw_alloc ?_ _) | (refine Rw_far ?_ (by first | (simp; done) | (simp; omega)) _)); (try exact r4))
            · first | omega | (simp; omega)
            · first | omega | (simp; omega)
            · repeat (with_reducible first | assumption | exact Below.refl _ _ | exact below_drew (Below.refl _ _) | apply below_alloc | apply below_drew | refine Below.setCell ?_ (by first | (simp; done) | (simp; omega)) _)
      case rest =>
        obtain ⟨g10, g11, rfl, rfl, H10, H11, HN, HBc⟩ := hcut
        obtain ⟨A1, k1, A2, k2, b10, c1, c2⟩ := H10.out
        obtain ⟨A3, k3, A4, k4, b11, c3, c4⟩ := H11.out
        have b8 := (HBc.out.block _ (blk_lt HG.out)).trans HG.out
        have b6 := (HBc.out.block _ (blk_lt HB0.out)).trans HB0.out
        have HB6 := Aside0.mk b6
        have HB8 := Aside0.mk b8
        have C1 := Aside0.mk c1
        have C2 := Aside0.mk c2
        have C3 := Aside0.mk c3
        have C4 := Aside0.mk c4
        have HBB := Aside0.mk (below_step HB.out HBc.out)
        obtain ⟨x0, x1⟩ := blk_cell0 b10
        obtain ⟨y0, y1⟩ := blk_cell0 b11
        obtain ⟨z0, z1⟩ := blk_cell0 b8
        have z2 := blk_frozen b8 0
        have z3 := blk_frozen b8 1
        have m1 := HN.out.1
        have m2 := HN.out.2
        have HL8 := Aside0.mk HBB.out.size
        clear b10 b11 b8 b6 c1 c2 c3 c4 q0 q1 HN
        have tb : (bits .and .i64 ((addr : Int) / 2 ^ (depth - 1 - k)) 1 == 1) = bitAt depth addr k := bit_test depth addr k
        have HN6 := Aside0.mk n6
        have n68 : ¬ w1.heap.size = w.heap.size := by have := HB1.out; omega
        have n86 := Ne.symm n68
        have t8 : ∀ {W : World} {o : Obj} (_h : W.heap[w.heap.size]? = some o) (u v : Value), ((W.setCell ⟨w1.heap.size, 0, none⟩ u).setCell ⟨w1.heap.size, 1, none⟩ v).heap[w.heap.size]? = some o := fun h u v => blk_other (blk_other h n68 u) n68 v
        have tC : ∀ {W : World} {A : Option Addr} {c : Nat} {xs : List Int} {x y : Value} (_h : Cb w.heap.size W A c xs) (_hb : W.heap[w1.heap.size]? = some (.cells #[x, y] 33 (0, 0))) (u v : Value), Cb w.heap.size ((W.setCell ⟨w1.heap.size, 0, none⟩ u).setCell ⟨w1.heap.size, 1, none⟩ v) A c xs := fun h hb u v => Cb_far (Cb_far h (p := ⟨w1.heap.size, 0, none⟩) hb u) (p := ⟨w1.heap.size, 1, none⟩) (blk_set1 hb) v
        have tB : ∀ {W : World} (_h : Below w.heap.size w W) (u v : Value), Below w.heap.size w ((W.setCell ⟨w1.heap.size, 0, none⟩ u).setCell ⟨w1.heap.size, 1, none⟩ v) := fun h u v => (h.setCell (by have := HB1.out; simp only []; omega) u).setCell (by have := HB1.out; simp only []; omega) v
        cases hbt : bitAt depth addr k with
        | true =>
          rw [hbt] at tb
          have HST := Aside0.mk (show boxUpto dim depth addr (k + 1) = (lo.set (k % dim) (midOf (rd lo (k % dim : Nat)) (rd hi (k % dim : Nat)) + 1), hi) by rw [HS.out]; unfold stepBox; rw [if_pos hbt])
          have T8 := Aside0.mk @t8
          have TC := Aside0.mk @tC
          have TB := Aside0.mk @tB
          clear t8 tC tB hbt
          go_wp2_with fail
          go_roundw
          case rel =>
            refine ⟨k + 1, by omega, by go_num, ⟨?_⟩, ⟨?_⟩, ⟨?_⟩⟩
            · rw [HST.out]
              refine ⟨A3, k3, A4, k4, ?_, ?_, ?_⟩
              · simp only [List.length_set]
                exact blk_set2 (blk_set2 HB8.out)
              · exact TC.out (TC.out C3.out HB8.out _ _) (blk_set2 HB8.out) _ _
              · exact TC.out (TC.out C4.out HB8.out _ _) (blk_set2 HB8.out) _ _
            · exact T8.out (T8.out HB6.out _ _) _ _
            · exact TB.out (TB.out HBB.out _ _) _ _
          case measure => simp [intOf]; omega
        | false =>
          rw [hbt] at tb
          have HST := Aside0.mk (show boxUpto dim depth addr (k + 1) = (lo, hi.set (k % dim) (midOf (rd lo (k % dim : Nat)) (rd hi (k % dim : Nat)))) by rw [HS.out]; unfold stepBox; rw [if_neg (by rw [hbt]; simp)])
          have T8 := Aside0.mk @t8
          have TC := Aside0.mk @tC
          have TB := Aside0.mk @tB
          clear t8 tC tB hbt
          go_wp2_with fail
          go_roundw
          case rel =>
            refine ⟨k + 1, by omega, by go_num, ⟨?_⟩, ⟨?_⟩, ⟨?_⟩⟩
            · rw [HST.out]
              refine ⟨A1, k1, A2, k2, ?_, ?_, ?_⟩
              · simp only [List.length_set]
                exact blk_set2 HB8.out
              · exact TC.out C1.out HB8.out _ _
              · exact TC.out C2.out HB8.out _ _
            · exact T8.out HB6.out _ _
            · exact TB.out HBB.out _ _
          case measure => simp [intOf]; omega
    · have hkd : k = depth := by omega
      subst hkd
      obtain ⟨Aa, ca, Ab, cb, hg, h2, h3⟩ := HX.out
      have hok := boxOk_upto dim k addr h1 k (by omega)
      rw [hok.l0, hok.l1] at hg
      obtain ⟨q0, q1⟩ := blk_cell0 hg
      obtain ⟨z0, z1⟩ := blk_cell0 HB0.out
      have z2 := blk_frozen HB0.out 0
      have z3 := blk_frozen HB0.out 1
      have C2 := Aside0.mk h2
      have C3 := Aside0.mk h3
      have HOK := Aside0.mk hok
      clear h2 h3 hok hg HX
      go_wp2_with fail
      have c2 := Cb_far (Cb_far C2.out (p := ⟨w.heap.size, 0, none⟩) HB0.out (.slice Aa dim ca)) (p := ⟨w.heap.size, 1, none⟩) (blk_set1 HB0.out) (.slice Ab dim cb)
      have c3 := Cb_far (Cb_far C3.out (p := ⟨w.heap.size, 0, none⟩) HB0.out (.slice Aa dim ca)) (p := ⟨w.heap.size, 1, none⟩) (blk_set1 HB0.out) (.slice Ab dim cb)
      have hne := boxOk_ne HOK.out h1 hd
      have l0 := HOK.out.l0
      have l1 := HOK.out.l1
      have R1 := Cb_ne c2 c3 (l0.trans l1.symm) hne
      have R2 := Cb_ne c3 c2 (l1.trans l0.symm) hne.symm
      rw [l0, l1] at R1 R2
      exact bodyPost_ret (v := .tuple #[.agg #[.slice Aa dim ca, .slice Ab dim cb], .int .i64 0]) (by simp [results, Try.results18, go_sem, z0, z1]) rfl ⟨Aa, Ab, ca, cb, rfl, R1, R2, (HB.out.setCell (by exact Nat.le_refl _) _).setCell (by exact Nat.le_refl _) _⟩
end Go.Proofs.Ytcfklhgaajmoeaa.Lin
