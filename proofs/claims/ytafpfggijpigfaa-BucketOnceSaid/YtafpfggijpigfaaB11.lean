import Derived.Test.YtafpfggijpigfaaBktx3
import Derived.Test.YtafpfggijpigfaaB6
import Derived.Test.YtafpfggijpigfaaB10
namespace Go.Proofs.Ytafpfggijpigfaa.Bkt
open Go.RowKit Go.Proofs.YtafpfggijpigfaaW.PrintWords Go.Proofs.YtafpfggijpigfaaW.PrintLast Go.Proofs.YtafpfggijpigfaaW.PrintMore
attribute [local go_sem] max2_int min2_int max_two min_two max_three min_three max_four min_four
set_option linter.unusedVariables false
set_option linter.unusedSimpArgs false
def xx : S38 := ⟨[1], ⟨#[120]⟩⟩
def yy : S38 := ⟨[5], ⟨#[121, 121]⟩⟩
theorem v_enc : bucket_Encode.f 50 [xx] 1 2 = some (⟨#[1, 0, 0, 0, 1, 1, 120]⟩, 0) := by kernel_rfl
theorem v_dec : bucket_Decode.f 50 ⟨#[1, 0, 0, 0, 1, 1, 120]⟩ 1 2 = some ([xx], 0) := by kernel_rfl
theorem v_enc2 : bucket_Encode.f 50 [yy, xx] 1 2 = some (⟨#[]⟩, 1) := by kernel_rfl
theorem v_put1 : bucket_Put.f 50 [] [5] ⟨#[121, 121]⟩ = some [yy] := by kernel_rfl
theorem v_put2 : bucket_Put.f 50 [yy] [1] ⟨#[120]⟩ = some [xx, yy] := by kernel_rfl
theorem v_cut1 : bucket_Cut.f 50 [xx, yy] [5] = some ([xx], true) := by kernel_rfl
theorem v_cut2 : bucket_Cut.f 50 [xx, yy] [2] = some ([xx, yy], false) := by kernel_rfl
theorem v_find : bucket_Find.f 50 [xx, yy] [5] = some (1, true) := by kernel_rfl
theorem v_same1 : cadastreref09_Same.f 50 [xx] [xx] = some true := by kernel_rfl
theorem v_same2 : cadastreref09_Same.f 50 [xx, yy] [xx, yy] = some true := by kernel_rfl
theorem v_size : bucket_Size.f 50 [xx, yy] = some 14 := by kernel_rfl
theorem v_fits2 : bucket_Fits.f 50 [xx, yy] 2 = some true := by kernel_rfl
theorem v_fits1 : bucket_Fits.f 50 [xx, yy] 1 = some false := by kernel_rfl
theorem C_key {w : World} {g : Nat} {v : Int} (h : w.heap[g]? = some (.cells #[.int .u32 v] 51 (0, 0))) : Kd.C (Kd.int .u32) w (some ⟨g, 0, none⟩) 1 [v] := by
  refine ⟨rfl, by decide, fun _ => ⟨_, rfl, fun j p hj => ?_⟩⟩
  have hj0 : j = 0 := by have := (List.getElem?_eq_some_iff.1 hj).1; simp at this; omega
  subst hj0
  obtain rfl : v = p := Option.some.inj hj
  refine ⟨[.int .u32 v], rfl, rfl, fun i u hu => ?_⟩
  rw [add_plain]
  have := blk_cell h i
  have hi : i = 0 := by have := (List.getElem?_eq_some_iff.1 hu).1; simp at this; omega
  subst hi
  obtain rfl := Option.some.inj hu
  exact this
theorem C_one {w : World} {g gk : Nat} {v : Int} {s : ByteArray} (h : w.heap[g]? = some (.cells #[.slice (some ⟨gk, 0, none⟩) 1 1, .string s] 38 (0, 0))) (hk : w.heap[gk]? = some (.cells #[.int .u32 v] 51 (0, 0))) :
    Kd.C k38 w (some ⟨g, 0, none⟩) 1 [⟨[v], s⟩] := by
  refine ⟨rfl, by decide, fun _ => ⟨_, rfl, fun j p hj => ?_⟩⟩
  have hj0 : j = 0 := by have := (List.getElem?_eq_some_iff.1 hj).1; simp at this; omega
  subst hj0
  obtain rfl := Option.some.inj hj
  refine ⟨_, rfl, k38_mk w ⟨[v], s⟩ (A0 := some ⟨gk, 0, none⟩) (c0 := 1) (Nat.le_refl _) (C_key hk), fun i u hu => ?_⟩
  rw [add_plain, Nat.zero_mul, Nat.zero_add, blk_cell h i]
  simpa using hu
theorem C_two {w : World} {g gk gl : Nat} {v u : Int} {s t : ByteArray} (h : w.heap[g]? = some (.cells #[.slice (some ⟨gk, 0, none⟩) 1 1, .string s, .slice (some ⟨gl, 0, none⟩) 1 1, .string t] 38 (0, 0))) (hk : w.heap[gk]? = some (.cells #[.int .u32 v] 51 (0, 0))) (hl : w.heap[gl]? = some (.cells #[.int .u32 u] 51 (0, 0))) :
    Kd.C k38 w (some ⟨g, 0, none⟩) 2 [⟨[v], s⟩, ⟨[u], t⟩] := by
  refine ⟨rfl, by decide, fun _ => ⟨_, rfl, fun j p hj => ?_⟩⟩
  have hj0 : j = 0 ∨ j = 1 := by have := (List.getElem?_eq_some_iff.1 hj).1; simp at this; omega
  rcases hj0 with rfl | rfl
  · obtain rfl := Option.some.inj hj
    refine ⟨_, rfl, k38_mk w ⟨[v], s⟩ (A0 := some ⟨gk, 0, none⟩) (c0 := 1) (Nat.le_refl _) (C_key hk), fun i q hu => ?_⟩
    rw [add_plain, Nat.zero_mul, Nat.zero_add, blk_cell h i]
    have hi : i < 2 := (List.getElem?_eq_some_iff.1 hu).1
    match i, hi with
    | 0, _ => exact hu
    | 1, _ => exact hu
  · obtain rfl := Option.some.inj hj
    refine ⟨_, rfl, k38_mk w ⟨[u], t⟩ (A0 := some ⟨gl, 0, none⟩) (c0 := 1) (Nat.le_refl _) (C_key hl), fun i q hu => ?_⟩
    rw [add_plain]
    show w.cell? ⟨g, 1 * 2 + i, none⟩ = some q
    rw [blk_cell h (1 * 2 + i)]
    have hi : i < 2 := (List.getElem?_eq_some_iff.1 hu).1
    match i, hi with
    | 0, _ => exact hu
    | 1, _ => exact hu
/-- the two records of live, and what they lead to -/
structure LV (w : World) (ga gx gb gy : Nat) : Prop where
  a : w.heap[ga]? = some (.cells #[.int .u32 1] 51 (0, 0))
  x : w.heap[gx]? = some (.cells #[.slice (some ⟨ga, 0, none⟩) 1 1, .string ⟨#[120]⟩] 38 (0, 0))
  b : w.heap[gb]? = some (.cells #[.int .u32 5] 51 (0, 0))
  y : w.heap[gy]? = some (.cells #[.slice (some ⟨gb, 0, none⟩) 1 1, .string ⟨#[121, 121]⟩] 38 (0, 0))
theorem LV.below {w w1 : World} {ga gx gb gy : Nat} (h : LV w ga gx gb gy) (hb : Below w.heap.size w w1) : LV w1 ga gx gb gy := ⟨blk_below h.a hb, blk_below h.x hb, blk_below h.b hb, blk_below h.y hb⟩
theorem LV.cells {w : World} {ga gx gb gy : Nat} (h : LV w ga gx gb gy) : w.cell? ⟨gx, 0, none⟩ = some (.slice (some ⟨ga, 0, none⟩) 1 1) ∧ w.cell? ⟨gx, 1, none⟩ = some (.string ⟨#[120]⟩) ∧ w.cell? ⟨gy, 0, none⟩ = some (.slice (some ⟨gb, 0, none⟩) 1 1) ∧ w.cell? ⟨gy, 1, none⟩ = some (.string ⟨#[121, 121]⟩) := ⟨blk_cell h.x 0, blk_cell h.x 1, blk_cell h.y 0, blk_cell h.y 1⟩
theorem LV.new {w : World} {ga gx gb gy : Nat} (h : LV w ga gx gb gy) (o : Obj) : LV (w.alloc o) ga gx gb gy := h.below (below_alloc (Below.refl _ _) o)
theorem put_a (w : World) (gb : Nat) (h : Kd.C (Kd.int .u32) w (some ⟨gb, 0, none⟩) 1 [5]) :
    Calls Try.prog 22 #[.slice none 0 0, .agg #[.slice (some ⟨gb, 0, none⟩) 1 1, .string ⟨#[121, 121]⟩]] w fun e w' => ∃ A c, e = .returned (.slice A 1 c) ∧ Kd.S k38 38 w' w.heap.size (fun _ => True) (.slice A 1 c) [yy] ∧ Below w.heap.size w w' := by
  refine (bucket_Put.calls 50 none 0 [] (some ⟨gb, 0, none⟩) 1 [5] ⟨#[121, 121]⟩ [yy] w (Kd.C_nil k38 w) (Nat.le_refl _) h (by decide) v_put1).mono ?_
  rintro e w' ⟨v, rfl, hs, hb⟩
  obtain ⟨A, c, rfl⟩ := Kd.S_slice hs
  exact ⟨A, c, rfl, hs, hb⟩
theorem put_b (w : World) (A : Option Addr) (c ga : Nat) (hx : Kd.C k38 w A 1 [yy]) (hc : 1 ≤ c) (h : Kd.C (Kd.int .u32) w (some ⟨ga, 0, none⟩) 1 [1]) :
    Calls Try.prog 22 #[.slice A 1 c, .agg #[.slice (some ⟨ga, 0, none⟩) 1 1, .string ⟨#[120]⟩]] w fun e w' => ∃ A c, e = .returned (.slice A 2 c) ∧ Kd.S k38 38 w' w.heap.size (fun _ => True) (.slice A 2 c) [xx, yy] ∧ Below w.heap.size w w' := by
  refine (bucket_Put.calls 50 A c [yy] (some ⟨ga, 0, none⟩) 1 [1] ⟨#[120]⟩ [xx, yy] w hx hc h (by decide) v_put2).mono ?_
  rintro e w' ⟨v, rfl, hs, hb⟩
  obtain ⟨A, c, rfl⟩ := Kd.S_slice hs
  exact ⟨A, c, rfl, hs, hb⟩
theorem cut_a (w : World) (A : Option Addr) (c ga : Nat) (hx : Kd.C k38 w A 2 [xx, yy]) (hc : 2 ≤ c) (h : Kd.C (Kd.int .u32) w (some ⟨ga, 0, none⟩) 1 [5]) :
    Calls Try.prog 23 #[.slice A 2 c, .slice (some ⟨ga, 0, none⟩) 1 1] w fun e w' => ∃ A c, e = .returned (.tuple #[.slice A 1 c, .bool true]) ∧ Kd.S k38 38 w' w.heap.size (fun _ => True) (.slice A 1 c) [xx] ∧ Below w.heap.size w w' := by
  refine (bucket_Cut.calls 50 A c [xx, yy] (some ⟨ga, 0, none⟩) 1 [5] [xx] true w hx hc h (by decide) v_cut1).mono ?_
  rintro e w' ⟨v, rfl, hs, hb⟩
  obtain ⟨A, c, rfl⟩ := Kd.S_slice hs
  exact ⟨A, c, rfl, hs, hb⟩
theorem cut_b (w : World) (A : Option Addr) (c ga : Nat) (hx : Kd.C k38 w A 2 [xx, yy]) (hc : 2 ≤ c) (h : Kd.C (Kd.int .u32) w (some ⟨ga, 0, none⟩) 1 [2]) :
    Calls Try.prog 23 #[.slice A 2 c, .slice (some ⟨ga, 0, none⟩) 1 1] w fun e w' => ∃ A c, e = .returned (.tuple #[.slice A 2 c, .bool false]) ∧ Kd.S k38 38 w' w.heap.size (fun _ => True) (.slice A 2 c) [xx, yy] ∧ Below w.heap.size w w' := by
  refine (bucket_Cut.calls 50 A c [xx, yy] (some ⟨ga, 0, none⟩) 1 [2] [xx, yy] false w hx hc h (by decide) v_cut2).mono ?_
  rintro e w' ⟨v, rfl, hs, hb⟩
  obtain ⟨A, c, rfl⟩ := Kd.S_slice hs
  exact ⟨A, c, rfl, hs, hb⟩
theorem find_a (w : World) (A : Option Addr) (c ga : Nat) (hx : Kd.C k38 w A 2 [xx, yy]) (hc : 2 ≤ c) (h : Kd.C (Kd.int .u32) w (some ⟨ga, 0, none⟩) 1 [5]) :
    Calls Try.prog 25 #[.slice A 2 c, .slice (some ⟨ga, 0, none⟩) 1 1] w fun e w' => e = .returned (.tuple #[.int .i64 1, .bool true]) ∧ Below w.heap.size w w' :=
  bucket_Find.calls 50 A c [xx, yy] (some ⟨ga, 0, none⟩) 1 [5] 1 true w hx hc h (by decide) v_find
theorem same_1 (w : World) (A : Option Addr) (c g : Nat) (hx : Kd.C k38 w A 1 [xx]) (hc : 1 ≤ c) (h : Kd.C k38 w (some ⟨g, 0, none⟩) 1 [xx]) :
    Calls Try.prog 19 #[.slice A 1 c, .slice (some ⟨g, 0, none⟩) 1 1] w fun e w' => e = .returned (.bool true) ∧ Below w.heap.size w w' :=
  (cadastreref09_Same.calls 50 A c [xx] (some ⟨g, 0, none⟩) 1 [xx] true w hx hc h (by decide) v_same1).mono fun _ _ hh => ⟨hh.1, hh.2.below⟩
theorem same_2 (w : World) (A : Option Addr) (c g : Nat) (hx : Kd.C k38 w A 2 [xx, yy]) (hc : 2 ≤ c) (h : Kd.C k38 w (some ⟨g, 0, none⟩) 2 [xx, yy]) :
    Calls Try.prog 19 #[.slice A 2 c, .slice (some ⟨g, 0, none⟩) 2 2] w fun e w' => e = .returned (.bool true) ∧ Below w.heap.size w w' :=
  (cadastreref09_Same.calls 50 A c [xx, yy] (some ⟨g, 0, none⟩) 2 [xx, yy] true w hx hc h (by decide) v_same2).mono fun _ _ hh => ⟨hh.1, hh.2.below⟩
theorem size_a (w : World) (A : Option Addr) (c : Nat) (hx : Kd.C k38 w A 2 [xx, yy]) (hc : 2 ≤ c) :
    Calls Try.prog 13 #[.slice A 2 c] w fun e w' => e = .returned (.int .i64 14) ∧ Below w.heap.size w w' := bucket_Size.calls 50 A c [xx, yy] 14 w hx hc v_size
theorem fits_2 (w : World) (A : Option Addr) (c : Nat) (hx : Kd.C k38 w A 2 [xx, yy]) (hc : 2 ≤ c) :
    Calls Try.prog 15 #[.slice A 2 c, .int .i64 2] w fun e w' => e = .returned (.bool true) ∧ Below w.heap.size w w' := bucket_Fits.calls 50 A c [xx, yy] 2 true w hx hc v_fits2
theorem fits_1 (w : World) (A : Option Addr) (c : Nat) (hx : Kd.C k38 w A 2 [xx, yy]) (hc : 2 ≤ c) :
    Calls Try.prog 15 #[.slice A 2 c, .int .i64 1] w fun e w' => e = .returned (.bool false) ∧ Below w.heap.size w w' := bucket_Fits.calls 50 A c [xx, yy] 1 false w hx hc v_fits1
set_option maxHeartbeats 4000000 in
theorem live10 (w : World) : Calls Try.prog 10 #[] w fun e w' => e = .returned (.bool true) ∧ Below w.heap.size w w' := by
  have hu38 := Try.underlying38
  go_enter Try.func10, Try.ntmps10
  go_wp2_with fail
  have hl0 : LV ((((w.alloc (.cells #[.int .u32 1] 51)).alloc (.cells #[.slice (some ⟨w.heap.size, 0, none⟩) 1 1, .string ⟨#[120]⟩] 38)).alloc (.cells #[.int .u32 5] 51)).alloc (.cells #[.slice (some ⟨w.heap.size + 1 + 1, 0, none⟩) 1 1, .string ⟨#[121, 121]⟩] 38)) w.heap.size (w.heap.size + 1) (w.heap.size + 1 + 1) (w.heap.size + 1 + 1 + 1) := by
    refine ⟨?_, ?_, ?_, ?_⟩
    · exact blk_alloc (blk_alloc (blk_alloc (blk_new w _) _) _) _
    · have h := blk_new (w.alloc (.cells #[.int .u32 1] 51)) (.cells #[.slice (some ⟨w.heap.size, 0, none⟩) 1 1, .string ⟨#[120]⟩] 38)
      rw [World.size_alloc] at h
      exact blk_alloc (blk_alloc h _) _
    · have h := blk_new ((w.alloc (.cells #[.int .u32 1] 51)).alloc (.cells #[.slice (some ⟨w.heap.size, 0, none⟩) 1 1, .string ⟨#[120]⟩] 38)) (.cells #[.int .u32 5] 51)
      rw [World.size_alloc, World.size_alloc] at h
      exact blk_alloc h _
    · have h := blk_new (((w.alloc (.cells #[.int .u32 1] 51)).alloc (.cells #[.slice (some ⟨w.heap.size, 0, none⟩) 1 1, .string ⟨#[120]⟩] 38)).alloc (.cells #[.int .u32 5] 51)) (.cells #[.slice (some ⟨w.heap.size + 1 + 1, 0, none⟩) 1 1, .string ⟨#[121, 121]⟩] 38)
      rw [World.size_alloc, World.size_alloc, World.size_alloc] at h
      exact h
  have hb0 : Below w.heap.size w ((((w.alloc (.cells #[.int .u32 1] 51)).alloc (.cells #[.slice (some ⟨w.heap.size, 0, none⟩) 1 1, .string ⟨#[120]⟩] 38)).alloc (.cells #[.int .u32 5] 51)).alloc (.cells #[.slice (some ⟨w.heap.size + 1 + 1, 0, none⟩) 1 1, .string ⟨#[121, 121]⟩] 38)) := below_alloc (below_alloc (below_alloc (below_alloc (Below.refl _ _) _) _) _) _
  have hz : ((((w.alloc (.cells #[.int .u32 1] 51)).alloc (.cells #[.slice (some ⟨w.heap.size, 0, none⟩) 1 1, .string ⟨#[120]⟩] 38)).alloc (.cells #[.int .u32 5] 51)).alloc (.cells #[.slice (some ⟨w.heap.size + 1 + 1, 0, none⟩) 1 1, .string ⟨#[121, 121]⟩] 38)).heap.size = w.heap.size + 1 + 1 + 1 + 1 := by simp
  rw [← hz]
  clear hz
  generalize ((((w.alloc (.cells #[.int .u32 1] 51)).alloc (.cells #[.slice (some ⟨w.heap.size, 0, none⟩) 1 1, .string ⟨#[120]⟩] 38)).alloc (.cells #[.int .u32 5] 51)).alloc (.cells #[.slice (some ⟨w.heap.size + 1 + 1, 0, none⟩) 1 1, .string ⟨#[121, 121]⟩] 38)) = W0 at hl0 hb0 ⊢
  have HL0 := Aside0.mk hl0
  have HB0 := Aside0.mk hb0
  clear hl0 hb0
  refine (bucket_Encode.calls 50 (some ⟨W0.heap.size, 0, none⟩) 1 [xx] 1 2 _ _ _ (C_one (blk_new W0 _) (blk_alloc HL0.out.a _)) (by decide) v_enc).mono ?_
  rintro e w1 ⟨rfl, hb⟩
  have HL1 := Aside0.mk ((HL0.out.new _).below hb)
  have HB1 := Aside0.mk (below_step (below_alloc HB0.out _) hb)
  clear hb
  go_wp2_with fail
  refine (bucket_Decode.calls 50 _ 1 2 _ _ _ v_dec).mono ?_
  rintro e w2 ⟨v2, rfl, hs, hb⟩
  obtain ⟨Al, cl, rfl⟩ := Kd.S_slice hs
  have HS2 := Aside0.mk hs
  clear hs
  have HL2 := Aside0.mk ((HL1.out).below hb)
  have HB2 := Aside0.mk (below_step (HB1.out) hb)
  clear hb
  obtain ⟨c0, c1, c2, c3⟩ := HL2.out.cells
  go_wp2_with fail
  clear c0 c1 c2 c3
  refine (bucket_Encode.calls 50 (some ⟨w2.heap.size, 0, none⟩) 2 [yy, xx] 1 2 _ _ _ (C_two (blk_new w2 _) (blk_alloc HL2.out.b _) (blk_alloc HL2.out.a _)) (by decide) v_enc2).mono ?_
  rintro e w3 ⟨rfl, hb⟩
  have HS3 := Aside0.mk (Kd.S_below HS2.out (below_step (below_alloc (Below.refl _ _) _) hb))
  clear HS2
  have HL3 := Aside0.mk ((HL2.out.new _).below hb)
  have HB3 := Aside0.mk (below_step (below_alloc HB2.out _) hb)
  clear hb
  obtain ⟨c0, c1, c2, c3⟩ := HL3.out.cells
  go_wp2_with fail
  go_region_held3 (fun w' => Below w3.heap.size w3 w' ∧ w'.cell? ⟨w.heap.size + 1, 0, none⟩ = some (.slice (some ⟨w.heap.size, 0, none⟩) 1 1) ∧ w'.cell? ⟨w.heap.size + 1, 1, none⟩ = some (.string ⟨#[120]⟩) ∧ w'.cell? ⟨w.heap.size + 1 + 1 + 1, 0, none⟩ = some (.slice (some ⟨w.heap.size + 1 + 1, 0, none⟩) 1 1) ∧ w'.cell? ⟨w.heap.size + 1 + 1 + 1, 1, none⟩ = some (.string ⟨#[121, 121]⟩)) ((refine (fun hK_ => ⟨hK_, pw_cell_below hK_ c0, pw_cell_below hK_ c1, pw_cell_below hK_ c2, pw_cell_below hK_ c3⟩) ?_; repeat (first | assumption | exact Below.refl _ _ | exact below_drew (Below.refl _ _) | apply below_alloc | apply below_drew))) ((first | (go_at_call 22; with_reducible refine (put_a _ _ (C_key (HL3.out.below (below_drew (Below.refl _ _))).b)).mono ?_; rintro e w4 ⟨A4, c4, rfl, hs, hb⟩; have HS4 := Aside0.mk hs; have hb4 := below_step (below_drew (Below.refl w3.heap.size w3)) hb; have HX4 := Aside0.mk hb4; clear hs hb) | (go_at_call 22; with_reducible refine (put_b _ A4 c4 _ (Kd.S_reads' HS4.out).2.2 (Kd.S_reads' HS4.out).2.1 (C_key (HL3.out.below HX4.out).a)).mono ?_; rintro e w5 ⟨A5, c5, rfl, hs, hb⟩; have HM_5 := Aside0.mk hs; have hb5 := below_step HX4.out hb; have HX5 := Aside0.mk hb5; clear hs hb)))
  have HL5 := Aside0.mk (HL3.out.below HX5.out)
  have HB5 := Aside0.mk (below_step HB3.out HX5.out)
  have HS_5 := Aside0.mk (Kd.S_below HS3.out HX5.out)
  clear HS3 HX4 HX5 HS4
  clear c0 c1 c2 c3
  go_wp2_with fail
  refine (cut_a _ A5 c5 _ (Kd.C_alloc (Kd.S_reads' HM_5.out).2.2 _) (Kd.S_reads' HM_5.out).2.1 (C_key (blk_new w5 (.cells #[.int .u32 5] 51)))).mono ?_
  rintro e w6 ⟨A6, c6, rfl, hs, hb⟩
  have HS_6 := Aside0.mk (Kd.S_below HS_5.out (below_step (below_alloc (Below.refl _ _) _) hb))
  have HM_6 := Aside0.mk (Kd.S_below HM_5.out (below_step (below_alloc (Below.refl _ _) _) hb))
  have HN_6 := Aside0.mk hs
  clear hs
  have HL6 := Aside0.mk ((HL5.out.new _).below hb)
  have HB6 := Aside0.mk (below_step (below_alloc HB5.out _) hb)
  clear hb
  go_wp2_with fail
  refine (cut_b _ A5 c5 _ (Kd.C_alloc (Kd.S_reads' HM_6.out).2.2 _) (Kd.S_reads' HM_6.out).2.1 (C_key (blk_new w6 (.cells #[.int .u32 2] 51)))).mono ?_
  rintro e w7 ⟨A7, c7, rfl, hs, hb⟩
  have HS_7 := Aside0.mk (Kd.S_below HS_6.out (below_step (below_alloc (Below.refl _ _) _) hb))
  have HM_7 := Aside0.mk (Kd.S_below HM_6.out (below_step (below_alloc (Below.refl _ _) _) hb))
  have HN_7 := Aside0.mk (Kd.S_below HN_6.out (below_step (below_alloc (Below.refl _ _) _) hb))
  clear hs
  have HL7 := Aside0.mk ((HL6.out.new _).below hb)
  have HB7 := Aside0.mk (below_step (below_alloc HB6.out _) hb)
  clear hb
  go_wp2_with fail
  refine (find_a _ A5 c5 _ (Kd.C_alloc (Kd.S_reads' HM_7.out).2.2 _) (Kd.S_reads' HM_7.out).2.1 (C_key (blk_new w7 (.cells #[.int .u32 5] 51)))).mono ?_
  rintro e w8 ⟨rfl, hb⟩
  have HS_8 := Aside0.mk (Kd.S_below HS_7.out (below_step (below_alloc (Below.refl _ _) _) hb))
  have HM_8 := Aside0.mk (Kd.S_below HM_7.out (below_step (below_alloc (Below.refl _ _) _) hb))
  have HN_8 := Aside0.mk (Kd.S_below HN_7.out (below_step (below_alloc (Below.refl _ _) _) hb))
  have HL8 := Aside0.mk ((HL7.out.new _).below hb)
  have HB8 := Aside0.mk (below_step (below_alloc HB7.out _) hb)
  clear hb
  obtain ⟨c0, c1, c2, c3⟩ := HL8.out.cells
  go_wp2_with fail
  refine (same_1 _ Al cl _ (Kd.C_alloc (Kd.S_reads' HS_8.out).2.2 _) (Kd.S_reads' HS_8.out).2.1 (C_one (blk_new w8 _) (blk_alloc HL8.out.a _))).mono ?_
  rintro e w9 ⟨rfl, hb⟩
  clear c0 c1 c2 c3
  have HM_9 := Aside0.mk (Kd.S_below HM_8.out (below_step (below_alloc (Below.refl _ _) _) hb))
  have HN_9 := Aside0.mk (Kd.S_below HN_8.out (below_step (below_alloc (Below.refl _ _) _) hb))
  have HL9 := Aside0.mk ((HL8.out.new _).below hb)
  have HB9 := Aside0.mk (below_step (below_alloc HB8.out _) hb)
  clear hb
  obtain ⟨c0, c1, c2, c3⟩ := HL9.out.cells
  go_wp2_with fail
  refine (same_2 _ A5 c5 _ (Kd.C_alloc (Kd.S_reads' HM_9.out).2.2 _) (Kd.S_reads' HM_9.out).2.1 (C_two (blk_new w9 _) (blk_alloc HL9.out.a _) (blk_alloc HL9.out.b _))).mono ?_
  rintro e w10 ⟨rfl, hb⟩
  clear c0 c1 c2 c3
  have HM_10 := Aside0.mk (Kd.S_below HM_9.out (below_step (below_alloc (Below.refl _ _) _) hb))
  have HN_10 := Aside0.mk (Kd.S_below HN_9.out (below_step (below_alloc (Below.refl _ _) _) hb))
  have HL10 := Aside0.mk ((HL9.out.new _).below hb)
  have HB10 := Aside0.mk (below_step (below_alloc HB9.out _) hb)
  clear hb
  obtain ⟨c0, c1, c2, c3⟩ := HL10.out.cells
  go_wp2_with fail
  refine (same_1 _ A6 c6 _ (Kd.C_alloc (Kd.S_reads' HN_10.out).2.2 _) (Kd.S_reads' HN_10.out).2.1 (C_one (blk_new w10 _) (blk_alloc HL10.out.a _))).mono ?_
  rintro e w11 ⟨rfl, hb⟩
  clear c0 c1 c2 c3
  have HM_11 := Aside0.mk (Kd.S_below HM_10.out (below_step (below_alloc (Below.refl _ _) _) hb))
  have HL11 := Aside0.mk ((HL10.out.new _).below hb)
  have HB11 := Aside0.mk (below_step (below_alloc HB10.out _) hb)
  clear hb
  go_wp2_with fail
  refine (size_a _ A5 c5 (Kd.S_reads' HM_11.out).2.2 (Kd.S_reads' HM_11.out).2.1).mono ?_
  rintro e w12 ⟨rfl, hb⟩
  have HM_12 := Aside0.mk (Kd.S_below HM_11.out hb)
  have HL12 := Aside0.mk ((HL11.out).below hb)
  have HB12 := Aside0.mk (below_step (HB11.out) hb)
  clear hb
  go_wp2_with fail
  refine (fits_2 _ A5 c5 (Kd.S_reads' HM_12.out).2.2 (Kd.S_reads' HM_12.out).2.1).mono ?_
  rintro e w13 ⟨rfl, hb⟩
  have HM_13 := Aside0.mk (Kd.S_below HM_12.out hb)
  have HL13 := Aside0.mk ((HL12.out).below hb)
  have HB13 := Aside0.mk (below_step (HB12.out) hb)
  clear hb
  go_wp2_with fail
  refine (fits_1 _ A5 c5 (Kd.S_reads' HM_13.out).2.2 (Kd.S_reads' HM_13.out).2.1).mono ?_
  rintro e w14 ⟨rfl, hb⟩
  have HL14 := Aside0.mk ((HL13.out).below hb)
  have HB14 := Aside0.mk (below_step (HB13.out) hb)
  clear hb
  go_wp2_with fail
  go_ret
  exact ⟨rfl, HB14.out⟩
end Go.Proofs.Ytafpfggijpigfaa.Bkt
