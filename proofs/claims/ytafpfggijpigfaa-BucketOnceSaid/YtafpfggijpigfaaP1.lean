import Derived.Test.YtafpfggijpigfaaBktx1
import Derived.Test.YtafpfggijpigfaaBktx2
import Derived.Test.YtafpfggijpigfaaBktx3
import Derived.Test.YtafpfggijpigfaaBktx4
namespace Go.Proofs.Ytafpfggijpigfaa.Bkt
open Go.RowKit Go.Proofs.YtafpfggijpigfaaW.PrintWords Go.Proofs.YtafpfggijpigfaaW.PrintLast
set_option linter.unusedVariables false
set_option linter.unusedSimpArgs false
theorem w64 {x : Int} (h0 : -9223372036854775808 ≤ x) (h1 : x ≤ 9223372036854775807) : wrap64 x = x := by unfold wrap64; omega
theorem w64s {i : Nat} (h : i ≤ 1000000) : wrap64 ((i : Int) + 1) = ((i + 1 : Nat) : Int) := by unfold wrap64; omega
def cmpI (a b : Int) : Int := if a < b then -1 else if a > b then 1 else 0
def cmpL : List Int → List Int → Int
  | [], [] => 0
  | [], _ :: _ => -1
  | _ :: _, [] => 1
  | a :: x, b :: y => if a < b then -1 else if a > b then 1 else cmpL x y
theorem cmpU (a b : Int) : cmp_Compare_uint32.f a b = some (cmpI a b) := by
  unfold cmp_Compare_uint32.f cmp_isNaN_uint32.f cmpI
  simp only [bne_self_eq_false, Option.bind_some, Bool.false_eq_true, if_false]
  split
  · rfl
  · split <;> rfl
theorem rd_nat {x : List Int} {i : Nat} (h : i < x.length) : rd x (i : Int) = x[i] := by simp [rd, h]
theorem drop_cons {α : Type} {x : List α} {i : Nat} (h : i < x.length) : x.drop i = x[i] :: x.drop (i + 1) := List.drop_eq_getElem_cons h
theorem ev56 (x y : List Int) (hx : x.length ≤ 1000000) (hy : y.length ≤ 1000000) : ∀ d i, i + d = x.length → i ≤ y.length → Ev (fun k => api_Key_uint32_56.l0 k x y x (x.length : Int) (i : Int)) (cmpL (x.drop i) (y.drop i))
  | 0, i, hd, hi => by
    refine Ev.step (fun k => by rw [api_Key_uint32_56.l0]) ?_
    simp only [if_neg (show ¬ (i : Int) < (x.length : Int) by omega)]
    rw [List.drop_eq_nil_of_le (show x.length ≤ i by omega)]
    by_cases h : i < y.length
    · rw [if_pos (by omega), drop_cons h]
      exact Ev.now _
    · rw [if_neg (by omega), List.drop_eq_nil_of_le (show y.length ≤ i by omega)]
      exact Ev.now _
  | d + 1, i, hd, hi => by
    have hlt : i < x.length := by omega
    refine Ev.step (fun k => by rw [api_Key_uint32_56.l0]) ?_
    simp only [if_pos (show (i : Int) < (x.length : Int) by omega), if_pos (show 0 ≤ (i : Int) by omega), cmpU, Option.bind_some]
    rw [drop_cons hlt]
    by_cases h : i < y.length
    · simp only [if_neg (show ¬ (i : Int) ≥ (y.length : Int) by omega), if_pos (show (i : Int) < (y.length : Int) by omega)]
      rw [drop_cons h, rd_nat hlt, rd_nat h]
      simp only [cmpL, cmpI]
      by_cases h1 : x[i] < y[i]
      · simp only [if_pos h1]
        exact Ev.now _
      · by_cases h2 : x[i] > y[i]
        · simp only [if_neg h1, if_pos h2]
          exact Ev.now _
        · simp only [if_neg h1, if_neg h2, if_true, w64s (show i ≤ 1000000 by omega)]
          exact ev56 x y hx hy d (i + 1) (by omega) (by omega)
    · rw [List.drop_eq_nil_of_le (show y.length ≤ i by omega)]
      simp only [if_pos (show (i : Int) ≥ (y.length : Int) by omega)]
      exact Ev.now _
theorem ev_cmp (x y : List Int) (hx : x.length ≤ 1000000) (hy : y.length ≤ 1000000) : Ev (fun k => key_Compare.f k x y) (cmpL x y) := by
  unfold key_Compare.f api_Key_uint32_56.f
  refine Ev.bind (f := fun _ t => some t) ?_ (Ev.now _)
  have := ev56 x y hx hy x.length 0 (by omega) (Nat.zero_le _)
  simpa using this
theorem ev_rcmp0 (x y : List Int) (hx : x.length ≤ 1000000) (hy : y.length ≤ 1000000) : ∀ d i, i + d = x.length → i ≤ y.length → Ev (fun k => cadastreref08_Compare.l0 k x y (i : Int)) (cmpL (x.drop i) (y.drop i))
  | 0, i, hd, hi => by
    refine Ev.step (fun k => by rw [cadastreref08_Compare.l0]) ?_
    simp only [if_neg (show ¬ (i : Int) < (x.length : Int) by omega)]
    refine Ev.step (fun k => by rw [cadastreref08_Compare.j1]) ?_
    rw [List.drop_eq_nil_of_le (show x.length ≤ i by omega)]
    simp only [Bool.false_eq_true, if_false]
    by_cases h : i < y.length
    · rw [if_pos (by omega), drop_cons h]
      exact Ev.now _
    · rw [if_neg (by omega), if_neg (by omega), List.drop_eq_nil_of_le (show y.length ≤ i by omega)]
      exact Ev.now _
  | d + 1, i, hd, hi => by
    have hlt : i < x.length := by omega
    refine Ev.step (fun k => by rw [cadastreref08_Compare.l0]) ?_
    simp only [if_pos (show (i : Int) < (x.length : Int) by omega)]
    refine Ev.step (fun k => by rw [cadastreref08_Compare.j1]) ?_
    rw [drop_cons hlt]
    by_cases h : i < y.length
    · simp only [if_pos (show (i : Int) < (x.length : Int) by omega), if_pos (show 0 ≤ (i : Int) by omega), if_pos (show (i : Int) < (y.length : Int) by omega), decide_eq_true (show (i : Int) < (y.length : Int) by omega), if_true]
      rw [drop_cons h, rd_nat hlt, rd_nat h]
      simp only [cmpL]
      by_cases h1 : x[i] < y[i]
      · simp only [if_pos h1]
        exact Ev.now _
      · by_cases h2 : x[i] > y[i]
        · simp only [if_neg h1, if_pos h2]
          exact Ev.now _
        · simp only [if_neg h1, if_neg h2, w64s (show i ≤ 1000000 by omega)]
          exact ev_rcmp0 x y hx hy d (i + 1) (by omega) (by omega)
    · rw [List.drop_eq_nil_of_le (show y.length ≤ i by omega)]
      simp only [decide_eq_false (show ¬ (i : Int) < (y.length : Int) by omega), Bool.false_eq_true, if_false]
      rw [if_neg (by omega), if_pos (by omega)]
      exact Ev.now _
theorem ev_rcmp (x y : List Int) (hx : x.length ≤ 1000000) (hy : y.length ≤ 1000000) : Ev (fun k => cadastreref08_Compare.f k x y) (cmpL x y) := by
  have := ev_rcmp0 x y hx hy x.length 0 (by omega) (Nat.zero_le _)
  simpa [cadastreref08_Compare.f] using this
theorem ev_rsame (x y : List Int) (hx : x.length ≤ 1000000) (hy : y.length ≤ 1000000) : Ev (fun k => cadastreref08_Same.f k x y) (cmpL x y == 0) := by
  unfold cadastreref08_Same.f
  exact Ev.bind (f := fun _ t => some (t == 0)) (ev_rcmp x y hx hy) (Ev.now _)
theorem cmpL_eq0 : ∀ (x y : List Int), cmpL x y = 0 ↔ x = y
  | [], [] => by simp [cmpL]
  | [], _ :: _ => by simp [cmpL]
  | _ :: _, [] => by simp [cmpL]
  | a :: x, b :: y => by
    have ih := cmpL_eq0 x y
    simp only [cmpL, List.cons.injEq]
    by_cases h1 : a < b
    · rw [if_pos h1]; constructor
      · intro h; omega
      · intro h; omega
    · rw [if_neg h1]
      by_cases h2 : a > b
      · rw [if_pos h2]; constructor
        · intro h; omega
        · intro h; omega
      · rw [if_neg h2, ih]
        constructor
        · intro h; exact ⟨by omega, h⟩
        · intro h; exact h.2
/-- may a record be? -/
def chk (y : List Int) (n : Nat) (d : Int) : Int := if n > 40 then 1 else if 1 ≤ d ∧ d ≤ 6 ∧ (y.length : Int) = d then 0 else 1
theorem ev_chk (y : List Int) (s : ByteArray) (d : Int) : atlas_Check.f y s d = some (chk y s.size d) := by
  unfold atlas_Check.f key_Check.f key_isDim.f chk
  by_cases h : s.size > 40
  · rw [if_pos (by omega), if_pos h]
  · rw [if_neg (by omega), if_neg h]
    by_cases h1 : d ≥ 1
    · rw [if_pos h1]
      simp only [Option.bind_some]
      by_cases h2 : d ≤ 6
      · simp only [decide_eq_true h2, if_true]
        by_cases h3 : (y.length : Int) = d
        · rw [if_pos h3, if_pos ⟨h1, h2, h3⟩]; rfl
        · rw [if_neg h3, if_neg (fun hh => h3 hh.2.2)]; rfl
      · simp only [decide_eq_false h2, Bool.false_eq_true, if_false]
        rw [if_neg (fun hh => h2 hh.2.1)]; rfl
    · rw [if_neg h1]
      simp only [Option.bind_some, Bool.false_eq_true, if_false]
      rw [if_neg (fun hh => h1 hh.1)]
theorem ev_rchk (y : List Int) (s : ByteArray) (d : Int) : cadastreref09_Check.f y s d = some (chk y s.size d) := by
  unfold cadastreref09_Check.f cadastreref08_Check.f chk
  by_cases h1 : d < 1
  · rw [if_pos h1]
    simp only [Option.bind_some]
    rw [if_neg (by decide)]
    split
    · rfl
    · rw [if_neg (by omega)]
  · rw [if_neg h1]
    by_cases h2 : d > 6
    · rw [if_pos h2]
      simp only [Option.bind_some]
      rw [if_neg (by decide)]
      split
      · rfl
      · rw [if_neg (by omega)]
    · rw [if_neg h2]
      by_cases h3 : (y.length : Int) = d
      · rw [if_pos h3]
        simp only [Option.bind_some, if_true]
        by_cases h : s.size > 40
        · rw [if_pos (by omega), if_pos h]
        · rw [if_neg (by omega), if_neg h, if_pos ⟨by omega, by omega, h3⟩]
      · rw [if_neg h3]
        simp only [Option.bind_some]
        rw [if_neg (by decide)]
        split
        · rfl
        · rw [if_neg (fun hh => h3 hh.2.2)]
/-- lists of moderate size -/
structure Sm (l : List S38) : Prop where
  len : l.length ≤ 1000
  key : ∀ x, x ∈ l → x.f0.length ≤ 1000
  dat : ∀ x, x ∈ l → x.f1.size ≤ 1000
theorem rdT_nat {l : List S38} {i : Nat} (h : i < l.length) : rd_T38 l (i : Int) = l[i] := by simp [rd_T38, h]
def isF (l : List S38) (d : Int) : Nat → Nat → Bool
  | 0, _ => true
  | n + 1, i => if chk (rd_T38 l (i : Int)).f0 (rd_T38 l (i : Int)).f1.size d = 0 then (if i > 0 then (if cmpL (rd_T38 l ((i - 1 : Nat) : Int)).f0 (rd_T38 l (i : Int)).f0 ≥ 0 then false else isF l d n (i + 1)) else isF l d n (i + 1)) else false
def isL (l : List S38) (d : Int) : Bool := isF l d l.length 0
theorem Sm.at_ {l : List S38} (h : Sm l) {i : Nat} (hi : i < l.length) : (rd_T38 l (i : Int)).f0.length ≤ 1000 ∧ (rd_T38 l (i : Int)).f1.size ≤ 1000 := by
  rw [rdT_nat hi]
  exact ⟨h.key _ (List.getElem_mem hi), h.dat _ (List.getElem_mem hi)⟩
theorem ev_is0 (l : List S38) (d : Int) (hl : Sm l) : ∀ n i, i + n = l.length → Ev (fun k => bucket_is.l0 k l d l (l.length : Int) (i : Int)) (isF l d n i)
  | 0, i, hi => by
    refine Ev.step (fun k => by rw [bucket_is.l0]) ?_
    simp only [if_neg (show ¬ (i : Int) < (l.length : Int) by omega)]
    exact Ev.now _
  | n + 1, i, hi => by
    have h1 := hl.len
    have hlt : i < l.length := by omega
    refine Ev.step (fun k => by rw [bucket_is.l0]) ?_
    simp only [if_pos (show (i : Int) < (l.length : Int) by omega), if_pos (show 0 ≤ (i : Int) by omega), ev_chk, Option.bind_some]
    rw [isF]
    by_cases hc : chk (rd_T38 l (i : Int)).f0 (rd_T38 l (i : Int)).f1.size d = 0
    · simp only [if_pos hc]
      by_cases h0 : i > 0
      · have e : wrap64 ((i : Int) - 1) = ((i - 1 : Nat) : Int) := by rw [w64 (by omega) (by omega)]; omega
        simp only [if_pos (show (i : Int) > 0 by omega), if_pos h0, e, if_pos (show 0 ≤ ((i - 1 : Nat) : Int) by omega), if_pos (show ((i - 1 : Nat) : Int) < (l.length : Int) by omega)]
        refine Ev.bind (ev_cmp _ _ (Nat.le_trans (hl.at_ (by omega)).1 (by decide)) (Nat.le_trans (hl.at_ hlt).1 (by decide))) ?_
        by_cases h2 : cmpL (rd_T38 l ((i - 1 : Nat) : Int)).f0 (rd_T38 l (i : Int)).f0 ≥ 0
        · simp only [if_pos h2]
          exact Ev.now _
        · simp only [if_neg h2, w64s (show i ≤ 1000000 by omega)]
          exact ev_is0 l d hl n (i + 1) (by omega)
      · simp only [if_neg (show ¬ (i : Int) > 0 by omega), if_neg h0, w64s (show i ≤ 1000000 by omega)]
        exact ev_is0 l d hl n (i + 1) (by omega)
    · simp only [if_neg hc]
      exact Ev.now _
theorem ev_is (l : List S38) (d : Int) (hl : Sm l) : Ev (fun k => bucket_is.f k l d) (isL l d) := by
  have := ev_is0 l d hl l.length 0 (by omega)
  simpa [bucket_is.f, isL] using this
theorem ev_ris0 (l : List S38) (d : Int) (hl : Sm l) : ∀ n i, i + n = l.length → Ev (fun k => cadastreref10_Is.l0 k l d (i : Int)) (isF l d n i)
  | 0, i, hi => by
    refine Ev.step (fun k => by rw [cadastreref10_Is.l0]) ?_
    simp only [if_neg (show ¬ (i : Int) < (l.length : Int) by omega)]
    exact Ev.now _
  | n + 1, i, hi => by
    have h1 := hl.len
    have hlt : i < l.length := by omega
    refine Ev.step (fun k => by rw [cadastreref10_Is.l0]) ?_
    simp only [if_pos (show (i : Int) < (l.length : Int) by omega), if_pos (show 0 ≤ (i : Int) by omega), ev_rchk, Option.bind_some]
    rw [isF]
    by_cases hc : chk (rd_T38 l (i : Int)).f0 (rd_T38 l (i : Int)).f1.size d = 0
    · simp only [if_pos hc]
      by_cases h0 : i > 0
      · have e : wrap64 ((i : Int) - 1) = ((i - 1 : Nat) : Int) := by rw [w64 (by omega) (by omega)]; omega
        simp only [if_pos (show (i : Int) > 0 by omega), if_pos h0, e, if_pos (show 0 ≤ ((i - 1 : Nat) : Int) by omega), if_pos (show ((i - 1 : Nat) : Int) < (l.length : Int) by omega)]
        refine Ev.bind (ev_rcmp _ _ (Nat.le_trans (hl.at_ (by omega)).1 (by decide)) (Nat.le_trans (hl.at_ hlt).1 (by decide))) ?_
        by_cases h2 : cmpL (rd_T38 l ((i - 1 : Nat) : Int)).f0 (rd_T38 l (i : Int)).f0 ≥ 0
        · simp only [if_pos h2]
          exact Ev.now _
        · simp only [if_neg h2, w64s (show i ≤ 1000000 by omega)]
          exact ev_ris0 l d hl n (i + 1) (by omega)
      · simp only [if_neg (show ¬ (i : Int) > 0 by omega), if_neg h0, w64s (show i ≤ 1000000 by omega)]
        exact ev_ris0 l d hl n (i + 1) (by omega)
    · simp only [if_neg hc]
      exact Ev.now _
theorem ev_ris (l : List S38) (d : Int) (hl : Sm l) : Ev (fun k => cadastreref10_Is.f k l d) (isL l d) := by
  have := ev_ris0 l d hl l.length 0 (by omega)
  simpa [cadastreref10_Is.f, isL] using this
/-- how many bytes records take -/
def szF (l : List S38) : Nat → Nat → Nat
  | 0, _ => 0
  | n + 1, i => (4 * (rd_T38 l (i : Int)).f0.length + 1 + (rd_T38 l (i : Int)).f1.size) + szF l n (i + 1)
def szL (l : List S38) : Nat := 1 + szF l l.length 0
theorem szF_le (l : List S38) (hl : Sm l) : ∀ n i, i + n = l.length → szF l n i ≤ 5001 * n
  | 0, i, hi => by simp [szF]
  | n + 1, i, hi => by
    have h1 := hl.at_ (show i < l.length by omega)
    have h2 := szF_le l hl n (i + 1) (by omega)
    simp only [szF]
    omega
theorem ev_size0 (l : List S38) (hl : Sm l) : ∀ n i (a : Nat), i + n = l.length → a + 5001 * n ≤ 10000000 → Ev (fun k => bucket_Size.l0 k (a : Int) l (l.length : Int) (i : Int)) (((a + szF l n i : Nat)) : Int)
  | 0, i, a, hi, ha => by
    refine Ev.step (fun k => by rw [bucket_Size.l0]) ?_
    simp only [if_neg (show ¬ (i : Int) < (l.length : Int) by omega)]
    exact Ev.now _
  | n + 1, i, a, hi, ha => by
    have h1 := hl.len
    have h3 := hl.at_ (show i < l.length by omega)
    refine Ev.step (fun k => by rw [bucket_Size.l0]) ?_
    have e : wrap64 ((a : Int) + wrap64 (wrap64 (wrap64 (4 * ((rd_T38 l (i : Int)).f0.length : Int)) + 1) + ((rd_T38 l (i : Int)).f1.size : Int))) = ((a + (4 * (rd_T38 l (i : Int)).f0.length + 1 + (rd_T38 l (i : Int)).f1.size) : Nat) : Int) := by
      rw [w64 (x := 4 * ((rd_T38 l (i : Int)).f0.length : Int)) (by omega) (by omega), w64 (x := 4 * ((rd_T38 l (i : Int)).f0.length : Int) + 1) (by omega) (by omega), w64 (x := 4 * ((rd_T38 l (i : Int)).f0.length : Int) + 1 + ((rd_T38 l (i : Int)).f1.size : Int)) (by omega) (by omega), w64 (by omega) (by omega)]
      omega
    simp only [if_pos (show (i : Int) < (l.length : Int) by omega), if_pos (show 0 ≤ (i : Int) by omega), e, w64s (show i ≤ 1000000 by omega)]
    have := ev_size0 l hl n (i + 1) (a + (4 * (rd_T38 l (i : Int)).f0.length + 1 + (rd_T38 l (i : Int)).f1.size)) (by omega) (by omega)
    rw [Nat.add_assoc a] at this
    rw [szF]
    exact this
theorem ev_size (l : List S38) (hl : Sm l) : Ev (fun k => bucket_Size.f k l) (szL l : Int) := by
  have := ev_size0 l hl l.length 0 1 (by omega) (by have := hl.len; omega)
  simpa [bucket_Size.f, szL] using this
theorem ev_rsize0 (l : List S38) (hl : Sm l) : ∀ n i (a : Nat), i + n = l.length → a + 5001 * n ≤ 10000000 → Ev (fun k => cadastreref10_Size.l0 k l (a : Int) (i : Int)) (((a + szF l n i : Nat)) : Int)
  | 0, i, a, hi, ha => by
    refine Ev.step (fun k => by rw [cadastreref10_Size.l0]) ?_
    simp only [if_neg (show ¬ (i : Int) < (l.length : Int) by omega)]
    exact Ev.now _
  | n + 1, i, a, hi, ha => by
    have h1 := hl.len
    have h3 := hl.at_ (show i < l.length by omega)
    refine Ev.step (fun k => by rw [cadastreref10_Size.l0]) ?_
    have e : wrap64 (wrap64 (wrap64 ((a : Int) + wrap64 (4 * ((rd_T38 l (i : Int)).f0.length : Int))) + 1) + ((rd_T38 l (i : Int)).f1.size : Int)) = ((a + (4 * (rd_T38 l (i : Int)).f0.length + 1 + (rd_T38 l (i : Int)).f1.size) : Nat) : Int) := by
      rw [w64 (x := 4 * ((rd_T38 l (i : Int)).f0.length : Int)) (by omega) (by omega), w64 (x := (a : Int) + 4 * ((rd_T38 l (i : Int)).f0.length : Int)) (by omega) (by omega), w64 (x := (a : Int) + 4 * ((rd_T38 l (i : Int)).f0.length : Int) + 1) (by omega) (by omega), w64 (by omega) (by omega)]
      omega
    simp only [if_pos (show (i : Int) < (l.length : Int) by omega), if_pos (show 0 ≤ (i : Int) by omega), e, w64s (show i ≤ 1000000 by omega)]
    have := ev_rsize0 l hl n (i + 1) (a + (4 * (rd_T38 l (i : Int)).f0.length + 1 + (rd_T38 l (i : Int)).f1.size)) (by omega) (by omega)
    rw [Nat.add_assoc a] at this
    rw [szF]
    exact this
theorem ev_rsize (l : List S38) (hl : Sm l) : Ev (fun k => cadastreref10_Size.f k l) (szL l : Int) := by
  have := ev_rsize0 l hl l.length 0 1 (by omega) (by have := hl.len; omega)
  simpa [cadastreref10_Size.f, szL] using this
def fitsL (l : List S38) (m : Int) : Bool := if (l.length : Int) ≤ m then decide ((szL l : Int) ≤ 230) else false
theorem ev_fits (l : List S38) (hl : Sm l) (m : Int) : Ev (fun k => bucket_Fits.f k l m) (fitsL l m) := by
  unfold bucket_Fits.f fitsL
  by_cases h : (l.length : Int) ≤ m
  · simp only [if_pos h]
    exact Ev.bind (f := fun _ t => some (decide (t ≤ 230))) (ev_size l hl) (Ev.now _)
  · simp only [if_neg h]
    exact Ev.now _
theorem ev_rfits (l : List S38) (hl : Sm l) (m : Int) : Ev (fun k => cadastreref10_Fits.f k l m) (fitsL l m) := by
  unfold cadastreref10_Fits.f fitsL
  by_cases h : (l.length : Int) ≤ m
  · simp only [if_pos h]
    exact Ev.bind (f := fun _ t => some (decide (t ≤ 230))) (ev_rsize l hl) (Ev.now _)
  · simp only [if_neg h]
    exact Ev.now _
end Go.Proofs.Ytafpfggijpigfaa.Bkt
