import Derived.Test.YtcfklhgaajmoeaaT21
namespace Go.Proofs.Ytcfklhgaajmoeaa.Lin
open Go.RowKit Go.Proofs.YtcfklhgaajmoeaaW.PrintWords Go.Proofs.YtcfklhgaajmoeaaW.PrintLast Go.Proofs.YtcfklhgaajmoeaaW.PrintMore
set_option linter.unusedVariables false
set_option linter.unusedSimpArgs false
/-- how many of i bits fall to coordinate j -/
def share (d j i : Nat) : Nat := (i + (d - 1 - j)) / d
theorem share_zero {d j : Nat} (hj : j < d) : share d j 0 = 0 := by unfold share; exact Nat.div_eq_of_lt (by omega)
theorem share_here {d i : Nat} (h1 : 1 ≤ d) (h6 : d ≤ 6) : share d (i % d) i = i / d ∧ share d (i % d) (i + 1) = i / d + 1 := by
  unfold share
  rcases (by omega : d = 1 ∨ d = 2 ∨ d = 3 ∨ d = 4 ∨ d = 5 ∨ d = 6) with rfl | rfl | rfl | rfl | rfl | rfl <;> constructor <;> omega
theorem share_else {d j i : Nat} (h1 : 1 ≤ d) (h6 : d ≤ 6) (hj : j < d) (hne : j ≠ i % d) : share d j (i + 1) = share d j i := by
  unfold share
  rcases (by omega : d = 1 ∨ d = 2 ∨ d = 3 ∨ d = 4 ∨ d = 5 ∨ d = 6) with rfl | rfl | rfl | rfl | rfl | rfl <;> omega
/-- a point lies in a box -/
def Inb (d : Nat) (ks : List Int) (b : List Int × List Int) : Prop := ∀ j : Nat, j < d → rd b.1 j ≤ rd ks j ∧ rd ks j ≤ rd b.2 j
structure BoxIs (d i : Nat) (b : List Int × List Int) : Prop where
  l0 : b.1.length = d
  l1 : b.2.length = d
  at_ : ∀ j : Nat, j < d → ∃ q : Nat, rd b.1 j = ((q * 2 ^ (32 - share d j i) : Nat) : Int) ∧ rd b.2 j = ((q * 2 ^ (32 - share d j i) + 2 ^ (32 - share d j i) - 1 : Nat) : Int)
theorem boxIs_zero (d : Nat) : BoxIs d 0 (List.replicate d 0, List.replicate d 4294967295) where
  l0 := List.length_replicate
  l1 := List.length_replicate
  at_ := fun j hj => ⟨0, by rw [rd_rep _ _ _ hj]; simp, by rw [rd_rep _ _ _ hj, share_zero hj]; decide⟩
theorem half_bit (q h x : Nat) (hh : 0 < h) (hx0 : q * (2 * h) ≤ x) (hx1 : x ≤ q * (2 * h) + 2 * h - 1) : x / h % 2 = 1 ↔ q * (2 * h) + h ≤ x := by
  obtain ⟨r, rfl⟩ : ∃ r, x = q * (2 * h) + r := ⟨x - q * (2 * h), by omega⟩
  have hr : r < 2 * h := by omega
  have e : q * (2 * h) = h * (2 * q) := by rw [Nat.mul_comm q, Nat.mul_comm 2 h, Nat.mul_assoc]
  rw [e, Nat.mul_add_div hh]
  have hd : r / h = if h ≤ r then 1 else 0 := by
    split
    · exact (Nat.div_eq_iff hh).2 (by constructor <;> omega)
    · exact Nat.div_eq_of_lt (by omega)
  rw [hd]
  split <;> omega
theorem step_is {d D c i : Nat} {b : List Int × List Int} {ks : List Int} (hb : BoxIs d i b) (h1 : 1 ≤ d) (h6 : d ≤ 6) (hi : i < 12) (hkl : ks.length = d) (hk : ∀ j : Nat, j < d → 0 ≤ rd ks j) :
    BoxIs d (i + 1) (stepBox d D c i b) ∧ (Inb d ks (stepBox d D c i b) ↔ Inb d ks b ∧ keyBit ks i = c / 2 ^ (D - 1 - i) % 2) := by
  have hm := Nat.mod_lt i h1
  obtain ⟨s0, s1⟩ := share_here (i := i) h1 h6
  have hq12 : i / d ≤ 12 := Nat.le_trans (Nat.div_le_self _ _) (by omega)
  obtain ⟨l0, l1, ha⟩ := hb
  obtain ⟨q, e0, e1⟩ := ha _ hm
  rw [s0] at e0 e1
  have hw : 2 ^ (32 - i / d) = 2 * 2 ^ (31 - i / d) := by
    rw [show 32 - i / d = (31 - i / d) + 1 by omega, Nat.pow_succ]; omega
  have hpos : 0 < 2 ^ (31 - i / d) := Nat.two_pow_pos _
  rw [hw] at e0 e1
  have hw1 : 2 ^ (32 - (i / d + 1)) = 2 ^ (31 - i / d) := by rw [show 32 - (i / d + 1) = 31 - i / d by omega]
  have hkb : keyBit ks i = (rd ks (i % d : Nat)).toNat / 2 ^ (31 - i / d) % 2 := by unfold keyBit; rw [hkl]
  generalize 2 ^ (31 - i / d) = h at hw hpos hw1 hkb e0 e1
  have hx := hk _ hm
  obtain ⟨x, ex⟩ := Int.eq_ofNat_of_zero_le hx
  have hmid : midOf (rd b.1 (i % d : Nat)) (rd b.2 (i % d : Nat)) = ((q * (2 * h) + h - 1 : Nat) : Int) := by
    unfold midOf
    rw [e0, e1]
    generalize q * (2 * h) = z
    omega
  have hkb' : keyBit ks i = x / h % 2 := by rw [hkb, ex, Int.toNat_natCast]
  have hlt2 : x / h % 2 < 2 := Nat.mod_lt _ (by decide)
  have hlt3 : c / 2 ^ (D - 1 - i) % 2 < 2 := Nat.mod_lt _ (by decide)
  have hbit := half_bit q h x hpos
  unfold stepBox
  by_cases hbt : bitAt D c i = true
  · have hc1 : c / 2 ^ (D - 1 - i) % 2 = 1 := by unfold bitAt at hbt; exact beq_iff_eq.mp hbt
    rw [if_pos hbt]
    refine ⟨⟨by rw [List.length_set]; exact l0, l1, fun j hj => ?_⟩, ?_⟩
    · dsimp only
      rw [rd_set' _ _ _ _ (by omega)]
      by_cases hji : j = i % d
      · subst hji
        rw [if_pos rfl, s1, hw1, hmid, e1]
        refine ⟨2 * q + 1, ?_, ?_⟩
        · have : (2 * q + 1) * h = q * (2 * h) + h := by rw [Nat.add_mul, Nat.one_mul, Nat.mul_comm 2 q, Nat.mul_assoc]
          rw [this]; omega
        · have : (2 * q + 1) * h = q * (2 * h) + h := by rw [Nat.add_mul, Nat.one_mul, Nat.mul_comm 2 q, Nat.mul_assoc]
          rw [this]; omega
      · rw [if_neg hji, share_else h1 h6 hj hji]
        exact ha j hj
    · rw [hkb', hc1]
      constructor
      · intro hin
        have hold : Inb d ks b := fun j hj => by
          have hj' := hin j hj
          dsimp only at hj'
          rw [rd_set' _ _ _ _ (by omega)] at hj'
          by_cases hji : j = i % d
          · subst hji
            rw [if_pos rfl, hmid] at hj'
            rw [e0]
            generalize q * (2 * h) = z at hj'
            exact ⟨by omega, hj'.2⟩
          · rw [if_neg hji] at hj'
            exact hj'
        have h0 := hin _ hm
        dsimp only at h0
        rw [rd_set' _ _ _ _ (by omega), if_pos rfl, hmid, e1, ex] at h0
        refine ⟨hold, (hbit ?_ ?_).2 ?_⟩ <;> generalize q * (2 * h) = z at h0 ⊢ <;> omega
      · rintro ⟨hold, hkk⟩ j hj
        have hj' := hold j hj
        dsimp only
        rw [rd_set' _ _ _ _ (by omega)]
        by_cases hji : j = i % d
        · subst hji
          rw [if_pos rfl, hmid]
          rw [e0, e1, ex] at hj'
          have := (hbit (by generalize q * (2 * h) = z at hj' ⊢; omega) (by generalize q * (2 * h) = z at hj' ⊢; omega)).1 hkk
          rw [e1, ex]
          generalize q * (2 * h) = z at hj' this ⊢
          omega
        · rw [if_neg hji]
          exact hj'
  · have hc1 : c / 2 ^ (D - 1 - i) % 2 = 0 := by
      have : ¬ c / 2 ^ (D - 1 - i) % 2 = 1 := fun e => hbt (by unfold bitAt; exact beq_iff_eq.mpr e)
      omega
    rw [if_neg hbt]
    refine ⟨⟨l0, by rw [List.length_set]; exact l1, fun j hj => ?_⟩, ?_⟩
    · dsimp only
      rw [rd_set' _ _ _ _ (by omega)]
      by_cases hji : j = i % d
      · subst hji
        rw [if_pos rfl, s1, hw1, hmid, e0]
        have : (2 * q) * h = q * (2 * h) := by rw [Nat.mul_comm 2 q, Nat.mul_assoc]
        exact ⟨2 * q, by rw [this], by rw [this]⟩
      · rw [if_neg hji, share_else h1 h6 hj hji]
        exact ha j hj
    · rw [hkb', hc1]
      constructor
      · intro hin
        have hold : Inb d ks b := fun j hj => by
          have hj' := hin j hj
          dsimp only at hj'
          rw [rd_set' _ _ _ _ (by omega)] at hj'
          by_cases hji : j = i % d
          · subst hji
            rw [if_pos rfl, hmid] at hj'
            rw [e1]
            generalize q * (2 * h) = z at hj'
            exact ⟨hj'.1, by omega⟩
          · rw [if_neg hji] at hj'
            exact hj'
        have h0 := hin _ hm
        dsimp only at h0
        rw [rd_set' _ _ _ _ (by omega), if_pos rfl, hmid, e0, ex] at h0
        have hb2 := hbit (by generalize q * (2 * h) = z at h0 ⊢; omega) (by generalize q * (2 * h) = z at h0 ⊢; omega)
        refine ⟨hold, ?_⟩
        have : ¬ x / h % 2 = 1 := fun e => by
          have := hb2.1 e
          generalize q * (2 * h) = z at h0 this
          omega
        omega
      · rintro ⟨hold, hkk⟩ j hj
        have hj' := hold j hj
        dsimp only
        rw [rd_set' _ _ _ _ (by omega)]
        by_cases hji : j = i % d
        · subst hji
          rw [if_pos rfl, hmid]
          rw [e0, e1, ex] at hj'
          have hb2 := hbit (by generalize q * (2 * h) = z at hj' ⊢; omega) (by generalize q * (2 * h) = z at hj' ⊢; omega)
          have : ¬ q * (2 * h) + h ≤ x := fun e => by have := hb2.2 e; omega
          rw [e0, ex]
          generalize q * (2 * h) = z at hj' this ⊢
          omega
        · rw [if_neg hji]
          exact hj'
theorem upto_is {d D c : Nat} {ks : List Int} (h1 : 1 ≤ d) (h6 : d ≤ 6) (hD : D ≤ 12) (hc : c < 2 ^ D) (hkl : ks.length = d) (hk : ∀ j : Nat, j < d → 0 ≤ rd ks j ∧ rd ks j ≤ 4294967295) : ∀ i, i ≤ D →
    BoxIs d i (boxUpto d D c i) ∧ (Inb d ks (boxUpto d D c i) ↔ bitsUpto ks i = c / 2 ^ (D - i))
  | 0, _ => by
    refine ⟨boxIs_zero d, ?_⟩
    have : c / 2 ^ (D - 0) = 0 := Nat.div_eq_of_lt hc
    rw [this]
    refine ⟨fun _ => rfl, fun _ j hj => ?_⟩
    simp only [boxUpto]
    rw [rd_rep _ _ _ hj, rd_rep _ _ _ hj]
    exact hk j hj
  | i + 1, hi => by
    obtain ⟨hb, hin⟩ := upto_is (c := c) h1 h6 hD hc hkl hk i (by omega)
    obtain ⟨hb', hin'⟩ := step_is (D := D) (c := c) hb h1 h6 (by omega) hkl (fun j hj => (hk j hj).1)
    refine ⟨hb', ?_⟩
    simp only [boxUpto]
    rw [hin', hin]
    have e : c / 2 ^ (D - i) = c / 2 ^ (D - 1 - i) / 2 := by
      rw [Nat.div_div_eq_div_mul, ← Nat.pow_succ, show (D - 1 - i).succ = D - i by omega]
    rw [e, show D - (i + 1) = D - 1 - i by omega]
    simp only [bitsUpto]
    have hkb : keyBit ks i < 2 := Nat.mod_lt _ (by decide)
    constructor
    · rintro ⟨e1, e2⟩; omega
    · intro e1; constructor <;> omega
theorem in_box {d D c : Nat} {ks : List Int} (h1 : 1 ≤ d) (h6 : d ≤ 6) (hD : D ≤ 12) (hc : c < 2 ^ D) (hkl : ks.length = d) (hk : ∀ j : Nat, j < d → 0 ≤ rd ks j ∧ rd ks j ≤ 4294967295) : Inb d ks (boxUpto d D c D) ↔ bitsUpto ks D = c := by
  have h := (upto_is h1 h6 hD hc hkl hk D (Nat.le_refl _)).2
  rwa [Nat.sub_self, Nat.pow_zero, Nat.div_one] at h
theorem in_l0 {ks lo hi : List Int} (hd : ks.length ≤ 6) (hl : lo.length = ks.length) (hh : hi.length = ks.length) : ∀ (m i : Nat), i + m = ks.length → ∀ k, m < k →
    (cadastreref08_In.l0 k ks i lo hi = some true ∧ (∀ j : Nat, i ≤ j → j < ks.length → rd lo j ≤ rd ks j ∧ rd ks j ≤ rd hi j)) ∨ (cadastreref08_In.l0 k ks i lo hi = some false ∧ ¬ (∀ j : Nat, i ≤ j → j < ks.length → rd lo j ≤ rd ks j ∧ rd ks j ≤ rd hi j))
  | 0, i, hi', k + 1, _ => by
    left
    rw [cadastreref08_In.l0, if_neg (by omega)]
    exact ⟨rfl, fun j h1 h2 => by omega⟩
  | m + 1, i, hi', k + 1, hk => by
    rw [cadastreref08_In.l0, if_pos (by omega), if_pos (by omega), if_pos (by omega)]
    by_cases h1 : rd ks i < rd lo i
    · right
      rw [if_pos h1]
      refine ⟨rfl, fun h => ?_⟩
      have := h i (Nat.le_refl _) (by omega)
      omega
    · rw [if_neg h1, if_pos (by omega)]
      by_cases h2 : rd ks i > rd hi i
      · right
        rw [if_pos h2]
        refine ⟨rfl, fun h => ?_⟩
        have := h i (Nat.le_refl _) (by omega)
        omega
      · rw [if_neg h2, w_small (by omega) (by omega)]
        have ih := in_l0 hd hl hh m (i + 1) (by omega) k (by omega)
        rw [show ((i : Nat) : Int) + 1 = ((i + 1 : Nat) : Int) by omega]
        rcases ih with ⟨e, h⟩ | ⟨e, h⟩
        · left
          refine ⟨e, fun j hj1 hj2 => ?_⟩
          by_cases hji : j = i
          · subst hji; exact ⟨by omega, by omega⟩
          · exact h j (by omega) hj2
        · right
          exact ⟨e, fun hx => h fun j hj1 hj2 => hx j (by omega) hj2⟩
theorem in_f {ks lo hi : List Int} (hd : ks.length ≤ 6) (hl : lo.length = ks.length) (hh : hi.length = ks.length) (k : Nat) (hk : 8 ≤ k) :
    (cadastreref08_In.f k ks lo hi = some true ∧ Inb ks.length ks (lo, hi)) ∨ (cadastreref08_In.f k ks lo hi = some false ∧ ¬ Inb ks.length ks (lo, hi)) := by
  obtain ⟨k, rfl⟩ : ∃ k', k = k' + 1 := ⟨k - 1, by omega⟩
  have e : cadastreref08_In.f (k + 1) ks lo hi = cadastreref08_In.l0 k ks (0 : Nat) lo hi := by
    unfold cadastreref08_In.f
    rw [if_pos (by omega), show ((hi.length : Int) != (ks.length : Int)) = false by rw [hh]; simp, cadastreref08_In.j0, if_neg (by decide)]
    rfl
  rw [e]
  rcases in_l0 hd hl hh ks.length 0 (by omega) k (by omega) with ⟨h1, h2⟩ | ⟨h1, h2⟩
  · exact Or.inl ⟨h1, fun j hj => h2 j (Nat.zero_le _) hj⟩
  · exact Or.inr ⟨h1, fun h => h2 fun j _ hj => h j hj⟩
/-- the box of a chain -/
def boxOf (d L N c : Nat) : List Int × List Int := if c < 2 * N then boxUpto d (L + 1) c (L + 1) else boxUpto d L (c - N) L
theorem boxOf_len {ks : List Int} {L N c : Nat} (h1 : 1 ≤ ks.length) (h6 : ks.length ≤ 6) (hL : L ≤ 10) (hN : N < 2 ^ L) (hc : c < 2 ^ L + N) (hk : ∀ j : Nat, j < ks.length → 0 ≤ rd ks j ∧ rd ks j ≤ 4294967295) :
    (boxOf ks.length L N c).1.length = ks.length ∧ (boxOf ks.length L N c).2.length = ks.length ∧ (Inb ks.length ks (boxOf ks.length L N c) ↔ c = chainOf ks L N) := by
  have hp1 : 2 ^ (L + 1) = 2 * 2 ^ L := by rw [Nat.pow_succ]; omega
  have hkb : keyBit ks L < 2 := Nat.mod_lt _ (by decide)
  have hb1 : bitsUpto ks (L + 1) = 2 * bitsUpto ks L + keyBit ks L := rfl
  unfold boxOf chainOf
  by_cases h : c < 2 * N
  · rw [if_pos h]
    have hb := (upto_is (D := L + 1) (c := c) h1 h6 (by omega) (by omega) rfl hk (L + 1) (Nat.le_refl _)).1
    refine ⟨hb.l0, hb.l1, ?_⟩
    rw [in_box h1 h6 (by omega) (by omega) rfl hk]
    split <;> omega
  · rw [if_neg h]
    have hb := (upto_is (D := L) (c := c - N) h1 h6 (by omega) (by omega) rfl hk L (Nat.le_refl _)).1
    refine ⟨hb.l0, hb.l1, ?_⟩
    rw [in_box h1 h6 (by omega) (by omega) rfl hk]
    split <;> omega
theorem chain_lt {ks : List Int} {L N : Nat} (hN : N < 2 ^ L) : chainOf ks L N < 2 ^ L + N := by
  have h := bitsUpto_lt ks L
  have hkb : keyBit ks L < 2 := Nat.mod_lt _ (by decide)
  have hb1 : bitsUpto ks (L + 1) = 2 * bitsUpto ks L + keyBit ks L := rfl
  unfold chainOf
  split <;> omega
/-- grown, a point stays in its chain or goes to the next -/
theorem chain_on {ks : List Int} {L N : Nat} (hN : N + 1 < 2 ^ L) : (chainOf ks L N < 2 * N → chainOf ks L (N + 1) = chainOf ks L N) ∧ (2 * N < chainOf ks L N → chainOf ks L (N + 1) = chainOf ks L N + 1) ∧ (chainOf ks L N = 2 * N → chainOf ks L (N + 1) = chainOf ks L N ∨ chainOf ks L (N + 1) = chainOf ks L N + 1) := by
  have hkb : keyBit ks L < 2 := Nat.mod_lt _ (by decide)
  have hb1 : bitsUpto ks (L + 1) = 2 * bitsUpto ks L + keyBit ks L := rfl
  unfold chainOf
  refine ⟨?_, ?_, ?_⟩ <;> (intro h; split at h <;> split <;> (try split) <;> omega)
theorem chain_up {ks : List Int} {L N : Nat} (hN : N + 1 = 2 ^ L) : (chainOf ks L N < 2 * N → chainOf ks (L + 1) 0 = chainOf ks L N) ∧ ¬ 2 * N < chainOf ks L N ∧ (chainOf ks L N = 2 * N → chainOf ks (L + 1) 0 = chainOf ks L N ∨ chainOf ks (L + 1) 0 = chainOf ks L N + 1) := by
  have h := bitsUpto_lt ks L
  have hkb : keyBit ks L < 2 := Nat.mod_lt _ (by decide)
  have hb1 : bitsUpto ks (L + 1) = 2 * bitsUpto ks L + keyBit ks L := rfl
  unfold chainOf
  refine ⟨?_, ?_, ?_⟩
  · intro h; split at h <;> split <;> omega
  · split <;> omega
  · intro h; split at h <;> split <;> omega
/-- of one coordinate -/
theorem bits_one (a : Nat) (ha : a < 2 ^ 32) : ∀ n, n ≤ 32 → bitsUpto [(a : Int)] n = a / 2 ^ (32 - n)
  | 0, _ => by
    simp only [bitsUpto]
    exact (Nat.div_eq_of_lt ha).symm
  | n + 1, hn => by
    have ih := bits_one a ha n (by omega)
    have hk : keyBit [(a : Int)] n = a / 2 ^ (31 - n) % 2 := by
      unfold keyBit
      simp only [List.length_cons, List.length_nil, Nat.zero_add, Nat.mod_one, Nat.div_one]
      rfl
    simp only [bitsUpto]
    rw [ih, hk, show 32 - (n + 1) = 31 - n by omega]
    have e : a / 2 ^ (32 - n) = a / 2 ^ (31 - n) / 2 := by
      rw [Nat.div_div_eq_div_mul, ← Nat.pow_succ, show (31 - n).succ = 32 - n by omega]
    omega
theorem chain_one {a b L N : Nat} (ha : a < 2 ^ 32) (hb : b < 2 ^ 32) (hL : L ≤ 10) (hab : a ≤ b) : chainOf [(a : Int)] L N ≤ chainOf [(b : Int)] L N := by
  have h0 : bitsUpto [(a : Int)] L ≤ bitsUpto [(b : Int)] L := by
    rw [bits_one a ha L (by omega), bits_one b hb L (by omega)]
    exact Nat.div_le_div_right hab
  have h1 : bitsUpto [(a : Int)] (L + 1) ≤ bitsUpto [(b : Int)] (L + 1) := by
    rw [bits_one a ha (L + 1) (by omega), bits_one b hb (L + 1) (by omega)]
    exact Nat.div_le_div_right hab
  have hk : keyBit [(a : Int)] L < 2 := Nat.mod_lt _ (by decide)
  have hb1 : bitsUpto [(a : Int)] (L + 1) = 2 * bitsUpto [(a : Int)] L + keyBit [(a : Int)] L := rfl
  unfold chainOf
  split <;> split <;> omega
theorem box_f {d L N c : Nat} (h1 : 1 ≤ d) (h6 : d ≤ 6) (hL : L ≤ 10) (hN : N < 2 ^ L) (hc : c < 2 ^ L + N) : linear_Box.f d L N c = some ((boxOf d L N c).1, (boxOf d L N c).2, 0) := by
  unfold linear_Box.f boxOf
  rw [if_pos (by omega), count_good hL hN, Option.bind_some]
  rw [if_neg (by show ¬ ((0 : Int) ≠ 0 ∨ (c : Int) < 0 ∨ ((2 ^ L + N : Nat) : Int) ≤ (c : Int)); omega)]
  by_cases h : c < 2 * N
  · rw [if_pos (by omega), if_pos h]
    simp only [Int.toNat_natCast]
  · rw [if_neg (by omega), if_neg h]
    have hs : ((c : Int) - (N : Int)).toNat = c - N := by omega
    simp only [Int.toNat_natCast, hs]
theorem box_out {d L N : Nat} {c : Int} (h1 : 1 ≤ d) (h6 : d ≤ 6) (hL : L ≤ 10) (hN : N < 2 ^ L) (hc : c < 0 ∨ ((2 ^ L + N : Nat) : Int) ≤ c) : linear_Box.f d L N c = some ([], [], 1) := by
  unfold linear_Box.f
  rw [if_pos (by omega), count_good hL hN, Option.bind_some]
  rw [if_pos (by show (0 : Int) ≠ 0 ∨ c < 0 ∨ ((2 ^ L + N : Nat) : Int) ≤ c; omega)]
theorem beside {ks : List Int} {L N : Nat} (h1 : 1 ≤ ks.length) (h6 : ks.length ≤ 6) (hL : L ≤ 10) (hN : N < 2 ^ L) (hk : ∀ j : Nat, j < ks.length → 0 ≤ rd ks j ∧ rd ks j ≤ 4294967295) (c : Int) (hne : c ≠ ((chainOf ks L N : Nat) : Int)) (k : Nat) (hkk : 8 ≤ k) :
    linear_Box.f ks.length L N c = some ([], [], 1) ∨ ∃ lo hi, linear_Box.f ks.length L N c = some (lo, hi, 0) ∧ cadastreref08_In.f k ks lo hi = some false := by
  by_cases ho : c < 0 ∨ ((2 ^ L + N : Nat) : Int) ≤ c
  · exact Or.inl (box_out h1 h6 hL hN ho)
  · obtain ⟨c, rfl⟩ := Int.eq_ofNat_of_zero_le (show 0 ≤ c by omega)
    have hc : c < 2 ^ L + N := by omega
    obtain ⟨e0, e1, e2⟩ := boxOf_len h1 h6 hL hN hc hk
    refine Or.inr ⟨_, _, box_f h1 h6 hL hN hc, ?_⟩
    rcases in_f h6 e0 e1 k hkk with ⟨_, h⟩ | ⟨h, _⟩
    · exact absurd (e2.mp h) (by omega)
    · exact h
end Go.Proofs.Ytcfklhgaajmoeaa.Lin
