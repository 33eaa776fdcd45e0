import Derived.Test.YtcfklhgaajmoeaaT20
namespace Go.Proofs.Ytcfklhgaajmoeaa.Lin
open Go.RowKit Go.Proofs.YtcfklhgaajmoeaaW.PrintWords Go.Proofs.YtcfklhgaajmoeaaW.PrintLast Go.Proofs.YtcfklhgaajmoeaaW.PrintMore
/-- bit number i of a point, its coordinates taken in turn -/
def keyBit (ks : List Int) (i : Nat) : Nat := ((rd ks (i % ks.length : Nat)).toNat / 2 ^ (31 - i / ks.length)) % 2
def bitsUpto (ks : List Int) : Nat → Nat
  | 0 => 0
  | n + 1 => 2 * bitsUpto ks n + keyBit ks n
theorem bitsUpto_lt (ks : List Int) : ∀ n, bitsUpto ks n < 2 ^ n
  | 0 => by simp [bitsUpto]
  | n + 1 => by
    have h := bitsUpto_lt ks n
    have : keyBit ks n < 2 := Nat.mod_lt _ (by decide)
    simp only [bitsUpto, Nat.pow_succ]
    omega
theorem or_one (x b : Nat) (hb : b < 2) (hx : x < 1000000) : Go.bits .or .i64 ((2 * x : Nat) : Int) (b : Int) = ((2 * x + b : Nat) : Int) := by
  have hn : (BitVec.ofInt 64 ((2 * x : Nat) : Int) ||| BitVec.ofInt 64 (b : Int)).toNat = 2 * x + b := by
    rw [BitVec.toNat_or, BitVec.toNat_ofInt, BitVec.toNat_ofInt]
    have e1 : ((((2 * x : Nat) : Int) % ((2 ^ 64 : Nat) : Int)).toNat) = 2 * x := by omega
    have e2 : (((b : Int) % ((2 ^ 64 : Nat) : Int)).toNat) = b := by omega
    rw [e1, e2]
    have h := Nat.two_pow_add_eq_or_of_lt (i := 1) (b := b) (by simpa using hb) x
    simpa [Nat.pow_one] using h.symm
  show IntKind.i64.wrap ((BitVec.ofInt 64 ((2 * x : Nat) : Int) ||| BitVec.ofInt 64 (b : Int)).toNat : Nat) = _
  rw [hn, IntKind.wrap_i64]
  omega
theorem and_one32 (y : Nat) : Go.bits .and .u32 (y : Int) 1 = ((y % 2 : Nat) : Int) := by
  have h1 : (BitVec.ofInt 32 1).toNat = 2 ^ 1 - 1 := by decide
  have key : (BitVec.ofInt 32 (y : Int) &&& BitVec.ofInt 32 1).toNat = ((y : Int) % ((2 ^ 32 : Nat) : Int)).toNat % 2 ^ 1 := by
    rw [BitVec.toNat_and, BitVec.toNat_ofInt, h1, Nat.and_two_pow_sub_one_eq_mod]
  show IntKind.u32.wrap ((BitVec.ofInt 32 (y : Int) &&& BitVec.ofInt 32 1).toNat : Nat) = _
  rw [key]
  have : ((y : Int) % ((2 ^ 32 : Nat) : Int)).toNat % 2 ^ 1 = y % 2 := by omega
  rw [this]
  have h2 : y % 2 < 2 := Nat.mod_lt _ (by decide)
  rcases (by omega : y % 2 = 0 ∨ y % 2 = 1) with h | h <;> rw [h] <;> decide
theorem bits_l0 (ks : List Int) (h1 : 1 ≤ ks.length) (h6 : ks.length ≤ 6) (hk : ∀ x ∈ ks, 0 ≤ x) (n : Nat) (hn : n ≤ 12) : ∀ (m i : Nat), i + m = n → ∀ k, m < k → key_Bits.l0 k ks ((bitsUpto ks i : Nat) : Int) n i = some (((bitsUpto ks n : Nat) : Int), 0)
  | 0, i, hi, k + 1, _ => by
    have : i = n := by omega
    subst this
    rw [key_Bits.l0, if_neg (by omega)]
  | m + 1, i, hi, k + 1, hk' => by
    have hlt : i % ks.length < ks.length := Nat.mod_lt _ h1
    have hmod : Int.tmod (i : Int) (ks.length : Int) = ((i % ks.length : Nat) : Int) := rfl
    have hdiv : Int.tdiv (i : Int) (ks.length : Int) = ((i / ks.length : Nat) : Int) := rfl
    have hd : i / ks.length ≤ 12 := Nat.le_trans (Nat.div_le_self _ _) (by omega)
    have hr : 0 ≤ rd ks ((i % ks.length : Nat) : Int) := by
      unfold rd
      rw [Int.toNat_natCast, List.getD_eq_getElem?_getD, List.getElem?_eq_getElem hlt]
      exact hk _ (List.getElem_mem hlt)
    have hb := bitsUpto_lt ks i
    have hp : 2 ^ i ≤ 2 ^ 12 := Nat.pow_le_pow_right (by decide) (by omega)
    have hp' : (2 : Nat) ^ 12 = 4096 := by decide
    have hkd : ((rd ks ((i % ks.length : Nat) : Int)).toNat / 2 ^ (31 - i / ks.length)) % 2 = keyBit ks i := rfl
    rw [key_Bits.l0, if_pos (by omega), if_neg (by omega), hmod, hdiv, if_pos (by omega), if_pos (by omega)]
    generalize i / ks.length = qd at hd hkd hdiv ⊢
    rw [w_small (x := (qd : Int)) (by omega) (by omega), w_small (x := 31 - (qd : Int)) (by omega) (by omega), if_pos (by omega)]
    have hs : shr .u32 (rd ks ((i % ks.length : Nat) : Int)) (31 - (qd : Int)) = (((rd ks ((i % ks.length : Nat) : Int)).toNat / 2 ^ (31 - qd) : Nat) : Int) := by
      unfold shr
      rw [show (31 - (qd : Int)).toNat = 31 - qd by omega, Nat.min_eq_left (by show 31 - qd ≤ 32; omega)]
      rw [Int.natCast_ediv, Int.toNat_of_nonneg hr, Int.natCast_pow]
      rfl
    rw [hs, and_one32, hkd]
    have hkb : keyBit ks i < 2 := Nat.mod_lt _ (by decide)
    rw [w_small (x := ((keyBit ks i : Nat) : Int)) (by omega) (by omega), w_small (x := ((bitsUpto ks i : Nat) : Int) * 2) (by omega) (by omega), w_small (x := ((i : Nat) : Int) + 1) (by omega) (by omega)]
    rw [show ((bitsUpto ks i : Nat) : Int) * 2 = ((2 * bitsUpto ks i : Nat) : Int) by omega, or_one _ _ hkb (by omega)]
    have ih := bits_l0 ks h1 h6 hk n hn m (i + 1) (by omega) k (by omega)
    exact ih
theorem bits_f (ks : List Int) (h1 : 1 ≤ ks.length) (h6 : ks.length ≤ 6) (hk : ∀ x ∈ ks, 0 ≤ x) (n : Nat) (hn : n ≤ 12) (k : Nat) (hkk : n + 2 ≤ k) : key_Bits.f k ks n = some (((bitsUpto ks n : Nat) : Int), 0) := by
  obtain ⟨k, rfl⟩ : ∃ k', k = k' + 1 := ⟨k - 1, by omega⟩
  have hdim : key_isDim.f (ks.length : Int) = some true := by
    unfold key_isDim.f
    rw [if_pos (by omega)]
    congr 1
    exact decide_eq_true (by omega)
  unfold key_Bits.f
  rw [hdim, Option.bind_some, if_pos rfl, if_neg (by omega)]
  have hm : decide ((n : Int) > mn 30 (wrap64 (32 * (ks.length : Int)))) = false := by
    apply decide_eq_false
    rw [w_small (by omega) (by omega)]
    unfold mn
    split <;> omega
  rw [hm, key_Bits.j0, if_neg (by decide)]
  exact bits_l0 ks h1 h6 hk n hn n 0 (by omega) k (by omega)
theorem bits_bad (ks : List Int) (h : ¬ (1 ≤ ks.length ∧ ks.length ≤ 6)) (n : Nat) (k : Nat) (hkk : 1 ≤ k) : key_Bits.f k ks n = some (0, 1) := by
  obtain ⟨k, rfl⟩ : ∃ k', k = k' + 1 := ⟨k - 1, by omega⟩
  have hdim : key_isDim.f (ks.length : Int) = some false := by
    unfold key_isDim.f
    by_cases h1 : (ks.length : Int) ≥ 1
    · rw [if_pos h1]
      congr 1
      exact decide_eq_false (by omega)
    · rw [if_neg h1]
  unfold key_Bits.f
  rw [hdim, Option.bind_some, if_neg (by decide), key_Bits.j0, if_pos rfl]
theorem efind_f (ks : List Int) (h1 : 1 ≤ ks.length) (h6 : ks.length ≤ 6) (hk : ∀ x ∈ ks, 0 ≤ x) (n : Nat) (hn : n ≤ 12) (k : Nat) (hkk : n + 2 ≤ k) : excell_Find.f k ks n = some (((bitsUpto ks n : Nat) : Int), 0) := by
  have hdp : excell_isDepth.f (n : Int) = some true := by
    unfold excell_isDepth.f
    rw [if_pos (by omega)]
    congr 1
    exact decide_eq_true (by omega)
  unfold excell_Find.f
  rw [hdp, Option.bind_some, if_pos rfl, bits_f ks h1 h6 hk n hn k hkk, Option.bind_some]
theorem efind_bad (ks : List Int) (h : ¬ (1 ≤ ks.length ∧ ks.length ≤ 6)) (n : Nat) (hn : n ≤ 12) (k : Nat) (hkk : 1 ≤ k) : excell_Find.f k ks n = some (0, 1) := by
  have hdp : excell_isDepth.f (n : Int) = some true := by
    unfold excell_isDepth.f
    rw [if_pos (by omega)]
    congr 1
    exact decide_eq_true (by omega)
  unfold excell_Find.f
  rw [hdp, Option.bind_some, if_pos rfl, bits_bad ks h n k hkk, Option.bind_some]
/-- the chain of a point -/
def chainOf (ks : List Int) (L N : Nat) : Nat := if bitsUpto ks L < N then bitsUpto ks (L + 1) else bitsUpto ks L + N
theorem find_f (ks : List Int) (h1 : 1 ≤ ks.length) (h6 : ks.length ≤ 6) (hk : ∀ x ∈ ks, 0 ≤ x) {L N : Nat} (hL : L ≤ 10) (hN : N < 2 ^ L) (k : Nat) (hkk : 13 ≤ k) : linear_Find.f k ks L N = some (((chainOf ks L N : Nat) : Int), 0) := by
  have hp := pow_le (show L ≤ 11 by omega)
  have hb := bitsUpto_lt ks L
  unfold linear_Find.f chainOf
  rw [is_true hL hN, Option.bind_some, if_pos rfl, efind_f ks h1 h6 hk L (by omega) k (by omega), Option.bind_some, if_pos rfl]
  by_cases hlt : bitsUpto ks L < N
  · rw [if_pos hlt, if_pos (by omega), w_small (by omega) (by omega), show (L : Int) + 1 = ((L + 1 : Nat) : Int) by omega, efind_f ks h1 h6 hk (L + 1) (by omega) k (by omega), Option.bind_some]
  · rw [if_neg hlt, if_neg (by omega), w_small (by omega) (by omega), show ((bitsUpto ks L : Nat) : Int) + (N : Int) = ((bitsUpto ks L + N : Nat) : Int) by omega]
theorem find_bad (ks : List Int) (h : ¬ (1 ≤ ks.length ∧ ks.length ≤ 6)) {L N : Nat} (hL : L ≤ 10) (hN : N < 2 ^ L) (k : Nat) (hkk : 1 ≤ k) : linear_Find.f k ks L N = some (0, 1) := by
  unfold linear_Find.f
  rw [is_true hL hN, Option.bind_some, if_pos rfl, efind_bad ks h L (by omega) k hkk, Option.bind_some, if_neg (by decide)]
theorem find_not {a1 a2 : Int} (ks : List Int) (h : linear_is.f a1 a2 = some false) (k : Nat) : linear_Find.f k ks a1 a2 = some (0, 1) := by
  unfold linear_Find.f
  rw [h, Option.bind_some, if_neg (by decide)]
end Go.Proofs.Ytcfklhgaajmoeaa.Lin
