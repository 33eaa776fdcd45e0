import Derived.Test.YtcfklhgaajmoeaaT10
namespace Go.Proofs.Ytcfklhgaajmoeaa.Lin
open Go.RowKit Go.Proofs.YtcfklhgaajmoeaaW.PrintWords Go.Proofs.YtcfklhgaajmoeaaW.PrintLast Go.Proofs.YtcfklhgaajmoeaaW.PrintMore
attribute [local go_sem] max2_int min2_int max_two min_two max_three min_three max_four min_four
set_option linter.unusedVariables false
set_option linter.unusedSimpArgs false
/-- a row of numbers that is read, in a block of its own type -/
def Ct (w : World) (A : Option Addr) (xs : List Int) : Prop := Kd.C (Kd.int .u32) w A xs.length xs ∧ ∀ ad, A = some ad → ∃ cells fr, w.heap[ad.block]? = some (.cells cells 38 fr)
theorem Ct_below {w w1 : World} {A : Option Addr} {xs : List Int} (h : Ct w A xs) (hb : Below w.heap.size w w1) : Ct w1 A xs :=
  ⟨Kd.C_below h.1 hb, fun ad e => by
    obtain ⟨cells, fr, hc⟩ := h.2 ad e
    exact ⟨cells, fr, (hb.block _ (blk_lt hc)).trans hc⟩⟩
theorem Ct_C {w : World} {A : Option Addr} {xs : List Int} (h : Ct w A xs) : Kd.C (Kd.int .u32) w A xs.length xs := h.1
theorem C_far {w : World} {A : Option Addr} {n : Nat} {xs : List Int} (h : Kd.C (Kd.int .u32) w A n xs) {p : Addr} (hp : ∀ ad, A = some ad → ad.block ≠ p.block) (u : Value) : Kd.C (Kd.int .u32) (w.setCell p u) A n xs := by
  refine ⟨h.1, h.2.1, fun hn => ?_⟩
  obtain ⟨ad, e, hc⟩ := h.2.2 hn
  refine ⟨ad, e, fun j q hj => ?_⟩
  obtain ⟨c, hs, hr, hcell⟩ := hc j q hj
  refine ⟨c, hs, hr, fun i v hi => ?_⟩
  have h1 := hcell i v hi
  unfold World.cell? at h1 ⊢
  have hb : ((ad.add (j * (Kd.int .u32).sz + i)).block) ≠ p.block := by
    have : (ad.add (j * (Kd.int .u32).sz + i)).block = ad.block := by unfold Addr.add; split <;> rfl
    rw [this]
    exact hp ad e
  rw [Below.heap_setCell w p u _ hb]
  exact h1
theorem Ct_far {w : World} {A : Option Addr} {xs : List Int} (h : Ct w A xs) {p : Addr} {cs : Array Value} {fr : Nat × Nat} (hp : w.heap[p.block]? = some (.cells cs 33 fr)) (u : Value) : Ct (w.setCell p u) A xs := by
  have hne : ∀ ad, A = some ad → ad.block ≠ p.block := fun ad e hb => by
    obtain ⟨cells, fr', hc⟩ := h.2 ad e
    rw [hb, hp] at hc
    injection hc with hc
    injection hc with _ hc
    cases hc
  exact ⟨C_far h.1 hne u, fun ad e => by
    obtain ⟨cells, fr', hc⟩ := h.2 ad e
    exact ⟨cells, fr', (Below.heap_setCell w p u _ (hne ad e)).trans hc⟩⟩
theorem Ct_of_Rw {w : World} {p q n c : Nat} {A : Option Addr} {xs : List Int} (h : Rw w p q (.slice A n c) xs) : Ct w A xs := by
  refine ⟨R_toC h, fun ad e => ?_⟩
  subst e
  obtain ⟨inner, ho⟩ := Kd.R_own h
  rcases ho.2 with ⟨h1, _⟩ | ⟨g, cap, cur, h1, _, hh, _⟩
  · cases h1
  · injection h1 with h1 _ _
    injection h1 with h1
    subst h1
    exact ⟨_, _, hh⟩
theorem Ct_of_reps {W : World} {g n : Nat} {v : Int} (hn : n ≤ 6) (h : W.heap[g]? = some (.cells (reps n n v).toArray 38 (0, 0))) : Ct W (some ⟨g, 0, none⟩) (List.replicate n v) :=
  ⟨by rw [List.length_replicate]; exact C_reps hn h, fun ad e => by injection e with e; subst e; exact ⟨_, _, h⟩⟩
theorem i64_and1 (n : Int) : bits .and .i64 n 1 = n % 2 := by
  have h1 : (BitVec.ofInt 64 1).toNat = 2 ^ 1 - 1 := by decide
  have key : (BitVec.ofInt 64 n &&& BitVec.ofInt 64 1).toNat = (n % ((2 ^ 64 : Nat) : Int)).toNat % 2 ^ 1 := by
    rw [BitVec.toNat_and, BitVec.toNat_ofInt, h1, Nat.and_two_pow_sub_one_eq_mod]
  show IntKind.i64.wrap ((BitVec.ofInt 64 n &&& BitVec.ofInt 64 1).toNat : Nat) = n % 2
  rw [key, IntKind.wrap_i64]
  omega
theorem bit_test (depth addr k : Nat) : (bits .and .i64 ((addr : Int) / 2 ^ (depth - 1 - k)) 1 == 1) = bitAt depth addr k := by
  rw [i64_and1]
  unfold bitAt
  rw [Bool.eq_iff_iff, beq_iff_eq, beq_iff_eq]
  have h : ((addr : Int) / 2 ^ (depth - 1 - k)) % 2 = ((addr / 2 ^ (depth - 1 - k) % 2 : Nat) : Int) := by
    rw [Int.natCast_emod, Int.natCast_ediv, Int.natCast_pow]; rfl
  rw [h]
  omega
theorem blk_new1 {W : World} {o : Obj} {n : Nat} (h : n = W.heap.size) : (W.alloc o).heap[n]? = some o := by rw [h]; exact blk_new _ _
theorem blk_set1 {W : World} {g t : Nat} {x y a : Value} (h : W.heap[g]? = some (.cells #[x, y] t (0, 0))) : (W.setCell ⟨g, 0, none⟩ a).heap[g]? = some (.cells #[a, y] t (0, 0)) := by
  unfold World.setCell
  simp only [Array.getElem?_modify, h]
  simp
/-- a variable that holds a box -/
def BxC (w : World) (g : Nat) (lo hi : List Int) : Prop := ∃ Aa ca Ab cb, w.heap[g]? = some (.cells #[.slice Aa lo.length ca, .slice Ab hi.length cb] 33 (0, 0)) ∧ Ct w Aa lo ∧ Ct w Ab hi
theorem BxC_below {w w1 : World} {g : Nat} {lo hi : List Int} (h : BxC w g lo hi) (hb : Below w.heap.size w w1) : BxC w1 g lo hi := by
  obtain ⟨Aa, ca, Ab, cb, h1, h2, h3⟩ := h
  exact ⟨Aa, ca, Ab, cb, (hb.block _ (blk_lt h1)).trans h1, Ct_below h2 hb, Ct_below h3 hb⟩
end Go.Proofs.Ytcfklhgaajmoeaa.Lin
