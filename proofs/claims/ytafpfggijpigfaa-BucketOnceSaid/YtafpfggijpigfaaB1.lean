import Derived.Test.YtafpfggijpigfaaB0
import Derived.Lib.SliceRun
import Derived.Outline
import Derived.Laws.BitsAllLaws
namespace Go.Proofs.Ytafpfggijpigfaa.Bkt
open Go.RowKit Go.Proofs.YtafpfggijpigfaaW.PrintWords Go.Proofs.YtafpfggijpigfaaW.PrintLast Go.Proofs.YtafpfggijpigfaaW.PrintMore
attribute [local go_sem] max2_int min2_int max_two min_two max_three min_three max_four min_four
set_option linter.unusedVariables false
set_option linter.unusedSimpArgs false
/-- Area.part in range -/
theorem part59_ok (ga gb i m n c : Nat) (w : World) (hc : w.cell? ⟨ga, 0, none⟩ = some (.slice (some ⟨gb, 0, none⟩) n c)) (hn : n ≤ c) (hm : n ≤ 9223372036854775807) (h : i + m ≤ n) (h0 : 0 < m) :
    Calls Try.prog 59 #[.pointer (some ⟨ga, 0, none⟩), .int .i64 i, .int .i64 m] w fun e w' => e = .returned (.slice (some ⟨gb, i, none⟩) m m) ∧ w = w' := by
  have h1 : (i : Int) ≤ n := by omega
  have h2 : (m : Int) ≤ n - i := by omega
  have h3 : ¬ (i + m = i) := by omega
  go_enter Try.func59, Try.ntmps59
  go_wp2
  go_ret
  exact ⟨by simp, rfl⟩
theorem part59_zero (ga gb i n c : Nat) (w : World) (hc : w.cell? ⟨ga, 0, none⟩ = some (.slice (some ⟨gb, 0, none⟩) n c)) (hn : n ≤ c) (hm : n ≤ 9223372036854775807) (h : i ≤ n) :
    Calls Try.prog 59 #[.pointer (some ⟨ga, 0, none⟩), .int .i64 i, .int .i64 0] w fun e w' => e = .returned (.slice (some ⟨gb, 0, none⟩) 0 0) ∧ w = w' := by
  have h1 : (i : Int) ≤ n := by omega
  have h2 : (0 : Int) ≤ n - i := by omega
  go_enter Try.func59, Try.ntmps59
  go_wp2
  go_ret
  exact ⟨by simp, rfl⟩
theorem part59_no (ga gb i m n c : Nat) (w : World) (hc : w.cell? ⟨ga, 0, none⟩ = some (.slice (some ⟨gb, 0, none⟩) n c)) (hn : n ≤ c) (hm : n ≤ 9223372036854775807) (h : n < i + m) (hi : i ≤ 9223372036854775807) :
    Calls Try.prog 59 #[.pointer (some ⟨ga, 0, none⟩), .int .i64 i, .int .i64 m] w fun e w' => e = .returned (.slice none 0 0) ∧ w = w' := by
  by_cases h1 : n < i
  · have h1' : (n : Int) < i := by omega
    go_enter Try.func59, Try.ntmps59
    go_wp2
    go_ret
    exact ⟨by simp, rfl⟩
  · have h1' : (i : Int) ≤ n := by omega
    have h2' : (n : Int) - i < m := by omega
    go_enter Try.func59, Try.ntmps59
    go_wp2
    go_ret
    exact ⟨by simp, rfl⟩
def Wd (m : Nat) : Prop := m = 1 ∨ m = 4
theorem number58_ok (ga gb i m n c : Nat) (w : World) (hc : w.cell? ⟨ga, 0, none⟩ = some (.slice (some ⟨gb, 0, none⟩) n c)) (hn : n ≤ c) (hm : n ≤ 9223372036854775807) (h : i + m ≤ n) (hw : Wd m) :
    Calls Try.prog 58 #[.pointer (some ⟨ga, 0, none⟩), .int .i64 i, .int .i64 m] w fun e w' => e = .returned (.slice (some ⟨gb, i, none⟩) m m) ∧ w = w' := by
  rcases hw with rfl | rfl
  · go_enter Try.func58, Try.ntmps58
    go_wp2_with (go_at_call 59; refine (part59_ok ga gb i 1 n c _ hc hn hm h (by decide)).mono ?_; rintro e w' ⟨rfl, rfl⟩)
    go_ret
    exact ⟨rfl, rfl⟩
  · go_enter Try.func58, Try.ntmps58
    go_wp2_with (go_at_call 59; refine (part59_ok ga gb i 4 n c _ hc hn hm h (by decide)).mono ?_; rintro e w' ⟨rfl, rfl⟩)
    go_ret
    exact ⟨rfl, rfl⟩
theorem number58_no (ga gb i m n c : Nat) (w : World) (hc : w.cell? ⟨ga, 0, none⟩ = some (.slice (some ⟨gb, 0, none⟩) n c)) (hn : n ≤ c) (hm : n ≤ 9223372036854775807) (h : n < i + m) (hi : i ≤ 9223372036854775807) (hw : Wd m) :
    Calls Try.prog 58 #[.pointer (some ⟨ga, 0, none⟩), .int .i64 i, .int .i64 m] w fun e w' => e = .returned (.slice none 0 0) ∧ w = w' := by
  rcases hw with rfl | rfl
  · go_enter Try.func58, Try.ntmps58
    go_wp2_with (go_at_call 59; refine (part59_no ga gb i 1 n c _ hc hn hm h hi).mono ?_; rintro e w' ⟨rfl, rfl⟩)
    go_ret
    exact ⟨rfl, rfl⟩
  · go_enter Try.func58, Try.ntmps58
    go_wp2_with (go_at_call 59; refine (part59_no ga gb i 4 n c _ hc hn hm h hi).mono ?_; rintro e w' ⟨rfl, rfl⟩)
    go_ret
    exact ⟨rfl, rfl⟩
def be (xs : List Int) : Int := xs.foldl (fun a b => a * 256 + b) 0
theorem be_snoc (xs : List Int) (x : Int) : be (xs ++ [x]) = be xs * 256 + x := by simp [be]
def Bytes (xs : List Int) : Prop := ∀ x, x ∈ xs → 0 ≤ x ∧ x ≤ 255
theorem get52_no (ga gb i m n c : Nat) (w : World) (hc : w.cell? ⟨ga, 0, none⟩ = some (.slice (some ⟨gb, 0, none⟩) n c)) (hn : n ≤ c) (hm : n ≤ 9223372036854775807) (h : n < i + m) (hi : i ≤ 9223372036854775807) (hw : Wd m) :
    Calls Try.prog 52 #[.pointer (some ⟨ga, 0, none⟩), .int .i64 i, .int .i64 m] w fun e w' => e = .returned (.tuple #[.int .u32 0, .int .i64 1]) ∧ w = w' := by
  have hq := fun (w : World) (a : Option Addr) (n c : Nat) => Lib.run_eql_slice_nil (P := Try.prog) w 72 5 a n c 0 0 Try.underlying72
  go_enter Try.func52, Try.ntmps52
  go_wp2_with (go_at_call 58; refine (number58_no ga gb i m n c _ hc hn hm h hi hw).mono ?_; rintro e w' ⟨rfl, rfl⟩)
  go_ret2
  exact ⟨rfl, rfl⟩
theorem be_bound (xs : List Int) (h : Bytes xs) : 0 ≤ be xs ∧ be xs < 256 ^ xs.length := by
  have gen : ∀ (xs : List Int), Bytes xs → ∀ a : Int, 0 ≤ a → ∀ p : Nat, a < 256 ^ p → 0 ≤ xs.foldl (fun a b => a * 256 + b) a ∧ xs.foldl (fun a b => a * 256 + b) a < 256 ^ (p + xs.length) := by
    intro xs
    induction xs with
    | nil => intro _ a h0 p h1; exact ⟨h0, h1⟩
    | cons x xs ih =>
      intro hx a h0 p h1
      have hb := hx x (by simp)
      have := ih (fun y hy => hx y (by simp [hy])) (a * 256 + x) (by omega) (p + 1) (by rw [Int.pow_succ]; omega)
      simp only [List.foldl_cons, List.length_cons]
      rw [show p + (xs.length + 1) = p + 1 + xs.length by omega]
      exact this
  have := gen xs h 0 (by omega) 0 (by decide)
  rwa [Nat.zero_add] at this
theorem Bytes.take {xs : List Int} (h : Bytes xs) (k : Nat) : Bytes (xs.take k) := fun x hx => h x (List.mem_of_mem_take hx)
theorem Bytes.drop {xs : List Int} (h : Bytes xs) (k : Nat) : Bytes (xs.drop k) := fun x hx => h x (List.mem_of_mem_drop hx)
theorem be_lt4 (xs : List Int) (h : Bytes xs) (hl : xs.length ≤ 4) : 0 ≤ be xs ∧ be xs < 4294967296 := by
  have h1 := be_bound xs h
  have h2 : (256 : Int) ^ xs.length ≤ 256 ^ 4 := by
    have := Nat.pow_le_pow_right (n := 256) (by decide) hl
    have e : ∀ p : Nat, ((256 ^ p : Nat) : Int) = 256 ^ p := fun p => by simp
    rw [← e, ← e]
    exact_mod_cast this
  have h3 : (256 : Int) ^ 4 = 4294967296 := by decide
  omega
theorem or_be (a b : Int) (h0 : 0 ≤ a) (h1 : a * 256 < 4294967296) (h2 : 0 ≤ b) (h3 : b ≤ 255) : bits .or .u32 (a * 256 % 4294967296) (b % 4294967296) = a * 256 + b := by
  obtain ⟨x, rfl⟩ := Int.eq_ofNat_of_zero_le h0
  obtain ⟨y, rfl⟩ := Int.eq_ofNat_of_zero_le h2
  have e1 : (x : Int) * 256 % 4294967296 = ((x * 256 : Nat) : Int) := by omega
  have e2 : (y : Int) % 4294967296 = (y : Int) := by omega
  rw [e1, e2, u32_or_nat _ _ (by omega) (by omega)]
  have : x * 256 ||| y = x * 256 + y := by
    have := Nat.shiftLeft_add_eq_or_of_lt (i := 8) (b := y) (by omega) x
    rw [Nat.shiftLeft_eq] at this
    exact this.symm
  rw [this]
  omega
theorem rd_mem {xs : List Int} {j : Nat} (h : j < xs.length) : rd xs j ∈ xs := by
  simp [rd, List.getD_eq_getElem?_getD, List.getElem?_eq_getElem h]
theorem take_drop_snoc (xs : List Int) (i k : Nat) (h : i + k < xs.length) : (xs.drop i).take (k + 1) = (xs.drop i).take k ++ [rd xs ((i + k : Nat) : Int)] := by
  rw [List.take_succ_eq_append_getElem (by simp; omega)]
  have e : (((i + k : Nat) : Int)).toNat = i + k := Int.toNat_natCast _
  simp only [rd, e, List.getD_eq_getElem?_getD, List.getElem?_eq_getElem h, List.getElem_drop, Option.getD_some]
theorem get52_ok (ga gb i m n c : Nat) (xs : List Int) (w : World) (hc : w.cell? ⟨ga, 0, none⟩ = some (.slice (some ⟨gb, 0, none⟩) n c)) (hn : n ≤ c) (hm : n ≤ 9223372036854775807) (h : i + m ≤ n) (hw : Wd m)
    (hx : Aside0 (ReadsInt w .u8 (some ⟨gb, 0, none⟩) n xs)) (hb : Aside0 (Bytes xs)) :
    Calls Try.prog 52 #[.pointer (some ⟨ga, 0, none⟩), .int .i64 i, .int .i64 m] w fun e w' => e = .returned (.tuple #[.int .u32 (be ((xs.drop i).take m)), .int .i64 0]) ∧ w = w' := by
  have hq := fun (w : World) (a : Option Addr) (n c : Nat) => Lib.run_eql_slice_nil (P := Try.prog) w 72 5 a n c 0 0 Try.underlying72
  have hm4 : m ≤ 4 := by rcases hw with rfl | rfl <;> decide
  have HL := Aside0.mk hx.out.1
  go_enter Try.func52, Try.ntmps52
  go_wp2_with (go_at_call 58; refine (number58_ok ga gb i m n c _ hc hn hm h hw).mono ?_; rintro e w' ⟨rfl, rfl⟩)
  go_loop [9, 20] (fun v9 v20 => ∃ k : Nat, k ≤ m ∧ v20 = .int .i64 k ∧ v9 = .int .u32 (be ((xs.drop i).take k))) (fun _ v => m - (intOf v).toNat)
  case atStart => exact ⟨0, Nat.zero_le _, rfl, rfl⟩
  case round =>
    obtain ⟨k, hk, rfl, rfl⟩ := hrel
    by_cases hlt : k < m
    · have hcell : w.cell? ⟨gb, i + k, none⟩ = some (.int .u8 (rd xs ((i + k : Nat) : Int))) := by
        obtain ⟨ad, e, hh⟩ := hx.out.at_ ((i + k : Nat) : Int) (by omega) (by omega)
        injection e with e
        subst e
        rw [add_plain, Int.toNat_natCast] at hh
        exact hh
      have hxb := hb.out (rd xs ((i + k : Nat) : Int)) (rd_mem (by have := HL.out; omega))
      have hbe := be_lt4 ((xs.drop i).take (k + 1)) ((hb.out.drop i).take (k + 1)) (by simp; omega)
      have hbe0 := be_lt4 ((xs.drop i).take k) ((hb.out.drop i).take k) (by simp; omega)
      have hsn := take_drop_snoc xs i k (by have := HL.out; omega)
      rw [hsn, be_snoc] at hbe
      have HS := Aside0.mk hsn
      have HO := Aside0.mk (or_be (be ((xs.drop i).take k)) (rd xs ((i + k : Nat) : Int)) hbe0.1 (by omega) hxb.1 hxb.2)
      clear hsn hbe hbe0 hxb
      go_wp2
      go_round
      case rel => exact ⟨k + 1, by omega, by go_num, by rw [HS.out, be_snoc, ← HO.out]; simp⟩
      case measure => simp [intOf]; omega
    · go_wp2
      go_ret2
      have : k = m := by omega
      subst this
      exact ⟨rfl, rfl⟩
/-- GetText -/
theorem string_read (W : World) (gb i m : Nat) (xs : List Int) (n : Nat) (hx : ReadsInt W .u8 (some ⟨gb, 0, none⟩) n xs) (h : i + m ≤ n) (h0 : 0 < m) : ReadsInt W .u8 (some ⟨gb, i, none⟩) m ((xs.drop i).take m) := by
  have hl : xs.length = n := hx.1
  have hm := hx.2.1
  refine ⟨by simp; omega, by omega, fun _ => ⟨_, rfl, fun j hj => ?_⟩⟩
  obtain ⟨ad, e, hh⟩ := hx.at_ ((i + j : Nat) : Int) (by omega) (by omega)
  injection e with e
  subst e
  rw [add_plain, Int.toNat_natCast] at hh
  have e1 : (⟨gb, i, none⟩ : Addr).add j = ⟨gb, i + j, none⟩ := by unfold Addr.add; split <;> simp_all
  rw [e1, hh]
  have e2 : (((i + j : Nat) : Int)).toNat = i + j := Int.toNat_natCast _
  simp only [rd, e2, List.getD_eq_getElem?_getD]
  rw [List.getElem?_take_of_lt hj, List.getElem?_drop]
theorem text53_no (ga gb i m n c : Nat) (w : World) (hc : w.cell? ⟨ga, 0, none⟩ = some (.slice (some ⟨gb, 0, none⟩) n c)) (hn : n ≤ c) (hm : n ≤ 9223372036854775807) (h : n < i + m) (hi : i ≤ 9223372036854775807) :
    Calls Try.prog 53 #[.pointer (some ⟨ga, 0, none⟩), .int .i64 i, .int .i64 m] w fun e w' => e = .returned (.tuple #[.string ⟨#[]⟩, .int .i64 1]) ∧ w = w' := by
  have hq := fun (w : World) (a : Option Addr) (n c : Nat) => Lib.run_eql_slice_nil (P := Try.prog) w 72 5 a n c 0 0 Try.underlying72
  go_enter Try.func53, Try.ntmps53
  go_wp2_with (go_at_call 59; refine (part59_no ga gb i m n c _ hc hn hm h hi).mono ?_; rintro e w' ⟨rfl, rfl⟩)
  go_ret2
  exact ⟨rfl, rfl⟩
theorem text53_ok (ga gb i m n c : Nat) (xs : List Int) (w : World) (hc : w.cell? ⟨ga, 0, none⟩ = some (.slice (some ⟨gb, 0, none⟩) n c)) (hn : n ≤ c) (hm : n ≤ 9223372036854775807) (h : i + m ≤ n)
    (hx : ReadsInt w .u8 (some ⟨gb, 0, none⟩) n xs) :
    Calls Try.prog 53 #[.pointer (some ⟨ga, 0, none⟩), .int .i64 i, .int .i64 m] w fun e w' => e = .returned (.tuple #[.string (strOfNums ((xs.drop i).take m)), .int .i64 0]) ∧ w = w' := by
  have hq := fun (w : World) (a : Option Addr) (n c : Nat) => Lib.run_eql_slice_nil (P := Try.prog) w 72 5 a n c 0 0 Try.underlying72
  rcases Nat.eq_zero_or_pos m with h0 | h0
  · subst h0
    have kb := string_of_reads (P := Try.prog) (src := 72) (dst := 9) (e := 5) (c := 0) Try.underlying72 Try.underlying5 Try.underlying9 (show ReadsInt w .u8 (some ⟨gb, 0, none⟩) 0 [] from ⟨rfl, by omega, fun h => absurd h (Nat.lt_irrefl 0)⟩)
    clear hx
    go_enter Try.func53, Try.ntmps53
    go_wp2_with (go_at_call 59; refine (part59_zero ga gb i n c _ hc hn hm (by omega)).mono ?_; rintro e w' ⟨rfl, rfl⟩)
    go_ret2
    exact ⟨by simp, rfl⟩
  · have kb := string_of_reads (P := Try.prog) (src := 72) (dst := 9) (e := 5) (c := m) Try.underlying72 Try.underlying5 Try.underlying9 (string_read w gb i m xs n hx h h0)
    clear hx
    go_enter Try.func53, Try.ntmps53
    go_wp2_with (go_at_call 59; refine (part59_ok ga gb i m n c _ hc hn hm h h0).mono ?_; rintro e w' ⟨rfl, rfl⟩)
    go_ret2
    exact ⟨rfl, rfl⟩
/-- the cursor's block -/
def Cur (w : World) (gc ga : Nat) (i e : Int) : Prop := w.heap[gc]? = some (.cells #[.pointer (some ⟨ga, 0, none⟩), .int .i64 i, .int .i64 e] 58 (0, 0))
theorem Cur.cells {w : World} {gc ga : Nat} {i e : Int} (h : Cur w gc ga i e) : w.cell? ⟨gc, 0, none⟩ = some (.pointer (some ⟨ga, 0, none⟩)) ∧ w.cell? ⟨gc, 1, none⟩ = some (.int .i64 i) ∧ w.cell? ⟨gc, 2, none⟩ = some (.int .i64 e) := ⟨blk_cell h 0, blk_cell h 1, blk_cell h 2⟩
theorem Cur.dn {w : World} {gc ga : Nat} {i e : Int} (h : Cur w gc ga i e) (q : Nat) : Cur (w.drewN q) gc ga i e := h
theorem Cur.at_ {w : World} {gc ga : Nat} {i e : Int} (h : Cur w gc ga i e) (j : Int) : Cur (w.setCell ⟨gc, 1, none⟩ (.int .i64 j)) gc ga j e := by
  have := blk_set h 1 (.int .i64 j)
  simpa [Cur] using this
theorem Cur.err {w : World} {gc ga : Nat} {i e : Int} (h : Cur w gc ga i e) (f : Int) : Cur (w.setCell ⟨gc, 2, none⟩ (.int .i64 f)) gc ga i f := by
  have := blk_set h 2 (.int .i64 f)
  simpa [Cur] using this
/-- the first error stays -/
def erE (e f : Int) : Int := if e = 0 then f else e
theorem erE0 (f : Int) : erE 0 f = f := by simp [erE]
theorem erEn {e : Int} (h : e ≠ 0) (f : Int) : erE e f = e := by simp [erE, h]
theorem moved49 (gc ga : Nat) (i e : Int) (m : Nat) (f : Int) (w : World) (hc : Cur w gc ga i e) (h0 : 0 ≤ i) (h1 : i + m ≤ 9223372036854775807) :
    Calls Try.prog 49 #[.pointer (some ⟨gc, 0, none⟩), .int .i64 m, .int .i64 f] w fun r w' => r = .returned (.tuple #[]) ∧ Cur w' gc ga (i + m) (erE e f) ∧ Ch [gc] w w' := by
  obtain ⟨c0, c1, c2⟩ := hc.cells
  have f1 := blk_frozen hc 1
  have f2 := blk_frozen hc 2
  have HC := Aside0.mk hc
  clear hc
  by_cases he : e = 0
  · subst he
    go_enter Try.func49, Try.ntmps49
    go_wp2
    go_end0
    exact ⟨rfl, by rw [erE0]; exact (HC.out.err f).at_ _, ((Ch.refl _ _).set (by simp) _).set (by simp) _⟩
  · have he' : (e == 0) = false := by simp [he]
    have HE := Aside0.mk he
    clear he
    go_enter Try.func49, Try.ntmps49
    go_wp2
    go_end0
    exact ⟨rfl, by rw [erEn HE.out]; exact HC.out.at_ _, ((Ch.refl _ _).set (by simp) _)⟩
/-- what a read of m bytes at i gives, and whether it can -/
def getV (xs : List Int) (i m : Nat) : Int := if i + m ≤ xs.length then be ((xs.drop i).take m) else 0
def getE (xs : List Int) (i m : Nat) : Int := if i + m ≤ xs.length then 0 else 1
theorem get52 (ga gb i m n c : Nat) (xs : List Int) (w : World) (hc : w.cell? ⟨ga, 0, none⟩ = some (.slice (some ⟨gb, 0, none⟩) n c)) (hn : n ≤ c) (hm : n ≤ 9223372036854775807) (hi : i ≤ 9223372036854775807) (hw : Wd m)
    (hx : Aside0 (ReadsInt w .u8 (some ⟨gb, 0, none⟩) n xs)) (hb : Aside0 (Bytes xs)) :
    Calls Try.prog 52 #[.pointer (some ⟨ga, 0, none⟩), .int .i64 i, .int .i64 m] w fun e w' => e = .returned (.tuple #[.int .u32 (getV xs i m), .int .i64 (getE xs i m)]) ∧ w = w' := by
  have hl := hx.out.1
  unfold getV getE
  by_cases h : i + m ≤ n
  · rw [hl, if_pos h, if_pos h]
    exact get52_ok ga gb i m n c xs w hc hn hm h hw hx hb
  · rw [hl, if_neg h, if_neg h]
    exact get52_no ga gb i m n c w hc hn hm (by omega) hi hw
theorem get52q (ga gb i m n c : Nat) (xs : List Int) (w : World) (hc : w.cell? ⟨ga, 0, none⟩ = some (.slice (some ⟨gb, 0, none⟩) n c)) (hn : n ≤ c) (hm : n ≤ 9223372036854775807) (hi : i ≤ 9223372036854775807) (hw : Wd m)
    (hx : Aside0 (ReadsInt w .u8 (some ⟨gb, 0, none⟩) n xs)) (hb : Aside0 (Bytes xs)) (q : Nat) :
    Calls Try.prog 52 #[.pointer (some ⟨ga, 0, none⟩), .int .i64 i, .int .i64 m] (w.drewN q) fun e w'' => e = .returned (.tuple #[.int .u32 (getV xs i m), .int .i64 (getE xs i m)]) ∧ ∃ p, w'' = w.drewN p :=
  Calls.quiet_of_same ((get52 ga gb i m n c xs (w.drewN q) hc hn hm hi hw ⟨hx.out⟩ hb).mono fun _ _ ⟨h1, h2⟩ => ⟨h1, h2.symm⟩)
/-- the area's block -/
def Ar (w : World) (ga gb n c : Nat) : Prop := w.heap[ga]? = some (.cells #[.slice (some ⟨gb, 0, none⟩) n c] 74 (0, 0))
theorem Cur.ne {w : World} {gc ga gb n c : Nat} {i e : Int} (h : Cur w gc ga i e) (ha : Ar w ga gb n c) : ga ≠ gc := blk_ne ha h (by decide)
set_option maxHeartbeats 400000 in
theorem get38 (gc ga gb i m n c : Nat) (e : Int) (xs : List Int) (w : World) (hc : Cur w gc ga i e) (ha : Ar w ga gb n c) (hn : n ≤ c) (hm : n ≤ 9223372036854775807) (hi : i + m ≤ 9223372036854775807) (hw : Wd m)
    (hx : Aside0 (ReadsInt w .u8 (some ⟨gb, 0, none⟩) n xs)) (hb : Aside0 (Bytes xs)) :
    Calls Try.prog 38 #[.pointer (some ⟨gc, 0, none⟩), .int .i64 m] w fun r w' => r = .returned (.int .u32 (getV xs i m)) ∧ Cur w' gc ga ((i : Int) + m) (erE e (getE xs i m)) ∧ Ch [gc] w w' := by
  obtain ⟨c0, c1, c2⟩ := hc.cells
  have a0 : w.cell? ⟨ga, 0, none⟩ = some (.slice (some ⟨gb, 0, none⟩) n c) := blk_cell ha 0
  have HC := Aside0.mk hc
  have HA := Aside0.mk ha
  clear hc ha
  go_enter Try.func38, Try.ntmps38
  go_wp2_with fail
  go_quiet ((go_at_call 52; exact get52q ga gb i m n c xs w a0 hn hm (by omega) hw hx hb _))
  go_wp2_with (go_at_call 49; go_loud (refine (moved49 gc ga i e m _ _ (HC.out.dn _) (by omega) (by omega)).mono ?_); rintro r w' ⟨rfl, h1, h2⟩; have H1 := Aside0.mk h1; have H2 := Aside0.mk h2; clear h1 h2)
  go_ret
  exact ⟨rfl, H1.out, (Ch.drewN (Ch.refl _ _) _).trans H2.out⟩
theorem text53q (ga gb i m n c : Nat) (xs : List Int) (w : World) (hc : w.cell? ⟨ga, 0, none⟩ = some (.slice (some ⟨gb, 0, none⟩) n c)) (hn : n ≤ c) (hm : n ≤ 9223372036854775807) (h : i + m ≤ n)
    (hx : Aside0 (ReadsInt w .u8 (some ⟨gb, 0, none⟩) n xs)) (q : Nat) :
    Calls Try.prog 53 #[.pointer (some ⟨ga, 0, none⟩), .int .i64 i, .int .i64 m] (w.drewN q) fun e w'' => e = .returned (.tuple #[.string (strOfNums ((xs.drop i).take m)), .int .i64 0]) ∧ ∃ p, w'' = w.drewN p :=
  Calls.quiet_of_same ((text53_ok ga gb i m n c xs (w.drewN q) hc hn hm h hx.out).mono fun _ _ ⟨h1, h2⟩ => ⟨h1, h2.symm⟩)
theorem text53n (ga gb i m n c : Nat) (w : World) (hc : w.cell? ⟨ga, 0, none⟩ = some (.slice (some ⟨gb, 0, none⟩) n c)) (hn : n ≤ c) (hm : n ≤ 9223372036854775807) (h : n < i + m) (hi : i ≤ 9223372036854775807) (q : Nat) :
    Calls Try.prog 53 #[.pointer (some ⟨ga, 0, none⟩), .int .i64 i, .int .i64 m] (w.drewN q) fun e w'' => e = .returned (.tuple #[.string ⟨#[]⟩, .int .i64 1]) ∧ ∃ p, w'' = w.drewN p :=
  Calls.quiet_of_same ((text53_no ga gb i m n c (w.drewN q) hc hn hm h hi).mono fun _ _ ⟨h1, h2⟩ => ⟨h1, h2.symm⟩)
def getT (xs : List Int) (i m : Nat) : ByteArray := if i + m ≤ xs.length then strOfNums ((xs.drop i).take m) else ⟨#[]⟩
set_option maxHeartbeats 400000 in
theorem text39 (gc ga gb i m n c : Nat) (e : Int) (xs : List Int) (w : World) (hc : Cur w gc ga i e) (ha : Ar w ga gb n c) (hn : n ≤ c) (hm : n ≤ 9223372036854775807) (hi : i + m ≤ 9223372036854775807)
    (hx : Aside0 (ReadsInt w .u8 (some ⟨gb, 0, none⟩) n xs)) :
    Calls Try.prog 39 #[.pointer (some ⟨gc, 0, none⟩), .int .i64 m] w fun r w' => r = .returned (.string (getT xs i m)) ∧ Cur w' gc ga ((i : Int) + m) (erE e (getE xs i m)) ∧ Ch [gc] w w' := by
  obtain ⟨c0, c1, c2⟩ := hc.cells
  have a0 : w.cell? ⟨ga, 0, none⟩ = some (.slice (some ⟨gb, 0, none⟩) n c) := blk_cell ha 0
  have HC := Aside0.mk hc
  have HA := Aside0.mk ha
  have HL := Aside0.mk hx.out.1
  clear hc ha
  by_cases h : i + m ≤ n
  · have HT := Aside0.mk (show getT xs i m = strOfNums ((xs.drop i).take m) by simp [getT, HL.out, h])
    have HE := Aside0.mk (show getE xs i m = 0 by simp [getE, HL.out, h])
    go_enter Try.func39, Try.ntmps39
    go_wp2_with fail
    go_quiet ((go_at_call 53; exact text53q ga gb i m n c xs w a0 hn hm h hx _))
    go_wp2_with (go_at_call 49; go_loud (refine (moved49 gc ga i e m _ _ (HC.out.dn _) (by omega) (by omega)).mono ?_); rintro r w' ⟨rfl, h1, h2⟩; have H1 := Aside0.mk h1; have H2 := Aside0.mk h2; clear h1 h2)
    go_ret
    exact ⟨by rw [HT.out]; rfl, by rw [HE.out]; exact H1.out, (Ch.drewN (Ch.refl _ _) _).trans H2.out⟩
  · have HT := Aside0.mk (show getT xs i m = ⟨#[]⟩ by simp [getT, HL.out, h])
    have HE := Aside0.mk (show getE xs i m = 1 by simp [getE, HL.out, h])
    go_enter Try.func39, Try.ntmps39
    go_wp2_with fail
    go_quiet ((go_at_call 53; exact text53n ga gb i m n c w a0 hn hm (by omega) (by omega) _))
    go_wp2_with (go_at_call 49; go_loud (refine (moved49 gc ga i e m _ _ (HC.out.dn _) (by omega) (by omega)).mono ?_); rintro r w' ⟨rfl, h1, h2⟩; have H1 := Aside0.mk h1; have H2 := Aside0.mk h2; clear h1 h2)
    go_ret
    exact ⟨by rw [HT.out]; rfl, by rw [HE.out]; exact H1.out, (Ch.drewN (Ch.refl _ _) _).trans H2.out⟩
end Go.Proofs.Ytafpfggijpigfaa.Bkt
