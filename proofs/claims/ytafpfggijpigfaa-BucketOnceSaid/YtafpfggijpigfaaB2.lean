import Derived.Test.YtafpfggijpigfaaB1
import Derived.Lib.LazyBuf
namespace Go.Proofs.Ytafpfggijpigfaa.Bkt
open Go.RowKit Go.Proofs.YtafpfggijpigfaaW.PrintWords Go.Proofs.YtafpfggijpigfaaW.PrintLast Go.Proofs.YtafpfggijpigfaaW.PrintMore
attribute [local go_sem] max2_int min2_int max_two min_two max_three min_three max_four min_four
set_option linter.unusedVariables false
set_option linter.unusedSimpArgs false
/-- a block of bytes -/
def Bk (w : World) (gb : Nat) (xs : List Int) : Prop := w.heap[gb]? = some (.cells (nums .u8 xs).toArray 5 (0, 0))
def splice (xs : List Int) (i : Nat) (ys : List Int) : List Int := xs.take i ++ ys ++ xs.drop (i + ys.length)
theorem splice_length (xs : List Int) (i : Nat) (ys : List Int) (h : i + ys.length ≤ xs.length) : (splice xs i ys).length = xs.length := by simp [splice]; omega
theorem splice_nil (xs : List Int) (i : Nat) : splice xs i [] = xs := by simp [splice]
theorem splice_snoc (xs : List Int) (i : Nat) (ys : List Int) (y : Int) (h : i + ys.length < xs.length) : (splice xs i ys).set (i + ys.length) y = splice xs i (ys ++ [y]) := by
  unfold splice
  rw [List.set_append_right _ _ (by simp; omega)]
  simp only [List.length_append, List.length_take]
  rw [show i + ys.length - (min i xs.length + ys.length) = 0 by omega, List.drop_eq_getElem_cons h]
  simp [List.set_cons_zero, Nat.add_assoc]
theorem Bk.set {w : World} {gb : Nat} {xs : List Int} (h : Bk w gb xs) (i : Nat) (v : Int) : Bk (w.setCell ⟨gb, i, none⟩ (.int .u8 v)) gb (xs.set i v) := by
  have := blk_set h i (.int .u8 v)
  rw [Bk, this]
  simp [nums, List.map_set]
theorem Bk.cell {w : World} {gb : Nat} {xs : List Int} (h : Bk w gb xs) (i : Nat) (hi : i < xs.length) : w.cell? ⟨gb, i, none⟩ = some (.int .u8 (xs.getD i 0)) := by
  rw [blk_cell h i]; simp [nums, hi]
/-- the bytes of a number, the highest first -/
def bes (m : Nat) (v : Int) : List Int := (List.range m).map (fun j => v / 256 ^ (m - 1 - j) % 256)
theorem bes1 (v : Int) (h0 : 0 ≤ v) (h1 : v < 256) : bes 1 v = [v] := by simp [bes, List.range_succ]; omega
theorem bes4 (v : Int) : bes 4 v = [v / 16777216 % 256, v / 65536 % 256, v / 256 % 256, v % 256] := by simp [bes, List.range_succ]
set_option maxHeartbeats 400000 in
theorem put50_4 (ga gb i n : Nat) (v : Int) (xs : List Int) (w : World) (ha : Ar w ga gb n n) (hb : Bk w gb xs) (hl : xs.length = n) (hm : n ≤ 9223372036854775807) (h : i + 4 ≤ n) (h0 : 0 ≤ v) (h1 : v < 4294967296) :
    Calls Try.prog 50 #[.pointer (some ⟨ga, 0, none⟩), .int .i64 i, .int .i64 4, .int .u32 v] w fun r w' => r = .returned (.int .i64 0) ∧ Bk w' gb (splice xs i (bes 4 v)) ∧ Ch [gb] w w' := by
  have hq := fun (w : World) (a : Option Addr) (n c : Nat) => Lib.run_eql_slice_nil (P := Try.prog) w 72 5 a n c 0 0 Try.underlying72
  have a0 : w.cell? ⟨ga, 0, none⟩ = some (.slice (some ⟨gb, 0, none⟩) n n) := blk_cell ha 0
  have HA := Aside0.mk ha
  have HB := Aside0.mk hb
  have HL := Aside0.mk hl
  have t0 : (v / 4294967296 != 0) = false := by rw [bne_eq_false_iff_eq]; omega
  clear ha hb hl
  go_enter Try.func50, Try.ntmps50
  go_wp2_with (go_at_call 58; refine (number58_ok ga gb i 4 n n _ a0 (Nat.le_refl _) hm h (Or.inr rfl)).mono ?_; rintro e w' ⟨rfl, rfl⟩)
  go_loopw [10, 27] (fun v10 v27 wr => ∃ k : Nat, k ≤ 4 ∧ v27 = .int .i64 k ∧ Aside0 (Bk wr gb (splice xs i ((bes 4 v).take k))) ∧ Aside0 (Ch [gb] w wr)) (fun _ v _ => 4 - (intOf v).toNat)
  case atStart => exact ⟨0, Nat.zero_le _, rfl, ⟨by rw [List.take_zero, splice_nil]; exact HB.out⟩, ⟨Ch.refl _ _⟩⟩
  case round =>
    obtain ⟨k, hk, rfl, HX, HC⟩ := hrel
    have hlen : (splice xs i ((bes 4 v).take k)).length = n := by rw [splice_length _ _ _ (by rw [HL.out, bes4]; simp; omega), HL.out]
    have HS := Aside0.mk (fun (hk4 : k < 4) => splice_snoc xs i ((bes 4 v).take k) ((bes 4 v).getD k 0) (by rw [HL.out, bes4]; simp; omega))
    have HLE := Aside0.mk hlen
    have F := blk_frozen HX.out
    have C := fun j (hj : j < n) => HX.out.cell j (by rw [hlen]; exact hj)
    rcases (show k = 0 ∨ k = 1 ∨ k = 2 ∨ k = 3 ∨ k = 4 by omega) with rfl | rfl | rfl | rfl | rfl
    · have f := F i
      have c := C i (by omega)
      have HC1 := Aside0.mk (HC.out.set (p := ⟨gb, i, none⟩) (by simp) (.int .u8 (v / 16777216)))
      have HB1 := Aside0.mk (HX.out.set i (v / 16777216))
      clear F C hlen
      go_wp2
      go_round
      case rel => exact ⟨1, by omega, rfl, ⟨by have h := HB1.out; have h2 := HS.out (by decide); rw [bes4] at h h2 ⊢; simp at h h2 ⊢; rw [show v / 16777216 % 256 = v / 16777216 by omega] at h2 ⊢; rw [← h2]; exact h⟩, HC1⟩
      case measure => simp [intOf]
    · have f := F (i + 1)
      have c := C (i + 1) (by omega)
      have HC1 := Aside0.mk (HC.out.set (p := ⟨gb, i + 1, none⟩) (by simp) (.int .u8 (v / 65536 % 256)))
      have HB1 := Aside0.mk (HX.out.set (i + 1) (v / 65536 % 256))
      clear F C hlen
      go_wp2
      go_round
      case rel => exact ⟨2, by omega, rfl, ⟨by have h := HB1.out; have h2 := HS.out (by decide); rw [bes4] at h h2 ⊢; simp at h h2 ⊢; rw [← h2]; exact h⟩, HC1⟩
      case measure => simp [intOf]
    · have f := F (i + 2)
      have c := C (i + 2) (by omega)
      have HC1 := Aside0.mk (HC.out.set (p := ⟨gb, i + 2, none⟩) (by simp) (.int .u8 (v / 256 % 256)))
      have HB1 := Aside0.mk (HX.out.set (i + 2) (v / 256 % 256))
      clear F C hlen
      go_wp2
      go_round
      case rel => exact ⟨3, by omega, rfl, ⟨by have h := HB1.out; have h2 := HS.out (by decide); rw [bes4] at h h2 ⊢; simp at h h2 ⊢; rw [← h2]; exact h⟩, HC1⟩
      case measure => simp [intOf]
    · have f := F (i + 3)
      have c := C (i + 3) (by omega)
      have HC1 := Aside0.mk (HC.out.set (p := ⟨gb, i + 3, none⟩) (by simp) (.int .u8 (v % 256)))
      have HB1 := Aside0.mk (HX.out.set (i + 3) (v % 256))
      clear F C hlen
      go_wp2
      go_round
      case rel => exact ⟨4, by omega, rfl, ⟨by have h := HB1.out; have h2 := HS.out (by decide); rw [bes4] at h h2 ⊢; simp at h h2 ⊢; rw [← h2]; exact h⟩, HC1⟩
      case measure => simp [intOf]
    · clear F C hlen
      go_wp2
      go_ret
      exact ⟨rfl, by have h := HX.out; rw [bes4] at h ⊢; exact h, HC.out⟩
set_option maxHeartbeats 400000 in
theorem put50_1 (ga gb i n : Nat) (v : Int) (xs : List Int) (w : World) (ha : Ar w ga gb n n) (hb : Bk w gb xs) (hl : xs.length = n) (hm : n ≤ 9223372036854775807) (h : i + 1 ≤ n) (h0 : 0 ≤ v) (h1 : v < 256) :
    Calls Try.prog 50 #[.pointer (some ⟨ga, 0, none⟩), .int .i64 i, .int .i64 1, .int .u32 v] w fun r w' => r = .returned (.int .i64 0) ∧ Bk w' gb (splice xs i (bes 1 v)) ∧ Ch [gb] w w' := by
  have hq := fun (w : World) (a : Option Addr) (n c : Nat) => Lib.run_eql_slice_nil (P := Try.prog) w 72 5 a n c 0 0 Try.underlying72
  have a0 : w.cell? ⟨ga, 0, none⟩ = some (.slice (some ⟨gb, 0, none⟩) n n) := blk_cell ha 0
  have HA := Aside0.mk ha
  have HB := Aside0.mk hb
  have HL := Aside0.mk hl
  have t0 : (v / 256 != 0) = false := by rw [bne_eq_false_iff_eq]; omega
  clear ha hb hl
  go_enter Try.func50, Try.ntmps50
  go_wp2_with (go_at_call 58; refine (number58_ok ga gb i 1 n n _ a0 (Nat.le_refl _) hm h (Or.inl rfl)).mono ?_; rintro e w' ⟨rfl, rfl⟩)
  go_loopw [10, 27] (fun v10 v27 wr => ∃ k : Nat, k ≤ 1 ∧ v27 = .int .i64 k ∧ Aside0 (Bk wr gb (splice xs i ([v].take k))) ∧ Aside0 (Ch [gb] w wr)) (fun _ v _ => 1 - (intOf v).toNat)
  case atStart => exact ⟨0, Nat.zero_le _, rfl, ⟨by rw [List.take_zero, splice_nil]; exact HB.out⟩, ⟨Ch.refl _ _⟩⟩
  case round =>
    obtain ⟨k, hk, rfl, HX, HC⟩ := hrel
    have hlen : (splice xs i ([v].take k)).length = n := by rw [splice_length _ _ _ (by rw [HL.out]; simp; omega), HL.out]
    have HS := Aside0.mk (fun (hk4 : k < 1) => splice_snoc xs i ([v].take k) ([v].getD k 0) (by rw [HL.out]; simp; omega))
    have HLE := Aside0.mk hlen
    have F := blk_frozen HX.out
    have C := fun j (hj : j < n) => HX.out.cell j (by rw [hlen]; exact hj)
    rcases (show k = 0 ∨ k = 1 by omega) with rfl | rfl
    · have f := F i
      have c := C i (by omega)
      have HC1 := Aside0.mk (HC.out.set (p := ⟨gb, i, none⟩) (by simp) (.int .u8 v))
      have HB1 := Aside0.mk (HX.out.set i v)
      clear F C hlen
      go_wp2
      go_round
      case rel => exact ⟨1, by omega, rfl, ⟨by have h := HB1.out; have h2 := HS.out (by decide); simp at h h2 ⊢; rw [← h2]; exact h⟩, HC1⟩
      case measure => simp [intOf]
    · clear F C hlen
      go_wp2
      go_ret
      exact ⟨rfl, by have h := HX.out; rw [bes1 v h0 h1]; exact h, HC.out⟩
theorem bk_setCells (gb : Nat) : ∀ (ys : List Int) (xs : List Int) (i : Nat) (w : World), Bk w gb xs → i + ys.length ≤ xs.length → Bk (w.setCells gb i (nums .u8 ys)) gb (splice xs i ys)
  | [], xs, i, w, h, _ => by rw [splice_nil]; exact h
  | y :: r, xs, i, w, h, hl => by
    have h1 := bk_setCells gb r (xs.set i y) (i + 1) _ (h.set i y) (by simp at hl ⊢; omega)
    have e : splice (xs.set i y) (i + 1) r = splice xs i (y :: r) := by
      simp only [List.length_cons] at hl
      unfold splice
      rw [List.take_succ_eq_append_getElem (by simp; omega), List.take_set_of_le (by omega), List.drop_set_of_lt (by omega)]
      simp [Nat.add_assoc]
      congr 2
      omega
    rw [e] at h1
    exact h1
theorem ch_setCells (gb : Nat) : ∀ (vs : List Value) (i : Nat) (w w1 : World), Ch [gb] w w1 → Ch [gb] w (w1.setCells gb i vs)
  | [], _, _, _, h => h
  | v :: r, i, w, w1, h => ch_setCells gb r (i + 1) w _ (h.set (p := ⟨gb, i, none⟩) (by simp) v)
theorem copy_run {P : Program} (w : World) {ops : Array Oper} {rest : List Oper} {o : Oper} {a : Act} {Q : Exit → Act → World → Prop} (hgd : o.guard = none) (d s : Operand) (t t' : TypeId)
    (ho : o.op = .call { callee := .builtin .copy, args := #[d, s], argTypes := #[t, t'] }) (v u : Value) (hd : a.eval d = v) (hs : a.eval s = u) {v' : Value} {w' : World}
    (hr : (Builtin.copy_ #[t, t'] o.type #[v, u]).run P w = .ok v' w') (h : wpList P ops Q rest (a.put o.dst v') w') : wpList P ops Q (o :: rest) a w :=
  wpList_plain hgd fun _ hK => by
    have hh := hK _ _ h
    unfold Oper.wp execOp
    simp only [ho, resolve, invoke, builtin, Sem.run_bind, Sem.run_pure, Result.andThen_ok, List.map_toArray, List.map_cons, List.map_nil, hd, hs, hr]
    exact hh
theorem size5 : ∀ w, (Go.sizeOf 5).run Try.prog w = .ok 1 w := fun _ => by kernel_rfl
set_option maxHeartbeats 400000 in
theorem puttext51 (ga gb i n : Nat) (s : ByteArray) (xs : List Int) (w : World) (ha : Ar w ga gb n n) (hb : Bk w gb xs) (hl : xs.length = n) (hm : n ≤ 9223372036854775807) (h : i + s.size ≤ n) :
    Calls Try.prog 51 #[.pointer (some ⟨ga, 0, none⟩), .int .i64 i, .string s] w fun r w' => r = .returned (.int .i64 0) ∧ Bk w' gb (splice xs i (bytesOf s)) ∧ Ch [gb] w w' := by
  have hq := fun (w : World) (a : Option Addr) (n c : Nat) => Lib.run_eql_slice_nil (P := Try.prog) w 72 5 a n c 0 0 Try.underlying72
  have a0 : w.cell? ⟨ga, 0, none⟩ = some (.slice (some ⟨gb, 0, none⟩) n n) := blk_cell ha 0
  have hbo : nums .u8 (bytesOf s) = s.data.toList.map fun x => Value.int .u8 (x.toNat : Int) := by simp [nums, bytesOf]
  have HBK := Aside0.mk (bk_setCells gb (bytesOf s) xs i w hb (by rw [hl, bytesOf_length]; exact h))
  have HCH := Aside0.mk (ch_setCells gb (nums .u8 (bytesOf s)) i w w (Ch.refl _ _))
  rw [hbo] at HBK HCH
  rcases Nat.eq_zero_or_pos s.size with h0 | h0
  · have hr := run_copy_string (P := Try.prog) w 72 9 3 5 gb 0 0 0 s Try.underlying72 size5 (by omega) (fun j hj => by omega) (fun j hj => by omega)
    have e0 : (s.data.toList.map fun x => Value.int .u8 (x.toNat : Int)) = [] := by
      apply List.eq_nil_of_length_eq_zero
      rw [List.length_map, data_length]; exact h0
    rw [e0] at hr HBK HCH
    have H0 := Aside0.mk h0
    have e1 : (s.size : Int) = 0 := by omega
    clear ha hb hl hbo h0 e0
    go_enter Try.func51, Try.ntmps51
    go_wp2_with (go_at_call 59; go_loud (refine (part59_zero ga gb i n n _ a0 (Nat.le_refl _) hm (by omega)).mono ?_); rintro e w' ⟨rfl, rfl⟩)
    go_ret
    exact ⟨rfl, by simpa [World.setCells] using HBK.out, Ch.refl _ _⟩
  · have hr := run_copy_string (P := Try.prog) w 72 9 3 5 gb i s.size s.size s Try.underlying72 size5 (Nat.le_refl _) (fun j hj => by rw [hb.cell _ (by rw [hl]; omega)]; rfl) (fun j hj => blk_frozen hb _)
    clear ha hb hl hbo
    go_enter Try.func51, Try.ntmps51
    go_wp2_with (go_at_call 59; go_loud (refine (part59_ok ga gb i s.size n n _ a0 (Nat.le_refl _) hm h h0).mono ?_); rintro e w' ⟨rfl, rfl⟩)
    go_ret
    exact ⟨rfl, HBK.out, HCH.out⟩
end Go.Proofs.Ytafpfggijpigfaa.Bkt
