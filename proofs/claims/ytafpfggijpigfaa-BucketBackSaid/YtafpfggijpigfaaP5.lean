import Derived.Test.YtafpfggijpigfaaP4
namespace Go.Proofs.Ytafpfggijpigfaa.Bkt
open Go.RowKit Go.Proofs.YtafpfggijpigfaaW.PrintWords Go.Proofs.YtafpfggijpigfaaW.PrintLast
set_option linter.unusedVariables false
set_option linter.unusedSimpArgs false
theorem bytesOf_extract (s : ByteArray) (a b : Nat) : bytesOf (s.extract a b) = ((bytesOf s).drop a).take (b - a) := by
  simp only [bytesOf, ByteArray.data_extract, Array.toList_extract, List.extract, List.map_take, List.map_drop]
theorem getT_extract (s : ByteArray) (a m : Nat) (h : a + m ≤ s.size) : getT (bytesOf s) a m = s.extract a (a + m) := by
  unfold getT
  rw [bytesOf_length, if_pos h, ← str_bytes (s.extract a (a + m)), bytesOf_extract, Nat.add_sub_cancel_left]
theorem bt_getV (s : ByteArray) (a : Nat) (h : a < s.size) : bt s (a : Int) = getV (bytesOf s) a 1 := by
  have h' : a < (bytesOf s).length := by rw [bytesOf_length]; exact h
  unfold getV
  rw [if_pos (by omega), ← rd_bytesOf, rd_nat h']
  have : ((bytesOf s).drop a).take 1 = [(bytesOf s)[a]] := by rw [drop_cons h']; rfl
  rw [this]
  simp [be]
theorem be_take {x : List Int} {i : Nat} (h : i < x.length) : be (x.take (i + 1)) = be (x.take i) * 256 + x[i] := by
  rw [List.take_succ_eq_append_getElem h, be_snoc]
theorem ev_narrow (t : ByteArray) (h4 : t.size = 4) : Ev (fun k => cadastreref03_Narrow.f k t) (be (bytesOf t)) := by
  have hb := bytesOf_Bytes t
  have hl : (bytesOf t).length = 4 := by rw [bytesOf_length, h4]
  have key : ∀ n (i : Nat), i + n = 4 → Ev (fun k => cadastreref03_Narrow.l0 k t (be ((bytesOf t).take i)) (i : Int)) (be (bytesOf t)) := by
    intro n
    induction n with
    | zero =>
      intro i hi
      refine Ev.step (fun k => by rw [cadastreref03_Narrow.l0]) ?_
      simp only [if_neg (show ¬ (i : Int) < (t.size : Int) by omega)]
      rw [List.take_of_length_le (by omega)]
      exact Ev.now _
    | succ n ih =>
      intro i hi
      have hil : i < (bytesOf t).length := by omega
      have h1 := be_lt4 ((bytesOf t).take (i + 1)) (hb.take _) (by simp; omega)
      have h2 := be_lt4 ((bytesOf t).take i) (hb.take _) (by simp; omega)
      have h3 := hb _ (List.getElem_mem hil)
      rw [be_take hil] at h1
      refine Ev.step (fun k => by rw [cadastreref03_Narrow.l0]) ?_
      have e : wrap64 (wrap64 (256 * be ((bytesOf t).take i)) + wrap64 (bt t (i : Int))) = be ((bytesOf t).take (i + 1)) := by
        rw [be_take hil, ← rd_bytesOf, rd_nat hil, w64 (x := 256 * be ((bytesOf t).take i)) (by omega) (by omega), w64 (x := (bytesOf t)[i]) (by omega) (by omega), w64 (by omega) (by omega)]
        omega
      simp only [if_pos (show (i : Int) < (t.size : Int) by omega), if_pos (show 0 ≤ (i : Int) by omega), e, w64s (show i ≤ 1000000 by omega)]
      exact ih (i + 1) (by omega)
  have := key 4 0 (by omega)
  simpa [cadastreref03_Narrow.f, be] using this
def finV (s : ByteArray) (d m : Int) : Option (List S38) → List S38 × Int
  | none => ([], 9)
  | some l => if (encV l d m).2 = 0 then (if (encV l d m).1.toList = s.toList then (l, 0) else ([], 6)) else ([], 6)
/-- what Decode gives is of moderate size, and of its kind -/
structure Dk (l : List S38) (d : Nat) : Prop where
  key : ∀ x, x ∈ l → x.f0.length = d
  dat : ∀ x, x ∈ l → x.f1.size ≤ 255
  wf : Wf l
theorem decX_ok (s : ByteArray) (d p : Nat) : (decX (bytesOf s) d p).f0.length = d ∧ (decX (bytesOf s) d p).f1.size ≤ 255 ∧ U32 (decX (bytesOf s) d p).f0 := by
  have hb := bytesOf_Bytes s
  refine ⟨decK_length _ _ _, ?_, fun v hv => ?_⟩
  · have h1 := getV_u8 (bytesOf s) hb (p + 4 * d)
    simp only [decX, getT]
    split
    · rw [strOfNums_size]; simp; omega
    · exact Nat.zero_le _
  · simp only [decX, decK, List.mem_map] at hv
    obtain ⟨j, _, rfl⟩ := hv
    exact getV_u32 _ hb _ 4 (by omega)
theorem decR_ok (s : ByteArray) (d : Nat) : ∀ n p l, decR (bytesOf s) d n p = some l → Dk l d ∧ l.length = n
  | 0, p, l, h => by
    simp only [decR] at h
    split at h
    · obtain rfl := Option.some.inj h
      exact ⟨⟨fun x hx => by simp at hx, fun x hx => by simp at hx, fun x hx => by simp at hx⟩, rfl⟩
    · cases h
  | n + 1, p, l, h => by
    simp only [decR] at h
    split at h
    · cases hq : decR (bytesOf s) d n (decP (bytesOf s) d p) with
      | none => rw [hq] at h; cases h
      | some r =>
        rw [hq] at h
        obtain rfl := Option.some.inj h
        obtain ⟨h1, h2⟩ := decR_ok s d n _ _ hq
        obtain ⟨h3, h4, h5⟩ := decX_ok s d p
        refine ⟨⟨fun x hx => ?_, fun x hx => ?_, fun x hx => ?_⟩, by simp [h2]⟩
        · rcases List.mem_cons.1 hx with rfl | hx
          · exact h3
          · exact h1.key x hx
        · rcases List.mem_cons.1 hx with rfl | hx
          · exact h4
          · exact h1.dat x hx
        · rcases List.mem_cons.1 hx with rfl | hx
          · exact h5
          · exact h1.wf x hx
    · cases h
theorem Dk.sm {l : List S38} {d : Nat} (h : Dk l d) (hd : d ≤ 6) (hl : l.length ≤ 1000) : Sm l := ⟨hl, fun x hx => by have := h.key x hx; omega, fun x hx => by have := h.dat x hx; omega⟩
theorem ev_fin (s : ByteArray) (d : Nat) (m : Int) (hd : d ≤ 6) (r : Option (List S38)) (hr : ∀ l, r = some l → Dk l d ∧ l.length ≤ 1000) : Ev (fun k => decFin k s (d : Int) m r) (finV s (d : Int) m r) := by
  cases r with
  | none => exact Ev.now _
  | some l =>
    obtain ⟨h1, h2⟩ := hr l rfl
    unfold decFin finV
    refine Ev.bind (ev_enc l (h1.sm hd h2) h1.wf d m) ?_
    by_cases ha : (encV l d m).2 = 0
    · by_cases hb : (encV l d m).1.toList = s.toList
      · simp only [ha, hb, and_self, if_true]
        exact Ev.now _
      · simp only [ha, hb, and_false, if_false, if_true]
        exact Ev.now _
    · simp only [ha, false_and, if_false]
      exact Ev.now _
def decV (s : ByteArray) (a1 a2 : Int) : List S38 × Int :=
  if a1 < 1 ∨ 6 < a1 ∨ capB a2 = false then ([], 1) else finV s a1 a2 (decR (bytesOf s) a1.toNat (getV (bytesOf s) 0 1).toNat 1)
theorem ev_dec (s : ByteArray) (hs : s.size ≤ 4096) (a1 a2 : Int) : Ev (fun k => bucket_Decode.f k s a1 a2) (decV s a1 a2) := by
  unfold bucket_Decode.f decV
  by_cases h1 : a1 < 1 ∨ 6 < a1
  · simp only [if_pos h1]
    rw [if_pos (by rcases h1 with h | h; exact Or.inl h; exact Or.inr (Or.inl h))]
    exact Ev.now _
  · simp only [if_neg h1, ev_cap, Option.bind_some]
    cases hc : capB a2 with
    | false =>
      simp only [Bool.false_eq_true, if_false]
      rw [if_pos (Or.inr (Or.inr trivial))]
      exact Ev.now _
    | true =>
      simp only [if_true, if_pos hs]
      rw [if_neg (by simp; omega)]
      obtain ⟨d, rfl⟩ := Int.eq_ofNat_of_zero_le (show 0 ≤ a1 by omega)
      rw [Int.toNat_natCast]
      have hv := getV_u8 (bytesOf s) (bytesOf_Bytes s) 0
      refine ev_fin s d a2 (by omega) _ (fun l hl => ?_)
      have := decR_ok s d _ _ _ hl
      exact ⟨this.1, by omega⟩
end Go.Proofs.Ytafpfggijpigfaa.Bkt
