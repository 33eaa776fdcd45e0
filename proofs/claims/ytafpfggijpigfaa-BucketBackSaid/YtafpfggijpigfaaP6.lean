import Derived.Test.YtafpfggijpigfaaP5
namespace Go.Proofs.Ytafpfggijpigfaa.Bkt
open Go.RowKit Go.Proofs.YtafpfggijpigfaaW.PrintWords Go.Proofs.YtafpfggijpigfaaW.PrintLast
set_option linter.unusedVariables false
set_option linter.unusedSimpArgs false
def decKj (xs : List Int) (p j : Nat) : List Int := (List.range j).map fun t => getV xs (p + 4 * t) 4
theorem decKj_succ (xs : List Int) (p j : Nat) : decKj xs p j ++ [getV xs (p + 4 * j) 4] = decKj xs p (j + 1) := by
  simp [decKj, List.range_succ]
theorem wadd {a b : Nat} (h : a + b ≤ 1000000) : wrap64 ((a : Int) + (b : Int)) = ((a + b : Nat) : Int) := by unfold wrap64; omega
theorem wadd4 {a : Nat} (h : a ≤ 1000000) : wrap64 ((a : Int) + 4) = ((a + 4 : Nat) : Int) := by unfold wrap64; omega
theorem wmul4 {a : Nat} (h : a ≤ 1000000) : wrap64 (4 * (a : Int)) = ((4 * a : Nat) : Int) := by unfold wrap64; omega
theorem getV_be {s : ByteArray} {a : Nat} (h : a + 4 ≤ s.size) : be (bytesOf (s.extract a (a + 4))) = getV (bytesOf s) a 4 := by
  unfold getV
  rw [if_pos (by rw [bytesOf_length]; exact h), bytesOf_extract, Nat.add_sub_cancel_left]
theorem ev_rdec1 (s : ByteArray) (d p i : Nat) (m : Int) (acc : List S38) (hd : d ≤ 6) (hs : s.size ≤ 300) (hp : p + 4 * d + 1 ≤ s.size) (hi : i ≤ 1000) (hacc : acc.length ≤ 1000) (r : List S38 × Int)
    (h9 : s.size < decP (bytesOf s) d p → r = ([], 9))
    (hgo : decP (bytesOf s) d p ≤ s.size → Ev (fun k => cadastreref10_Decode.l0 k s (d : Int) m (acc ++ [decX (bytesOf s) d p]) ((decP (bytesOf s) d p : Nat) : Int) ((i + 1 : Nat) : Int)) r) :
    ∀ n (j : Nat), j + n = d → Ev (fun k => cadastreref10_Decode.l1 k s (d : Int) m acc (p : Int) (i : Int) (j : Int) (decKj (bytesOf s) p j) ⟨#[]⟩) r
  | 0, j, hj => by
    obtain rfl : j = d := by omega
    have hv := getV_u8 (bytesOf s) (bytesOf_Bytes s) (p + 4 * j)
    obtain ⟨v, hv'⟩ := Int.eq_ofNat_of_zero_le hv.1
    have hb := bt_getV s (p + 4 * j) (by omega)
    refine Ev.step (fun k => by rw [cadastreref10_Decode.l1]) ?_
    simp only [decP, decX] at h9 hgo
    rw [hv'] at h9 hgo hb hv
    rw [Int.toNat_natCast] at h9 hgo
    simp only [Int.lt_irrefl, if_false, wmul4 (show j ≤ 1000000 by omega), wadd (show p + 4 * j ≤ 1000000 by omega), hb, w64s (show p + 4 * j ≤ 1000000 by omega), w64 (x := (v : Int)) (by omega) (by omega), wadd (show p + 4 * j + 1 + v ≤ 1000000 by omega), Int.toNat_natCast]
    simp only [if_pos (show 0 ≤ ((p + 4 * j : Nat) : Int) by omega), if_pos (show ((p + 4 * j : Nat) : Int) < (s.size : Int) by omega)]
    by_cases hf : ((p + 4 * j + 1 + v : Nat) : Int) > (s.size : Int)
    · simp only [if_pos hf]
      rw [h9 (by omega)]
      exact Ev.now _
    · simp only [if_neg hf, if_pos (show 0 ≤ ((p + 4 * j + 1 : Nat) : Int) by omega), if_pos (show ((p + 4 * j + 1 : Nat) : Int) ≤ ((p + 4 * j + 1 + v : Nat) : Int) by omega), if_pos (show ((p + 4 * j + 1 + v : Nat) : Int) ≤ (s.size : Int) by omega), if_pos (show acc.length < 3518437208883 by omega), w64s (show i ≤ 1000000 by omega)]
      have := hgo (by omega)
      rw [getT_extract s _ _ (by omega)] at this
      exact this
  | n + 1, j, hj => by
    have hv := getV_u32 (bytesOf s) (bytesOf_Bytes s) (p + 4 * j) 4 (by omega)
    refine Ev.step (fun k => by rw [cadastreref10_Decode.l1]) ?_
    simp only [if_pos (show (j : Int) < (d : Int) by omega), wmul4 (show j ≤ 1000000 by omega), wadd (show p + 4 * j ≤ 1000000 by omega), wadd4 (show p + 4 * j ≤ 1000000 by omega), Int.toNat_natCast]
    simp only [if_pos (show 0 ≤ ((p + 4 * j : Nat) : Int) by omega), if_pos (show ((p + 4 * j : Nat) : Int) ≤ ((p + 4 * j + 4 : Nat) : Int) by omega), if_pos (show ((p + 4 * j + 4 : Nat) : Int) ≤ (s.size : Int) by omega)]
    refine Ev.bind (ev_narrow _ (by rw [ByteArray.size_extract]; omega)) ?_
    have hkl : (decKj (bytesOf s) p j).length = j := by simp [decKj]
    simp only [hkl, if_pos (show j < 35184372088832 by omega), w64s (show j ≤ 1000000 by omega), getV_be (show p + 4 * j + 4 ≤ s.size by omega)]
    have e : getV (bytesOf s) (p + 4 * j) 4 % 4294967296 = getV (bytesOf s) (p + 4 * j) 4 := by omega
    simp only [e, decKj_succ]
    exact ev_rdec1 s d p i m acc hd hs hp hi hacc r h9 hgo n (j + 1) (by omega)
theorem decR_none (xs : List Int) (d : Nat) : ∀ n p, xs.length < p → decR xs d n p = none
  | 0, p, h => by rw [decR, if_neg (by omega)]
  | n + 1, p, h => by rw [decR, if_neg (by omega)]
theorem finV_enc (s : ByteArray) (d : Nat) (m : Int) (hd : d ≤ 6) (l : List S38) (h1 : Dk l d) (h2 : l.length ≤ 1000) :
    Ev (fun k => (cadastreref10_Encode.f k l (d : Int) m).bind fun bt164 => (if bt164.2 = 0 then (if bt164.1.toList = s.toList then (some (l, 0)) else (some (([] : List (S38)), 6))) else (some (([] : List (S38)), 6)))) (finV s (d : Int) m (some l)) := by
  unfold finV
  refine Ev.bind (ev_renc l (h1.sm hd h2) h1.wf d m) ?_
  by_cases ha : (encV l d m).2 = 0
  · by_cases hb : (encV l d m).1.toList = s.toList
    · simp only [ha, hb, if_true]
      exact Ev.now _
    · simp only [ha, hb, if_false, if_true]
      exact Ev.now _
  · simp only [ha, if_false]
    exact Ev.now _
theorem ev_rdec0 (s : ByteArray) (d : Nat) (m : Int) (hd : d ≤ 6) (hs : s.size ≤ 300) (hs0 : 0 < s.size) (c : Nat) (hc : c ≤ 255) (hc' : getV (bytesOf s) 0 1 = (c : Int)) :
    ∀ n (i p : Nat) (acc : List S38), i + n = c → acc.length = i → Dk acc d → p ≤ s.size → Ev (fun k => cadastreref10_Decode.l0 k s (d : Int) m acc (p : Int) (i : Int)) (finV s (d : Int) m ((decR (bytesOf s) d n p).map (acc ++ ·)))
  | 0, i, p, acc, hi, hl, hk, hp => by
    have hb := bt_getV s 0 hs0
    rw [hc'] at hb
    refine Ev.step (fun k => by rw [cadastreref10_Decode.l0]) ?_
    have hb' : bt s 0 = (c : Int) := hb
    simp only [if_pos (show 0 < (s.size : Int) by omega), hb', w64 (x := (c : Int)) (by omega) (by omega), if_neg (show ¬ (i : Int) < (c : Int) by omega)]
    rw [decR, if_pos (by rw [bytesOf_length]; exact hp)]
    simp only [Option.map_some, List.append_nil]
    exact finV_enc s d m hd acc hk (by omega)
  | n + 1, i, p, acc, hi, hl, hk, hp => by
    have hb := bt_getV s 0 hs0
    rw [hc'] at hb
    have hb' : bt s 0 = (c : Int) := hb
    refine Ev.step (fun k => by rw [cadastreref10_Decode.l0]) ?_
    simp only [if_pos (show 0 < (s.size : Int) by omega), hb', w64 (x := (c : Int)) (by omega) (by omega), if_pos (show (i : Int) < (c : Int) by omega), wmul4 (show d ≤ 1000000 by omega), wadd (show p + 4 * d ≤ 1000000 by omega), w64s (show p + 4 * d ≤ 1000000 by omega)]
    rw [decR, if_pos (by rw [bytesOf_length]; exact hp)]
    by_cases hf : ((p + 4 * d + 1 : Nat) : Int) > (s.size : Int)
    · simp only [if_pos hf]
      rw [decR_none _ _ _ _ (by rw [bytesOf_length]; unfold decP; omega)]
      exact Ev.now _
    · simp only [if_neg hf]
      obtain ⟨h3, h4, h5⟩ := decX_ok s d p
      refine ev_rdec1 s d p i m acc hd hs (by omega) (by omega) (by omega) _ (fun h => ?_) (fun h => ?_) d 0 (by omega)
      · rw [decR_none _ _ _ _ (by rw [bytesOf_length]; exact h)]
        rfl
      · have hk' : Dk (acc ++ [decX (bytesOf s) d p]) d := ⟨fun x hx => (List.mem_append.1 hx).elim (hk.key x) (fun h => by rw [List.mem_singleton.1 h]; exact h3), fun x hx => (List.mem_append.1 hx).elim (hk.dat x) (fun h => by rw [List.mem_singleton.1 h]; exact h4), fun x hx => (List.mem_append.1 hx).elim (hk.wf x) (fun h => by rw [List.mem_singleton.1 h]; exact h5)⟩
        have := ev_rdec0 s d m hd hs hs0 c hc hc' n (i + 1) (decP (bytesOf s) d p) (acc ++ [decX (bytesOf s) d p]) (by omega) (by simp [hl]) hk' h
        simpa [Option.map_map, Function.comp_def] using this
theorem ev_rdec (s : ByteArray) (hs : s.size ≤ 300) (a1 a2 : Int) : Ev (fun k => cadastreref10_Decode.f k s a1 a2) (decV s a1 a2) := by
  unfold cadastreref10_Decode.f decV capB
  have hbad : Ev (fun k => cadastreref10_Decode.j0 k s a1 a2 true) (([] : List S38), (1 : Int)) := by
    refine Ev.step (fun k => by rw [cadastreref10_Decode.j0]) ?_
    simp only [if_true]
    exact Ev.now _
  by_cases h1 : a1 < 1
  · simp only [if_pos h1, h1, true_or, if_true]
    exact hbad
  · simp only [if_neg h1, h1, false_or]
    by_cases h2 : a1 > 6
    · simp only [if_pos h2, show 6 < a1 from h2, true_or, if_true]
      exact hbad
    · simp only [if_neg h2, show ¬ 6 < a1 from h2, false_or]
      by_cases h3 : a2 < 2
      · simp only [if_pos h3, if_neg (show ¬ a2 ≥ 2 by omega), if_true]
        exact hbad
      · simp only [if_neg h3, if_pos (show a2 ≥ 2 by omega)]
        by_cases h4 : a2 > 16
        · simp only [decide_eq_true h4, decide_eq_false (show ¬ a2 ≤ 16 by omega), if_true]
          exact hbad
        · simp only [decide_eq_false h4, decide_eq_true (show a2 ≤ 16 by omega), Bool.true_eq_false, if_false]
          refine Ev.step (fun k => by rw [cadastreref10_Decode.j0]) ?_
          simp only [Bool.false_eq_true, if_false]
          obtain ⟨d, rfl⟩ := Int.eq_ofNat_of_zero_le (show 0 ≤ a1 by omega)
          rw [Int.toNat_natCast]
          by_cases h0 : s.size = 0
          · have e : s.toList = [] := by rw [toList_data]; exact List.eq_nil_of_length_eq_zero (by rw [data_length]; exact h0)
            simp only [e, if_true]
            rw [decR_none _ _ _ _ (by rw [bytesOf_length]; omega)]
            exact Ev.now _
          · have e : ¬ s.toList = [] := fun h => h0 (by rw [toList_data] at h; rw [← data_length, h]; rfl)
            simp only [if_neg e]
            have hv := getV_u8 (bytesOf s) (bytesOf_Bytes s) 0
            obtain ⟨c, hc⟩ := Int.eq_ofNat_of_zero_le hv.1
            rw [hc, Int.toNat_natCast]
            have := ev_rdec0 s d a2 (by omega) hs (by omega) c (by omega) hc c 0 1 [] (by omega) rfl ⟨fun x hx => by simp at hx, fun x hx => by simp at hx, fun x hx => by simp at hx⟩ (by omega)
            simpa using this
theorem finV_sm (s : ByteArray) (d : Nat) (m : Int) (hd : d ≤ 6) (r : Option (List S38)) (hr : ∀ l, r = some l → Dk l d ∧ l.length ≤ 1000) : Sm (finV s (d : Int) m r).1 := by
  have h0 : Sm ([] : List S38) := ⟨by simp, fun x hx => by simp at hx, fun x hx => by simp at hx⟩
  cases r with
  | none => exact h0
  | some l =>
    unfold finV
    simp only
    split
    · split
      · exact (hr l rfl).1.sm hd (hr l rfl).2
      · exact h0
    · exact h0
theorem decV_sm (s : ByteArray) (a1 a2 : Int) : Sm (decV s a1 a2).1 := by
  unfold decV
  split
  · exact ⟨by simp, fun x hx => by simp at hx, fun x hx => by simp at hx⟩
  · next h =>
    obtain ⟨d, rfl⟩ := Int.eq_ofNat_of_zero_le (show 0 ≤ a1 by simp at h; omega)
    have hv := getV_u8 (bytesOf s) (bytesOf_Bytes s) 0
    refine finV_sm s d a2 (by simp at h; omega) _ (fun l hl => ?_)
    have := decR_ok s _ _ _ _ hl
    rw [Int.toNat_natCast] at this
    exact ⟨this.1, by omega⟩
end Go.Proofs.Ytafpfggijpigfaa.Bkt
