import Derived.Test.YtafpfggijpigfaaP3
import Derived.Test.YtafpfggijpigfaaP6
import Derived.Test.YtafpfggijpigfaaBktx9
namespace Go.Proofs.Ytafpfggijpigfaa.Bkt
open Go.RowKit Go.Proofs.YtafpfggijpigfaaW.PrintWords Go.Proofs.YtafpfggijpigfaaW.PrintLast
set_option linter.unusedVariables false
set_option linter.unusedSimpArgs false
theorem be_bes1 {v : Int} (h0 : 0 ≤ v) (h1 : v < 256) : be (bes 1 v) = v := by rw [bes1 v h0 h1]; simp [be]
theorem be_bes4 {v : Int} (h0 : 0 ≤ v) (h1 : v < 4294967296) : be (bes 4 v) = v := by rw [bes4]; simp only [be, List.foldl]; omega
theorem getV_mid (pre b post : List Int) : getV (pre ++ b ++ post) pre.length b.length = be b := by
  unfold getV
  rw [if_pos (by simp only [List.length_append]; omega), List.append_assoc, List.drop_left, List.take_left]
theorem getT_mid (pre b post : List Int) : getT (pre ++ b ++ post) pre.length b.length = strOfNums b := by
  unfold getT
  rw [if_pos (by simp only [List.length_append]; omega), List.append_assoc, List.drop_left, List.take_left]
theorem decK_front (xs : List Int) (p n : Nat) : decK xs p (n + 1) = getV xs p 4 :: decK xs (p + 4) n := by
  simp only [decK, List.range_succ_eq_map, List.map_cons, List.map_map, Nat.mul_zero, Nat.add_zero]
  congr 1
  refine List.map_congr_left fun j _ => ?_
  show getV xs (p + 4 * (j + 1)) 4 = _
  congr 1
  omega
theorem decK_key : ∀ (y : List Int) (pre post : List Int), U32 y → decK (pre ++ keyB y ++ post) pre.length y.length = y
  | [], pre, post, h => rfl
  | v :: y, pre, post, h => by
    have hv := h v (by simp)
    rw [List.length_cons, decK_front]
    have e : pre ++ keyB (v :: y) ++ post = (pre ++ bes 4 v) ++ keyB y ++ post := by simp [keyB]
    have e2 : (pre ++ bes 4 v).length = pre.length + 4 := by simp [bes_length]
    rw [e, ← e2, decK_key y (pre ++ bes 4 v) post (fun x hx => h x (by simp [hx])), List.append_assoc (pre ++ bes 4 v)]
    have := getV_mid pre (bes 4 v) (keyB y ++ post)
    rw [bes_length] at this
    rw [this, be_bes4 hv.1 hv.2]
theorem dec_one (x : S38) (d : Nat) (pre post : List Int) (h0 : x.f0.length = d) (h1 : U32 x.f0) (h2 : x.f1.size < 256) :
    decX (pre ++ recB x ++ post) d pre.length = x ∧ decP (pre ++ recB x ++ post) d pre.length = (pre ++ recB x).length := by
  subst h0
  have e1 : pre ++ recB x ++ post = pre ++ keyB x.f0 ++ (bes 1 x.f1.size ++ bytesOf x.f1 ++ post) := by simp [recB]
  have e2 : pre ++ recB x ++ post = (pre ++ keyB x.f0) ++ bes 1 x.f1.size ++ (bytesOf x.f1 ++ post) := by simp [recB]
  have e3 : pre ++ recB x ++ post = (pre ++ keyB x.f0 ++ bes 1 x.f1.size) ++ bytesOf x.f1 ++ post := by simp [recB]
  have l1 : (pre ++ keyB x.f0).length = pre.length + 4 * x.f0.length := by rw [List.length_append, keyB_length]
  have l2 : (pre ++ keyB x.f0 ++ bes 1 x.f1.size).length = pre.length + 4 * x.f0.length + 1 := by rw [List.length_append, l1, bes_length]
  have k1 : decK (pre ++ recB x ++ post) pre.length x.f0.length = x.f0 := by rw [e1]; exact decK_key _ _ _ h1
  have k2 : getV (pre ++ recB x ++ post) (pre.length + 4 * x.f0.length) 1 = x.f1.size := by
    have := getV_mid (pre ++ keyB x.f0) (bes 1 x.f1.size) (bytesOf x.f1 ++ post)
    rw [bes_length, ← e2, l1] at this
    rw [this, be_bes1 (by omega) (by omega)]
  have k3 : getT (pre ++ recB x ++ post) (pre.length + 4 * x.f0.length + 1) x.f1.size = x.f1 := by
    have := getT_mid (pre ++ keyB x.f0 ++ bes 1 x.f1.size) (bytesOf x.f1) post
    rw [bytesOf_length, ← e3, l2] at this
    rw [this, str_bytes]
  refine ⟨?_, ?_⟩
  · unfold decX
    rw [k1, k2, Int.toNat_natCast, k3]
  · unfold decP
    rw [k2, Int.toNat_natCast, List.length_append]
    simp only [recB, List.length_append, keyB_length, bes_length, bytesOf_length]
    omega
theorem dec_all (d : Nat) : ∀ (l : List S38) (pre : List Int), (∀ x, x ∈ l → x.f0.length = d ∧ U32 x.f0 ∧ x.f1.size < 256) → decR (pre ++ (l.map recB).flatten) d l.length pre.length = some l
  | [], pre, h => by simp [decR]
  | x :: l, pre, h => by
    obtain ⟨h0, h1, h2⟩ := h x (by simp)
    have e : pre ++ ((x :: l).map recB).flatten = (pre ++ recB x) ++ (l.map recB).flatten := by simp
    obtain ⟨k1, k2⟩ := dec_one x d pre (l.map recB).flatten h0 h1 h2
    rw [e, List.length_cons, decR, if_pos (by simp only [List.length_append]; omega), k1, k2, dec_all d l (pre ++ recB x) (fun y hy => h y (by simp [hy]))]
    rfl
theorem bytesOf_str {b : List Int} (h : Bytes b) : bytesOf (strOfNums b) = b := by
  have e : ∀ v, v ∈ b → ((UInt8.ofNat v.toNat).toNat : Int) = v := fun v hv => by
    have := h v hv
    rw [UInt8.toNat_ofNat']
    omega
  simp only [bytesOf, strOfNums]
  simp [List.map_map, Function.comp_def]
  rw [List.map_congr_left (fun v hv => ?_), List.map_id']
  have := h v hv
  omega
theorem enc_bytes (l : List S38) : Bytes (encB l) := by
  have hb : ∀ (m : Nat) (v : Int), Bytes (bes m v) := fun m v x hx => by
    simp only [bes, List.mem_map] at hx
    obtain ⟨j, _, rfl⟩ := hx
    exact ⟨Int.emod_nonneg _ (by omega), by have := Int.emod_lt_of_pos (v / 256 ^ (m - 1 - j)) (show (0 : Int) < 256 by omega); omega⟩
  intro x hx
  simp only [encB, List.mem_append, List.mem_flatten, List.mem_map] at hx
  rcases hx with hx | ⟨_, ⟨r, _, rfl⟩, hx⟩
  · exact hb _ _ x hx
  · simp only [recB, keyB, List.mem_append, List.mem_flatten, List.mem_map] at hx
    rcases hx with (⟨_, ⟨v, _, rfl⟩, hx⟩ | hx) | hx
    · exact hb _ _ x hx
    · exact hb _ _ x hx
    · exact bytesOf_Bytes _ x hx
theorem decV_enc {l : List S38} {d m : Int} (hw : Wf l) (h1 : 1 ≤ d) (h6 : d ≤ 6) (h : (encV l d m).2 = 0) :
    (encV l d m).1 = strOfNums (encB l) ∧ decV (strOfNums (encB l)) d m = (l, 0) ∧ szL l ≤ 230 := by
  unfold encV at h ⊢
  by_cases hc : capB m = true ∧ fitsL l m = true ∧ isL l d = true
  · rw [if_pos hc]
    refine ⟨rfl, ?_, ?_⟩
    · have hok := encOk_of hw hc.1 hc.2.1 hc.2.2
      obtain ⟨n, rfl⟩ := Int.eq_ofNat_of_zero_le (show 0 ≤ d by omega)
      unfold decV
      rw [if_neg (by simp [hc.1]; omega), bytesOf_str (enc_bytes l), Int.toNat_natCast]
      have hl := hok.1
      have hx : ∀ x, x ∈ l → x.f0.length = n ∧ U32 x.f0 ∧ x.f1.size < 256 := fun x hx => by
        have := isL_at hc.2.2 hx
        exact ⟨by omega, hw x hx, by omega⟩
      have g : getV (encB l) 0 1 = (l.length : Int) := by
        have := getV_mid [] (bes 1 l.length) ((l.map recB).flatten)
        rw [bes_length] at this
        simp only [List.nil_append, List.length_nil] at this
        rw [encB, this, be_bes1 (by omega) (by omega)]
      rw [g, Int.toNat_natCast]
      have := dec_all n l (bes 1 l.length) hx
      rw [bes_length] at this
      rw [encB, this]
      simp only [finV, encV, if_pos hc, encB, if_true]
    · have := hc.2.1
      unfold fitsL at this
      split at this
      · have := of_decide_eq_true this; omega
      · cases this
  · rw [if_neg hc] at h; cases h
theorem decV_back (s : ByteArray) (d m : Int) : ((decV s d m).2 = 0 → encV (decV s d m).1 d m = (s, 0)) ∧ ((decV s d m).2 ≠ 0 → (decV s d m).1 = []) := by
  unfold decV
  split
  · exact ⟨fun h => by simp at h, fun _ => rfl⟩
  · generalize decR _ _ _ _ = r
    cases r with
    | none => exact ⟨fun h => by simp [finV] at h, fun _ => rfl⟩
    | some l =>
      simp only [finV]
      by_cases ha : (encV l d m).2 = 0
      · by_cases hb : (encV l d m).1.toList = s.toList
        · rw [if_pos ha, if_pos hb]
          exact ⟨fun _ => Prod.ext (bytes_ext hb) ha, fun h => absurd rfl h⟩
        · rw [if_pos ha, if_neg hb]
          exact ⟨fun h => by simp at h, fun _ => rfl⟩
      · rw [if_neg ha]
        exact ⟨fun h => by simp at h, fun _ => rfl⟩
theorem decV_wf (s : ByteArray) (d m : Int) : Wf (decV s d m).1 := by
  have h0 : Wf [] := fun x hx => by simp at hx
  unfold decV
  split
  · exact h0
  · next h =>
    have hv := getV_u8 (bytesOf s) (bytesOf_Bytes s) 0
    cases hr : decR (bytesOf s) d.toNat (getV (bytesOf s) 0 1).toNat 1 with
    | none => exact h0
    | some l =>
      have := (decR_ok s _ _ _ _ hr).1.wf
      simp only [finV]
      split
      · split
        · exact this
        · exact h0
      · exact h0
theorem ev_back1 (s : ByteArray) (hs : s.size ≤ 300) (d m : Int) : Ev (fun k => cadastrelaw10_BucketBack.j1 k s d m) true := by
  refine Ev.step (fun k => by rw [cadastrelaw10_BucketBack.j1]) ?_
  refine Ev.bind (ev_dec s (by omega) d m) ?_
  obtain ⟨b1, b2⟩ := decV_back s d m
  by_cases h : (decV s d m).2 = 0
  · simp only [if_pos h]
    refine Ev.bind (ev_enc _ (decV_sm s d m) (decV_wf s d m) d m) ?_
    simp only [b1 h, if_true, ev_live, Option.bind_some]
    exact Ev.now _
  · simp only [if_neg h, b2 h, List.length_nil, Int.natCast_zero, if_true, ev_live, Option.bind_some]
    exact Ev.now _
theorem ev_back (l : List S38) (hw : Wf l) (s : ByteArray) (d m : Int) : Ev (fun k => cadastrelaw10_BucketBack.f k l s d m) true := by
  have hyes : Ev (fun k => cadastrelaw10_BucketBack.j0 k l s d m true) true := by
    refine Ev.step (fun k => by rw [cadastrelaw10_BucketBack.j0]) ?_
    simp only [if_true, ev_live, Option.bind_some]
    exact Ev.now _
  unfold cadastrelaw10_BucketBack.f
  refine Ev.bind (ev_few l) ?_
  by_cases hf : fewL l = true
  · have hs := (fewL_of hf).sm
    simp only [hf, if_true]
    by_cases h1 : (s.size : Int) > 300
    · simp only [if_pos h1]; exact hyes
    · simp only [if_neg h1]
      by_cases h2 : d < 1
      · simp only [if_pos h2]; exact hyes
      · simp only [if_neg h2]
        by_cases h3 : d > 6
        · simp only [decide_eq_true h3]; exact hyes
        · simp only [decide_eq_false h3]
          refine Ev.step (fun k => by rw [cadastrelaw10_BucketBack.j0]) ?_
          simp only [Bool.false_eq_true, if_false]
          refine Ev.bind (ev_enc l hs hw d m) ?_
          by_cases h4 : (encV l d m).2 = 0
          · obtain ⟨e1, e2, e3⟩ := decV_enc hw (by omega) (by omega) h4
            have hz : (strOfNums (encB l)).size = szL l := by rw [strOfNums_size, szL_enc]
            simp only [if_pos h4, e1]
            refine Ev.bind (ev_dec (strOfNums (encB l)) (by omega) d m) ?_
            simp only [e2, if_true]
            refine Ev.bind (ev_same l l hs hs) ?_
            simp only [sameL_refl, if_true]
            refine Ev.bind (ev_size l hs) ?_
            simp only [hz, if_true, if_neg (show ¬ (szL l : Int) > 230 by omega)]
            exact ev_back1 s (by omega) d m
          · simp only [if_neg h4]
            exact ev_back1 s (by omega) d m
  · simp only [hf, Bool.false_eq_true, if_false]
    exact hyes
end Go.Proofs.Ytafpfggijpigfaa.Bkt
