import Derived.Test.YtafpfggijpigfaaP1
import Derived.Test.YtafpfggijpigfaaBktx5
import Derived.Test.YtafpfggijpigfaaHB
namespace Go.Proofs.Ytafpfggijpigfaa.Bkt
open Go.RowKit Go.Proofs.YtafpfggijpigfaaW.PrintWords Go.Proofs.YtafpfggijpigfaaW.PrintLast
set_option linter.unusedVariables false
set_option linter.unusedSimpArgs false
def fewF (l : List S38) : Nat → Nat → Bool
  | 0, _ => true
  | n + 1, i => if (rd_T38 l (i : Int)).f0.length > 20 then false else if (rd_T38 l (i : Int)).f1.size > 100 then false else fewF l n (i + 1)
def fewL (l : List S38) : Bool := if l.length > 60 then false else fewF l l.length 0
theorem ev_few0 (l : List S38) (hl : l.length ≤ 60) : ∀ n i, i + n = l.length → Ev (fun k => cadastreref09_Few.l0 k l (i : Int)) (fewF l n i)
  | 0, i, hi => by
    refine Ev.step (fun k => by rw [cadastreref09_Few.l0]) ?_
    simp only [if_neg (show ¬ (i : Int) < (l.length : Int) by omega)]
    exact Ev.now _
  | n + 1, i, hi => by
    refine Ev.step (fun k => by rw [cadastreref09_Few.l0]) ?_
    simp only [if_pos (show (i : Int) < (l.length : Int) by omega), if_pos (show 0 ≤ (i : Int) by omega)]
    rw [fewF]
    by_cases h1 : (rd_T38 l (i : Int)).f0.length > 20
    · simp only [if_pos h1, if_pos (show ((rd_T38 l (i : Int)).f0.length : Int) > 20 by omega)]
      exact Ev.now _
    · simp only [if_neg h1, if_neg (show ¬ ((rd_T38 l (i : Int)).f0.length : Int) > 20 by omega)]
      by_cases h2 : (rd_T38 l (i : Int)).f1.size > 100
      · simp only [if_pos h2, if_pos (show ((rd_T38 l (i : Int)).f1.size : Int) > 100 by omega)]
        exact Ev.now _
      · simp only [if_neg h2, if_neg (show ¬ ((rd_T38 l (i : Int)).f1.size : Int) > 100 by omega), w64s (show i ≤ 1000000 by omega)]
        exact ev_few0 l hl n (i + 1) (by omega)
theorem ev_few (l : List S38) : Ev (fun k => cadastreref09_Few.f k l) (fewL l) := by
  unfold cadastreref09_Few.f fewL
  by_cases h : l.length > 60
  · simp only [if_pos h, if_pos (show (l.length : Int) > 60 by omega)]
    exact Ev.now _
  · simp only [if_neg h, if_neg (show ¬ (l.length : Int) > 60 by omega)]
    have := ev_few0 l (by omega) l.length 0 (by omega)
    simpa using this
theorem fewF_at (l : List S38) : ∀ n i, i + n = l.length → fewF l n i = true → ∀ j, i ≤ j → j < l.length → (rd_T38 l (j : Int)).f0.length ≤ 20 ∧ (rd_T38 l (j : Int)).f1.size ≤ 100
  | 0, i, hi, h, j, h1, h2 => by omega
  | n + 1, i, hi, h, j, h1, h2 => by
    rw [fewF] at h
    by_cases ha : (rd_T38 l (i : Int)).f0.length > 20
    · rw [if_pos ha] at h; cases h
    · rw [if_neg ha] at h
      by_cases hb : (rd_T38 l (i : Int)).f1.size > 100
      · rw [if_pos hb] at h; cases h
      · rw [if_neg hb] at h
        by_cases hij : j = i
        · subst hij; omega
        · exact fewF_at l n (i + 1) (by omega) h j (by omega) h2
structure Fw (l : List S38) : Prop where
  len : l.length ≤ 60
  at_ : ∀ x, x ∈ l → x.f0.length ≤ 20 ∧ x.f1.size ≤ 100
theorem fewL_of {l : List S38} (h : fewL l = true) : Fw l := by
  unfold fewL at h
  by_cases hl : l.length > 60
  · rw [if_pos hl] at h; cases h
  · rw [if_neg hl] at h
    refine ⟨by omega, fun x hx => ?_⟩
    obtain ⟨j, hj, rfl⟩ := List.getElem_of_mem hx
    have := fewF_at l _ _ (by omega) h j (Nat.zero_le _) hj
    rwa [rdT_nat hj] at this
theorem Fw.sm {l : List S38} (h : Fw l) : Sm l := ⟨by have := h.len; omega, fun x hx => by have := (h.at_ x hx).1; omega, fun x hx => by have := (h.at_ x hx).2; omega⟩
theorem isF_at (l : List S38) (d : Int) : ∀ n i, i + n = l.length → isF l d n i = true → ∀ j, i ≤ j → j < l.length → chk (rd_T38 l (j : Int)).f0 (rd_T38 l (j : Int)).f1.size d = 0
  | 0, i, hi, h, j, h1, h2 => by omega
  | n + 1, i, hi, h, j, h1, h2 => by
    rw [isF] at h
    by_cases ha : chk (rd_T38 l (i : Int)).f0 (rd_T38 l (i : Int)).f1.size d = 0
    · rw [if_pos ha] at h
      by_cases hij : j = i
      · subst hij; exact ha
      · refine isF_at l d n (i + 1) (by omega) ?_ j (by omega) h2
        split at h
        · split at h
          · cases h
          · exact h
        · exact h
    · rw [if_neg ha] at h; cases h
theorem chk_ok {y : List Int} {n : Nat} {d : Int} (h : chk y n d = 0) : n ≤ 40 ∧ 1 ≤ d ∧ d ≤ 6 ∧ (y.length : Int) = d := by
  unfold chk at h
  by_cases h1 : n > 40
  · rw [if_pos h1] at h; cases h
  · rw [if_neg h1] at h
    by_cases h2 : 1 ≤ d ∧ d ≤ 6 ∧ (y.length : Int) = d
    · exact ⟨by omega, h2⟩
    · rw [if_neg h2] at h; cases h
theorem isL_at {l : List S38} {d : Int} (h : isL l d = true) {x : S38} (hx : x ∈ l) : x.f1.size ≤ 40 ∧ 1 ≤ d ∧ d ≤ 6 ∧ (x.f0.length : Int) = d := by
  obtain ⟨j, hj, rfl⟩ := List.getElem_of_mem hx
  have := isF_at l d _ _ (by omega) h j (Nat.zero_le _) hj
  rw [rdT_nat hj] at this
  exact chk_ok this
theorem szF_enc (l : List S38) : ∀ n i, i + n = l.length → szF l n i = ((l.drop i).map recB).flatten.length
  | 0, i, hi => by rw [List.drop_eq_nil_of_le (by omega)]; rfl
  | n + 1, i, hi => by
    rw [szF, szF_enc l n (i + 1) (by omega), drop_cons (show i < l.length by omega), ← rdT_nat (show i < l.length by omega)]
    simp only [List.map_cons, List.flatten_cons, List.length_append, recB_length]
theorem szL_enc (l : List S38) : szL l = (encB l).length := by
  rw [szL, szF_enc l _ 0 (by omega), encB, List.length_append, bes_length]
  simp
def capB (m : Int) : Bool := if m ≥ 2 then decide (m ≤ 16) else false
theorem ev_cap (m : Int) : bucket_isCap.f m = some (capB m) := by
  unfold bucket_isCap.f capB
  split <;> rfl
def encV (l : List S38) (d m : Int) : ByteArray × Int := if capB m = true ∧ fitsL l m = true ∧ isL l d = true then (strOfNums (encB l), 0) else (⟨#[]⟩, 1)
/-- the keys' numbers are of their kind -/
def Wf (l : List S38) : Prop := ∀ x, x ∈ l → U32 x.f0
theorem encOk_of {l : List S38} {d m : Int} (hw : Wf l) (h1 : capB m = true) (h2 : fitsL l m = true) (h3 : isL l d = true) : EncOk l := by
  have hm : m ≤ 16 := by unfold capB at h1; split at h1 <;> simp at h1; exact h1
  unfold fitsL at h2
  by_cases hl : (l.length : Int) ≤ m
  · rw [if_pos hl] at h2
    have h2 := of_decide_eq_true h2
    rw [szL_enc] at h2
    exact ⟨by omega, by omega, fun x hx => ⟨hw x hx, by have := (isL_at h3 hx).1; omega⟩⟩
  · rw [if_neg hl] at h2; cases h2
theorem ev_enc (l : List S38) (hl : Sm l) (hw : Wf l) (d m : Int) : Ev (fun k => bucket_Encode.f k l d m) (encV l d m) := by
  unfold bucket_Encode.f encV
  simp only [ev_cap, Option.bind_some]
  by_cases h1 : capB m = true
  · simp only [if_pos h1]
    refine Ev.bind (ev_fits l hl m) ?_
    by_cases h2 : fitsL l m = true
    · simp only [if_pos h2]
      refine Ev.bind (ev_is l d hl) ?_
      by_cases h3 : isL l d = true
      · simp only [if_pos h3]
        refine Ev.bind (ev_size l hl) ?_
        rw [if_pos ⟨by rw [szL_enc], encOk_of hw h1 h2 h3⟩, if_pos ⟨h1, h2, h3⟩]
        exact Ev.now _
      · simp only [if_neg h3]
        rw [if_neg (fun hh => h3 hh.2.2)]
        exact Ev.now _
    · simp only [if_neg h2]
      rw [if_neg (fun hh => h2 hh.2.1)]
      exact Ev.now _
  · simp only [if_neg h1]
    rw [if_neg (fun hh => h1 hh.1)]
    exact Ev.now _
theorem str_append (a b : List Int) : strOfNums a ++ strOfNums b = strOfNums (a ++ b) := by
  apply ByteArray.ext
  simp [strOfNums]
theorem str_nil : strOfNums [] = ⟨#[]⟩ := rfl
theorem str_bytes (s : ByteArray) : strOfNums (bytesOf s) = s := by
  apply ByteArray.ext
  apply Array.ext'
  simp only [strOfNums, bytesOf, List.map_map]
  have : ((fun n : Int => UInt8.ofNat n.toNat) ∘ fun b : UInt8 => (b.toNat : Int)) = id := by
    funext b
    simp
  rw [this, List.map_id]
theorem ev_wide1 (v : Int) (h0 : 0 ≤ v) (h1 : v < 256) : Ev (fun k => cadastreref03_Wide.f k v 1) (strOfNums (bes 1 v)) := by
  unfold cadastreref03_Wide.f
  refine Ev.step (fun k => by rw [cadastreref03_Wide.l0]) ?_
  simp only [if_pos (show (0 : Int) < 1 by decide), Option.bind_some, strOfNums_size]
  rw [← str_nil]
  simp only [str_append, strOfNums_size]
  simp only [if_pos (show ([Int.tmod v 256 % 256] : List Int).length + ([] : List Int).length ≤ 9223372036854775807 by simp)]
  refine Ev.step (fun k => by rw [cadastreref03_Wide.l0]) ?_
  simp only [if_neg (show ¬ wrap64 (0 + 1) < 1 by unfold wrap64; omega)]
  have e : Int.tmod v 256 % 256 = v := by rw [Int.tmod_eq_emod_of_nonneg h0]; omega
  rw [e, bes1 v h0 h1]
  exact Ev.now _
theorem ev_wide4 (v : Int) (h0 : 0 ≤ v) (h1 : v < 4294967296) : Ev (fun k => cadastreref03_Wide.f k v 4) (strOfNums (bes 4 v)) := by
  have key : ∀ n (i : Nat) (u : Int) (p : List Int), i + n = 4 → 0 ≤ u → u < 4294967296 → p.length = i → Ev (fun k => cadastreref03_Wide.l0 k u 4 (strOfNums p) (i : Int)) (strOfNums (bes n u ++ p)) := by
    intro n
    induction n with
    | zero =>
      intro i u p hi hu0 hu1 hp
      refine Ev.step (fun k => by rw [cadastreref03_Wide.l0]) ?_
      simp only [if_neg (show ¬ (i : Int) < 4 by omega)]
      exact Ev.now _
    | succ n ih =>
      intro i u p hi hu0 hu1 hp
      refine Ev.step (fun k => by rw [cadastreref03_Wide.l0]) ?_
      have e1 : wrap64 (Int.tdiv u 256) = u / 256 := by rw [Int.tdiv_eq_ediv_of_nonneg hu0, w64 (by omega) (by omega)]
      have e2 : Int.tmod u 256 % 256 = u % 256 := by rw [Int.tmod_eq_emod_of_nonneg hu0]; omega
      simp only [if_pos (show (i : Int) < 4 by omega), Option.bind_some, strOfNums_size, e1, e2, str_append, w64s (show i ≤ 1000000 by omega)]
      simp only [if_pos (show ([u % 256] : List Int).length + p.length ≤ 9223372036854775807 by simp; omega)]
      have := ih (i + 1) (u / 256) ([u % 256] ++ p) (by omega) (by omega) (by omega) (by simp; omega)
      have eb : bes (n + 1) u ++ p = bes n (u / 256) ++ ([u % 256] ++ p) := by
        rw [← List.append_assoc]
        congr 1
        unfold bes
        rw [List.range_succ, List.map_append]
        congr 1
        · apply List.map_congr_left
          intro j hj
          have hj := List.mem_range.1 hj
          have e3 : n + 1 - 1 - j = (n - 1 - j) + 1 := by omega
          rw [e3, Int.pow_succ, Int.mul_comm, ← Int.ediv_ediv_of_nonneg (by decide)]
        · simp
      rw [eb]
      exact this
  have := key 4 0 v [] (by decide) h0 h1 rfl
  simpa [cadastreref03_Wide.f, str_nil] using this
theorem keyB_drop {y : List Int} {j : Nat} (h : j < y.length) : keyB (y.drop j) = bes 4 (rd y (j : Int)) ++ keyB (y.drop (j + 1)) := by
  rw [drop_cons h, rd_nat h]
  rfl
theorem ev_renc1 (l : List S38) (i : Nat) (hi : i < l.length) (hsz : (rd_T38 l (i : Int)).f1.size < 256) (hu : U32 (rd_T38 l (i : Int)).f0) (hil : i ≤ 1000000) (r : ByteArray × Int) (hkl : (rd_T38 l (i : Int)).f0.length ≤ 1000) :
    ∀ n (j : Nat) (p : List Int), j + n = (rd_T38 l (i : Int)).f0.length → p.length + 4 * n ≤ 10000000 →
    Ev (fun k => cadastreref10_Encode.l0 k l (strOfNums (p ++ keyB ((rd_T38 l (i : Int)).f0.drop j) ++ bes 1 (rd_T38 l (i : Int)).f1.size ++ bytesOf (rd_T38 l (i : Int)).f1)) ((i + 1 : Nat) : Int)) r →
    Ev (fun k => cadastreref10_Encode.l1 k l (strOfNums p) (i : Int) (j : Int)) r
  | 0, j, p, hj, hp, h => by
    refine Ev.step (fun k => by rw [cadastreref10_Encode.l1]) ?_
    simp only [if_pos (show 0 ≤ (i : Int) by omega), if_pos (show (i : Int) < (l.length : Int) by omega), if_neg (show ¬ (j : Int) < ((rd_T38 l (i : Int)).f0.length : Int) by omega)]
    refine Ev.bind (ev_wide1 _ (by omega) (by omega)) ?_
    rw [List.drop_eq_nil_of_le (by omega)] at h
    simp only [strOfNums_size, bes_length, str_append, w64s hil]
    simp only [if_pos (show p.length + 1 ≤ 9223372036854775807 by omega)]
    have e : ∀ q : List Int, strOfNums q ++ (rd_T38 l (i : Int)).f1 = strOfNums (q ++ bytesOf (rd_T38 l (i : Int)).f1) := fun q => by rw [← str_append, str_bytes]
    simp only [e]
    simp only [List.length_append, bes_length, if_pos (show p.length + 1 + (rd_T38 l (i : Int)).f1.size ≤ 9223372036854775807 by omega)]
    simpa only [keyB, List.map_nil, List.flatten_nil, List.append_nil, List.append_assoc] using h
  | n + 1, j, p, hj, hp, h => by
    have hjl : j < (rd_T38 l (i : Int)).f0.length := by omega
    have hv := hu (rd (rd_T38 l (i : Int)).f0 (j : Int)) (by rw [rd_nat hjl]; exact List.getElem_mem hjl)
    refine Ev.step (fun k => by rw [cadastreref10_Encode.l1]) ?_
    have e : wrap64 (rd (rd_T38 l (i : Int)).f0 (j : Int)) = rd (rd_T38 l (i : Int)).f0 (j : Int) := w64 (by omega) (by omega)
    simp only [if_pos (show 0 ≤ (i : Int) by omega), if_pos (show (i : Int) < (l.length : Int) by omega), if_pos (show (j : Int) < ((rd_T38 l (i : Int)).f0.length : Int) by omega), if_pos (show 0 ≤ (j : Int) by omega), e]
    refine Ev.bind (ev_wide4 _ hv.1 hv.2) ?_
    simp only [strOfNums_size, bes_length, str_append, w64s (show j ≤ 1000000 by omega)]
    simp only [if_pos (show p.length + 4 ≤ 9223372036854775807 by omega)]
    refine ev_renc1 l i hi hsz hu hil r hkl n (j + 1) _ (by omega) (by simp [bes_length]; omega) ?_
    rw [keyB_drop hjl] at h
    simpa only [List.append_assoc] using h
theorem ev_renc0 (l : List S38) (hl : Sm l) (hs : ∀ x, x ∈ l → x.f1.size < 256) (hw : Wf l) : ∀ n (i : Nat) (p : List Int), i + n = l.length → p.length + szF l n i ≤ 9000000 →
    Ev (fun k => cadastreref10_Encode.l0 k l (strOfNums p) (i : Int)) (strOfNums (p ++ ((l.drop i).map recB).flatten), 0)
  | 0, i, p, hi, hp => by
    refine Ev.step (fun k => by rw [cadastreref10_Encode.l0]) ?_
    simp only [if_neg (show ¬ (i : Int) < (l.length : Int) by omega)]
    rw [List.drop_eq_nil_of_le (by omega)]
    simp only [List.map_nil, List.flatten_nil, List.append_nil]
    exact Ev.now _
  | n + 1, i, p, hi, hp => by
    have hlt : i < l.length := by omega
    have hm : rd_T38 l (i : Int) ∈ l := by rw [rdT_nat hlt]; exact List.getElem_mem hlt
    have hln := hl.len
    have hka := hl.at_ hlt
    refine Ev.step (fun k => by rw [cadastreref10_Encode.l0]) ?_
    simp only [if_pos (show (i : Int) < (l.length : Int) by omega)]
    rw [szF] at hp
    have := ev_renc1 l i hlt (hs _ hm) (hw _ hm) (by omega) (strOfNums (p ++ ((l.drop i).map recB).flatten), 0) hka.1 (rd_T38 l (i : Int)).f0.length 0 p (by omega) (by omega) (by
      have h2 := ev_renc0 l hl hs hw n (i + 1) (p ++ recB (rd_T38 l (i : Int))) (by omega) (by rw [List.length_append, recB_length]; omega)
      rw [drop_cons hlt, ← rdT_nat hlt]
      simp only [List.map_cons, List.flatten_cons, List.drop_zero]
      simpa only [recB, List.append_assoc] using h2)
    simpa using this
theorem ev_renc (l : List S38) (hl : Sm l) (hw : Wf l) (d m : Int) : Ev (fun k => cadastreref10_Encode.f k l d m) (encV l d m) := by
  unfold cadastreref10_Encode.f encV capB
  have hbad : Ev (fun k => cadastreref10_Encode.j0 k l true) ((⟨#[]⟩ : ByteArray), (1 : Int)) := by
    refine Ev.step (fun k => by rw [cadastreref10_Encode.j0]) ?_
    simp only [if_true]
    exact Ev.now _
  by_cases h1 : m < 2
  · simp only [if_pos h1, if_neg (show ¬ m ≥ 2 by omega), Bool.false_eq_true, false_and, if_false]
    exact hbad
  · simp only [if_neg h1, if_pos (show m ≥ 2 by omega)]
    by_cases h2 : m > 16
    · simp only [if_pos h2, decide_eq_false (show ¬ m ≤ 16 by omega), Bool.false_eq_true, false_and, if_false]
      exact hbad
    · simp only [if_neg h2, decide_eq_true (show m ≤ 16 by omega), true_and]
      refine Ev.bind (ev_ris l d hl) ?_
      by_cases h3 : isL l d = true
      · simp only [if_pos h3, h3, and_true]
        refine Ev.bind (ev_rfits l hl m) ?_
        by_cases h4 : fitsL l m = true
        · simp only [h4, Bool.not_true, if_true]
          refine Ev.step (fun k => by rw [cadastreref10_Encode.j0]) ?_
          simp only [Bool.false_eq_true, if_false]
          have hok := encOk_of hw (m := m) (by unfold capB; rw [if_pos (by omega)]; exact decide_eq_true (by omega)) h4 h3
          refine Ev.bind (ev_wide1 _ (by omega) (by have := hok.1; omega)) ?_
          have := ev_renc0 l hl (fun x hx => (hok.2.2 x hx).2) hw l.length 0 (bes 1 l.length) (by omega) (by have := hok.2.1; rw [← szL_enc, szL] at this; rw [bes_length]; omega)
          simpa [encB] using this
        · simp only [Bool.not_eq_true] at h4
          simp only [h4, Bool.not_false, Bool.false_eq_true, if_false]
          exact hbad
      · simp only [if_neg h3]
        rw [if_neg (fun hh => h3 hh.2)]
        exact hbad
end Go.Proofs.Ytafpfggijpigfaa.Bkt
