import Derived.Test.YtafpfggijpigfaaP2
import Derived.Test.YtafpfggijpigfaaX6f
namespace Go.Proofs.Ytafpfggijpigfaa.Bkt
open Go.RowKit Go.Proofs.YtafpfggijpigfaaW.PrintWords Go.Proofs.YtafpfggijpigfaaW.PrintLast
set_option linter.unusedVariables false
set_option linter.unusedSimpArgs false
theorem toList_loop (s : ByteArray) : ∀ n i r, i + n = s.size → ByteArray.toList.loop s i r = r.reverse ++ s.data.toList.drop i
  | 0, i, r, h => by
    rw [ByteArray.toList.loop.eq_1, if_neg (by omega), List.drop_eq_nil_of_le (by rw [data_length]; omega), List.append_nil]
  | n + 1, i, r, h => by
    have hi : i < s.data.toList.length := by rw [data_length]; omega
    rw [ByteArray.toList.loop.eq_1, if_pos (by omega), toList_loop s n (i + 1) _ (by omega), List.drop_eq_getElem_cons hi]
    have : s.get! i = s.data.toList[i] := by
      have h2 : i < s.data.size := by simpa using hi
      show s.data[i]! = s.data.toList[i]
      rw [getElem!_pos s.data i h2]
      simp
    rw [this]
    simp
theorem toList_data (s : ByteArray) : s.toList = s.data.toList := by
  have := toList_loop s s.size 0 [] (by omega)
  simpa [ByteArray.toList] using this
theorem bytes_ext {a b : ByteArray} (h : a.toList = b.toList) : a = b := by
  rw [toList_data, toList_data] at h
  exact ByteArray.ext (Array.ext' h)
theorem S38_ext {x y : S38} (h0 : x.f0 = y.f0) (h1 : x.f1.toList = y.f1.toList) : x = y := by
  obtain ⟨a, b⟩ := x
  obtain ⟨c, d⟩ := y
  simp only at h0 h1
  subst h0
  rw [bytes_ext h1]
/-! Same -/
def sameF (l m : List S38) : Nat → Nat → Bool
  | 0, _ => true
  | n + 1, i => if (cmpL (rd_T38 l (i : Int)).f0 (rd_T38 m (i : Int)).f0 == 0) = true then (if (rd_T38 l (i : Int)).f1.toList = (rd_T38 m (i : Int)).f1.toList then sameF l m n (i + 1) else false) else false
def sameL (l m : List S38) : Bool := if l.length = m.length then sameF l m l.length 0 else false
theorem ev_same0 (l m : List S38) (hl : Sm l) (hm : Sm m) (he : l.length = m.length) : ∀ n i, i + n = l.length → Ev (fun k => cadastreref09_Same.l0 k l m (i : Int)) (sameF l m n i)
  | 0, i, hi => by
    refine Ev.step (fun k => by rw [cadastreref09_Same.l0]) ?_
    simp only [if_neg (show ¬ (i : Int) < (l.length : Int) by omega)]
    exact Ev.now _
  | n + 1, i, hi => by
    have h1 := hl.len
    refine Ev.step (fun k => by rw [cadastreref09_Same.l0]) ?_
    simp only [if_pos (show (i : Int) < (l.length : Int) by omega), if_pos (show 0 ≤ (i : Int) by omega), if_pos (show (i : Int) < (m.length : Int) by omega)]
    refine Ev.bind (ev_rsame _ _ (Nat.le_trans (hl.at_ (by omega)).1 (by decide)) (Nat.le_trans (hm.at_ (by omega)).1 (by decide))) ?_
    rw [sameF]
    by_cases hc : (cmpL (rd_T38 l (i : Int)).f0 (rd_T38 m (i : Int)).f0 == 0) = true
    · simp only [if_pos hc]
      by_cases hd : (rd_T38 l (i : Int)).f1.toList = (rd_T38 m (i : Int)).f1.toList
      · simp only [if_pos hd, w64s (show i ≤ 1000000 by omega)]
        exact ev_same0 l m hl hm he n (i + 1) (by omega)
      · simp only [if_neg hd]
        exact Ev.now _
    · simp only [if_neg hc]
      exact Ev.now _
theorem ev_same (l m : List S38) (hl : Sm l) (hm : Sm m) : Ev (fun k => cadastreref09_Same.f k l m) (sameL l m) := by
  unfold cadastreref09_Same.f sameL
  by_cases he : l.length = m.length
  · simp only [if_pos he, if_pos (show (l.length : Int) = (m.length : Int) by omega)]
    have := ev_same0 l m hl hm he l.length 0 (by omega)
    simpa using this
  · simp only [if_neg he, if_neg (show ¬ (l.length : Int) = (m.length : Int) by omega)]
    exact Ev.now _
theorem sameF_iff (l m : List S38) (he : l.length = m.length) : ∀ n i, i + n = l.length → (sameF l m n i = true ↔ l.drop i = m.drop i)
  | 0, i, hi => by rw [List.drop_eq_nil_of_le (by omega), List.drop_eq_nil_of_le (by omega)]; simp [sameF]
  | n + 1, i, hi => by
    have h1 : i < l.length := by omega
    have h2 : i < m.length := by omega
    rw [sameF, drop_cons h1, drop_cons h2, rdT_nat h1, rdT_nat h2]
    have ih := sameF_iff l m he n (i + 1) (by omega)
    simp only [List.cons.injEq]
    by_cases hc : (cmpL l[i].f0 m[i].f0 == 0) = true
    · rw [if_pos hc]
      have hc' := (cmpL_eq0 _ _).1 (beq_iff_eq.1 hc)
      by_cases hd : l[i].f1.toList = m[i].f1.toList
      · rw [if_pos hd, ih]
        exact ⟨fun h => ⟨S38_ext hc' hd, h⟩, fun h => h.2⟩
      · rw [if_neg hd]
        exact ⟨fun h => (by cases h), fun h => absurd (by rw [h.1]) hd⟩
    · rw [if_neg hc]
      exact ⟨fun h => (by cases h), fun h => absurd (beq_iff_eq.2 ((cmpL_eq0 _ _).2 (by rw [h.1]))) hc⟩
theorem sameL_iff (l m : List S38) : sameL l m = true ↔ l = m := by
  unfold sameL
  by_cases he : l.length = m.length
  · rw [if_pos he]
    have := sameF_iff l m he l.length 0 (by omega)
    simpa using this
  · rw [if_neg he]
    exact ⟨fun h => (by cases h), fun h => absurd (by rw [h]) he⟩
theorem sameL_refl (l : List S38) : sameL l l = true := (sameL_iff l l).2 rfl
end Go.Proofs.Ytafpfggijpigfaa.Bkt
