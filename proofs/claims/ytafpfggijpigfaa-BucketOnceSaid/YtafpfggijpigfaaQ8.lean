import Derived.Test.YtafpfggijpigfaaP2
import Derived.Test.YtafpfggijpigfaaQ4
import Derived.Test.YtafpfggijpigfaaB6
namespace Go.Proofs.Ytafpfggijpigfaa.Bkt
open Go.RowKit Go.Proofs.YtafpfggijpigfaaW.PrintWords Go.Proofs.YtafpfggijpigfaaW.PrintLast
set_option linter.unusedVariables false
set_option linter.unusedSimpArgs false
theorem cmpL_trans : ∀ x y z : List Int, cmpL x y < 0 → cmpL y z < 0 → cmpL x z < 0
  | [], [], _, h, _ => by simp [cmpL] at h
  | [], _ :: _, [], _, h => by simp [cmpL] at h
  | [], _ :: _, _ :: _, _, _ => by simp [cmpL]
  | _ :: _, [], _, h, _ => by simp [cmpL] at h
  | _ :: _, _ :: _, [], _, h => by simp [cmpL] at h
  | a :: x, b :: y, c :: z, h1, h2 => by
    have ih := cmpL_trans x y z
    simp only [cmpL] at h1 h2 ⊢
    by_cases e1 : a < b
    · by_cases e2 : b < c
      · rw [if_pos (show a < c by omega)]; omega
      · rw [if_neg e2] at h2
        by_cases e3 : b > c
        · rw [if_pos e3] at h2; omega
        · rw [if_pos (show a < c by omega)]; omega
    · rw [if_neg e1] at h1
      by_cases e3 : a > b
      · rw [if_pos e3] at h1; omega
      · rw [if_neg e3] at h1
        by_cases e2 : b < c
        · rw [if_pos (show a < c by omega)]; omega
        · rw [if_neg e2] at h2
          by_cases e4 : b > c
          · rw [if_pos e4] at h2; omega
          · rw [if_neg e4] at h2
            rw [if_neg (show ¬ a < c by omega), if_neg (show ¬ a > c by omega)]
            exact ih h1 h2
/-- in order, without doubles -/
def Srt (l : List S38) : Prop := l.Pairwise (fun a b => cmpL a.f0 b.f0 < 0)
theorem Srt.mono {l : List S38} (h : Srt l) {y : List Int} {i j : Nat} (hij : i ≤ j) (hj : j < l.length) (hc : cmpL (rd_T38 l (j : Int)).f0 y < 0) : cmpL (rd_T38 l (i : Int)).f0 y < 0 := by
  by_cases e : i = j
  · subst e; exact hc
  · rw [rdT_nat hj] at hc
    rw [rdT_nat (show i < l.length by omega)]
    exact cmpL_trans _ _ _ (List.pairwise_iff_getElem.1 h i j (by omega) hj (by omega)) hc
theorem Srt.of_step : ∀ (l : List S38), (∀ i, i + 1 < l.length → cmpL (rd_T38 l (i : Int)).f0 (rd_T38 l ((i + 1 : Nat) : Int)).f0 < 0) → Srt l := by
  intro l h
  refine List.pairwise_iff_getElem.2 fun i j hi hj hij => ?_
  have : ∀ n i, i + n + 1 < l.length → cmpL (rd_T38 l (i : Int)).f0 (rd_T38 l ((i + n + 1 : Nat) : Int)).f0 < 0 := by
    intro n
    induction n with
    | zero => intro i hi; exact h i hi
    | succ n ih => intro i hi; exact cmpL_trans _ _ _ (ih i (by omega)) (h (i + n + 1) (by omega))
  have k := this (j - i - 1) i (by omega)
  rw [show i + (j - i - 1) + 1 = j by omega, rdT_nat hi, rdT_nat hj] at k
  exact k
theorem isF_srt (l : List S38) (d : Int) : ∀ n i, i + n = l.length → isF l d n i = true → ∀ j, i ≤ j → j < l.length → 0 < j → cmpL (rd_T38 l ((j - 1 : Nat) : Int)).f0 (rd_T38 l (j : Int)).f0 < 0
  | 0, i, hi, h, j, h1, h2, h3 => by omega
  | n + 1, i, hi, h, j, h1, h2, h3 => by
    rw [isF] at h
    by_cases ha : chk (rd_T38 l (i : Int)).f0 (rd_T38 l (i : Int)).f1.size d = 0
    · rw [if_pos ha] at h
      by_cases hij : j = i
      · subst hij
        rw [if_pos h3] at h
        split at h
        · cases h
        · omega
      · refine isF_srt l d n (i + 1) (by omega) ?_ j (by omega) h2 h3
        split at h
        · split at h
          · cases h
          · exact h
        · exact h
    · rw [if_neg ha] at h; cases h
theorem isL_srt {l : List S38} {d : Int} (h : isL l d = true) : Srt l :=
  Srt.of_step l fun i hi => by
    have := isF_srt l d _ _ (by omega) h (i + 1) (Nat.zero_le _) hi (by omega)
    simpa using this
/-- the place of a point: r -/
structure Cut (l : List S38) (y : List Int) (r : Nat) : Prop where
  le : r ≤ l.length
  lo : ∀ t, t < r → cmpL (rd_T38 l (t : Int)).f0 y < 0
  hi : r < l.length → ¬ cmpL (rd_T38 l (r : Int)).f0 y < 0
theorem Cut.one {l : List S38} {y : List Int} {r s : Nat} (h : Cut l y r) (k : Cut l y s) : r = s := by
  rcases Nat.lt_trichotomy r s with e | e | e
  · exact absurd (k.lo r e) (h.hi (by have := k.le; omega))
  · exact e
  · exact absurd (h.lo s e) (k.hi (by have := h.le; omega))
theorem cut_ex (l : List S38) (y : List Int) : ∃ r, Cut l y r := by
  have : ∀ n i, i + n = l.length → (∀ t, t < i → cmpL (rd_T38 l (t : Int)).f0 y < 0) → ∃ r, Cut l y r := by
    intro n
    induction n with
    | zero => intro i hi h; exact ⟨i, by omega, h, fun e => by omega⟩
    | succ n ih =>
      intro i hi h
      by_cases hc : cmpL (rd_T38 l (i : Int)).f0 y < 0
      · refine ih (i + 1) (by omega) fun t ht => ?_
        by_cases e : t = i
        · subst e; exact hc
        · exact h t (by omega)
      · exact ⟨i, by omega, h, fun _ => hc⟩
  exact this l.length 0 (by omega) fun t ht => by omega
def hitB (l : List S38) (y : List Int) (r : Nat) : Bool := if r < l.length then cmpL (rd_T38 l (r : Int)).f0 y == 0 else false
theorem ev_rfind0 (l : List S38) (hl : Sm l) (y : List Int) (hy : y.length ≤ 1000) {r : Nat} (hr : Cut l y r) : ∀ n i, i + n = l.length → i ≤ r → Ev (fun k => cadastreref10_Find.l0 k l y (i : Int)) ((r : Int), hitB l y r)
  | 0, i, hi, hir => by
    have := hr.le
    obtain rfl : i = r := by omega
    refine Ev.step (fun k => by rw [cadastreref10_Find.l0]) ?_
    simp only [if_neg (show ¬ (i : Int) < (l.length : Int) by omega)]
    rw [hitB, if_neg (by omega)]
    exact Ev.now _
  | n + 1, i, hi, hir => by
    have hln := hl.len
    have hx := (hl.at_ (show i < l.length by omega)).1
    refine Ev.step (fun k => by rw [cadastreref10_Find.l0]) ?_
    simp only [if_pos (show (i : Int) < (l.length : Int) by omega), if_pos (show 0 ≤ (i : Int) by omega)]
    refine Ev.bind (ev_rcmp _ y (by omega) (by omega)) ?_
    by_cases e : i = r
    · subst e
      simp only [if_neg (hr.hi (by omega))]
      refine Ev.bind (ev_rsame _ y (by omega) (by omega)) ?_
      rw [hitB, if_pos (by omega)]
      exact Ev.now _
    · simp only [if_pos (hr.lo i (by omega)), w64s (show i ≤ 1000000 by omega)]
      exact ev_rfind0 l hl y hy hr n (i + 1) (by omega) (by omega)
theorem ev_rfind (l : List S38) (hl : Sm l) (y : List Int) (hy : y.length ≤ 1000) {r : Nat} (hr : Cut l y r) : Ev (fun k => cadastreref10_Find.f k l y) ((r : Int), hitB l y r) := by
  have := ev_rfind0 l hl y hy hr l.length 0 (by omega) (Nat.zero_le _)
  simpa [cadastreref10_Find.f] using this
theorem bsl_ev (l : List S38) (hl : Sm l) (hs : Srt l) (y : List Int) (hy : y.length ≤ 1000) {r : Nat} (hr : Cut l y r) :
    ∀ n i j, j - i ≤ n → i ≤ j → j ≤ l.length → (∀ t, t < i → cmpL (rd_T38 l (t : Int)).f0 y < 0) → (∀ t, j ≤ t → t < l.length → ¬ cmpL (rd_T38 l (t : Int)).f0 y < 0) →
    ∃ K, ∀ k, K ≤ k → ∀ f, n + 1 ≤ f → bsl k l y f i j = some r := by
  intro n
  induction n with
  | zero =>
    intro i j hn hij hj h1 h2
    obtain rfl : i = j := by omega
    refine ⟨0, fun k _ f hf => ?_⟩
    obtain ⟨f, rfl⟩ : ∃ g, f = g + 1 := ⟨f - 1, by omega⟩
    rw [bsl, if_neg (Nat.lt_irrefl _)]
    exact congrArg some (Cut.one ⟨hj, h1, fun e => h2 i (Nat.le_refl _) e⟩ hr)
  | succ n ih =>
    intro i j hn hij hj h1 h2
    by_cases e : i < j
    · have hm : (i + j) / 2 < j := by omega
      have hm2 : i ≤ (i + j) / 2 := by omega
      have hx := (hl.at_ (show (i + j) / 2 < l.length by omega)).1
      obtain ⟨K1, hK1⟩ := ev_cmp (rd_T38 l (((i + j) / 2 : Nat) : Int)).f0 y (by omega) (by omega)
      by_cases hc : cmpL (rd_T38 l (((i + j) / 2 : Nat) : Int)).f0 y < 0
      · obtain ⟨K2, hK2⟩ := ih ((i + j) / 2 + 1) j (by omega) (by omega) hj (fun t ht => hs.mono (show t ≤ (i + j) / 2 by omega) (by omega) hc) h2
        refine ⟨max K1 K2, fun k hk f hf => ?_⟩
        obtain ⟨f, rfl⟩ : ∃ g, f = g + 1 := ⟨f - 1, by omega⟩
        rw [bsl, if_pos e, (show key_Compare.f k (rd_T38 l (((i + j) / 2 : Nat) : Int)).f0 y = some _ from hK1 k (by omega)), Option.bind_some, if_pos hc]
        exact hK2 k (by omega) f (by omega)
      · obtain ⟨K2, hK2⟩ := ih i ((i + j) / 2) (by omega) hm2 (by omega) h1 (fun t ht1 ht2 hcc => hc (hs.mono ht1 ht2 hcc))
        refine ⟨max K1 K2, fun k hk f hf => ?_⟩
        obtain ⟨f, rfl⟩ : ∃ g, f = g + 1 := ⟨f - 1, by omega⟩
        rw [bsl, if_pos e, (show key_Compare.f k (rd_T38 l (((i + j) / 2 : Nat) : Int)).f0 y = some _ from hK1 k (by omega)), Option.bind_some, if_neg hc]
        exact hK2 k (by omega) f (by omega)
    · obtain rfl : i = j := by omega
      refine ⟨0, fun k _ f hf => ?_⟩
      obtain ⟨f, rfl⟩ : ∃ g, f = g + 1 := ⟨f - 1, by omega⟩
      rw [bsl, if_neg (Nat.lt_irrefl _)]
      exact congrArg some (Cut.one ⟨hj, h1, fun e => h2 i (Nat.le_refl _) e⟩ hr)
theorem ev_bsl (l : List S38) (hl : Sm l) (hs : Srt l) (y : List Int) (hy : y.length ≤ 1000) {r : Nat} (hr : Cut l y r) : Ev (fun k => bsl k l y k 0 l.length) r := by
  obtain ⟨K, hK⟩ := bsl_ev l hl hs y hy hr l.length 0 l.length (by omega) (Nat.zero_le _) (Nat.le_refl _) (fun t ht => by omega) (fun t h1 h2 => by omega)
  exact ⟨max K (l.length + 1), fun k hk => hK k (by omega) k (by omega)⟩
theorem ev_find (l : List S38) (hl : Sm l) (hs : Srt l) (y : List Int) (hy : y.length ≤ 1000) {r : Nat} (hr : Cut l y r) : Ev (fun k => bucket_Find.f k l y) ((r : Int), hitB l y r) := by
  have hln := hl.len
  unfold bucket_Find.f
  simp only [if_pos (show l.length ≤ 4611686018427387903 by omega)]
  refine Ev.bind (ev_bsl l hl hs y hy hr) ?_
  unfold hitB
  by_cases e : r < l.length
  · simp only [if_pos e]
    refine Ev.bind (ev_cmp _ y (by have := (hl.at_ e).1; omega) (by omega)) ?_
    exact Ev.now _
  · simp only [if_neg e]
    exact Ev.now _
def putV (l : List S38) (x : S38) (r : Nat) (b : Bool) : List S38 := if b = true then l.take r ++ [x] ++ l.drop (r + 1) else l.take r ++ [x] ++ l.drop r
theorem hit_lt {l : List S38} {y : List Int} {r : Nat} (h : hitB l y r = true) : r < l.length := by
  unfold hitB at h
  split at h
  · assumption
  · cases h
theorem Sm.keyLen {l : List S38} (h : Sm l) : KeyLen l := fun x hx => by have := h.key x hx; omega
theorem ev_put (l : List S38) (hl : Sm l) (hs : Srt l) (y : List Int) (hy : y.length ≤ 1000) (s : ByteArray) {r : Nat} (hr : Cut l y r) : Ev (fun k => bucket_Put.f k l y s) (putV l ⟨y, s⟩ r (hitB l y r)) := by
  have hln := hl.len
  have hrl := hr.le
  unfold bucket_Put.f
  have hk : KeyLen (⟨y, s⟩ :: l) := fun x hx => by
    rcases List.mem_cons.1 hx with rfl | hx
    · show y.length ≤ _; omega
    · exact hl.keyLen x hx
  simp only [if_pos (show l.length ≤ 3518437208000 ∧ KeyLen (⟨y, s⟩ :: l) from ⟨by omega, hk⟩)]
  refine Ev.bind (ev_find l hl hs y hy hr) ?_
  simp only [if_pos (show 0 ≤ (r : Int) ∧ (r : Int) ≤ (l.length : Int) by omega), Int.toNat_natCast]
  unfold putV
  by_cases hb : hitB l y r = true
  · have := hit_lt hb
    simp only [if_pos hb, if_pos (show (r : Int) < (l.length : Int) by omega)]
    exact Ev.now _
  · simp only [if_neg hb]
    exact Ev.now _
def cutV (l : List S38) (r : Nat) (b : Bool) : List S38 × Bool := if b = true then (l.take r ++ l.drop (r + 1), true) else (l, false)
theorem ev_cut (l : List S38) (hl : Sm l) (hs : Srt l) (y : List Int) (hy : y.length ≤ 1000) {r : Nat} (hr : Cut l y r) : Ev (fun k => bucket_Cut.f k l y) (cutV l r (hitB l y r)) := by
  have hln := hl.len
  unfold bucket_Cut.f
  simp only [if_pos (show l.length ≤ 3518437208000 ∧ KeyLen l from ⟨by omega, hl.keyLen⟩)]
  refine Ev.bind (ev_find l hl hs y hy hr) ?_
  unfold cutV
  by_cases hb : hitB l y r = true
  · have := hit_lt hb
    simp only [if_pos hb, if_pos (show 0 ≤ (r : Int) ∧ (r : Int) < (l.length : Int) by omega), Int.toNat_natCast]
    exact Ev.now _
  · simp only [if_neg hb]
    exact Ev.now _
end Go.Proofs.Ytafpfggijpigfaa.Bkt
