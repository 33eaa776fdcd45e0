import Derived.Test.YtafpfggijpigfaaB8
namespace Go.Proofs.Ytafpfggijpigfaa.Bkt
open Go.RowKit Go.Proofs.YtafpfggijpigfaaW.PrintWords Go.Proofs.YtafpfggijpigfaaW.PrintLast Go.Proofs.YtafpfggijpigfaaW.PrintMore
attribute [local go_sem] max2_int min2_int max_two min_two max_three min_three max_four min_four
set_option linter.unusedVariables false
set_option linter.unusedSimpArgs false
theorem Ch.setNew {S : List Nat} {w w1 : World} (h : Ch S w w1) {p : Addr} (hp : w.heap.size ≤ p.block) (v : Value) : Ch S w (w1.setCell p v) :=
  ⟨h.os, h.tape, h.output, by have := h.size; simpa using this, fun k hk hs => (Below.heap_setCell w1 p v k (by omega)).trans (h.block k hk hs)⟩
/-- is the cursor's error behind so many bytes? -/
def eOf (xs : List Int) (p : Nat) : Int := if p ≤ xs.length then 0 else 1
theorem eOf_step (xs : List Int) (p m : Nat) : erE (eOf xs p) (getE xs p m) = eOf xs (p + m) := by
  unfold eOf erE getE
  by_cases h : p ≤ xs.length
  · rw [if_pos h, if_pos rfl]
  · rw [if_neg h, if_neg (by decide), if_neg (by omega)]
/-- the state of Decode's cursor -/
structure DS (w : World) (gc ga gb n c : Nat) (xs : List Int) (p : Nat) : Prop where
  cu : Cur w gc ga (p : Int) (eOf xs p)
  a : Ar w ga gb n c
  r : ReadsInt w .u8 (some ⟨gb, 0, none⟩) n xs
  ha : ga < gc
  hb : gb < gc
theorem DS.ch {w w1 : World} {gc ga gb n c p : Nat} {xs : List Int} (h : DS w gc ga gb n c xs p) (hb : Below w.heap.size w w1) : DS w1 gc ga gb n c xs p :=
  ⟨blk_below h.cu hb, blk_below h.a hb, h.r.below hb, h.ha, h.hb⟩
theorem getV_u32 (xs : List Int) (hb : Bytes xs) (p m : Nat) (hm : m ≤ 4) : 0 ≤ getV xs p m ∧ getV xs p m < 4294967296 := by
  unfold getV
  split
  · exact be_lt4 _ ((hb.drop p).take m) (by simp; omega)
  · decide
theorem getV_u8 (xs : List Int) (hb : Bytes xs) (p : Nat) : 0 ≤ getV xs p 1 ∧ getV xs p 1 < 256 := by
  unfold getV
  split
  · rename_i h
    have h1 := be_bound _ ((hb.drop p).take 1)
    have h2 : ((xs.drop p).take 1).length = 1 := by simp; omega
    rw [h2] at h1
    simpa using h1
  · decide
theorem ds_get {w : World} {gc ga gb n c p : Nat} {xs : List Int} (h : DS w gc ga gb n c xs p) (hn : n ≤ c) (hm : n ≤ 4096) (m : Nat) (hw : Wd m) (hp : p ≤ 1000000) (hb : Bytes xs) :
    Calls Try.prog 38 #[.pointer (some ⟨gc, 0, none⟩), .int .i64 m] w fun r w' => r = .returned (.int .u32 (getV xs p m)) ∧ DS w' gc ga gb n c xs (p + m) ∧ Ch [gc] w w' :=
  (get38 gc ga gb p m n c (eOf xs p) xs w h.cu h.a hn (by omega) (by rcases hw with rfl | rfl <;> omega) hw ⟨h.r⟩ ⟨hb⟩).mono fun r w' ⟨hr, k1, k2⟩ =>
    ⟨hr, ⟨by rw [eOf_step] at k1; simpa using k1, h.a.ch k2 (by have := h.ha; simp; omega), ReadsInt.blk h.r (by
      by_cases h0 : gb < w.heap.size
      · exact k2.block gb h0 (by have := h.hb; simp; omega)
      · exact absurd (blk_lt h.cu) (by have := h.hb; omega)), h.ha, h.hb⟩, k2⟩
theorem ds_text {w : World} {gc ga gb n c p : Nat} {xs : List Int} (h : DS w gc ga gb n c xs p) (hn : n ≤ c) (hm : n ≤ 4096) (m : Nat) (hp : p ≤ 1000000) (hm2 : m ≤ 1000000) :
    Calls Try.prog 39 #[.pointer (some ⟨gc, 0, none⟩), .int .i64 m] w fun r w' => r = .returned (.string (getT xs p m)) ∧ DS w' gc ga gb n c xs (p + m) ∧ Ch [gc] w w' :=
  (text39 gc ga gb p m n c (eOf xs p) xs w h.cu h.a hn (by omega) (by omega) ⟨h.r⟩).mono fun r w' ⟨hr, k1, k2⟩ =>
    ⟨hr, ⟨by rw [eOf_step] at k1; simpa using k1, h.a.ch k2 (by have := h.ha; simp; omega), ReadsInt.blk h.r (by
      by_cases h0 : gb < w.heap.size
      · exact k2.block gb h0 (by have := h.hb; simp; omega)
      · exact absurd (blk_lt h.cu) (by have := h.hb; omega)), h.ha, h.hb⟩, k2⟩
def decK (xs : List Int) (p d : Nat) : List Int := (List.range d).map fun j => getV xs (p + 4 * j) 4
def decX (xs : List Int) (d p : Nat) : S38 := ⟨decK xs p d, getT xs (p + 4 * d + 1) (getV xs (p + 4 * d) 1).toNat⟩
def decP (xs : List Int) (d p : Nat) : Nat := p + 4 * d + 1 + (getV xs (p + 4 * d) 1).toNat
def decR (xs : List Int) (d : Nat) : Nat → Nat → Option (List S38)
  | 0, p => if p ≤ xs.length then some [] else none
  | n + 1, p => if p ≤ xs.length then (decR xs d n (decP xs d p)).map (decX xs d p :: ·) else none
def decFin (k : Nat) (s : ByteArray) (a1 a2 : Int) : Option (List S38) → Option (List S38 × Int)
  | none => some ([], 9)
  | some l => (bucket_Encode.f k l a1 a2).bind fun t => if t.2 = 0 ∧ t.1.toList = s.toList then some (l, 0) else some ([], 6)
def bucket_Decode.f (k : Nat) (s : ByteArray) (a1 a2 : Int) : Option (List S38 × Int) :=
  if a1 < 1 ∨ 6 < a1 then some ([], 1) else (bucket_isCap.f a2).bind fun b => if b = true then (if s.size ≤ 4096 then decFin k s a1 a2 (decR (bytesOf s) a1.toNat (getV (bytesOf s) 0 1).toNat 1) else some ([], 6)) else some ([], 1)
theorem decFin_mono (k : Nat) (s : ByteArray) (a1 a2 : Int) (r : Option (List S38)) : LeO (decFin k s a1 a2 r) (decFin (k + 1) s a1 a2 r) := by
  cases r with
  | none => exact LeO.refl _
  | some l => exact LeO.bind (bucket_Encode.mono _ _ _ _) (fun _ => LeO.refl _)
theorem bucket_Decode.mono : ∀ a0 a1 a2 k, LeO (bucket_Decode.f k a0 a1 a2) (bucket_Decode.f (k + 1) a0 a1 a2) := by
  intro a0 a1 a2 k
  unfold bucket_Decode.f
  exact LeO.ite (LeO.refl _) (LeO.bind (LeO.refl _) (fun _ => LeO.ite (LeO.ite (decFin_mono _ _ _ _ _) (LeO.refl _)) (LeO.refl _)))
end Go.Proofs.Ytafpfggijpigfaa.Bkt
