import Derived.Test.YtafpfggijpigfaaBktx2
import Derived.Test.YtafpfggijpigfaaB3
namespace Go.Proofs.Ytafpfggijpigfaa.Bkt
open Go.RowKit Go.Proofs.YtafpfggijpigfaaW.PrintWords Go.Proofs.YtafpfggijpigfaaW.PrintLast Go.Proofs.YtafpfggijpigfaaW.PrintMore
attribute [local go_sem] max2_int min2_int max_two min_two max_three min_three max_four min_four
set_option linter.unusedVariables false
set_option linter.unusedSimpArgs false
/-- the bytes of a key, of a record, of records -/
def keyB (y : List Int) : List Int := (y.map (bes 4)).flatten
def recB (x : S38) : List Int := keyB x.f0 ++ bes 1 x.f1.size ++ bytesOf x.f1
def encB (l : List S38) : List Int := bes 1 l.length ++ (l.map recB).flatten
def U32 (y : List Int) : Prop := ∀ v, v ∈ y → 0 ≤ v ∧ v < 4294967296
instance (y : List Int) : Decidable (U32 y) := by unfold U32; infer_instance
def EncOk (l : List S38) : Prop := l.length < 256 ∧ (encB l).length ≤ 4096 ∧ ∀ x, x ∈ l → U32 x.f0 ∧ x.f1.size < 256
instance (l : List S38) : Decidable (EncOk l) := by unfold EncOk; infer_instance
def bucket_Encode.f (k : Nat) (l : List S38) (a1 a2 : Int) : Option (ByteArray × Int) :=
  (bucket_isCap.f a2).bind fun b1 => if b1 = true then (bucket_Fits.f k l a2).bind fun b2 => if b2 = true then (bucket_is.f k l a1).bind fun b3 => if b3 = true then (bucket_Size.f k l).bind fun n => (if n = ((encB l).length : Int) ∧ EncOk l then some (strOfNums (encB l), 0) else none) else some (⟨#[]⟩, 1) else some (⟨#[]⟩, 1) else some (⟨#[]⟩, 1)
theorem bucket_Encode.mono : ∀ a0 a1 a2 k, LeO (bucket_Encode.f k a0 a1 a2) (bucket_Encode.f (k + 1) a0 a1 a2) := by
  intro a0 a1 a2 k
  unfold bucket_Encode.f
  exact LeO.bind (LeO.refl _) (fun _ => LeO.ite (LeO.bind (bucket_Fits.mono _ _ _) (fun _ => LeO.ite (LeO.bind (bucket_is.mono _ _ _) (fun _ => LeO.ite (LeO.bind (bucket_Size.mono _ _) (fun _ => LeO.refl _)) (LeO.refl _))) (LeO.refl _))) (LeO.refl _))
/-- bytes, filled up with zeros -/
def pad (p : List Int) (n : Nat) : List Int := p ++ List.replicate (n - p.length) 0
theorem pad_length {p : List Int} {n : Nat} (h : p.length ≤ n) : (pad p n).length = n := by simp [pad]; omega
theorem pad_splice {p ys : List Int} {n : Nat} (h : p.length + ys.length ≤ n) : splice (pad p n) p.length ys = pad (p ++ ys) n := by
  unfold splice pad
  rw [List.take_left, List.drop_append]
  simp only [List.length_append, List.append_assoc]
  rw [List.drop_eq_nil_of_le (by omega), List.nil_append, List.drop_replicate]
  congr 3
  omega
theorem pad_full {p : List Int} {n : Nat} (h : p.length = n) : pad p n = p := by simp [pad, h]
theorem bes_length (m : Nat) (v : Int) : (bes m v).length = m := by simp [bes]
/-- the state of Encode's cursor: these bytes are written -/
structure ES (w : World) (gc ga gb n : Nat) (p : List Int) : Prop where
  c : Cur w gc ga (p.length : Int) 0
  a : Ar w ga gb n n
  b : Bk w gb (pad p n)
theorem ES.ne {w : World} {gc ga gb n : Nat} {p : List Int} (h : ES w gc ga gb n p) : ga ≠ gc ∧ ga ≠ gb := ⟨h.c.ne h.a, blk_ne h.a h.b (by decide)⟩
theorem ES.below {w w1 : World} {gc ga gb n : Nat} {p : List Int} (h : ES w gc ga gb n p) (hb : Below w.heap.size w w1) : ES w1 gc ga gb n p :=
  ⟨blk_below h.c hb, blk_below h.a hb, blk_below h.b hb⟩
theorem es_put4 {w : World} {gc ga gb n : Nat} {p : List Int} (h : ES w gc ga gb n p) (hn : n ≤ 4096) (v : Int) (h0 : 0 ≤ v) (h1 : v < 4294967296) (hp : p.length + 4 ≤ n) :
    Calls Try.prog 33 #[.pointer (some ⟨gc, 0, none⟩), .int .i64 4, .int .u32 v] w fun r w' => r = .returned (.tuple #[]) ∧ ES w' gc ga gb n (p ++ bes 4 v) ∧ Ch [gc, gb] w w' :=
  (put33_4 gc ga gb p.length n v (pad p n) w h.c h.a h.b (pad_length (by omega)) hn hp h0 h1).mono fun r w' ⟨hr, k1, k2, k3⟩ =>
    ⟨hr, ⟨by rw [List.length_append, bes_length]; exact k1, h.a.ch k3 (by have := h.ne; simp [this.1, this.2]), by rw [← pad_splice (by rw [bes_length]; exact hp)]; exact k2⟩, k3⟩
theorem es_put1 {w : World} {gc ga gb n : Nat} {p : List Int} (h : ES w gc ga gb n p) (hn : n ≤ 4096) (v : Int) (h0 : 0 ≤ v) (h1 : v < 256) (hp : p.length + 1 ≤ n) :
    Calls Try.prog 33 #[.pointer (some ⟨gc, 0, none⟩), .int .i64 1, .int .u32 v] w fun r w' => r = .returned (.tuple #[]) ∧ ES w' gc ga gb n (p ++ bes 1 v) ∧ Ch [gc, gb] w w' :=
  (put33_1 gc ga gb p.length n v (pad p n) w h.c h.a h.b (pad_length (by omega)) hn hp h0 h1).mono fun r w' ⟨hr, k1, k2, k3⟩ =>
    ⟨hr, ⟨by rw [List.length_append, bes_length]; exact k1, h.a.ch k3 (by have := h.ne; simp [this.1, this.2]), by rw [← pad_splice (by rw [bes_length]; exact hp)]; exact k2⟩, k3⟩
theorem es_text {w : World} {gc ga gb n : Nat} {p : List Int} (h : ES w gc ga gb n p) (hn : n ≤ 4096) (s : ByteArray) (hp : p.length + s.size ≤ n) :
    Calls Try.prog 34 #[.pointer (some ⟨gc, 0, none⟩), .string s] w fun r w' => r = .returned (.tuple #[]) ∧ ES w' gc ga gb n (p ++ bytesOf s) ∧ Ch [gc, gb] w w' :=
  (puttext34 gc ga gb p.length n s (pad p n) w h.c h.a h.b (pad_length (by omega)) hn hp).mono fun r w' ⟨hr, k1, k2, k3⟩ =>
    ⟨hr, ⟨by rw [List.length_append, bytesOf_length]; exact k1, h.a.ch k3 (by have := h.ne; simp [this.1, this.2]), by rw [← pad_splice (by rw [bytesOf_length]; exact hp)]; exact k2⟩, k3⟩
theorem es_done {w : World} {gc ga gb n : Nat} {p : List Int} (h : ES w gc ga gb n p) (hn : n ≤ 4096) (hp : p.length = n) :
    Calls Try.prog 35 #[.pointer (some ⟨ga, 0, none⟩)] w fun r w' => r = .returned (.string (strOfNums p)) ∧ w = w' := by
  have := bytes35 ga gb n (pad p n) w h.a h.b (pad_length (by omega)) (by omega)
  rwa [pad_full hp] at this
end Go.Proofs.Ytafpfggijpigfaa.Bkt
