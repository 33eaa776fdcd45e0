import Derived.Test.YtafpfggijpigfaaBktx0
import Derived.Lib.SliceRun
import Derived.Outline
import Derived.Laws.BitsAllLaws
namespace Go.Proofs.Ytafpfggijpigfaa.Bkt
open Go.RowKit Go.Proofs.YtafpfggijpigfaaW.PrintWords Go.Proofs.YtafpfggijpigfaaW.PrintLast Go.Proofs.YtafpfggijpigfaaW.PrintMore
attribute [local go_sem] max2_int min2_int max_two min_two max_three min_three max_four min_four
set_option linter.unusedVariables false
set_option linter.unusedSimpArgs false
/-- what has changed lies in the blocks S (or is new) -/
structure Ch (S : List Nat) (w w' : World) : Prop where
  os : w'.os = w.os
  tape : w'.tape = w.tape
  output : w'.output = w.output
  size : w.heap.size ≤ w'.heap.size
  block : ∀ i, i < w.heap.size → i ∉ S → w'.heap[i]? = w.heap[i]?
theorem Ch.refl (S : List Nat) (w : World) : Ch S w w := ⟨rfl, rfl, rfl, Nat.le_refl _, fun _ _ _ => rfl⟩
theorem Ch.trans {S : List Nat} {w w1 w2 : World} (h : Ch S w w1) (k : Ch S w1 w2) : Ch S w w2 :=
  ⟨k.os.trans h.os, k.tape.trans h.tape, k.output.trans h.output, Nat.le_trans h.size k.size, fun i hi hs => (k.block i (Nat.lt_of_lt_of_le hi h.size) hs).trans (h.block i hi hs)⟩
theorem Ch.mono {S S' : List Nat} {w w1 : World} (h : Ch S w w1) (hs : ∀ x, x ∈ S → x ∈ S') : Ch S' w w1 := ⟨h.os, h.tape, h.output, h.size, fun i hi hn => h.block i hi (fun hh => hn (hs i hh))⟩
theorem Ch.set {S : List Nat} {w w1 : World} (h : Ch S w w1) {p : Addr} (hp : p.block ∈ S) (v : Value) : Ch S w (w1.setCell p v) :=
  h.trans ⟨rfl, rfl, rfl, by simp, fun k _ hk => Below.heap_setCell _ _ _ k (fun e => hk (by rw [e]; exact hp))⟩
theorem Ch.drewN {S : List Nat} {w w1 : World} (h : Ch S w w1) (n : Nat) : Ch S w (w1.drewN n) := h.trans ⟨rfl, rfl, rfl, Nat.le_refl _, fun _ _ _ => rfl⟩
theorem Ch.drew {S : List Nat} {w w1 : World} (h : Ch S w w1) : Ch S w w1.drew := h.trans ⟨rfl, rfl, rfl, Nat.le_refl _, fun _ _ _ => rfl⟩
theorem Ch.alloc {S : List Nat} {w w1 : World} (h : Ch S w w1) (o : Obj) : Ch S w (w1.alloc o) := h.trans ⟨rfl, rfl, rfl, by simp, fun k hk _ => Below.heap_alloc w1 o k hk⟩
theorem Ch.of_below {S : List Nat} {w w1 : World} (h : Below w.heap.size w w1) : Ch S w w1 := ⟨h.os, h.tape, h.output, h.size, fun i hi _ => h.block i hi⟩
theorem Ch.grown {S : List Nat} {w w1 : World} {row : Option Nat} (h : w.grownBy w1 row) (hr : ∀ k, row = some k → k ∈ S ∨ w.heap.size ≤ k) : Ch S w w1 :=
  ⟨h.os, h.tape, h.output, h.size, fun i hi hn => h.block i hi (fun e => (hr i e.symm).elim hn (fun h2 => by omega))⟩
theorem Ch.below {S : List Nat} {w0 w w1 : World} (h : Ch S w w1) (h0 : Below w0.heap.size w0 w) (hs : ∀ k, k ∈ S → w0.heap.size ≤ k) : Below w0.heap.size w0 w1 :=
  h0.trans ⟨h.os, h.tape, h.output, h.size, fun i hi => h.block i (Nat.lt_of_lt_of_le hi h0.size) (fun hh => by have := hs i hh; omega)⟩
theorem Ch.blk {S : List Nat} {w w1 : World} {g : Nat} {o : Obj} (h : Ch S w w1) (hg : w.heap[g]? = some o) (hn : g ∉ S) : w1.heap[g]? = some o := (h.block g (blk_lt hg) hn).trans hg
theorem ReadsInt.blk {w w1 : World} {k : IntKind} {g n : Nat} {xs : List Int} (h : ReadsInt w k (some ⟨g, 0, none⟩) n xs) (hb : w1.heap[g]? = w.heap[g]?) : ReadsInt w1 k (some ⟨g, 0, none⟩) n xs := by
  refine ⟨h.1, h.2.1, fun h0 => ?_⟩
  obtain ⟨ad, e, hc⟩ := h.2.2 h0
  injection e with e
  subst e
  refine ⟨_, rfl, fun j hj => ?_⟩
  rw [← hc j hj, add_plain]
  unfold World.cell?
  simp only [hb]
end Go.Proofs.Ytafpfggijpigfaa.Bkt
