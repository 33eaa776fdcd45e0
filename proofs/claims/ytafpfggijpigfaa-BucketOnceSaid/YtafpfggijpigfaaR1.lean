import Derived.Test.YtafpfggijpigfaaP2
import Derived.Deep.Slices
import Derived.ChangeOld
import Derived.OpenShut
import Derived.Carry
import Derived.ProofKit
namespace Go.Proofs.Ytafpfggijpigfaa.Bkt
open Go.RowKit Go.Proofs.YtafpfggijpigfaaW.PrintWords Go.Proofs.YtafpfggijpigfaaW.PrintLast Go.Deep Go.ChangeShapes Go.WideShapes
set_option linter.unusedVariables false
set_option linter.unusedSimpArgs false
theorem cells38 : Try.prog.cellsOf 38 = 2 := by kernel_rfl
theorem cells36 : Try.prog.cellsOf 36 = 1 := by kernel_rfl
theorem cells9 : Try.prog.cellsOf 9 = 1 := by kernel_rfl
theorem cells51 : Try.prog.cellsOf 51 = 1 := by kernel_rfl
theorem laid : laidOutB Try.prog = true := by kernel_rfl
theorem U32_of {zs : List Int} (h : ∀ n ∈ zs, (Lit.int .u32 n).wf = true) : U32 zs := fun v hv => by have := bounds_u32 (h v hv); omega
/-- a point that came in -/
theorem open_key {H : Type} {enc : TypeId × Value → H} {w : World} {base : Nat} {held : Bool} {fuel : Nat} {v : Value} {y : DataW H × List MemPlace} (h : DataW.trod enc Try.prog w base (fun _ => true) held fuel 36 [v] = some y) :
    ∃ (A : Option Addr) (c : Nat) (xs : List Int), v = .slice A xs.length c ∧ xs.length ≤ c ∧ Kd.C (Kd.int .u32) w A xs.length xs ∧ U32 xs := by
  rcases open_ints Try.underlying36 Try.underlying51 cells51 h with ⟨hcs, _⟩ | ⟨a, len, cap, zs, hcs, _, hl, hm, hz, _, hcell, hwz⟩
  · simp only [List.cons.injEq, and_true] at hcs
    exact ⟨none, 0, [], hcs, Nat.le_refl _, Kd.C_nil _ _, fun v hv => by simp at hv⟩
  · simp only [List.cons.injEq, and_true] at hcs
    simp only [if_true] at hz
    have hlen : (zs.take len).length = len := by simp; omega
    refine ⟨some a, cap, zs.take len, by rw [hlen]; exact hcs, by rw [hlen]; exact hl, ?_, U32_of (fun n hn => hwz n (List.mem_of_mem_take hn))⟩
    rw [hlen]
    refine Kd.C_of_reads (enc := Value.int .u32) (d := (0 : Int)) (h1 := fun _ => rfl) ⟨hlen, Nat.le_trans hl (by simpa [maxLen] using hm), fun _ => ⟨a, rfl, fun j hj => ?_⟩⟩
    rw [hcell j (by omega)]
    simp [List.getD_eq_getElem?_getD, List.getElem?_take, hj]
/-- a record that came in -/
theorem open_rec {H : Type} {enc : TypeId × Value → H} {w : World} {base : Nat} {held : Bool} {fuel : Nat} {cs : List Value} {y : DataW H × List MemPlace} (h : DataW.trod enc Try.prog w base (fun _ => true) held fuel 38 cs = some y) :
    ∃ (A : Option Addr) (c : Nat) (x : S38), cs = [.slice A x.f0.length c, .string x.f1] ∧ x.f0.length ≤ c ∧ Kd.C (Kd.int .u32) w A x.f0.length x.f0 ∧ U32 x.f0 := by
  obtain ⟨ys, n, _, _, hlen, hyl, hf⟩ := DataW.trod_struct Try.underlying38 h
  rw [cells38] at hlen
  match cs, hlen with
  | [v0, v1], _ =>
    have h0 : DataW.trod enc Try.prog w base (fun _ => true) held n 36 (([v0, v1].drop 0).take (Try.prog.cellsOf 36)) = ys[0]? := hf 0 _ rfl
    have h1 : DataW.trod enc Try.prog w base (fun _ => true) held n 9 (([v0, v1].drop 1).take (Try.prog.cellsOf 9)) = ys[1]? := hf 1 _ rfl
    rw [cells36] at h0
    rw [cells9] at h1
    have e0 : ys[0]? = some (ys[0]'(by rw [hyl]; decide)) := List.getElem?_eq_getElem _
    have e1 : ys[1]? = some (ys[1]'(by rw [hyl]; decide)) := List.getElem?_eq_getElem _
    rw [e0] at h0
    rw [e1] at h1
    obtain ⟨A, c, xs, hv, hl, hC, hu⟩ := open_key h0
    obtain ⟨s, hs, _, _⟩ := DataW.trod_string Try.underlying9 h1
    simp at hs
    exact ⟨A, c, ⟨xs, s⟩, by rw [hv, hs], hl, hC, hu⟩
/-- records that came in -/
theorem open_recs {H : Type} {enc : TypeId × Value → H} {w : World} {base : Nat} {held : Bool} {fuel : Nat} {v : Value} {y : DataW H × List MemPlace} (h : DataW.trod enc Try.prog w base (fun _ => true) held fuel 22 [v] = some y) :
    ∃ (A : Option Addr) (c : Nat) (xs : List S38), v = .slice A xs.length c ∧ xs.length ≤ c ∧ Kd.C k38 w A xs.length xs ∧ Wf xs := by
  rcases open_slice Try.underlying22 h with ⟨hcs, _⟩ | ⟨a, len, cap, m, n, D, Pl, hcs, _, hl, hm, hmm, _, hx⟩
  · simp only [List.cons.injEq, and_true] at hcs
    exact ⟨none, 0, [], hcs, Nat.le_refl _, Kd.C_nil _ _, fun x hx => by simp at hx⟩
  · simp only [List.cons.injEq, and_true] at hcs
    simp only [if_true] at hmm
    subst hmm
    have each : ∀ i, i < len → ∃ p : S38 × Option Addr × Nat, (∀ j u, ([Value.slice p.2.1 p.1.f0.length p.2.2, Value.string p.1.f1] : List Value)[j]? = some u → w.cell? (a.add (i * 2 + j)) = some u) ∧ p.1.f0.length ≤ p.2.2 ∧ Kd.C (Kd.int .u32) w p.2.1 p.1.f0.length p.1.f0 ∧ U32 p.1.f0 := by
      intro i hi
      obtain ⟨cs', h1, h2⟩ := hx i (by omega)
      rw [cells38] at h1
      obtain ⟨A, c, x, rfl, hlx, hC, hu⟩ := open_rec h2
      obtain ⟨_, hcl, hat⟩ := World.cells?_some h1
      refine ⟨(x, A, c), fun j u hj => ?_, hlx, hC, hu⟩
      have hj2 : j < 2 := (List.getElem?_eq_some_iff.1 hj).1
      have h3 := hat j hj2
      rw [Go.Deep.add_add] at h3
      rw [h3]
      exact hj
    have inh : Inhabited (S38 × Option Addr × Nat) := ⟨(z38, none, 0)⟩
    obtain ⟨F, hF⟩ := choose_lt each
    have hlen : ((List.range len).map fun i => (F i).1).length = len := by simp
    refine ⟨some a, m, (List.range len).map fun i => (F i).1, by rw [hlen]; exact hcs, by rw [hlen]; exact hl, ?_, fun x hx => ?_⟩
    · rw [hlen]
      refine ⟨hlen, Nat.le_trans hl (by simpa [maxLen] using hm), fun _ => ⟨a, rfl, fun j p hj => ?_⟩⟩
      have hjl : j < len := by have := (List.getElem?_eq_some_iff.1 hj).1; rwa [hlen] at this
      have hp : (F j).1 = p := by simpa [hjl] using hj
      obtain ⟨h1, h2, h3, _⟩ := hF j hjl
      rw [hp] at h1 h2 h3
      exact ⟨_, rfl, k38_mk w p h2 h3, h1⟩
    · obtain ⟨i, hi, rfl⟩ := List.mem_map.1 hx
      exact (hF i (List.mem_range.1 hi)).2.2.2
theorem cells_one {H : Type} {enc : TypeId × Value → H} {w : World} {base fuel t : Nat} {held : Bool} {spare : Nat → Bool} {v : Value} {y : DataW H × List MemPlace} (hv : v.cells.toList = [v]) (h : DataW.trod enc Try.prog w base spare held fuel t v.cells.toList = some y) : DataW.trod enc Try.prog w base spare held fuel t [v] = some y := by rw [hv] at h; exact h
theorem Trod_keep {H : Type} {enc : TypeId × Value → H} {t : TypeId} (hr : Try.prog.readableRec t = true) (hrow : t < Try.prog.types.size) {W W' : World} {v : Value} {d : DataW H} {ps : List MemPlace}
    (h : DataW.Trod enc Try.prog W 0 (fun _ => true) true t v d ps) (hb : Below W.heap.size W W') : DataW.Trod enc Try.prog W' 0 (fun b => decide (b < W.heap.size)) true t v d ps := by
  refine Below.trod laid hr hrow h hb ?_
  obtain ⟨fuel, hf⟩ := h
  exact DataW.trod_lt _ _ _ _ hf
end Go.Proofs.Ytafpfggijpigfaa.Bkt
