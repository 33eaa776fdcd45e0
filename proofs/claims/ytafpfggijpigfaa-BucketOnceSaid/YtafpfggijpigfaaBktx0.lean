-- Written by a program of this session (wip/pp.py) for this seat. Not trusted: Lean checks it.
import Derived.Test.YtafpfggijpigfaaProg
import Derived.Below
import Derived.Deep.Draws
import Derived.Deep.AppendLies
import Derived.Maps.AppendAt
import Derived.OwnWalk
import Derived.Laws.BytesArg
import Derived.Laws.MakeOwn
import Derived.Laws.OwnMore
import Derived.Deep.OwnRows
import Derived.Tactics
import Derived.Lib.ConvBytes
import Derived.Laws.Slices
import Derived.WalkKit
import Derived.KernelRfl
import Derived.RowKit3
import Derived.Deep.LoopGhost
import Derived.Deep.QuietTactic
import Derived.BigQuiet
import Derived.WideLaws
import Derived.Deep.DeepCutAuto
import Derived.Deep.CutBlock
import Derived.Deep.RegionHeld3
import Derived.Laws.Rows
import Derived.Lib.AppendStr
import Derived.ArgAppend
import Derived.Laws.IdiomCopy
import Derived.OrdersHeld
import Derived.Laws.BitsLemmas
import Derived.RowKit
import Derived.Test.YtafpfggijpigfaaWWords
import Derived.Test.YtafpfggijpigfaaWLast
import Derived.Test.YtafpfggijpigfaaWTab
import Derived.Test.YtafpfggijpigfaaWFour
import Derived.Test.YtafpfggijpigfaaWQPut
import Derived.Test.YtafpfggijpigfaaWApart
import Derived.Test.YtafpfggijpigfaaWArr
import Derived.Test.YtafpfggijpigfaaWZeros
import Derived.Test.YtafpfggijpigfaaWFoot
import Derived.Test.YtafpfggijpigfaaWKept
import Derived.Test.YtafpfggijpigfaaWShare
import Derived.Test.YtafpfggijpigfaaWN
import Derived.Test.YtafpfggijpigfaaWFootNe
import Derived.Test.YtafpfggijpigfaaWAt
import Derived.Test.YtafpfggijpigfaaWEqStruct
import Derived.Test.YtafpfggijpigfaaWRepsOne
import Derived.Test.YtafpfggijpigfaaWInv
import Derived.Test.YtafpfggijpigfaaWInvWords
import Derived.Test.YtafpfggijpigfaaWGuard
import Derived.Test.YtafpfggijpigfaaWNEv
import Derived.Test.YtafpfggijpigfaaWMore
namespace Go.Proofs.Ytafpfggijpigfaa.Bkt
open Go.RowKit Go.Proofs.YtafpfggijpigfaaW.PrintWords Go.Proofs.YtafpfggijpigfaaW.PrintLast Go.Proofs.YtafpfggijpigfaaW.PrintMore
attribute [local go_sem] max2_int min2_int max_two min_two max_three min_three max_four min_four   -- for this text's walks alone
set_option linter.unusedVariables false
set_option linter.unusedSimpArgs false



def errW : Option Int → Value
  | none => .nilIface
  | some c => .iface 0 (.int .i64 c)
theorem errW_none : errW none = .nilIface := rfl
theorem errW_some (c : Int) : errW (some c) = .iface 0 (.int .i64 c) := rfl

theorem info5 : (Try.prog.info? 5).map (fun i => (i.zero, i.size, i.bytes)) = some (some (.int .u8 0), 1, 1) := by kernel_rfl
theorem info38 : (Try.prog.info? 38).map (fun i => (i.zero, i.size, i.bytes)) = some (some (.agg #[(.slice none 0 0), (.string ⟨#[]⟩)]), 2, 40) := by kernel_rfl
theorem info51 : (Try.prog.info? 51).map (fun i => (i.zero, i.size, i.bytes)) = some (some (.int .u32 0), 1, 4) := by kernel_rfl
-- the values' own types
def rd_L1 (xs : List (List Int)) (i : Int) : (List Int) := xs.getD i.toNat ([] : List Int)
theorem at_L1 {w : World} {A : Option Addr} {n : Nat} {xs : List (List Int)} (h : Kd.C (Kd.slice 51 (Kd.int .u32)) w A n xs) (i : Int) (h0 : 0 ≤ i) (h1 : i < n) : ∃ ad A0 c0, A = some ad ∧ w.cell? (ad.add i.toNat) = some (.slice A0 (rd_L1 xs i).length c0) ∧ (rd_L1 xs i).length ≤ c0 ∧ (Kd.int .u32).C w A0 (rd_L1 xs i).length (rd_L1 xs i) := by
  obtain ⟨ad, c, e, _, hK, hc0⟩ := Kd.C_get h ([] : List Int) i h0 h1
  have hc : ∀ j u, c[j]? = some u → w.cell? (ad.add (i.toNat * 1 + j)) = some u := hc0
  obtain ⟨A0, c0, rfl, l0, g0⟩ := hK
  exact ⟨ad, A0, c0, e, by have hq := hc 0 _ rfl; rwa [Nat.mul_one, Nat.add_zero] at hq, l0, g0⟩

/-! #### struct type 38 -/
structure S38 where
  f0 : (List Int)
  f1 : ByteArray
def z38 : S38 := ⟨([] : List Int), (⟨#[]⟩ : ByteArray)⟩
def k38 : Kd S38 := Kd.iso (Kd.pair (Kd.slice 51 (Kd.int .u32)) Kd.string) (fun x : S38 => (x.f0, x.f1))
theorem k38_heap : Kd.Heap k38 := Kd.heap_iso _ (Kd.heap_pair (Kd.heap_slice 51 (Kd.heap_int .u32)) Kd.heap_string)
theorem k38_open {w : World} {x : S38} {cs : List Value} (h : k38.K w x cs) : ∃ A0 c0, cs = [.slice A0 x.f0.length c0, .string x.f1] ∧ x.f0.length ≤ c0 ∧ (Kd.int .u32).C w A0 x.f0.length x.f0 := by
  obtain ⟨_, _, rfl, ⟨A0, c0, rfl, l0, g0⟩, rfl⟩ := h
  exact ⟨A0, c0, rfl, l0, g0⟩
theorem k38_openM {w : World} {base : Nat} {ok : Nat → Prop} {x : S38} {cs : List Value} (h : k38.M w base ok x cs) : ∃ v0, cs = [v0, .string x.f1] ∧ (Kd.int .u32).R 51 w base ok v0 x.f0 := by
  obtain ⟨_, _, rfl, ⟨v0, rfl, g0⟩, rfl⟩ := h
  exact ⟨v0, rfl, g0⟩
theorem k38_mk (w : World) (x : S38) {A0 : Option Addr} {c0 : Nat} (l0 : x.f0.length ≤ c0) (g0 : (Kd.int .u32).C w A0 x.f0.length x.f0) : k38.K w x [.slice A0 x.f0.length c0, .string x.f1] := ⟨[.slice A0 x.f0.length c0], [.string x.f1], rfl, ⟨A0, c0, rfl, l0, g0⟩, rfl⟩
theorem k38_mkM (w : World) (base : Nat) (ok : Nat → Prop) (x : S38) {v0 : Value} (g0 : (Kd.int .u32).R 51 w base ok v0 x.f0) : k38.M w base ok x [v0, .string x.f1] := ⟨[v0], [.string x.f1], rfl, ⟨v0, rfl, g0⟩, rfl⟩
theorem k38_openF {W : World} {ok : Nat → Prop} {x : S38} {cs : List Value} (h : Kd.FK k38 W ok x cs) : ∃ A0 c0, cs = [.slice A0 x.f0.length c0, .string x.f1] ∧ x.f0.length ≤ c0 ∧ Kd.F (Kd.int .u32) W ok A0 x.f0.length x.f0 := by
  obtain ⟨A0, c0, rfl, l0, _⟩ := k38_open (Kd.FK_now h)
  exact ⟨A0, c0, rfl, l0, (fun W' hW => by obtain ⟨A0_, c0_, he, l0_, g0_⟩ := k38_open (h W' hW); injection (Option.some.inj (show some (Value.slice A0 x.f0.length c0) = some (Value.slice A0_ x.f0.length c0_) from congrArg (fun l => l[0]?) he)) with ha_ _ _; rw [ha_]; exact g0_)⟩
theorem k38_mkF (W : World) (ok : Nat → Prop) (x : S38) {A0 : Option Addr} {c0 : Nat} (l0 : x.f0.length ≤ c0) (g0 : Kd.F (Kd.int .u32) W ok A0 x.f0.length x.f0) : Kd.FK k38 W ok x [.slice A0 x.f0.length c0, .string x.f1] := fun W2 hW => k38_mk W2 x l0 (g0 W2 hW)
def rd_T38 (xs : List S38) (i : Int) : S38 := xs.getD i.toNat z38
theorem at_T38 {w : World} {A : Option Addr} {n : Nat} {xs : List S38} (h : Kd.C k38 w A n xs) (i : Int) (h0 : 0 ≤ i) (h1 : i < n) : ∃ ad A0 c0, A = some ad ∧ w.cell? (ad.add (i.toNat * 2)) = some (.slice A0 (rd_T38 xs i).f0.length c0) ∧ w.cell? ⟨(ad.add (i.toNat * 2)).block, (ad.add (i.toNat * 2)).off + 1, none⟩ = some (.string (rd_T38 xs i).f1) ∧ (rd_T38 xs i).f0.length ≤ c0 ∧ (Kd.int .u32).C w A0 (rd_T38 xs i).f0.length (rd_T38 xs i).f0 := by
  obtain ⟨ad, c, e, _, hK, hc0⟩ := Kd.C_get h z38 i h0 h1
  have hc : ∀ j u, c[j]? = some u → w.cell? (ad.add (i.toNat * 2 + j)) = some u := hc0
  obtain ⟨A0, c0, rfl, l0, g0⟩ := k38_open hK
  exact ⟨ad, A0, c0, e, hc 0 _ rfl, by rw [← add_field _ _ 1 (by omega)]; exact hc 1 _ rfl, l0, g0⟩

def rd_L4 (xs : List (List S38)) (i : Int) : (List S38) := xs.getD i.toNat ([] : List S38)
theorem at_L4 {w : World} {A : Option Addr} {n : Nat} {xs : List (List S38)} (h : Kd.C (Kd.slice 38 k38) w A n xs) (i : Int) (h0 : 0 ≤ i) (h1 : i < n) : ∃ ad A0 c0, A = some ad ∧ w.cell? (ad.add i.toNat) = some (.slice A0 (rd_L4 xs i).length c0) ∧ (rd_L4 xs i).length ≤ c0 ∧ k38.C w A0 (rd_L4 xs i).length (rd_L4 xs i) := by
  obtain ⟨ad, c, e, _, hK, hc0⟩ := Kd.C_get h ([] : List S38) i h0 h1
  have hc : ∀ j u, c[j]? = some u → w.cell? (ad.add (i.toNat * 1 + j)) = some u := hc0
  obtain ⟨A0, c0, rfl, l0, g0⟩ := hK
  exact ⟨ad, A0, c0, e, by have hq := hc 0 _ rfl; rwa [Nat.mul_one, Nat.add_zero] at hq, l0, g0⟩

end Go.Proofs.Ytafpfggijpigfaa.Bkt
