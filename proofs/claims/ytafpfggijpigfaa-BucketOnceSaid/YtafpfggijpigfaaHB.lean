import Derived.Test.YtafpfggijpigfaaB11
namespace Go.Proofs.Ytafpfggijpigfaa.Bkt
open Go.RowKit
def cadastrelaw10_live.f : Option Bool := some true
theorem cadastrelaw10_live.calls (r : Bool) (w : World) (h : cadastrelaw10_live.f = some r) :
    Calls Try.prog 10 #[] w fun e w' => e = .returned (.bool r) ∧ Below w.heap.size w w' := by
  obtain rfl := Option.some.inj h
  exact live10 w
end Go.Proofs.Ytafpfggijpigfaa.Bkt
