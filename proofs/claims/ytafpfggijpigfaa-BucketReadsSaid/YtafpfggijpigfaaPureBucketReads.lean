import Derived.Test.YtafpfggijpigfaaP3
import Derived.Test.YtafpfggijpigfaaP6
import Derived.Test.YtafpfggijpigfaaX8b
namespace Go.Proofs.Ytafpfggijpigfaa.Pure
open Go.RowKit Go.Proofs.Ytafpfggijpigfaa.Bkt Go.Proofs.YtafpfggijpigfaaW.PrintWords Go.Proofs.YtafpfggijpigfaaW.PrintLast
theorem ev_reads (s : ByteArray) (a1 a2 : Int) : Ev (fun k => cadastrelaw10_BucketReads.f k s a1 a2) true := by
  unfold cadastrelaw10_BucketReads.f
  by_cases h : (s.size : Int) > 300
  · simp only [if_pos h, ev_live, Option.bind_some]
    exact Ev.now _
  · simp only [if_neg h, ev_live, Option.bind_some]
    refine Ev.bind (ev_dec s (by omega) a1 a2) ?_
    refine Ev.bind (ev_rdec s (by omega) a1 a2) ?_
    refine Ev.bind (ev_same _ _ (decV_sm s a1 a2) (decV_sm s a1 a2)) ?_
    simp only [sameL_refl, if_true]
    exact Ev.now _
theorem BucketReads : cadastrelaw10_BucketReads.Pure := fun a0 a1 a2 _ _ _ => by
  obtain ⟨k, h⟩ := ev_reads a0 a1 a2
  exact ⟨k, h k (Nat.le_refl k)⟩
end Go.Proofs.Ytafpfggijpigfaa.Pure
