import Derived.Test.YtafpfggijpigfaaP2
import Derived.Test.YtafpfggijpigfaaX8a
namespace Go.Proofs.Ytafpfggijpigfaa.Bkt
open Go.RowKit Go.Proofs.YtafpfggijpigfaaW.PrintWords Go.Proofs.YtafpfggijpigfaaW.PrintLast
set_option linter.unusedVariables false
set_option linter.unusedSimpArgs false
theorem ev_live : cadastrelaw10_live.f = some true := rfl
theorem ev_writes (l : List S38) (hw : Wf l) (d m : Int) : Ev (fun k => cadastrelaw10_BucketWrites.f k l d m) true := by
  unfold cadastrelaw10_BucketWrites.f
  refine Ev.bind (ev_few l) ?_
  by_cases hf : fewL l = true
  · have hs := (fewL_of hf).sm
    simp only [hf, if_true, ev_live, Option.bind_some]
    refine Ev.bind (ev_enc l hs hw d m) ?_
    refine Ev.bind (ev_renc l hs hw d m) ?_
    simp only [if_true]
    refine Ev.bind (ev_size l hs) ?_
    refine Ev.bind (ev_rsize l hs) ?_
    simp only [if_true]
    refine Ev.bind (ev_fits l hs m) ?_
    refine Ev.bind (ev_rfits l hs m) ?_
    simp only [BEq.rfl, if_true]
    exact Ev.now _
  · simp only [hf, Bool.false_eq_true, if_false, ev_live, Option.bind_some]
    exact Ev.now _
end Go.Proofs.Ytafpfggijpigfaa.Bkt
