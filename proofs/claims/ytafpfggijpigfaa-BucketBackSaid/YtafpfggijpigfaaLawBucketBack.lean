/- For every case (records, text, dimension, capacity) BucketBack returns true; its argument reads as it did. No further conditions. -/
import Derived.Test.YtafpfggijpigfaaRows
import Derived.Test.YtafpfggijpigfaaBktx9
import Derived.Test.YtafpfggijpigfaaR1
import Derived.Test.YtafpfggijpigfaaP7
import Derived.WalkKit
import Derived.ProofKit
import Derived.OpenShut
import Derived.ShutString
import Derived.ChangeOld
import Derived.Below
import Derived.SizedLaws
import Derived.Lib.SmallJoins
namespace Go.Proofs.Ytafpfggijpigfaa.bucketBack
open Go.ChangeShapes Go.WideShapes Go.ChangeAt Go.RowKit Go.Joins
open Go.ChangeMaps (open_string shut_string)
set_option linter.unusedVariables false
theorem own : ownKnob Try.prog.godebug = none := by kernel_rfl
set_option maxRecDepth 100000 in
theorem lifted (os : Os) (started : os.Started) (H : Type) (enc : TypeId × Value → H) :
    ReturnsInHanded {} Try.checked os 6 .any (Rows.bucketBackSpec.pre6 enc Try.prog Try.f6 Rows.bucketBackRow.domain false) (Rows.bucketBackSpec.post enc Try.prog Try.f6 false true false false) := by
  refine returnsInHanded_of_change_sized (C := Try.checked) own started (by kernel_rfl) Try.func6
    (ChangeSpec.witness6 (enc := enc) (C := Try.checked) false ⟨#[], #[.agg #[.slice none 0 0, .string ⟨#[]⟩, .int .i64 0, .int .i64 0]], []⟩ 8 (by kernel_rfl) (by kernel_rfl) (by kernel_rfl) (by kernel_rfl)) ?_
  intro W base args ds gs before hval0 hW hcnd hsz0 _
  have hsz : (DataW.weightsEach Try.prog (Try.f6.params.toList ++ Rows.bucketBackSpec.plain.varTypes Try.prog) (ds ++ gs)).all (· ≤ reachBytes) = true := hsz0
  have hval : ∀ (j : Nat) t v, Try.f6.params[j]? = some t → args[j]? = some v → Value.okWide Try.prog W .any base t v := hval0
  have hW' := hW
  obtain ⟨p, q, hA0, hV, rfl, hfz, hnd⟩ := hW
  have hA : DataW.TrodAll enc Try.prog W 0 (fun _ => true) true Try.f6.params.toList args.toList ds p := hA0
  rw [Try.params6] at hA hval hsz
  obtain ⟨v0, vs0, d0, ds0, p0, q0, hargs, rfl, rfl, h0, r0⟩ := trodAll_cons hA
  obtain ⟨rfl, rfl, rfl⟩ := trodAll_nil r0
  obtain rfl : args = #[v0] := by cases args; simp_all
  obtain ⟨rfl, rfl⟩ := trodVars_none hV
  have k0 := h0
  obtain ⟨u0, u1, u2, u3, y0, y1, y2, y3, n, rfl, e1, e2, t0, t1, t2, t3⟩ := open_agg4 (P := Try.prog) Try.underlying47 (by kernel_rfl) (by kernel_rfl) (hval 0 47 v0 rfl rfl) h0
  obtain ⟨A0, c0, l0, rfl, hl0, hC0, hw0⟩ := Bkt.open_recs t0
  obtain ⟨s, hs, _⟩ := DataW.trod_string Try.underlying9 t1
  obtain ⟨a2, hh2, _⟩ := DataW.trod_int Try.underlying3 t2
  obtain ⟨a3, hh3, _⟩ := DataW.trod_int Try.underlying3 t3
  simp only [List.cons.injEq, and_true] at hs hh2 hh3
  subst hs hh2 hh3
  obtain ⟨k, hk⟩ := (Bkt.ev_back l0 hw0 s a2 a3).rounds
  clear hA0 hval0 hsz0 hsz
  refine (Bkt.cadastrelaw10_BucketBack.calls k A0 c0 l0 s a2 a3 true W hC0 hl0 hk).mono fun e W' ⟨he, bel⟩ => ?_
  subst he
  exact ⟨_, rfl, _, _, _, [], _, [], hW', trodAll_mk1 (shut_bool Try.underlying4 _), (trodAll_cons_mk (Bkt.Trod_keep (by kernel_rfl) (of_decide_eq_true (by kernel_rfl)) k0 bel) trodAll_mk0), rfl, bel.frame _, fun h => by cases h⟩
theorem over : Rows.bucketBackRow.holds Try.pinned (OpenSpec.ofChange Rows.bucketBackSpec) :=
  OpenClaim.holds_of_wide 6 Try.f6 rfl rfl rfl rfl rfl rfl rfl ⟨rfl, rfl, rfl, rfl, rfl⟩ rfl rfl rfl rfl rfl (by kernel_rfl) Try.func6 (by kernel_rfl)
    (of_decide_eq_true (by kernel_rfl)) (by unfold Func.isWrapper; first | (rw [if_pos (by decide +kernel)]; kernel_rfl) | (rw [if_neg (by decide +kernel)]; exact ⟨rfl, rfl⟩))
    (fun os started H enc _ => lifted os started H enc)
theorem proved : Rows.BucketBackSaid := over
end Go.Proofs.Ytafpfggijpigfaa.bucketBack
namespace Go.Proofs.Ytafpfggijpigfaa
/-- The row, under a short name, for the claim. -/
theorem bucketBack_holds : Rows.BucketBackSaid := bucketBack.proved
#print axioms bucketBack_holds
end Go.Proofs.Ytafpfggijpigfaa
