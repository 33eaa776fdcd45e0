/- For every two numbers A and B of 32 bits, every level and every next of 64 bits, cadastrelaw18.LinearOrder returns true, and its argument reads behind the call as it read before.
   Conditions: none. -/
import Derived.Test.YtcfklhgaajmoeaaRows
import Derived.Test.YtcfklhgaajmoeaaT22
import Derived.WalkKit
import Derived.ProofKit
import Derived.OpenShut
import Derived.ShutString
import Derived.ChangeOld
import Derived.Below
import Derived.SizedLaws
import Derived.Lib.SmallJoins
namespace Go.Proofs.Ytcfklhgaajmoeaa.linearOrder
open Go.ChangeShapes Go.WideShapes Go.ChangeAt Go.RowKit Go.Joins
open Go.ChangeMaps (open_string shut_string)
set_option linter.unusedVariables false
theorem own : ownKnob Try.prog.godebug = none := by kernel_rfl
theorem cells40 : Try.prog.cellsOf 40 = 4 := by kernel_rfl
theorem twoReads {H : Type} {enc : TypeId × Value → H} (W' : World) (b : Nat) (sp : Nat → Bool) (hd : Bool) (x0 x1 x2 x3 : Int) (w0 : (Lit.int .u32 x0).wf = true) (w1 : (Lit.int .u32 x1).wf = true) (w2 : (Lit.int .i64 x2).wf = true) (w3 : (Lit.int .i64 x3).wf = true) :
    DataW.Trod enc Try.prog W' b sp hd 40 (.agg #[.int .u32 x0, .int .u32 x1, .int .i64 x2, .int .i64 x3]) (.agg [.lit (.int .u32 x0), .lit (.int .u32 x1), .lit (.int .i64 x2), .lit (.int .i64 x3)]) [] := by
  simpa using shut_agg4 (enc := enc) (w := W') (base := b) (spare := sp) (held := hd) (y0 := (.lit (.int .u32 x0), [])) (y1 := (.lit (.int .u32 x1), [])) (y2 := (.lit (.int .i64 x2), [])) (y3 := (.lit (.int .i64 x3), [])) Try.underlying40 (by kernel_rfl) cells40 ⟨1, by simp [DataW.trod, Try.underlying38, w0]⟩ ⟨1, by simp [DataW.trod, Try.underlying38, w1]⟩ ⟨1, by simp [DataW.trod, Try.underlying3, w2]⟩ ⟨1, by simp [DataW.trod, Try.underlying3, w3]⟩
set_option maxRecDepth 100000 in
theorem lifted (os : Os) (started : os.Started) (H : Type) (enc : TypeId × Value → H) :
    ReturnsInHanded {} Try.checked os 5 .any (Rows.linearOrderSpec.pre6 enc Try.prog Try.f5 Rows.linearOrderRow.domain false) (Rows.linearOrderSpec.post enc Try.prog Try.f5 false true false false) := by
  refine returnsInHanded_of_change_sized (C := Try.checked) own started (by kernel_rfl) Try.func5
    (ChangeSpec.witness6 (enc := enc) (C := Try.checked) false ⟨#[], #[.agg #[.int .u32 0, .int .u32 0, .int .i64 0, .int .i64 0]], []⟩ 8 (by kernel_rfl) (by kernel_rfl) (by kernel_rfl) (by kernel_rfl)) ?_
  intro W base args ds gs before hval0 hW hcnd hsz0 _
  have hval : ∀ (j : Nat) t v, Try.f5.params[j]? = some t → args[j]? = some v → Value.okWide Try.prog W .any base t v := hval0
  have hW' := hW
  obtain ⟨p, q, hA0, hV, rfl, hfz, hnd⟩ := hW
  have hA : DataW.TrodAll enc Try.prog W 0 (fun _ => true) true Try.f5.params.toList args.toList ds p := hA0
  rw [Try.params5] at hA hval
  obtain ⟨v0, vs0, d0, ds0, p0, q0, hargs, rfl, rfl, h0, r0⟩ := trodAll_cons hA
  obtain ⟨rfl, rfl, rfl⟩ := trodAll_nil r0
  obtain rfl : args = #[v0] := by cases args; simp_all
  obtain ⟨rfl, rfl⟩ := trodVars_none hV
  obtain ⟨c0, c1, c2, c3, y0, y1, y2, y3, m, rfl, rfl, rfl, hy0, hy1, hy2, hy3⟩ := open_agg4 Try.underlying40 (by kernel_rfl) cells40 (hval 0 40 v0 rfl rfl) h0
  obtain ⟨a, e0, rfl, w0⟩ := DataW.trod_int Try.underlying38 hy0
  obtain ⟨b, e1, rfl, w1⟩ := DataW.trod_int Try.underlying38 hy1
  obtain ⟨l, e2, rfl, w2⟩ := DataW.trod_int Try.underlying3 hy2
  obtain ⟨n, e3, rfl, w3⟩ := DataW.trod_int Try.underlying3 hy3
  simp at e0 e1 e2 e3
  subst e0 e1 e2 e3
  clear hA0 hval0 hsz0
  refine (Lin.order5_all a b l n W w0 w1).mono fun e W' ⟨he, bel⟩ => ?_
  subst he
  exact ⟨_, rfl, _, _, _, [], _, [], hW', trodAll_mk1 (shut_bool Try.underlying4 _), trodAll_mk1 (twoReads W' _ _ _ a b l n w0 w1 w2 w3), rfl, bel.frame _, fun h => by cases h⟩
theorem over : Rows.linearOrderRow.holds Try.pinned (OpenSpec.ofChange Rows.linearOrderSpec) :=
  OpenClaim.holds_of_wide 5 Try.f5 rfl rfl rfl rfl rfl rfl rfl ⟨rfl, rfl, rfl, rfl, rfl⟩ rfl rfl rfl rfl rfl (by kernel_rfl) Try.func5 (by kernel_rfl)
    (of_decide_eq_true (by kernel_rfl)) (by unfold Func.isWrapper; first | (rw [if_pos (by decide +kernel)]; kernel_rfl) | (rw [if_neg (by decide +kernel)]; exact ⟨rfl, rfl⟩))
    (fun os started H enc _ => lifted os started H enc)
theorem proved : Rows.LinearOrderSaid := over
end Go.Proofs.Ytcfklhgaajmoeaa.linearOrder
namespace Go.Proofs.Ytcfklhgaajmoeaa
/-- The row, under a short name, for the claim. -/
theorem linearOrder_holds : Rows.LinearOrderSaid := linearOrder.proved
end Go.Proofs.Ytcfklhgaajmoeaa
