import Derived.Test.YtcfklhgaajmoeaaT3
import Derived.StillTailTactics
namespace Go.Proofs.Ytcfklhgaajmoeaa.Lin
open Go.RowKit Go.Proofs.YtcfklhgaajmoeaaW.PrintWords Go.Proofs.YtcfklhgaajmoeaaW.PrintLast Go.Proofs.YtcfklhgaajmoeaaW.PrintMore
attribute [local go_sem] max2_int min2_int max_two min_two max_three min_three max_four min_four
set_option linter.unusedVariables false
set_option linter.unusedSimpArgs false
theorem ret_int {k : IntKind} {a b : Int} (h : a = b) : Ending.returned (.int k a) = .returned (.int k b) := by rw [h]
def zipW (op : Int → Int → Int) (l0 l1 : List Int) : List Int := (List.range l0.length).map fun j : Nat => op (rd l0 j) (rd l1 j)
theorem zipW_len (op : Int → Int → Int) (l0 l1 : List Int) : (zipW op l0 l1).length = l0.length := by simp [zipW]
theorem zipW_eq {op : Int → Int → Int} {l0 l1 ys : List Int} (hl : ys.length = l0.length) (h : ∀ j : Nat, j < l0.length → rd ys j = op (rd l0 j) (rd l1 j)) : ys = zipW op l0 l1 := by
  apply List.ext_getElem
  · rw [hl, zipW_len]
  · intro i h1 h2
    have h3 := h i (by omega)
    simp only [zipW, List.getElem_map, List.getElem_range]
    rw [← h3]
    simp [rd, List.getD_eq_getElem?_getD, List.getElem?_eq_getElem h1]
theorem rd_set_same (ys : List Int) (k : Nat) (x : Int) (h : k < ys.length) : rd (ys.set k x) k = x := by
  simp [rd, List.getD_eq_getElem?_getD, h]
theorem rd_set_other (ys : List Int) (k j : Nat) (x : Int) (h : j ≠ k) : rd (ys.set k x) j = rd ys j := by
  simp [rd, List.getD_eq_getElem?_getD, List.getElem?_set, Ne.symm h]
theorem max30 (a b : Int) (w : World) : Calls Try.prog 30 #[.int .u32 a, .int .u32 b] w fun e w' => e = .returned (.int .u32 (mx a b)) ∧ w' = w := by
  go_enter Try.func30, Try.ntmps30
  go_wp2
  all_goals (go_ret; exact ⟨ret_int (by unfold mx; omega), rfl⟩)
theorem min31 (a b : Int) (w : World) : Calls Try.prog 31 #[.int .u32 a, .int .u32 b] w fun e w' => e = .returned (.int .u32 (mn a b)) ∧ w' = w := by
  go_enter Try.func31, Try.ntmps31
  go_wp2
  all_goals (go_ret; exact ⟨ret_int (by unfold mn; omega), rfl⟩)
set_option maxHeartbeats 1000000 in
theorem zip29 (g : Nat) (op : Int → Int → Int) (hcf : ∀ (args : Array Value) (w : World), Sem.run Try.prog (callFunc g args) w = .ok (.enter g args) w) (hg : ∀ (a b : Int) (w : World), Calls Try.prog g #[.int .u32 a, .int .u32 b] w fun e w' => e = .returned (.int .u32 (op a b)) ∧ w' = w) (A0 : Option Addr) (c0 : Nat) (l0 : List Int) (A1 : Option Addr) (c1 : Nat) (l1 : List Int) (w : World) (hr0 : Kd.C (Kd.int .u32) w A0 l0.length l0) (hr1 : Kd.C (Kd.int .u32) w A1 l1.length l1)
    (hle : l0.length ≤ l1.length) (hl : l0.length ≤ 70368744177664) :
    Calls Try.prog 29 #[.slice A0 l0.length c0, .slice A1 l1.length c1, .func (.func g) #[] #[]] w fun e w' => ∃ v0_ : Value, e = .returned v0_ ∧ Kd.R (Kd.int .u32) 38 w' w.heap.size (fun _ => True) v0_ (zipW op l0 l1) ∧ Below w.heap.size w w' := by
  have HG := Aside0.mk hg
  have HR0 := Aside0.mk hr0
  have HR1 := Aside0.mk hr1
  clear hr0 hr1 hg
  go_enter Try.func29, Try.ntmps29
  go_wp2_with (at_make; go_loud (refine Kd.R_make (Kd.int .u32) (w0 := w) w.heap.size 38 (by rfl) (N := 11) rfl 30 _ _ rfl (l0.length : Int) rfl rfl Try.underlying30 (.int .u32 0) 4 info38 rfl (by decide) (by omega) 0 (ok := fun _ => True) (okp := fun _ => True) rfl (fun _ hk => hk) trivial (by omega) (by rw [Int.toNat_natCast]; omega) (Below.refl _ _) (Nat.le_refl _) ?_); intro vk w1 ho hb hg_ hnew_; have HO := Aside0.mk ho; have HB := Aside0.mk hb; clear ho hb hg_ hnew_)
  have ho := HO.out
  rw [Int.toNat_natCast] at ho
  obtain ⟨Ak, ck, rfl⟩ := Kd.R_slice ho
  simp only [List.length_replicate] at ho ⊢
  clear HO
  have HO := Aside0.mk ho
  clear ho
  go_loopw [14] (fun v wr => ∃ (k : Nat) (ys : List Int), k ≤ l0.length ∧ v = .int .i64 k ∧ Aside0 (ys.length = l0.length ∧ ∀ j : Nat, j < k → rd ys j = op (rd l0 j) (rd l1 j)) ∧ Aside0 (Kd.R (Kd.int .u32) 38 wr w.heap.size (fun _ => True) (.slice Ak l0.length ck) ys) ∧ Aside0 (Below w.heap.size w wr)) (fun v _ => l0.length - (intOf v).toNat)
  case atStart => exact ⟨0, _, Nat.zero_le _, rfl, ⟨List.length_replicate, fun j hj => absurd hj (Nat.not_lt_zero _)⟩, HO, HB⟩
  case round =>
    obtain ⟨k, ys, hk, rfl, HK, HO, HB⟩ := hrel
    have hrl := HK.out.1
    have HRL := Aside0.mk hrl
    clear hrl
    by_cases hlt : k < l0.length
    · have HR0 := Aside0.mk (Kd.C_below HR0.out HB.out)
      have HR1 := Aside0.mk (Kd.C_below HR1.out HB.out)
      obtain ⟨ad0, e0, hc0⟩ := Kd.at_int HR0.out k (by omega) (by omega)
      obtain ⟨ad1, e1, hc1⟩ := Kd.at_int HR1.out k (by omega) (by omega)
      cases e0
      cases e1
      rw [Int.toNat_natCast] at hc0 hc1
      obtain ⟨g7, cap7, e7, hg7, _⟩ := Kd.R_form HO.out (by rw [HRL.out]; omega)
      injection e7 with e7 e7a e7b
      subst e7
      clear e7a e7b
      have hq := Kd.R_celln 0 HO.out k (by omega) (by omega)
      rw [Int.toNat_natCast] at hq
      obtain ⟨hcell, hfz⟩ := hq
      have hlt1 : k < l1.length := by omega
      clear HR0 HR1
      go_wp2_with fail
      refine wp_region_still_tail 13 (by kernel_rfl) (by kernel_rfl) ?_
      simp only [List.take_succ_cons, List.take_zero, List.drop_succ_cons, List.drop_zero]
      iterate 11 still_step
      still_call (HG.out _ _ _)
      repeat still_step
      refine wpStill_nil ?_
      go_wp2_with fail
      go_roundw
      case rel =>
        refine ⟨k + 1, ys.set k (op (rd l0 k) (rd l1 k)), by omega, by go_num, ⟨by rw [List.length_set]; exact HRL.out, fun j hj => ?_⟩, ⟨?_⟩, ⟨?_⟩⟩
        · by_cases hjk : j = k
          · rw [hjk]; exact rd_set_same _ _ _ (by rw [HRL.out]; omega)
          · rw [rd_set_other _ _ _ _ hjk]; exact HK.out.2 j (by omega)
        · have hp := Kd.R_putn HO.out k (op (rd l0 k) (rd l1 k))
          rw [Int.toNat_natCast] at hp
          exact Kd.R_drew hp
        · exact below_drew (HB.out.setCell hg7 _)
      case measure => simp [intOf]; omega
    · have hk' : k = l0.length := by omega
      have HZ := Aside0.mk (zipW_eq HRL.out (fun j hj => HK.out.2 j (by omega)))
      clear hlt
      subst hk'
      go_wp2_with fail
      go_ret
      exact ⟨_, rfl, by rw [← HZ.out]; exact HO.out, HB.out⟩
theorem cf30 (args : Array Value) (w : World) : Sem.run Try.prog (callFunc 30 args) w = .ok (.enter 30 args) w := by rfl
theorem cf31 (args : Array Value) (w : World) : Sem.run Try.prog (callFunc 31 args) w = .ok (.enter 31 args) w := by rfl
end Go.Proofs.Ytcfklhgaajmoeaa.Lin
