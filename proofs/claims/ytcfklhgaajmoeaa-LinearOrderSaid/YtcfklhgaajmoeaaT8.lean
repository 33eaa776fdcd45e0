import Derived.Test.YtcfklhgaajmoeaaT7
import Derived.Laws.CopyOwn
import Derived.Deep.RegionLaw
namespace Go.Proofs.Ytcfklhgaajmoeaa.Lin
open Go.RowKit Go.Proofs.YtcfklhgaajmoeaaW.PrintWords Go.Proofs.YtcfklhgaajmoeaaW.PrintLast Go.Proofs.YtcfklhgaajmoeaaW.PrintMore
set_option linter.unusedVariables false
set_option linter.unusedSimpArgs false
theorem mul40 (n : Nat) (w : World) (h : n ≤ 6) : Calls Try.prog 40 #[.int .u64 1, .int .u64 n] w fun e w' => e = .returned (.tuple #[.int .u64 0, .int .u64 n]) ∧ w = w' := by
  obtain rfl | rfl | rfl | rfl | rfl | rfl | rfl : n = 0 ∨ n = 1 ∨ n = 2 ∨ n = 3 ∨ n = 4 ∨ n = 5 ∨ n = 6 := by omega
  all_goals
    go_enter Try.func40, Try.ntmps40
    go_wp2
    go_ret2
    exact ⟨rfl, rfl⟩
def reps (m n : Nat) (v : Int) : List Value := List.replicate m (.int .u32 v) ++ List.replicate (n - m) (.int .u32 0)
theorem reps_len (m n : Nat) (v : Int) (h : m ≤ n) : (reps m n v).length = n := by simp [reps]; omega
theorem reps_made (n : Nat) (v : Int) : madeCells #[.int .u32 0] n = (reps 0 n v).toArray := by
  apply Array.ext
  · simp [reps, madeCells]
  · intro i h1 h2
    simp [reps, madeCells, Nat.mod_one]
theorem reps_splice (m n k : Nat) (v : Int) (h : m + k ≤ n) : splice (reps m n v) m (List.replicate k (.int .u32 v)) = reps (m + k) n v := by
  apply List.ext_getElem?
  intro i
  simp only [splice, reps]
  simp only [List.getElem?_append, List.getElem?_take, List.getElem?_drop, List.getElem?_replicate, List.length_append, List.length_take, List.length_replicate, List.length_drop]
  repeat' split
  all_goals first | rfl | (exfalso; omega) | (simp; omega) | skip
theorem one_at {x u : Value} {j : Nat} (h : ([x] : List Value)[j]? = some u) : j = 0 ∧ u = x := by
  cases j with
  | zero => exact ⟨rfl, by simpa using h.symm⟩
  | succ j => simp at h
set_option maxHeartbeats 400000 in
theorem repeat34 (g : Nat) (c : Nat) (v : Int) (n : Nat) (w : World) (h1 : 1 ≤ n) (h6 : n ≤ 6) (hc : w.cell? ⟨g, 0, none⟩ = some (.int .u32 v)) :
    Calls Try.prog 34 #[.slice (some ⟨g, 0, none⟩) 1 c, .int .i64 n] w fun e w' => ∃ g' : Nat, e = .returned (.slice (some ⟨g', 0, none⟩) n n) ∧ w.heap.size ≤ g' ∧ w'.heap[g']? = some (.cells (reps n n v).toArray 38 (0, 0)) ∧ Below w.heap.size w w' := by
  have hC := Aside0.mk hc
  clear hc
  have hmk := print_make (P := Try.prog) 30 38 .u32 4 Try.underlying30 info38 (by decide) n (by omega)
  go_enter Try.func34, Try.ntmps34
  go_wp2_with (first | (go_at_call 40; refine (mul40 _ _ h6).mono ?_; rintro e w' ⟨rfl, rfl⟩) | ((with_reducible refine gate_dst (N := 33) rfl ?_); go_loud (refine wpList_copy_splice rfl (.tmp 31) (.tmp 32) 30 30 rfl 38 Try.underlying30 (by kernel_rfl) _ _ _ _ _ _ rfl rfl w.heap.size 0 (reps 0 n v) 38 (by rw [← reps_made]; exact blk_new _ _) [.int .u32 v] (Nat.min_eq_left h1).symm (fun _ => ⟨rfl, _, rfl, fun j u hj => by rw [(one_at hj).1, (one_at hj).2]; exact pw_cell_below (below_alloc (Below.refl w.heap.size w) _) hC.out⟩) (by rw [reps_len 0 n v (Nat.zero_le _)]; exact h1) (fun u hu => by rw [List.mem_singleton.1 hu]; rfl) w.heap.size w (below_alloc (Below.refl _ _) _) (Nat.le_refl _) ?_); intro w2 hw2 hb2))
  have hw3 : w2.heap[w.heap.size]? = some (.cells (reps 1 n v).toArray 38 (0, 0)) := by
    have h := hw2.out
    rw [show ([.int .u32 v] : List Value) = List.replicate 1 (.int .u32 v) from rfl, reps_splice 0 n 1 v (by omega)] at h
    exact h
  have HW := Aside0.mk hw3
  have HB := Aside0.mk hb2
  clear hw2 hw3 hb2
  go_loopw [8] (fun x wr => ∃ m : Nat, 1 ≤ m ∧ m ≤ n ∧ x = .int .i64 m ∧ Aside0 (wr.heap[w.heap.size]? = some (.cells (reps m n v).toArray 38 (0, 0))) ∧ Aside0 (Below w.heap.size w wr)) (fun x _ => n - (intOf x).toNat)
  case atStart => exact ⟨1, by omega, h1, rfl, HW, HB⟩
  case round =>
    obtain ⟨m, hm1, hmn, rfl, HW, HB⟩ := hrel
    by_cases hlt : m < n
    · have hnm : ¬ n = m := by omega
      have hmin : Nat.min m (n - m) ≤ m ∧ Nat.min m (n - m) ≤ n - m := ⟨Nat.min_le_left _ _, Nat.min_le_right _ _⟩
      have hsrc : ∀ (j : Nat) (u : Value), (List.replicate (Nat.min m (n - m)) (Value.int .u32 v))[j]? = some u → wr.drew.cell? ((⟨w.heap.size, 0, none⟩ : Addr).add j) = some u := by
        intro j u hj
        rw [List.getElem?_replicate] at hj
        split at hj
        · rename_i hjl
          injection hj with hj
          subst hj
          rw [add_plain]
          show wr.cell? _ = _
          have h2 := HW.out
          unfold World.cell?
          simp only [h2]
          rw [if_neg (by simp)]
          simp only [List.getElem?_toArray, reps]
          rw [List.getElem?_append_left (by simp; omega), List.getElem?_replicate, if_pos (by omega)]
        · cases hj
      have HS := Aside0.mk hsrc
      have HM := Aside0.mk hmin
      clear hsrc hmin
      go_wp2_with fail
      go_region_law ((refine step_copy_splice rfl (.tmp 41) (.tmp 44) 30 30 rfl 38 Try.underlying30 (by kernel_rfl) (some ⟨w.heap.size, m, none⟩) (some ⟨w.heap.size, 0, none⟩) (n - m) (n - m) m n (by simp [Act.eval, Act.put]) (by simp [Act.eval, Act.put]) w.heap.size m (reps m n v) 38 HW.out (List.replicate (Nat.min m (n - m)) (.int .u32 v)) List.length_replicate (fun _ => ⟨rfl, _, rfl, HS.out⟩) (by rw [List.length_replicate, reps_len m n v hmn]; have := HM.out; omega) (fun u hu => by rw [(List.mem_replicate.1 hu).2]; rfl) w.heap.size w (below_drew HB.out) (Nat.le_refl _) ?_; intro w3 hw3 hb3))
      have HW3 := Aside0.mk (show w3.heap[w.heap.size]? = some (.cells (reps (m + Nat.min m (n - m)) n v).toArray 38 (0, 0)) from by
        have h := hw3.out
        rw [reps_splice m n _ v (by have := HM.out; omega)] at h
        exact h)
      have HB3 := Aside0.mk hb3
      have hp : 1 ≤ Nat.min m (n - m) := Nat.le_min.2 ⟨hm1, by omega⟩
      have hM := HM.out
      clear hw3 hb3
      go_simp
      rw [show IntKind.i64.wrap ((m : Int) + ((Nat.min m (n - m) : Nat) : Int)) = ((m + Nat.min m (n - m) : Nat) : Int) by rw [IntWalk.i64_in _ (by omega)]; omega]
      go_wp2_with fail
      go_roundw
      case rel => exact ⟨m + Nat.min m (n - m), by omega, by omega, by go_num, HW3, HB3⟩
      case measure => simp [intOf]; omega
    · have hmn' : m = n := by omega
      subst hmn'
      go_wp2_with fail
      go_ret
      exact ⟨_, rfl, Nat.le_refl _, HW.out, HB.out⟩
end Go.Proofs.Ytcfklhgaajmoeaa.Lin
