import Derived.Test.YtcfklhgaajmoeaaT8
namespace Go.Proofs.Ytcfklhgaajmoeaa.Lin
open Go.RowKit Go.Proofs.YtcfklhgaajmoeaaW.PrintWords Go.Proofs.YtcfklhgaajmoeaaW.PrintLast Go.Proofs.YtcfklhgaajmoeaaW.PrintMore
set_option linter.unusedVariables false
set_option linter.unusedSimpArgs false
theorem C_reps {W : World} {g n : Nat} {v : Int} (hn : n ≤ 6) (h : W.heap[g]? = some (.cells (reps n n v).toArray 38 (0, 0))) : Kd.C (Kd.int .u32) W (some ⟨g, 0, none⟩) n (List.replicate n v) := by
  refine ⟨List.length_replicate, by omega, fun _ => ⟨_, rfl, fun j p hj => ⟨[.int .u32 p], rfl, rfl, fun i u hu => ?_⟩⟩⟩
  rw [(one_at hu).1, (one_at hu).2]
  rw [List.getElem?_replicate] at hj
  split at hj
  · rename_i hjl
    injection hj with hj
    subst hj
    rw [add_plain]
    unfold World.cell?
    simp only [h]
    rw [if_neg (by simp)]
    simp only [List.getElem?_toArray, reps]
    rw [List.getElem?_append_left (by rw [List.length_replicate]; exact (show j * 1 + 0 < n by omega)), List.getElem?_replicate]
    have h3 : j * 1 + 0 < n := by omega
    exact if_pos h3
  · cases hj
theorem made_reps (n : Nat) : madeCells #[.int .u32 0] n = (reps n n 0).toArray := by
  rw [reps_made n 0]
  simp [reps]
theorem made_blk (W : World) (n : Nat) : (W.alloc (.cells (madeCells #[.int .u32 0] n) 38)).heap[W.heap.size]? = some (.cells (reps n n 0).toArray 38 (0, 0)) := by
  rw [made_reps]
  exact blk_new _ _
theorem isDim33 (d : Int) (w : World) (h1 : 1 ≤ d) (h6 : d ≤ 6) : Calls Try.prog 33 #[.int .i64 d] w fun e w' => e = .returned (.bool true) ∧ w = w' := by
  go_enter Try.func33, Try.ntmps33
  go_wp2
  go_ret
  exact ⟨rfl, rfl⟩
set_option maxHeartbeats 1000000 in
theorem whole25 (n : Nat) (w : World) (h1 : 1 ≤ n) (h6 : n ≤ 6) :
    Calls Try.prog 25 #[.int .i64 n] w fun e w' => ∃ g1 g2 : Nat, e = .returned (.agg #[.slice (some ⟨g1, 0, none⟩) n n, .slice (some ⟨g2, 0, none⟩) n n]) ∧ w'.heap[g1]? = some (.cells (reps n n 0).toArray 38 (0, 0)) ∧ w'.heap[g2]? = some (.cells (reps n n 4294967295).toArray 38 (0, 0)) ∧ Below w.heap.size w w' ∧ w.heap.size ≤ g1 ∧ w.heap.size ≤ g2 := by
  have hmk := print_make (P := Try.prog) 30 38 .u32 4 Try.underlying30 info38 (by decide) n (by omega)
  have hu33 := Try.underlying33
  go_enter Try.func25, Try.ntmps25
  go_wp2_with (go_at_call 33; refine (isDim33 _ _ (by omega) (by omega)).mono ?_; rintro e w' ⟨rfl, rfl⟩)
  have hB := below_alloc (Below.refl w.heap.size w) (Obj.cells #[Value.slice none 0 0, Value.slice none 0 0] 33)
  have hb0 := blk_new w (Obj.cells #[Value.slice none 0 0, Value.slice none 0 0] 33)
  have hbs : w.heap.size < (w.alloc (Obj.cells #[Value.slice none 0 0, Value.slice none 0 0] 33)).heap.size := by simp
  generalize w.alloc (Obj.cells #[Value.slice none 0 0, Value.slice none 0 0] 33) = W at hB hb0 hbs ⊢
  obtain ⟨q0, q1⟩ := blk_cell0 hb0
  have q2 := blk_frozen hb0 0
  have q3 := blk_frozen hb0 1
  have HB := Aside0.mk hB
  clear hb0 hB
  go_region_held3 (fun w' => Below w.heap.size w w')
    ((repeat (first | assumption | exact HB.out | apply below_alloc | apply below_drew | refine Below.setCell ?_ (by exact Nat.le_refl _) _)))
    ((go_at_call 34; have hz : Below w.heap.size w _ := (by assumption); refine (repeat34 _ _ 4294967295 n _ h1 h6 ?_).mono ?_; (go_simp); rintro e wa ⟨ga, rfl, hga, hra, hba⟩; have hBW := below_step hz hba; have d0 := pw_cell_below hba (a := ⟨w.heap.size, 0, none⟩) (v := .slice none 0 0) (by go_simp); have d1 := pw_cell_below hba (a := ⟨w.heap.size, 1, none⟩) (v := .slice none 0 0) (by go_simp); have d2 := fz_below hba (a := ⟨w.heap.size, 0, none⟩) (v := .slice none 0 0) (by go_simp) (by go_simp); have d3 := fz_below hba (a := ⟨w.heap.size, 1, none⟩) (v := .slice none 0 0) (by go_simp) (by go_simp); have hsB := hba.size; (try simp at hsB); have hsW : w.heap.size < wa.heap.size := Nat.lt_of_lt_of_le hbs (by omega); have hsN := Nat.ne_of_gt hsW; have hsM := Nat.ne_of_lt hsW))
  all_goals
    go_wp2_with fail
    refine bodyPost_ret (v := .agg #[.slice (some ⟨_, 0, none⟩) n n, .slice (some ⟨ga, 0, none⟩) n n]) (by simp [results, Try.results25, go_sem, d0, d1, hsW, hsN, hsM, World.cell?_alloc_some]; try rfl) rfl ⟨_, ga, rfl, ?_, ?_, ?_, ?_, ?_⟩
    · first
        | exact blk_other (blk_other ((hba.block _ (by first | (simp; done) | (simp; omega))).trans (blk_drew (blk_alloc (made_blk _ _) _))) (by simp only []; omega) _) (by simp only []; omega) _
        | (have h := made_blk (W.alloc (.cells #[.int .u32 4294967295] 38)) n
           have h2 := (hba.block _ (by first | (simp; done) | (simp; omega))).trans (blk_drew h)
           refine blk_other (blk_other (g := W.heap.size + 1) ?_ (by simp only []; omega) _) (by simp only []; omega) _
           simpa using h2)
        | (have h := made_blk ((wa.setCell ⟨w.heap.size, 0, none⟩ (.slice (some ⟨wa.heap.size, 0, none⟩) n n)).setCell ⟨w.heap.size, 1, none⟩ (.slice (some ⟨ga, 0, none⟩) n n)) n; simpa using h)
    · simp at hga
      first
        | exact blk_other (blk_other hra (by simp only []; omega) _) (by simp only []; omega) _
        | exact blk_alloc (blk_other (blk_other hra (by simp only []; omega) _) (by simp only []; omega) _) _
    · repeat (first | assumption | exact HB.out | apply below_alloc | refine Below.setCell ?_ (by exact Nat.le_refl _) _)
    · first | omega | (simp; omega)
    · simp at hga; omega
end Go.Proofs.Ytcfklhgaajmoeaa.Lin
