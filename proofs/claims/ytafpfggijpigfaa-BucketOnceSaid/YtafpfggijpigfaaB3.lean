import Derived.Test.YtafpfggijpigfaaB2
namespace Go.Proofs.Ytafpfggijpigfaa.Bkt
open Go.RowKit Go.Proofs.YtafpfggijpigfaaW.PrintWords Go.Proofs.YtafpfggijpigfaaW.PrintLast Go.Proofs.YtafpfggijpigfaaW.PrintMore
attribute [local go_sem] max2_int min2_int max_two min_two max_three min_three max_four min_four
set_option linter.unusedVariables false
set_option linter.unusedSimpArgs false
theorem new32 (n : Nat) (w : World) (hn : n ≤ 4096) :
    Calls Try.prog 32 #[.int .i64 n] w fun r w' => ∃ ga gb : Nat, r = .returned (.tuple #[.pointer (some ⟨ga, 0, none⟩), .int .i64 0]) ∧ Ar w' ga gb n n ∧ Bk w' gb (List.replicate n 0) ∧ w.heap.size ≤ ga ∧ w.heap.size ≤ gb ∧ Below w.heap.size w w' := by
  have hmk := print_make (P := Try.prog) 72 5 .u8 1 Try.underlying72 info5 (by decide) n (by omega)
  go_enter Try.func32, Try.ntmps32
  go_wp2
  go_ret2
  refine ⟨_, w.heap.size, rfl, ?_, ?_, by simp, Nat.le_refl _, below_alloc (below_alloc (Below.refl _ _) _) _⟩
  · have h := blk_new (w.alloc (.cells (madeCells #[.int .u8 0] n) 5)) (.cells #[.slice (some ⟨w.heap.size, 0, none⟩) n n] 74)
    rw [World.size_alloc] at h
    exact h
  · have h := blk_alloc (blk_new w (.cells (madeCells #[.int .u8 0] n) 5)) (.cells #[.slice (some ⟨w.heap.size, 0, none⟩) n n] 74)
    have e : madeCells #[Value.int .u8 0] n = (nums .u8 (List.replicate n 0)).toArray := by
      apply Array.ext
      · rw [size_madeCells]; simp [nums]
      · intro i h1 h2
        simp [madeCells, nums, Nat.mod_one]
    unfold Bk
    rw [← e]
    exact h
theorem of37 (s : ByteArray) (w : World) (hs : s.size ≤ 4096) :
    Calls Try.prog 37 #[.string s] w fun r w' => ∃ ga gb c : Nat, r = .returned (.tuple #[.pointer (some ⟨ga, 0, none⟩), .int .i64 0]) ∧ s.size ≤ c ∧ Ar w' ga gb s.size c ∧ ReadsInt w' .u8 (some ⟨gb, 0, none⟩) s.size (bytesOf s) ∧ w.heap.size ≤ ga ∧ w.heap.size ≤ gb ∧ Below w.heap.size w w' ∧ gb < w'.heap.size := by
  have kb := fun W => print_bytes (P := Try.prog) 9 72 5 Try.underlying9 Try.underlying72 Try.underlying5 s W
  go_enter Try.func37, Try.ntmps37
  go_wp2
  go_ret2
  have h1 : w.heap.size < (Lib.bytesWorld w 5 s).heap.size := by rw [Lib.bytesWorld_size]; omega
  refine ⟨_, w.heap.size, grownCap w s.size 0 5, rfl, grownCap_ge _ _ _ _, ?_, ?_, by omega, Nat.le_refl _, below_alloc (bytes_below (Below.refl _ _) (Nat.le_refl _) 5 s) _, by simp; omega⟩
  · exact blk_new _ _
  · exact (bytes_reads w 5 s (by omega)).allocS _
theorem of37_no (s : ByteArray) (w : World) (hs : 4096 < s.size) :
    Calls Try.prog 37 #[.string s] w fun r w' => r = .returned (.tuple #[.pointer none, .int .i64 1]) ∧ w = w' := by
  go_enter Try.func37, Try.ntmps37
  go_wp2
  go_ret2
  exact ⟨rfl, rfl⟩
theorem bytes35 (ga gb n : Nat) (xs : List Int) (w : World) (ha : Ar w ga gb n n) (hb : Bk w gb xs) (hl : xs.length = n) (hm : n ≤ 9223372036854775807) :
    Calls Try.prog 35 #[.pointer (some ⟨ga, 0, none⟩)] w fun r w' => r = .returned (.string (strOfNums xs)) ∧ w = w' := by
  have a0 : w.cell? ⟨ga, 0, none⟩ = some (.slice (some ⟨gb, 0, none⟩) n n) := blk_cell ha 0
  have hx : ReadsInt w .u8 (some ⟨gb, 0, none⟩) n xs := ⟨hl, hm, fun _ => ⟨_, rfl, fun j hj => by rw [add_plain]; exact hb.cell j (by omega)⟩⟩
  have kb := string_of_reads (P := Try.prog) (src := 72) (dst := 9) (e := 5) (c := n) Try.underlying72 Try.underlying5 Try.underlying9 hx
  clear ha hb hl hx
  go_enter Try.func35, Try.ntmps35
  go_wp2
  go_ret
  exact ⟨rfl, rfl⟩
theorem Cur.ch {S : List Nat} {w w1 : World} {gc ga : Nat} {i e : Int} (h : Cur w gc ga i e) (hc : Ch S w w1) (hn : gc ∉ S) : Cur w1 gc ga i e := hc.blk h hn
theorem Ar.ch {S : List Nat} {w w1 : World} {ga gb n c : Nat} (h : Ar w ga gb n c) (hc : Ch S w w1) (hn : ga ∉ S) : Ar w1 ga gb n c := hc.blk h hn
theorem Bk.ch {S : List Nat} {w w1 : World} {gb : Nat} {xs : List Int} (h : Bk w gb xs) (hc : Ch S w w1) (hn : gb ∉ S) : Bk w1 gb xs := hc.blk h hn
theorem Bk.dn {w : World} {gb : Nat} {xs : List Int} (h : Bk w gb xs) (q : Nat) : Bk (w.drewN q) gb xs := h
theorem Ar.dn {w : World} {ga gb n c : Nat} (h : Ar w ga gb n c) (q : Nat) : Ar (w.drewN q) ga gb n c := h
set_option maxHeartbeats 400000 in
theorem put33_4 (gc ga gb i n : Nat) (v : Int) (xs : List Int) (w : World) (hc : Cur w gc ga i 0) (ha : Ar w ga gb n n) (hb : Bk w gb xs) (hl : xs.length = n) (hm : n ≤ 4096) (h : i + 4 ≤ n) (h0 : 0 ≤ v) (h1 : v < 4294967296) :
    Calls Try.prog 33 #[.pointer (some ⟨gc, 0, none⟩), .int .i64 4, .int .u32 v] w fun r w' => r = .returned (.tuple #[]) ∧ Cur w' gc ga ((i : Int) + 4) 0 ∧ Bk w' gb (splice xs i (bes 4 v)) ∧ Ch [gc, gb] w w' := by
  obtain ⟨c0, c1, c2⟩ := hc.cells
  have HC := Aside0.mk hc
  have HA := Aside0.mk ha
  have HB := Aside0.mk hb
  have HN := Aside0.mk (show gc ≠ gb from blk_ne hc hb (by decide))
  have HL := Aside0.mk hl
  clear hc ha hb hl
  go_enter Try.func33, Try.ntmps33
  go_wp2_with fail
  go_region_with (first | (go_at_call 50; refine (put50_4 ga gb i n v xs _ (HA.out.dn 1) (HB.out.dn 1) HL.out (by omega) h h0 h1).mono ?_; rintro r w1 ⟨rfl, k1, k2⟩; have d0 := ((HC.out.dn 1).ch k2 (by simp; exact HN.out)).cells; have HC1 := Aside0.mk ((HC.out.dn 1).ch k2 (by simp; exact HN.out)); have K1 := Aside0.mk k1; have K2 := Aside0.mk k2; obtain ⟨d0, d1, d2⟩ := d0; clear k1 k2) | (go_at_call 49; refine (moved49 gc ga i 0 4 0 _ HC1.out (by omega) (by omega)).mono ?_; rintro r w2 ⟨rfl, m1, m2⟩; have M1 := Aside0.mk m1; have M2 := Aside0.mk m2; clear m1 m2))
  all_goals
    go_end0
    exact ⟨rfl, by have h := M1.out; rw [erE0] at h; exact h, K1.out.ch M2.out (by simp; exact fun e => HN.out e.symm), ((((Ch.refl _ _).drew).trans (K2.out.mono (by simp))).trans (M2.out.mono (by simp)))⟩
set_option maxHeartbeats 400000 in
theorem put33_1 (gc ga gb i n : Nat) (v : Int) (xs : List Int) (w : World) (hc : Cur w gc ga i 0) (ha : Ar w ga gb n n) (hb : Bk w gb xs) (hl : xs.length = n) (hm : n ≤ 4096) (h : i + 1 ≤ n) (h0 : 0 ≤ v) (h1 : v < 256) :
    Calls Try.prog 33 #[.pointer (some ⟨gc, 0, none⟩), .int .i64 1, .int .u32 v] w fun r w' => r = .returned (.tuple #[]) ∧ Cur w' gc ga ((i : Int) + 1) 0 ∧ Bk w' gb (splice xs i (bes 1 v)) ∧ Ch [gc, gb] w w' := by
  obtain ⟨c0, c1, c2⟩ := hc.cells
  have HC := Aside0.mk hc
  have HA := Aside0.mk ha
  have HB := Aside0.mk hb
  have HN := Aside0.mk (show gc ≠ gb from blk_ne hc hb (by decide))
  have HL := Aside0.mk hl
  clear hc ha hb hl
  go_enter Try.func33, Try.ntmps33
  go_wp2_with fail
  go_region_with (first | (go_at_call 50; refine (put50_1 ga gb i n v xs _ (HA.out.dn 1) (HB.out.dn 1) HL.out (by omega) h h0 h1).mono ?_; rintro r w1 ⟨rfl, k1, k2⟩; have d0 := ((HC.out.dn 1).ch k2 (by simp; exact HN.out)).cells; have HC1 := Aside0.mk ((HC.out.dn 1).ch k2 (by simp; exact HN.out)); have K1 := Aside0.mk k1; have K2 := Aside0.mk k2; obtain ⟨d0, d1, d2⟩ := d0; clear k1 k2) | (go_at_call 49; refine (moved49 gc ga i 0 1 0 _ HC1.out (by omega) (by omega)).mono ?_; rintro r w2 ⟨rfl, m1, m2⟩; have M1 := Aside0.mk m1; have M2 := Aside0.mk m2; clear m1 m2))
  all_goals
    go_end0
    exact ⟨rfl, by have h := M1.out; rw [erE0] at h; exact h, K1.out.ch M2.out (by simp; exact fun e => HN.out e.symm), ((((Ch.refl _ _).drew).trans (K2.out.mono (by simp))).trans (M2.out.mono (by simp)))⟩
set_option maxHeartbeats 400000 in
theorem puttext34 (gc ga gb i n : Nat) (s : ByteArray) (xs : List Int) (w : World) (hc : Cur w gc ga i 0) (ha : Ar w ga gb n n) (hb : Bk w gb xs) (hl : xs.length = n) (hm : n ≤ 4096) (h : i + s.size ≤ n) :
    Calls Try.prog 34 #[.pointer (some ⟨gc, 0, none⟩), .string s] w fun r w' => r = .returned (.tuple #[]) ∧ Cur w' gc ga ((i : Int) + s.size) 0 ∧ Bk w' gb (splice xs i (bytesOf s)) ∧ Ch [gc, gb] w w' := by
  obtain ⟨c0, c1, c2⟩ := hc.cells
  have HC := Aside0.mk hc
  have HA := Aside0.mk ha
  have HB := Aside0.mk hb
  have HN := Aside0.mk (show gc ≠ gb from blk_ne hc hb (by decide))
  have HL := Aside0.mk hl
  clear hc ha hb hl
  go_enter Try.func34, Try.ntmps34
  go_wp2_with fail
  go_region_with (first | (go_at_call 51; refine (puttext51 ga gb i n s xs _ (HA.out.dn 1) (HB.out.dn 1) HL.out (by omega) h).mono ?_; rintro r w1 ⟨rfl, k1, k2⟩; have d0 := ((HC.out.dn 1).ch k2 (by simp; exact HN.out)).cells; have HC1 := Aside0.mk ((HC.out.dn 1).ch k2 (by simp; exact HN.out)); have K1 := Aside0.mk k1; have K2 := Aside0.mk k2; obtain ⟨d0, d1, d2⟩ := d0; clear k1 k2) | (go_at_call 49; refine (moved49 gc ga i 0 s.size 0 _ HC1.out (by omega) (by omega)).mono ?_; rintro r w2 ⟨rfl, m1, m2⟩; have M1 := Aside0.mk m1; have M2 := Aside0.mk m2; clear m1 m2))
  all_goals
    go_end0
    exact ⟨rfl, by have h := M1.out; rw [erE0] at h; exact h, K1.out.ch M2.out (by simp; exact fun e => HN.out e.symm), ((((Ch.refl _ _).drew).trans (K2.out.mono (by simp))).trans (M2.out.mono (by simp)))⟩
end Go.Proofs.Ytafpfggijpigfaa.Bkt
