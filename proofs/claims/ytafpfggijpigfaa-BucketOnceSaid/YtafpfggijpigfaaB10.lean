import Derived.Test.YtafpfggijpigfaaB9
namespace Go.Proofs.Ytafpfggijpigfaa.Bkt
open Go.RowKit Go.Proofs.YtafpfggijpigfaaW.PrintWords Go.Proofs.YtafpfggijpigfaaW.PrintLast Go.Proofs.YtafpfggijpigfaaW.PrintMore
attribute [local go_sem] max2_int min2_int max_two min_two max_three min_three max_four min_four
set_option linter.unusedVariables false
set_option linter.unusedSimpArgs false
theorem bytesOf_Bytes (s : ByteArray) : Bytes (bytesOf s) := by
  intro x hx
  simp only [bytesOf, List.mem_map] at hx
  obtain ⟨b, _, rfl⟩ := hx
  have := b.toNat_lt
  omega
theorem eOf0 {xs : List Int} {p : Nat} (h : p ≤ xs.length) : eOf xs p = 0 := by simp [eOf, h]
theorem eOf1 {xs : List Int} {p : Nat} (h : ¬ p ≤ xs.length) : eOf xs p = 1 := by simp [eOf, h]
theorem DS.dr {w : World} {gc ga gb n c p : Nat} {xs : List Int} (h : DS w gc ga gb n c xs p) : DS w.drew gc ga gb n c xs p := ⟨h.cu, h.a, h.r, h.ha, h.hb⟩
theorem DS.set {w : World} {gc ga gb n c p : Nat} {xs : List Int} (h : DS w gc ga gb n c xs p) {q : Addr} (hq : gc < q.block) (v : Value) : DS (w.setCell q v) gc ga gb n c xs p :=
  ⟨blk_far h.cu (by omega) v, blk_far h.a (by have := h.ha; omega) v, ReadsInt.blk h.r (Below.heap_setCell w q v gb (by have := h.hb; omega)), h.ha, h.hb⟩
def KeyBlk (w : World) (gk : Nat) (ks : List Int) (d : Nat) : Prop := w.heap[gk]? = some (.cells (nums .u32 (pad ks d)).toArray 51 (0, 0))
theorem KeyBlk.made (w : World) (d : Nat) : KeyBlk (w.alloc (.cells (madeCells #[.int .u32 0] d) 51)) w.heap.size [] d := by
  have e : madeCells #[Value.int .u32 0] d = (nums .u32 (pad [] d)).toArray := by
    apply Array.ext
    · rw [size_madeCells]; simp [nums, pad]
    · intro i h1 h2
      simp [madeCells, nums, pad, Nat.mod_one]
  unfold KeyBlk
  rw [← e]
  exact blk_new _ _
theorem pad_set {ks : List Int} {d : Nat} (h : ks.length < d) (v : Int) : (pad ks d).set ks.length v = pad (ks ++ [v]) d := by
  unfold pad
  rw [List.set_append_right _ _ (Nat.le_refl _), Nat.sub_self]
  obtain ⟨e, he⟩ : ∃ e, d - ks.length = e + 1 := ⟨d - ks.length - 1, by omega⟩
  rw [he, List.replicate_succ, List.set_cons_zero]
  simp only [List.append_assoc, List.cons_append, List.nil_append, List.length_append, List.length_cons, List.length_nil]
  congr 3
  omega
theorem KeyBlk.set {w : World} {gk d : Nat} {ks : List Int} (h : KeyBlk w gk ks d) (hd : ks.length < d) (v : Int) : KeyBlk (w.setCell ⟨gk, ks.length, none⟩ (.int .u32 v)) gk (ks ++ [v]) d := by
  have := blk_set h ks.length (.int .u32 v)
  rw [KeyBlk, this, ← pad_set hd]
  simp [nums, List.map_set]
theorem KeyBlk.cell {w : World} {gk d j : Nat} {ks : List Int} (h : KeyBlk w gk ks d) (hk : ks.length ≤ d) (hj : j < d) : w.cell? ⟨gk, j, none⟩ = some (.int .u32 ((pad ks d).getD j 0)) := by
  have hl := pad_length hk
  rw [blk_cell h j]; simp [nums, hl, hj]
theorem DS.keep {w w1 : World} {gc ga gb n c p : Nat} {xs : List Int} (h : DS w gc ga gb n c xs p) (hk : ∀ k, k ≤ gc → w1.heap[k]? = w.heap[k]?) : DS w1 gc ga gb n c xs p :=
  ⟨(hk gc (Nat.le_refl _)).trans h.cu, (hk ga (by have := h.ha; omega)).trans h.a, ReadsInt.blk h.r (hk gb (by have := h.hb; omega)), h.ha, h.hb⟩
theorem KeyBlk.row {w : World} {gk d base : Nat} {ks : List Int} (h : KeyBlk w gk ks d) (hk : ks.length = d) (hd : d ≤ 6) (hb : base ≤ gk) : (Kd.int .u32).R 51 w base (fun k => k = gk) (.slice (some ⟨gk, 0, none⟩) ks.length d) ks := by
  subst hk
  unfold KeyBlk at h
  rw [pad_full rfl] at h
  refine Kd.R_of_own ⟨by simp [encs], Or.inr ⟨gk, ks.length, _, rfl, hb, h, Nat.le_refl _, Nat.le_trans hd (by decide), by simp [nums], ?_⟩⟩ (fun k hk => by simp [Value.ownBlock] at hk; exact hk.symm)
  simp only [nums, encs]
  rw [List.take_of_length_le (by simp)]
theorem cell_ne {w : World} {q p : Addr} {v : Value} (h : q.block ≠ p.block) : (w.setCell q v).cell? p = w.cell? p := by
  unfold World.cell?
  rw [Below.heap_setCell w q v p.block (fun e => h e.symm)]
theorem decK_length (xs : List Int) (p j : Nat) : (decK xs p j).length = j := by simp [decK]
theorem decK_succ (xs : List Int) (p j : Nat) : decK xs p (j + 1) = decK xs p j ++ [getV xs (p + 4 * j) 4] := by simp [decK, List.range_succ]
set_option maxHeartbeats 4000000 in
theorem decode_main (k : Nat) (s : ByteArray) (d : Nat) (a2 : Int) (w : World) (hd1 : 1 ≤ d) (hd6 : d ≤ 6) (hs : s.size ≤ 4096) (h1 : bucket_isCap.f a2 = some true) (R : Option (List S38)) (hR : decR (bytesOf s) d (getV (bytesOf s) 0 1).toNat 1 = R) (r1 : List S38) (r2 : Int)
    (hfin : decFin k s (d : Int) a2 R = some (r1, r2)) :
    Calls Try.prog 17 #[.string s, .int .i64 d, .int .i64 a2] w fun e w' => ∃ v0_ : Value, e = .returned (.tuple #[v0_, .int .i64 r2]) ∧ Kd.S k38 38 w' w.heap.size (fun _ => True) v0_ r1 ∧ Below w.heap.size w w' := by
  have H1 := Aside0.mk h1
  have HR := Aside0.mk hR
  have HF := Aside0.mk hfin
  have hu38 := Try.underlying38
  have HB := Aside0.mk (Below.refl w.heap.size w)
  have hbx := bytesOf_Bytes s
  have HBX := Aside0.mk hbx
  have hv0 := getV_u8 (bytesOf s) hbx 0
  have hmk := print_make (P := Try.prog) 36 51 .u32 4 Try.underlying36 info51 (by decide) d (by omega)
  clear h1 hR hfin hbx
  go_enter Try.func17, Try.ntmps17
  go_wp2_with (first | (go_at_call 30; go_loud (refine (bucket_isCap.calls a2 true _ H1.out).mono ?_); rintro e w1 ⟨rfl, hb⟩; have HB1 := Aside0.mk hb.below; clear hb HB; have HB := HB1; clear HB1) | (go_at_call 37; go_loud (refine (of37 s _ hs).mono ?_); rintro e w5 ⟨ga, gb, c, rfl, hc, ka, kr, hga, hgb, hb, hgbl⟩; have HGBL := Aside0.mk hgbl; have HGA := Aside0.mk (blk_lt ka); have HGAw := Aside0.mk (Nat.le_trans HB.out.size hga); have HGBw := Aside0.mk (Nat.le_trans HB.out.size hgb); have HKA := Aside0.mk ka; have HKR := Aside0.mk kr; have HB1 := Aside0.mk (below_step HB.out hb); clear hb HB hga hgb ka kr hgbl; have HB := HB1; clear HB1))
  have hds0 : DS (w5.alloc (.cells #[.pointer (some ⟨ga, 0, none⟩), .int .i64 0, .int .i64 0] 58)) w5.heap.size ga gb s.size c (bytesOf s) 0 := ⟨blk_new _ _, blk_alloc HKA.out _, HKR.out.allocS _, HGA.out, HGBL.out⟩
  have HDS0 := Aside0.mk hds0
  have HBA := Aside0.mk (below_alloc HB.out (.cells #[.pointer (some ⟨ga, 0, none⟩), .int .i64 0, .int .i64 0] 58))
  have HGC := Aside0.mk (show w.heap.size ≤ w5.heap.size from HB.out.size)
  clear hds0
  go_wp2_with (go_at_call 38; go_loud (refine (ds_get HDS0.out hc hs 1 (Or.inl rfl) (by omega) HBX.out).mono ?_); rintro r w6 ⟨rfl, k1, k2⟩; have HDS := Aside0.mk (show DS w6 w5.heap.size ga gb s.size c (bytesOf s) 1 from k1); have HB6 := Aside0.mk (k2.below HBA.out (fun k hk => by simp at hk; rw [hk]; exact HGC.out)); clear k1 k2)
  obtain ⟨n0, hn0, hn0e⟩ : ∃ n0 : Nat, n0 ≤ 255 ∧ getV (bytesOf s) 0 1 = (n0 : Int) := ⟨(getV (bytesOf s) 0 1).toNat, by omega, by omega⟩
  rw [hn0e] at HR ⊢
  rw [Int.toNat_natCast] at HR
  clear HB HBA HDS0 HKA HKR HGAw HGBw hn0e hv0
  go_loopw [11, 12] (fun v11 v12 wr => ∃ (n p : Nat) (acc : List S38) (A11 : Option Addr) (c11 : Nat), v12 = .int .u32 n ∧ v11 = .slice A11 acc.length c11 ∧ p ≤ 5000 ∧ acc.length + n ≤ 255 ∧ Aside0 (DS wr w5.heap.size ga gb s.size c (bytesOf s) p) ∧ Aside0 (Kd.S k38 38 wr w.heap.size (fun k => w5.heap.size < k) (.slice A11 acc.length c11) acc) ∧ Aside0 ((decR (bytesOf s) d n p).map (acc ++ ·) = R) ∧ Aside0 (Below w.heap.size w wr)) (fun _ v _ => (intOf v).toNat)
  case atStart => exact ⟨n0, 1, [], none, 0, rfl, rfl, by omega, by simpa using hn0, HDS, ⟨Kd.S_nil _ _ _ _ _⟩, ⟨by rw [HR.out]; cases R <;> simp⟩, HB6⟩
  case round =>
    clear HDS HB6 HR
    obtain ⟨n, p, acc, A11, c11, rfl, rfl, hp, hacc, HDS, HS, HR, HB⟩ := hrel
    obtain ⟨wo, rfl⟩ : ∃ wo : World, wo = wr := ⟨_, rfl⟩
    obtain ⟨d0, d1, d2⟩ := HDS.out.cu.cells
    by_cases hpl : p ≤ (bytesOf s).length
    · rw [eOf0 hpl] at d2
      have HPL := Aside0.mk hpl
      rw [bytesOf_length] at hpl
      rcases Nat.eq_zero_or_pos n with hn0 | hn0
      · subst hn0
        have hRR := HR.out
        simp only [decR, if_pos HPL.out, Option.map_some, List.append_nil] at hRR
        subst hRR
        have hff := HF.out
        simp only [decFin] at hff
        obtain ⟨⟨t1, t2⟩, he, hff⟩ := Option.bind_eq_some_iff.mp hff
        dsimp only at hff
        have HE := Aside0.mk he
        clear he HR HF
        by_cases ht2 : t2 = 0
        · subst ht2
          by_cases hts : t1.toList = s.toList
          · rw [if_pos ⟨rfl, hts⟩] at hff
            simp only [Option.some.injEq, Prod.mk.injEq] at hff
            obtain ⟨rfl, rfl⟩ := hff
            have b1 : (t1.toList == s.toList) = true := by simp [hts]
            have b2 : decide (t1.toList = s.toList) = true := decide_eq_true hts
            clear hts
            go_wp2_with (first | (go_at_call 11; go_loud (refine (bucket_Encode.calls k A11 c11 acc (d : Int) a2 t1 0 _ (Kd.S_reads' HS.out).2.2 (Kd.S_reads' HS.out).2.1 HE.out).mono ?_); rintro e w7 ⟨rfl, hb⟩; have HB7 := Aside0.mk hb; clear hb))
            go_ret2
            exact ⟨.slice A11 acc.length c11, rfl, Kd.S_mono (Kd.S_below HS.out HB7.out) (fun _ _ => trivial), below_step HB.out HB7.out⟩
          · rw [if_neg (fun hh => hts hh.2)] at hff
            simp only [Option.some.injEq, Prod.mk.injEq] at hff
            obtain ⟨rfl, rfl⟩ := hff
            have b1 : (t1.toList == s.toList) = false := by simp [hts]
            have b2 : decide (t1.toList = s.toList) = false := decide_eq_false hts
            clear hts
            go_wp2_with (first | (go_at_call 11; go_loud (refine (bucket_Encode.calls k A11 c11 acc (d : Int) a2 t1 0 _ (Kd.S_reads' HS.out).2.2 (Kd.S_reads' HS.out).2.1 HE.out).mono ?_); rintro e w7 ⟨rfl, hb⟩; have HB7 := Aside0.mk hb; clear hb))
            go_ret2
            exact ⟨.slice none 0 0, rfl, Kd.S_nil _ _ _ _ _, below_step HB.out HB7.out⟩
        · rw [if_neg (fun hh => ht2 hh.1)] at hff
          simp only [Option.some.injEq, Prod.mk.injEq] at hff
          obtain ⟨rfl, rfl⟩ := hff
          have b1 : (t2 != 0) = true := by simp [ht2]
          clear ht2
          go_wp2_with (first | (go_at_call 11; go_loud (refine (bucket_Encode.calls k A11 c11 acc (d : Int) a2 t1 t2 _ (Kd.S_reads' HS.out).2.2 (Kd.S_reads' HS.out).2.1 HE.out).mono ?_); rintro e w7 ⟨rfl, hb⟩; have HB7 := Aside0.mk hb; clear hb))
          go_ret2
          exact ⟨.slice none 0 0, rfl, Kd.S_nil _ _ _ _ _, below_step HB.out HB7.out⟩
      · obtain ⟨n1, hn1⟩ : ∃ n1, n = n1 + 1 := ⟨n - 1, by omega⟩
        have hRR := HR.out
        rw [hn1] at hRR
        simp only [decR, if_pos HPL.out, Option.map_map] at hRR
        have HRR := Aside0.mk hRR
        have HN1 := Aside0.mk hn1
        clear hRR hn1
        go_wp2_with fail
        have HGCL := Aside0.mk (show w5.heap.size < wo.heap.size from blk_lt HDS.out.cu)
        have HKB := Aside0.mk ((blk_alloc (KeyBlk.made wo d) (.cells #[.slice (some ⟨wo.heap.size, 0, none⟩) d d, .string ⟨#[]⟩] 38) : KeyBlk _ _ _ _))
        have HXB := Aside0.mk (show ((wo.alloc (.cells (madeCells #[.int .u32 0] d) 51)).alloc (.cells #[.slice (some ⟨wo.heap.size, 0, none⟩) d d, .string ⟨#[]⟩] 38)).heap[wo.heap.size + 1]? = some (.cells #[.slice (some ⟨wo.heap.size, 0, none⟩) d d, .string ⟨#[]⟩] 38 (0, 0)) by have h := blk_new (wo.alloc (.cells (madeCells #[.int .u32 0] d) 51)) (.cells #[.slice (some ⟨wo.heap.size, 0, none⟩) d d, .string ⟨#[]⟩] 38); rw [World.size_alloc] at h; exact h)
        have HDX := Aside0.mk (HDS.out.ch (below_alloc (below_alloc (Below.refl wo.heap.size wo) (.cells (madeCells #[.int .u32 0] d) 51)) (.cells #[.slice (some ⟨wo.heap.size, 0, none⟩) d d, .string ⟨#[]⟩] 38)))
        have HCX := Aside0.mk (((Ch.refl [w5.heap.size] wo).alloc (.cells (madeCells #[.int .u32 0] d) 51)).alloc (.cells #[.slice (some ⟨wo.heap.size, 0, none⟩) d d, .string ⟨#[]⟩] 38))
        clear d0 d1 d2
        go_loopw [14, 57] (fun v14 v57 wq => ∃ j : Nat, j ≤ d ∧ v57 = .int .i64 j ∧ Aside0 (DS wq w5.heap.size ga gb s.size c (bytesOf s) (p + 4 * j)) ∧ Aside0 (KeyBlk wq wo.heap.size (decK (bytesOf s) p j) d) ∧ Aside0 (wq.heap[wo.heap.size + 1]? = some (.cells #[.slice (some ⟨wo.heap.size, 0, none⟩) d d, .string ⟨#[]⟩] 38 (0, 0))) ∧ Aside0 (Ch [w5.heap.size] wo wq)) (fun _ v _ => d - (intOf v).toNat)
        case atStart => exact ⟨0, Nat.zero_le _, rfl, HDX, HKB, HXB, HCX⟩
        case round =>
          clear HKB HXB HDX HCX
          obtain ⟨j, hj, rfl, HDX, HKB, HXB, HCX⟩ := hrel
          by_cases hjd : j < d
          · have x0 := blk_cell HXB.out 0
            have hpj : p + 4 * j ≤ 1000000 := by omega
            go_wp2_with fail
            go_region_held3 (fun w' => w'.cell? ⟨wo.heap.size + 1, 0, none⟩ = some (.slice (some ⟨wo.heap.size, 0, none⟩) d d)) ((first | assumption | (refine fun hh => ?_; assumption) | (rw [cell_ne (by simp)]; assumption) | (refine fun hh => ?_; rw [cell_ne (by simp)]; assumption))) ((first | (go_at_call 38; go_loud (refine (ds_get HDX.out.dr hc hs 4 (Or.inr rfl) hpj HBX.out).mono ?_); rintro r w7 ⟨rfl, k1, k2⟩; have h7 := k2.blk (g := wo.heap.size + 1) HXB.out (by have := HGCL.out; simp; omega); have s7 := blk_cell h7 0; have K7 : KeyBlk w7 wo.heap.size (decK (bytesOf s) p j) d := k2.blk (g := wo.heap.size) HKB.out (by have := HGCL.out; simp; omega); have c7 := K7.cell (by rw [decK_length]; exact hj) hjd; have f7 := blk_frozen K7 j; have HX7 := Aside0.mk h7; have HK7 := Aside0.mk K7; have HD7 := Aside0.mk k1; have HC7 := Aside0.mk k2; clear h7 K7 k1 k2)))
            have HK8 := HK7.out.set (by rw [decK_length]; exact hjd) (getV (bytesOf s) (p + 4 * j) 4)
            rw [decK_length, ← decK_succ] at HK8
            have HX8 := blk_far HX7.out (p := ⟨wo.heap.size, j, none⟩) (by simp) (.int .u32 (getV (bytesOf s) (p + 4 * j) 4))
            have HD8 := HD7.out.set (q := ⟨wo.heap.size, j, none⟩) HGCL.out (.int .u32 (getV (bytesOf s) (p + 4 * j) 4))
            have HC8 := ((HCX.out.drew).trans HC7.out).setNew (p := ⟨wo.heap.size, j, none⟩) (Nat.le_refl _) (.int .u32 (getV (bytesOf s) (p + 4 * j) 4))
            go_wp2_with fail
            go_roundw
            case rel => exact ⟨j + 1, by omega, by go_num, ⟨by rw [show p + 4 * (j + 1) = p + 4 * j + 4 by omega]; exact HD8⟩, ⟨HK8⟩, ⟨HX8⟩, ⟨HC8⟩⟩
            case measure => simp [intOf]; omega
          · have hje : j = d := by omega
            subst hje
            have hpj : p + 4 * j ≤ 1000000 := by omega
            obtain ⟨m, hm, hme⟩ : ∃ m : Nat, m ≤ 255 ∧ getV (bytesOf s) (p + 4 * j) 1 = (m : Int) := ⟨(getV (bytesOf s) (p + 4 * j) 1).toNat, by have := getV_u8 (bytesOf s) HBX.out (p + 4 * j); omega, by have := getV_u8 (bytesOf s) HBX.out (p + 4 * j); omega⟩
            have HME := Aside0.mk hme
            have HGN := Aside0.mk (show wo.heap.size + 1 ∉ [w5.heap.size] by have := HGCL.out; simp; omega)
            have HGN0 := Aside0.mk (show wo.heap.size ∉ [w5.heap.size] by have := HGCL.out; simp; omega)
            clear hme
            go_wp2_with (first | (go_at_call 38; go_loud (refine (ds_get HDX.out hc hs 1 (Or.inl rfl) hpj HBX.out).mono ?_); rw [HME.out]; rintro r w7 ⟨rfl, k1, k2⟩; have HD7 := Aside0.mk k1; have HC7 := Aside0.mk k2; clear k1 k2) | (go_at_call 39; go_loud (refine (ds_text HD7.out hc hs m (by omega) (by omega)).mono ?_); rintro r w8 ⟨rfl, k1, k2⟩; have h8 := k2.blk (HC7.out.blk HXB.out HGN.out) HGN.out; have K8 : KeyBlk w8 wo.heap.size (decK (bytesOf s) p j) j := k2.blk (g := wo.heap.size) (HC7.out.blk (g := wo.heap.size) HKB.out HGN0.out) HGN0.out; have s8 := blk_cell h8 0; have s9 := blk_cell h8 1; have f9 := blk_frozen h8 1; have HX8 := Aside0.mk h8; have hz8 : wo.heap.size + 1 < w8.heap.size := blk_lt h8; have HK8 := Aside0.mk K8; have HD8 := Aside0.mk k1; have HC8 := Aside0.mk ((HCX.out.trans HC7.out).trans k2); clear h8 K8 k1 k2; have HW8 := Aside0.mk (show KeyBlk (w8.setCell ⟨wo.heap.size + 1, 1, none⟩ (.string (getT (bytesOf s) (p + 4 * j + 1) m))) wo.heap.size (decK (bytesOf s) p j) j from blk_far HK8.out (p := ⟨wo.heap.size + 1, 1, none⟩) (by simp) (.string (getT (bytesOf s) (p + 4 * j + 1) m))); have hmr := HW8.out.row (decK_length _ _ _) hd6 (Nat.le_trans HGC.out (Nat.le_of_lt HGCL.out)); rw [decK_length] at hmr; have hmm := k38_mkM (w8.setCell ⟨wo.heap.size + 1, 1, none⟩ (.string (getT (bytesOf s) (p + 4 * j + 1) m))) w.heap.size (fun k => k = wo.heap.size) (decX (bytesOf s) j p) hmr; have hmv : (decX (bytesOf s) j p).f1 = getT (bytesOf s) (p + 4 * j + 1) m := (by simp only [decX, HME.out, Int.toNat_natCast]); rw [hmv] at hmm; have HM8 := Aside0.mk hmm; clear hmr hmm hmv; have HC9 := Aside0.mk (HC8.out.setNew (p := ⟨wo.heap.size + 1, 1, none⟩) (by simp) (.string (getT (bytesOf s) (p + 4 * j + 1) m))); have HS8 := Aside0.mk (Kd.S_mono (Kd.S_step (Kd.S_bound HS.out) (w1 := w8.setCell ⟨wo.heap.size + 1, 1, none⟩ (.string (getT (bytesOf s) (p + 4 * j + 1) m))) (fun k hk hlt => HC9.out.block k hlt (by have h1 : w5.heap.size < k := hk.1; simp; omega))) (ok' := fun k => w5.heap.size < k ∧ ¬ k = wo.heap.size) (fun k hk => ⟨hk.1, by have h1 := hk.2.2.1; omega⟩)); have HB8 := Aside0.mk (HC9.out.below HB.out (fun k hk => by simp at hk; rw [hk]; exact HGC.out)); have HBS8 := Aside0.mk (show w.heap.size ≤ (w8.setCell ⟨wo.heap.size + 1, 1, none⟩ (.string (getT (bytesOf s) (p + 4 * j + 1) m))).heap.size from HB8.out.size); have HSZ8 := Aside0.mk (HC9.out.size); have HOK8 : Aside0 (∀ k, k = wo.heap.size → w5.heap.size < k ∧ some k ≠ (Value.slice A11 acc.length c11).ownBlock) := ⟨fun k hk => ⟨by rw [hk]; exact HGCL.out, fun he => by have := Kd.R_lt (Kd.S_R HS.out) k he.symm; omega⟩⟩; have HFR8 : Aside0 (∀ k, (w8.setCell ⟨wo.heap.size + 1, 1, none⟩ (.string (getT (bytesOf s) (p + 4 * j + 1) m))).heap.size ≤ k → w5.heap.size < k) := ⟨fun k hk => by have h1 := HSZ8.out; have h2 := HGCL.out; omega⟩) | (at_builtin; go_loud ((refine Kd.S_append k38 (w0 := w) w.heap.size rfl _ _ 22 38 (.agg #[(.slice none 0 0), (.string ⟨#[]⟩)]) 40 rfl Try.underlying22 info38 rfl (by decide) (by decide) (.slice A11 acc.length c11) acc (decX (bytesOf s) j p) [.slice (some ⟨wo.heap.size, 0, none⟩) j j, .string (getT (bytesOf s) (p + 4 * j + 1) m)] (fun k => w5.heap.size < k) (fun k => k = wo.heap.size) rfl ?hx HM8.out ?hokp ?hfr HS8.out HB8.out HBS8.out (by omega) ?_); (case hx => first | rfl | (simp; done) | (simp; rfl)); (case hokp => exact HOK8.out); (case hfr => exact HFR8.out); intro v1 w9 ho hb hg hat; obtain ⟨A12, c12, rfl⟩ := Kd.S_slice ho; have HS9 := Aside0.mk ho; have HB9 := Aside0.mk hb; have HG9 := Aside0.mk hg; clear ho hb hg hat)))
            have HD9 := Aside0.mk ((HD8.out.set (q := ⟨wo.heap.size + 1, 1, none⟩) (by have := HGCL.out; simp; omega) (.string (getT (bytesOf s) (p + 4 * j + 1) m))).keep (w1 := w9) (fun k hk => HG9.out.block k (by have h1 := HSZ8.out; have h2 := HGCL.out; simp at h1 ⊢; omega) (fun he => by have := (Kd.S_R HS.out).1 k he.symm; have h2 : w5.heap.size < k := this; omega)))
            go_roundw
            case rel => exact ⟨n1, p + 4 * j + 1 + m, acc ++ [decX (bytesOf s) j p], A12, c12, by rw [HN1.out]; go_num, by simp, by have := HPL.out; rw [bytesOf_length] at this; omega, by have := HN1.out; simp only [List.length_append, List.length_cons, List.length_nil]; omega, HD9, HS9, ⟨by rw [← HRR.out]; simp only [decP, HME.out, Int.toNat_natCast]; congr 1; funext q; simp⟩, HB9⟩
            case measure => simp [intOf]; omega
    · rw [eOf1 hpl] at d2
      have hRR : R = none := by
        rw [← HR.out]
        cases n <;> simp [decR, hpl]
      subst hRR
      have hff := HF.out
      simp only [decFin, Option.some.injEq, Prod.mk.injEq] at hff
      obtain ⟨rfl, rfl⟩ := hff
      clear HR
      go_wp2_with fail
      all_goals
        go_ret2
        exact ⟨.slice none 0 0, rfl, Kd.S_nil _ _ _ _ _, HB.out⟩
theorem decode_no1 (k : Nat) (s : ByteArray) (a1 a2 : Int) (w : World) (h : a1 < 1 ∨ 6 < a1) :
    Calls Try.prog 17 #[.string s, .int .i64 a1, .int .i64 a2] w fun e w' => ∃ v0_ : Value, e = .returned (.tuple #[v0_, .int .i64 1]) ∧ Kd.S k38 38 w' w.heap.size (fun _ => True) v0_ [] ∧ Below w.heap.size w w' := by
  by_cases h1 : a1 < 1
  · go_enter Try.func17, Try.ntmps17
    go_wp2_with fail
    go_ret2
    exact ⟨.slice none 0 0, rfl, Kd.S_nil _ _ _ _ _, Below.refl _ _⟩
  · have h6 : 6 < a1 := by omega
    clear h
    go_enter Try.func17, Try.ntmps17
    go_wp2_with fail
    go_ret2
    exact ⟨.slice none 0 0, rfl, Kd.S_nil _ _ _ _ _, Below.refl _ _⟩
theorem decode_no2 (k : Nat) (s : ByteArray) (a1 a2 : Int) (w : World) (h1 : 1 ≤ a1) (h6 : a1 ≤ 6) (hc : bucket_isCap.f a2 = some false) :
    Calls Try.prog 17 #[.string s, .int .i64 a1, .int .i64 a2] w fun e w' => ∃ v0_ : Value, e = .returned (.tuple #[v0_, .int .i64 1]) ∧ Kd.S k38 38 w' w.heap.size (fun _ => True) v0_ [] ∧ Below w.heap.size w w' := by
  have H1 := Aside0.mk hc
  clear hc
  go_enter Try.func17, Try.ntmps17
  go_wp2_with (go_at_call 30; go_loud (refine (bucket_isCap.calls a2 false _ H1.out).mono ?_); rintro e w1 ⟨rfl, hb⟩; have HB := Aside0.mk hb.below; clear hb)
  go_ret2
  exact ⟨.slice none 0 0, rfl, Kd.S_nil _ _ _ _ _, HB.out⟩
theorem decode_no3 (k : Nat) (s : ByteArray) (a1 a2 : Int) (w : World) (h1 : 1 ≤ a1) (h6 : a1 ≤ 6) (hc : bucket_isCap.f a2 = some true) (hs : 4096 < s.size) :
    Calls Try.prog 17 #[.string s, .int .i64 a1, .int .i64 a2] w fun e w' => ∃ v0_ : Value, e = .returned (.tuple #[v0_, .int .i64 6]) ∧ Kd.S k38 38 w' w.heap.size (fun _ => True) v0_ [] ∧ Below w.heap.size w w' := by
  have H1 := Aside0.mk hc
  clear hc
  go_enter Try.func17, Try.ntmps17
  go_wp2_with (first | (go_at_call 30; go_loud (refine (bucket_isCap.calls a2 true _ H1.out).mono ?_); rintro e w1 ⟨rfl, hb⟩; have HB := Aside0.mk hb.below; clear hb) | (go_at_call 37; go_loud (refine (of37_no s _ hs).mono ?_); rintro e w5 ⟨rfl, rfl⟩))
  go_ret2
  exact ⟨.slice none 0 0, rfl, Kd.S_nil _ _ _ _ _, HB.out⟩
theorem bucket_Decode.calls (k : Nat) (s : ByteArray) (a1 a2 : Int) (r1 : List S38) (r2 : Int) (w : World) (h : bucket_Decode.f k s a1 a2 = some (r1, r2)) :
    Calls Try.prog 17 #[.string s, .int .i64 a1, .int .i64 a2] w fun e w' => ∃ v0_ : Value, e = .returned (.tuple #[v0_, .int .i64 r2]) ∧ Kd.S k38 38 w' w.heap.size (fun _ => True) v0_ r1 ∧ Below w.heap.size w w' := by
  unfold bucket_Decode.f at h
  by_cases hd : a1 < 1 ∨ 6 < a1
  · rw [if_pos hd] at h
    simp only [Option.some.injEq, Prod.mk.injEq] at h
    obtain ⟨rfl, rfl⟩ := h
    exact decode_no1 k s a1 a2 w hd
  · rw [if_neg hd] at h
    obtain ⟨b, hb, h⟩ := Option.bind_eq_some_iff.mp h
    cases b with
    | false =>
      rw [if_neg (by decide)] at h
      simp only [Option.some.injEq, Prod.mk.injEq] at h
      obtain ⟨rfl, rfl⟩ := h
      exact decode_no2 k s a1 a2 w (by omega) (by omega) hb
    | true =>
      rw [if_pos rfl] at h
      by_cases hs : s.size ≤ 4096
      · rw [if_pos hs] at h
        obtain ⟨d, rfl⟩ := Int.eq_ofNat_of_zero_le (show 0 ≤ a1 by omega)
        exact decode_main k s d a2 w (by omega) (by omega) hs hb _ rfl r1 r2 h
      · rw [if_neg hs] at h
        simp only [Option.some.injEq, Prod.mk.injEq] at h
        obtain ⟨rfl, rfl⟩ := h
        exact decode_no3 k s a1 a2 w (by omega) (by omega) hb (by omega)
end Go.Proofs.Ytafpfggijpigfaa.Bkt
