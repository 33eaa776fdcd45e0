import Derived.Test.YtafpfggijpigfaaBktx1
import Derived.Test.YtafpfggijpigfaaB7
namespace Go.Proofs.Ytafpfggijpigfaa.Bkt
open Go.RowKit Go.Proofs.YtafpfggijpigfaaW.PrintWords Go.Proofs.YtafpfggijpigfaaW.PrintLast Go.Proofs.YtafpfggijpigfaaW.PrintMore
attribute [local go_sem] max2_int min2_int max_two min_two max_three min_three max_four min_four
set_option linter.unusedVariables false
set_option linter.unusedSimpArgs false
def encP (l : List S38) (i : Nat) : List Int := bes 1 l.length ++ ((l.take i).map recB).flatten
theorem keyB_length (y : List Int) : (keyB y).length = 4 * y.length := by
  induction y with
  | nil => rfl
  | cons a y ih => simp only [keyB, List.map_cons, List.flatten_cons, List.length_append, List.length_cons, bes_length] at ih ⊢; omega
theorem recB_length (x : S38) : (recB x).length = 4 * x.f0.length + 1 + x.f1.size := by simp [recB, keyB_length, bes_length, bytesOf_length]; omega
theorem take_snoc38 {l : List S38} {i : Nat} (h : i < l.length) : l.take (i + 1) = l.take i ++ [rd_T38 l (i : Int)] := by
  rw [List.take_succ_eq_append_getElem h]
  simp [rd_T38, h]
theorem encP_succ {l : List S38} {i : Nat} (h : i < l.length) : encP l (i + 1) = encP l i ++ recB (rd_T38 l (i : Int)) := by
  simp only [encP, take_snoc38 h, List.map_append, List.flatten_append, List.map_cons, List.map_nil, List.flatten_cons, List.flatten_nil, List.append_nil, List.append_assoc]
theorem encP_full (l : List S38) : encP l l.length = encB l := by simp [encP, encB]
theorem encP_le (l : List S38) : ∀ d i, i + d = l.length → (encP l i).length ≤ (encB l).length
  | 0, i, h => by have : i = l.length := by omega
                  subst this; rw [encP_full]; exact Nat.le_refl _
  | d + 1, i, h => by
    have h1 := encP_le l d (i + 1) (by omega)
    rw [encP_succ (by omega), List.length_append] at h1
    omega
theorem encP_bound {l : List S38} {i : Nat} (h : i < l.length) : (encP l i).length + (4 * (rd_T38 l (i : Int)).f0.length + 1 + (rd_T38 l (i : Int)).f1.size) ≤ (encB l).length := by
  have h1 := encP_le l (l.length - (i + 1)) (i + 1) (by omega)
  rw [encP_succ h, List.length_append, recB_length] at h1
  omega
theorem keyB_snoc {y : List Int} {j : Nat} (h : j < y.length) : keyB (y.take (j + 1)) = keyB (y.take j) ++ bes 4 (rd y (j : Int)) := by
  rw [List.take_succ_eq_append_getElem h]
  simp only [keyB, List.map_append, List.flatten_append, List.map_cons, List.map_nil, List.flatten_cons, List.flatten_nil, List.append_nil]
  simp [rd, h]
theorem rd38_mem {l : List S38} {i : Nat} (h : i < l.length) : rd_T38 l (i : Int) ∈ l := by simp [rd_T38, h]
set_option maxHeartbeats 4000000 in
theorem encode_ok (k : Nat) (A : Option Addr) (c : Nat) (l : List S38) (a1 a2 : Int) (w : World) (hx : Kd.C k38 w A l.length l) (hc : l.length ≤ c) (h1 : bucket_isCap.f a2 = some true) (h2 : bucket_Fits.f k l a2 = some true) (h3 : bucket_is.f k l a1 = some true) (h4 : bucket_Size.f k l = some ((encB l).length : Int)) (hok : EncOk l) :
    Calls Try.prog 11 #[.slice A l.length c, .int .i64 a1, .int .i64 a2] w fun e w' => e = .returned (.tuple #[.string (strOfNums (encB l)), .int .i64 0]) ∧ Below w.heap.size w w' := by
  obtain ⟨ho1, ho2, ho3⟩ := hok
  have HX := Aside0.mk hx
  have H1 := Aside0.mk h1
  have H2 := Aside0.mk h2
  have H3 := Aside0.mk h3
  have H4 := Aside0.mk h4
  have HO := Aside0.mk ho3
  have hu38 := Try.underlying38
  have HB := Aside0.mk (Below.refl w.heap.size w)
  clear hx h1 h2 h3 h4 ho3
  go_enter Try.func11, Try.ntmps11
  go_wp2_with (first | (go_at_call 30; go_loud (refine (bucket_isCap.calls a2 true _ H1.out).mono ?_); rintro e w1 ⟨rfl, hb⟩; have HB1 := Aside0.mk hb.below; clear hb HB; have HB := HB1; clear HB1) | (go_at_call 15; go_loud (refine (bucket_Fits.calls k A c l a2 true _ (Kd.C_below HX.out HB.out) hc H2.out).mono ?_); rintro e w2 ⟨rfl, hb⟩; have HB1 := Aside0.mk (below_step HB.out hb); clear hb HB; have HB := HB1; clear HB1) | (go_at_call 31; go_loud (refine (bucket_is.calls k A c l a1 true _ (Kd.C_below HX.out HB.out) hc H3.out).mono ?_); rintro e w3 ⟨rfl, hb⟩; have HB1 := Aside0.mk (below_step HB.out hb); clear hb HB; have HB := HB1; clear HB1) | (go_at_call 13; go_loud (refine (bucket_Size.calls k A c l _ _ (Kd.C_below HX.out HB.out) hc H4.out).mono ?_); rintro e w4 ⟨rfl, hb⟩; have HB1 := Aside0.mk (below_step HB.out hb); clear hb HB; have HB := HB1; clear HB1) | (go_at_call 32; go_loud (refine (new32 (encB l).length _ ho2).mono ?_); rintro e w5 ⟨ga, gb, rfl, ka, kb, hga, hgb, hb⟩; have HGA := Aside0.mk (Nat.le_trans HB.out.size hga); have HGB := Aside0.mk (Nat.le_trans HB.out.size hgb); have HKA := Aside0.mk ka; have HKB := Aside0.mk kb; have HB1 := Aside0.mk (below_step HB.out hb); clear hb HB hga hgb ka kb; have HB := HB1; clear HB1))
  have hes0 : ES (w5.alloc (.cells #[.pointer (some ⟨ga, 0, none⟩), .int .i64 0, .int .i64 0] 58)) w5.heap.size ga gb (encB l).length [] := ⟨blk_new _ _, blk_alloc HKA.out _, by
    have := blk_alloc HKB.out (.cells #[.pointer (some ⟨ga, 0, none⟩), .int .i64 0, .int .i64 0] 58)
    simpa [Bk, pad] using this⟩
  have HES0 := Aside0.mk hes0
  have HBA := Aside0.mk (below_alloc HB.out (.cells #[.pointer (some ⟨ga, 0, none⟩), .int .i64 0, .int .i64 0] 58))
  have HGC := Aside0.mk (show w.heap.size ≤ w5.heap.size from HB.out.size)
  have hn1 : 0 + 1 ≤ (encB l).length := by simp [encB, bes_length]
  clear hes0
  go_wp2_with (go_at_call 33; go_loud (refine (es_put1 HES0.out ho2 (l.length : Int) (by omega) (by omega) hn1).mono ?_); rintro r w6 ⟨rfl, k1, k2⟩; have HES := Aside0.mk (show ES w6 w5.heap.size ga gb (encB l).length (encP l 0) by simpa [encP] using k1); have HB6 := Aside0.mk (k2.below HBA.out (fun k hk => by simp at hk; rcases hk with rfl | rfl; exact HGC.out; exact HGB.out)); clear k1 k2)
  clear HB HBA HES0 HKA HKB hn1
  go_loopw [46] (fun v46 wr => ∃ i : Nat, i ≤ l.length ∧ v46 = .int .i64 i ∧ Aside0 (ES wr w5.heap.size ga gb (encB l).length (encP l i)) ∧ Aside0 (Below w.heap.size w wr)) (fun v _ => l.length - (intOf v).toNat)
  case atStart => exact ⟨0, Nat.zero_le _, rfl, HES, HB6⟩
  case round =>
    clear HES HB6
    obtain ⟨i, hi, rfl, HES, HB⟩ := hrel
    by_cases hlt : i < l.length
    · have hbd := encP_bound hlt
      have HSU := Aside0.mk (encP_succ hlt)
      obtain ⟨hu32, hsz⟩ := HO.out _ (rd38_mem hlt)
      obtain ⟨ad, A0, c0, e, hx0, hx1, hl0, hi0⟩ := at_T38 HX.out (i : Int) (by omega) (by omega)
      subst e
      generalize rd_T38 l (i : Int) = x at hbd HSU hu32 hsz hx0 hx1 hl0 hi0
      rw [Int.toNat_natCast] at hx0 hx1
      replace hx0 := (HB.out.cell (World.block_lt_of_cell? w _ hx0)).trans hx0
      replace hx1 := (HB.out.cell (World.block_lt_of_cell? w _ hx1)).trans hx1
      have HI := Aside0.mk hi0
      have HU := Aside0.mk hu32
      have HBD := Aside0.mk hbd
      have hkl : x.f0.length ≤ 4096 := by omega
      clear hi0 hu32 hbd
      generalize hp : encP l i = p at HES HBD HSU
      clear hp
      go_wp2_with fail
      have HBX := Aside0.mk (blk_new wr (.cells #[.slice A0 x.f0.length c0, .string x.f1] 38))
      have HESx := Aside0.mk (HES.out.below (below_alloc (Below.refl wr.heap.size wr) (.cells #[.slice A0 x.f0.length c0, .string x.f1] 38)))
      have HBx := Aside0.mk (below_alloc HB.out (.cells #[.slice A0 x.f0.length c0, .string x.f1] 38))
      have hgx := HB.out.size
      obtain ⟨gx, hgxe⟩ : ∃ gx, gx = wr.heap.size := ⟨_, rfl⟩
      rw [← hgxe] at HBX hgx
      have HGX := Aside0.mk hgx
      clear HES HB hgx
      rw [← hgxe]
      clear hx0 hx1
      generalize wr.alloc (.cells #[.slice A0 x.f0.length c0, .string x.f1] 38) = wo at HBX HESx HBx ⊢
      clear hgxe
      go_loopw [53] (fun v53 wq => ∃ j : Nat, j ≤ x.f0.length ∧ v53 = .int .i64 j ∧ Aside0 (ES wq w5.heap.size ga gb (encB l).length (p ++ keyB (x.f0.take j))) ∧ Aside0 (wq.heap[gx]? = some (.cells #[.slice A0 x.f0.length c0, .string x.f1] 38 (0, 0))) ∧ Aside0 (Below w.heap.size w wq)) (fun v _ => x.f0.length - (intOf v).toNat)
      case atStart => exact ⟨0, Nat.zero_le _, rfl, ⟨by simpa [keyB] using HESx.out⟩, HBX, HBx⟩
      case round =>
        clear HESx HBX HBx
        obtain ⟨j, hj, rfl, HES, HBX, HB⟩ := hrel
        by_cases hjl : j < x.f0.length
        · obtain ⟨ak, ek, hk0⟩ := ReadsInt.at_ (Kd.reads_of_C (enc := Value.int .u32) (d := (0 : Int)) (h1 := fun _ => rfl) HI.out) (j : Int) (by omega) (by omega)
          rw [Int.toNat_natCast] at hk0
          subst ek
          replace hk0 := (HB.out.cell (World.block_lt_of_cell? w _ hk0)).trans hk0
          have hv := HU.out (rd x.f0 (j : Int)) (rd_mem hjl)
          have HKS := Aside0.mk (keyB_snoc hjl)
          have hlen : (p ++ keyB (x.f0.take j)).length + 4 ≤ (encB l).length := by have := HBD.out; simp only [List.length_append, keyB_length, List.length_take]; omega
          have HLEN := Aside0.mk hlen
          generalize rd x.f0 (j : Int) = v at hk0 hv HKS
          have HV := Aside0.mk hv
          clear hlen hv
          go_wp2_with (go_at_call 33; go_loud (refine (es_put4 HES.out ho2 v HV.out.1 HV.out.2 HLEN.out).mono ?_); rintro r w7 ⟨rfl, k1, k2⟩; have HE7 := Aside0.mk k1; have HB7 := Aside0.mk (k2.below HB.out (fun k hk => by simp at hk; rcases hk with rfl | rfl; exact HGC.out; exact HGB.out)); have HX7 := Aside0.mk (k2.blk HBX.out (by simp only [List.mem_cons, List.not_mem_nil, or_false, not_or]; exact ⟨blk_ne HBX.out HES.out.c (by decide), blk_ne HBX.out HES.out.b (by decide)⟩)); clear k1 k2)
          go_roundw
          case rel => exact ⟨j + 1, by omega, by go_num, ⟨by rw [HKS.out, ← List.append_assoc]; exact HE7.out⟩, HX7, HB7⟩
          case measure => simp [intOf]; omega
        · have hje : j = x.f0.length := by omega
          subst hje
          have hes : ES wr w5.heap.size ga gb (encB l).length (p ++ keyB x.f0) := by have := HES.out; rwa [List.take_length] at this
          have HEK := Aside0.mk hes
          have b0 := blk_cell HBX.out 0
          have b1 := blk_cell HBX.out 1
          have hl1 : (p ++ keyB x.f0).length + 1 ≤ (encB l).length := by have := HBD.out; simp only [List.length_append, keyB_length]; omega
          have hl2 : ((p ++ keyB x.f0) ++ bes 1 x.f1.size).length + x.f1.size ≤ (encB l).length := by have := HBD.out; simp only [List.length_append, keyB_length, bes_length]; omega
          have HL1 := Aside0.mk hl1
          have HL2 := Aside0.mk hl2
          clear hes hl1 hl2
          go_wp2_with (first | (go_at_call 33; go_loud (refine (es_put1 HEK.out ho2 (x.f1.size : Int) (by omega) (by omega) HL1.out).mono ?_); rintro r w7 ⟨rfl, k1, k2⟩; have HE7 := Aside0.mk k1; have HB7 := Aside0.mk (k2.below HB.out (fun k hk => by simp at hk; rcases hk with rfl | rfl; exact HGC.out; exact HGB.out)); have hx7 := k2.blk HBX.out (by simp only [List.mem_cons, List.not_mem_nil, or_false, not_or]; exact ⟨blk_ne HBX.out HEK.out.c (by decide), blk_ne HBX.out HEK.out.b (by decide)⟩); have b2 := blk_cell hx7 1; clear k1 k2 hx7) | (go_at_call 34; go_loud (refine (es_text HE7.out ho2 x.f1 HL2.out).mono ?_); rintro r w8 ⟨rfl, k1, k2⟩; have HE8 := Aside0.mk k1; have HB8 := Aside0.mk (k2.below HB7.out (fun k hk => by simp at hk; rcases hk with rfl | rfl; exact HGC.out; exact HGB.out)); clear k1 k2))
          go_roundw
          case rel => exact ⟨i + 1, by omega, by go_num, ⟨by rw [HSU.out]; have := HE8.out; simpa only [recB, List.append_assoc] using this⟩, HB8⟩
          case measure => simp [intOf]; omega
    · have : i = l.length := by omega
      subst this
      go_wp2_with (go_at_call 35; go_loud (refine (es_done HES.out ho2 (by rw [encP_full])).mono ?_); rintro r w9 ⟨rfl, rfl⟩)
      go_ret2
      exact ⟨by rw [encP_full]; rfl, HB.out⟩
theorem encode_no1 (k : Nat) (A : Option Addr) (c : Nat) (l : List S38) (a1 a2 : Int) (w : World) (hx : Kd.C k38 w A l.length l) (hc : l.length ≤ c) (h1 : bucket_isCap.f a2 = some false) :
    Calls Try.prog 11 #[.slice A l.length c, .int .i64 a1, .int .i64 a2] w fun e w' => e = .returned (.tuple #[.string ⟨#[]⟩, .int .i64 1]) ∧ Below w.heap.size w w' := by
  have HX := Aside0.mk hx
  have H1 := Aside0.mk h1
  have HB := Aside0.mk (Below.refl w.heap.size w)
  clear hx h1
  go_enter Try.func11, Try.ntmps11
  go_wp2_with (first | (go_at_call 30; go_loud (refine (bucket_isCap.calls a2 false _ H1.out).mono ?_); rintro e w1 ⟨rfl, hb⟩; have HB1 := Aside0.mk hb.below; clear hb HB; have HB := HB1; clear HB1))
  go_ret2
  exact ⟨rfl, HB.out⟩
theorem encode_no2 (k : Nat) (A : Option Addr) (c : Nat) (l : List S38) (a1 a2 : Int) (w : World) (hx : Kd.C k38 w A l.length l) (hc : l.length ≤ c) (h1 : bucket_isCap.f a2 = some true) (h2 : bucket_Fits.f k l a2 = some false) :
    Calls Try.prog 11 #[.slice A l.length c, .int .i64 a1, .int .i64 a2] w fun e w' => e = .returned (.tuple #[.string ⟨#[]⟩, .int .i64 1]) ∧ Below w.heap.size w w' := by
  have HX := Aside0.mk hx
  have H1 := Aside0.mk h1
  have H2 := Aside0.mk h2
  have HB := Aside0.mk (Below.refl w.heap.size w)
  clear hx h1 h2
  go_enter Try.func11, Try.ntmps11
  go_wp2_with (first | (go_at_call 30; go_loud (refine (bucket_isCap.calls a2 true _ H1.out).mono ?_); rintro e w1 ⟨rfl, hb⟩; have HB1 := Aside0.mk hb.below; clear hb HB; have HB := HB1; clear HB1) | (go_at_call 15; go_loud (refine (bucket_Fits.calls k A c l a2 false _ (Kd.C_below HX.out HB.out) hc H2.out).mono ?_); rintro e w2 ⟨rfl, hb⟩; have HB1 := Aside0.mk (below_step HB.out hb); clear hb HB; have HB := HB1; clear HB1))
  go_ret2
  exact ⟨rfl, HB.out⟩
theorem encode_no3 (k : Nat) (A : Option Addr) (c : Nat) (l : List S38) (a1 a2 : Int) (w : World) (hx : Kd.C k38 w A l.length l) (hc : l.length ≤ c) (h1 : bucket_isCap.f a2 = some true) (h2 : bucket_Fits.f k l a2 = some true) (h3 : bucket_is.f k l a1 = some false) :
    Calls Try.prog 11 #[.slice A l.length c, .int .i64 a1, .int .i64 a2] w fun e w' => e = .returned (.tuple #[.string ⟨#[]⟩, .int .i64 1]) ∧ Below w.heap.size w w' := by
  have HX := Aside0.mk hx
  have H1 := Aside0.mk h1
  have H2 := Aside0.mk h2
  have H3 := Aside0.mk h3
  have HB := Aside0.mk (Below.refl w.heap.size w)
  clear hx h1 h2 h3
  go_enter Try.func11, Try.ntmps11
  go_wp2_with (first | (go_at_call 30; go_loud (refine (bucket_isCap.calls a2 true _ H1.out).mono ?_); rintro e w1 ⟨rfl, hb⟩; have HB1 := Aside0.mk hb.below; clear hb HB; have HB := HB1; clear HB1) | (go_at_call 15; go_loud (refine (bucket_Fits.calls k A c l a2 true _ (Kd.C_below HX.out HB.out) hc H2.out).mono ?_); rintro e w2 ⟨rfl, hb⟩; have HB1 := Aside0.mk (below_step HB.out hb); clear hb HB; have HB := HB1; clear HB1) | (go_at_call 31; go_loud (refine (bucket_is.calls k A c l a1 false _ (Kd.C_below HX.out HB.out) hc H3.out).mono ?_); rintro e w3 ⟨rfl, hb⟩; have HB1 := Aside0.mk (below_step HB.out hb); clear hb HB; have HB := HB1; clear HB1))
  go_ret2
  exact ⟨rfl, HB.out⟩
theorem bucket_Encode.calls (k : Nat) (A : Option Addr) (c : Nat) (l : List S38) (a1 a2 : Int) (r1 : ByteArray) (r2 : Int) (w : World) (hx : Kd.C k38 w A l.length l) (hc : l.length ≤ c) (h : bucket_Encode.f k l a1 a2 = some (r1, r2)) :
    Calls Try.prog 11 #[.slice A l.length c, .int .i64 a1, .int .i64 a2] w fun e w' => e = .returned (.tuple #[.string r1, .int .i64 r2]) ∧ Below w.heap.size w w' := by
  unfold bucket_Encode.f at h
  obtain ⟨b1, h1, h⟩ := Option.bind_eq_some_iff.mp h
  cases b1 with
  | false =>
    rw [if_neg (by decide)] at h
    simp only [Option.some.injEq, Prod.mk.injEq] at h
    obtain ⟨rfl, rfl⟩ := h
    exact encode_no1 k A c l a1 a2 w hx hc h1
  | true =>
    rw [if_pos rfl] at h
    obtain ⟨b2, h2, h⟩ := Option.bind_eq_some_iff.mp h
    cases b2 with
    | false =>
      rw [if_neg (by decide)] at h
      simp only [Option.some.injEq, Prod.mk.injEq] at h
      obtain ⟨rfl, rfl⟩ := h
      exact encode_no2 k A c l a1 a2 w hx hc h1 h2
    | true =>
      rw [if_pos rfl] at h
      obtain ⟨b3, h3, h⟩ := Option.bind_eq_some_iff.mp h
      cases b3 with
      | false =>
        rw [if_neg (by decide)] at h
        simp only [Option.some.injEq, Prod.mk.injEq] at h
        obtain ⟨rfl, rfl⟩ := h
        exact encode_no3 k A c l a1 a2 w hx hc h1 h2 h3
      | true =>
        rw [if_pos rfl] at h
        obtain ⟨n, h4, h⟩ := Option.bind_eq_some_iff.mp h
        by_cases hn : n = ((encB l).length : Int) ∧ EncOk l
        · rw [if_pos hn] at h
          simp only [Option.some.injEq, Prod.mk.injEq] at h
          obtain ⟨rfl, rfl⟩ := h
          obtain ⟨rfl, hok⟩ := hn
          exact encode_ok k A c l a1 a2 w hx hc h1 h2 h3 h4 hok
        · rw [if_neg hn] at h; cases h
end Go.Proofs.Ytafpfggijpigfaa.Bkt
