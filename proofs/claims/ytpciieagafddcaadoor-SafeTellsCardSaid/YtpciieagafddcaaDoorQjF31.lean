/- Woven by wip/weave/weave.py of this repo (own tool) out of the translation: the contracts of some functions. Lean checks it. -/
import Derived.Test.YtpciieagafddcaaDoorQjD
import Derived.Test.YtpciieagafddcaaDoorQjSp
import Derived.Test.YtpciieagafddcaaDoorQjF6
import Derived.Test.YtpciieagafddcaaDoorQjERB
import Derived.Test.YtpciieagafddcaaDoorQjPP
namespace Go.Proofs.YtpciieagafddcaaDoor.F
open Go.RowKit Go.Proofs.YtpciieagafddcaaDoorW.PrintWords Go.Proofs.YtpciieagafddcaaDoorW.PrintLast Go.Proofs.YtpciieagafddcaaDoorW.PrintMore
attribute [local go_sem] max2_int min2_int max_two min_two max_three min_three max_four min_four   -- for this text's walks alone
set_option linter.unusedVariables false
set_option linter.unusedSimpArgs false
-- IMPORT Derived.Test.YtpciieagafddcaaDoorPP
theorem showNil {W : World} {base : Nat} : Kd.R (Kd.int .i64) 3 W base (fun _ => True) (.slice none 0 0) ([] : List Int) := Kd.R_nil _ _ _ _ _
theorem showInfo : (Tryd.prog.info? 3).map (fun i => (i.zero, i.size, i.bytes)) = some (some (.int .i64 0), 1, 8) := by kernel_rfl
def showF (on : Int) (n : Nat) (gs : List Int) : List Int := gs.foldl (fun xs g => xs.set g.toNat on) (List.replicate n 0)
theorem showF_length (on : Int) (n : Nat) (gs : List Int) : (showF on n gs).length = n := by
 unfold showF
 suffices h : ∀ (gs : List Int) (xs : List Int), (gs.foldl (fun xs g => xs.set g.toNat on) xs).length = xs.length by rw [h, List.length_replicate]
 intro gs
 induction gs with
 | nil => intro xs; rfl
 | cons g gs ih => intro xs; rw [List.foldl_cons, ih, List.length_set]
theorem showF_get (on : Int) : ∀ (gs : List Int) (xs : List Int) (j : Nat), j < xs.length → (gs.foldl (fun xs g => xs.set g.toNat on) xs)[j]? = some (if ∃ g ∈ gs, g.toNat = j then on else xs.getD j 0) := by
 intro gs
 induction gs with
 | nil => intro xs j hj; simp [hj]
 | cons g gs ih =>
  intro xs j hj
  rw [List.foldl_cons, ih _ _ (by rw [List.length_set]; exact hj)]
  congr 1
  by_cases h1 : ∃ g' ∈ gs, g'.toNat = j
  ·
   rw [if_pos h1, if_pos]
   obtain ⟨g', h, h'⟩ := h1
   exact ⟨g', List.mem_cons_of_mem _ h, h'⟩
  ·
   rw [if_neg h1]
   by_cases h2 : g.toNat = j
   ·
    rw [if_pos ⟨g, List.mem_cons_self .., h2⟩]
    simp [h2, hj]
   ·
    rw [if_neg]
    ·
     simp [List.getD_eq_getElem?_getD, List.getElem?_set, h2]
    ·
     rintro ⟨g', h, h'⟩
     rcases List.mem_cons.1 h with rfl | h
     ·
      exact h2 h'
     ·
      exact h1 ⟨g', h, h'⟩
set_option maxRecDepth 100000 in
theorem showF_eq (on : Int) (n : Nat) (G : Nat) (hG : G < 256) (hn : n ≤ 8) : showF on n (Sp.groupsOf (G : Int)) = lamp_showL.f n (G : Int) on := by
 refine List.ext_getElem? fun j => ?_
 by_cases hj : j < n
 ·
  have h := showF_get on (Sp.groupsOf (G : Int)) (List.replicate n 0) j (by simpa using hj)
  unfold showF
  rw [h]
  unfold lamp_showL.f
  rw [List.getElem?_map, List.getElem?_range hj]
  simp only [Option.map_some, Int.toNat_natCast]
  congr 1
  have hz : (List.replicate n (0 : Int)).getD j 0 = 0 := by simp [List.getD_eq_getElem?_getD, hj]
  rw [hz]
  have hiff : (∃ g ∈ Sp.groupsOf (G : Int), g.toNat = j) ↔ G.testBit j = true := by
   rw [PG.groupsOf_nat hG]
   constructor
   ·
    rintro ⟨g, hg, rfl⟩
    exact (Sp.mem_bitsOf hg).2.2
   ·
    intro ht
    exact ⟨(j : Int), PG.mem_bits.2 ⟨by omega, ht⟩, by simp⟩
  by_cases hb : G.testBit j = true
  ·
   rw [if_pos (hiff.2 hb), if_pos hb]
  ·
   rw [if_neg (fun h => hb (hiff.1 h)), if_neg hb]
 ·
  rw [List.getElem?_eq_none (by rw [showF_length]; omega), List.getElem?_eq_none (by unfold lamp_showL.f; simp; omega)]
theorem showIndex (w : World) : ∀ k : Nat, k < 3 → (Instr.index 106 (.agg #[.int .i64 2, .int .i64 1, .int .i64 0]) (.int .i64 k)).run Tryd.prog w = .ok (.int .i64 (lamp_on.f k)) w := by
 intro k hk
 have ht := Tryd.underlying106
 rcases (by omega : k = 0 ∨ k = 1 ∨ k = 2) with rfl | rfl | rfl
 all_goals
  simp [Instr.index, run_underlying ht, asIntOf, go_sem, lamp_on.f]
  done
theorem showOwn_R {W : World} {base : Nat} {v : Value} {xs : List Int} (h : W.ownsRow base 3 1 v xs.length (xs.map (Value.int .i64))) : Kd.R (Kd.int .i64) 3 W base (fun _ => True) v xs := Kd.R_of_own h (fun _ _ => trivial)
theorem showCell {w : World} {b : Nat} {cs : Array Value} {T : TypeId} {fr : Nat × Nat} (hb : w.heap[b]? = some (.cells cs T fr)) (j : Nat) : w.cell? ⟨b, j, none⟩ = cs[j]? := by simp [World.cell?, hb]
theorem showFrozen {w : World} {b : Nat} {cs : Array Value} {T : TypeId} (hb : w.heap[b]? = some (.cells cs T (0, 0))) (j : Nat) : w.frozen? ⟨b, j, none⟩ = false := by simp [World.frozen?, hb]
theorem addr_block (a : Addr) (k : Nat) : (a.add k).block = a.block := by unfold Addr.add; split <;> rfl
theorem cell_block {W W' : World} {a : Addr} (h : W'.heap[a.block]? = W.heap[a.block]?) : W'.cell? a = W.cell? a := by simp [World.cell?, h]
set_option maxHeartbeats 4000000 in
set_option maxRecDepth 100000 in
theorem lamp_Show.calls (A0_0 : Option Addr) (c0_0 : Nat) (l0_0 : List Int) (A0_1 : Option Addr) (c0_1 : Nat) (l0_1 : List S87) (a0_2 a0_3 a0_4 : Int) (a1 a2 : Int) (r : List Int) (w : World) (hr0_0 : Kd.C (Kd.int .i64) w A0_0 l0_0.length l0_0) (hc0_0 : l0_0.length ≤ c0_0) (hr0_1 : Kd.C k87 w A0_1 l0_1.length l0_1) (hc0_1 : l0_1.length ≤ c0_1) (hG : GlobOk w) (h : lamp_Show.f l0_0 l0_1 a0_2 a0_3 a0_4 a1 a2 = some r) :
  Calls Tryd.prog 73 #[.agg #[.slice A0_0 l0_0.length c0_0, .slice A0_1 l0_1.length c0_1, .int .i64 a0_2, .int .i64 a0_3, .int .i64 a0_4], .int .i64 a1, .int .i64 a2] w fun e w' => ∃ v0_ : Value, e = .returned v0_ ∧ Kd.R (Kd.int .i64) 3 w' w.heap.size (fun _ => True) v0_ r ∧ Below w.heap.size w w' := by
 obtain ⟨i0, hi, hz0, hz1, hz2⟩ := info_parts showInfo
 have hmx := Kd.C_max hr0_1
 have hmx0 := Kd.C_max hr0_0
 have hu39 := Tryd.underlying25
 obtain ⟨K, hK⟩ := (PP.fit_ev l0_0 l0_1 a0_2 a0_3 a0_4 (by omega)).rounds
 have h := Option.some.inj h
 have hB0 : Below w.heap.size w (w.alloc (.cells #[.slice A0_0 l0_0.length c0_0, .slice A0_1 l0_1.length c0_1, .int .i64 a0_2, .int .i64 a0_3, .int .i64 a0_4] 25)) := (Below.refl _ w).alloc (Nat.le_refl _) _
 have HF := Lib.hid (plan_Fit.calls K A0_0 c0_0 l0_0 A0_1 c0_1 l0_1 a0_2 a0_3 a0_4 _ _ (Kd.C_below hr0_0 hB0) hc0_0 (Kd.C_below hr0_1 hB0) hc0_1 (hG.below hB0) hK)
 have HG := Lib.hid hG
 have HR0 := Lib.hid hr0_0
 have HR1 := Lib.hid hr0_1
 have HB0 := Lib.hid hB0
 have HC : ∀ (w' : World), Below (w.alloc (.cells #[.slice A0_0 l0_0.length c0_0, .slice A0_1 l0_1.length c0_1, .int .i64 a0_2, .int .i64 a0_3, .int .i64 a0_4] 25)).heap.size (w.alloc (.cells #[.slice A0_0 l0_0.length c0_0, .slice A0_1 l0_1.length c0_1, .int .i64 a0_2, .int .i64 a0_3, .int .i64 a0_4] 25)) w' → w'.cell? ⟨w.heap.size, 0, none⟩ = some (.slice A0_0 l0_0.length c0_0) ∧ w'.cell? ⟨w.heap.size, 1, none⟩ = some (.slice A0_1 l0_1.length c0_1) := fun w' hb => ⟨(hb.cell (p := ⟨w.heap.size, 0, none⟩) (by simp)).trans (by simp), (hb.cell (p := ⟨w.heap.size, 1, none⟩) (by simp)).trans (by simp)⟩
 have HC := Lib.hid HC
 clear hG hr0_0 hr0_1 hB0 hK
 cases hf : plan_fitB.f l0_0 l0_1 a0_2 a0_3 a0_4 with
 | false =>
  rw [hf] at HF h
  simp only [Bool.false_and, Bool.false_eq_true, if_false] at h
  subst h
  go_enter Tryd.func73, Tryd.ntmps73
  go_wp2_with (go_at_call 25; (refine HF.out.mono ?_); rintro e w' ⟨rfl, hb⟩)
  go_ret
  exact ⟨_, rfl, showNil, HB0.out.trans (hb.mono (by simp))⟩
 | true =>
  rw [hf, Bool.true_and] at h
  rw [hf] at HF
  by_cases hin : 0 ≤ a1 ∧ a1 < (l0_1.length : Int) ∧ 0 ≤ a2 ∧ a2 < 3
  ·
   rw [decide_eq_true hin] at h
   simp only [if_true] at h
   subst h
   have hff := hf
   unfold plan_fitB.f at hff
   simp only [Bool.and_eq_true, decide_eq_true_eq] at hff
   obtain ⟨hst, hmay, -⟩ := hff
   obtain ⟨hn1, hn8⟩ := Sp.may_len hmay
   obtain ⟨kk, hkk⟩ := Int.eq_ofNat_of_zero_le hin.1
   have hk' : kk < l0_1.length := by omega
   have hrd : rd_T87 l0_1 a1 = l0_1[kk] := by rw [hkk]; exact PP.rd_stage l0_1 hk'
   have hfree := List.all_eq_true.1 hst _ (List.getElem_mem hk')
   rw [← hrd, PP.stage_eq, Bool.and_eq_true] at hfree
   have hGr : 0 ≤ (rd_T87 l0_1 a1).f0 ∧ (rd_T87 l0_1 a1).f0 < ((2 ^ l0_0.length : Nat) : Int) := by
    refine Classical.byContradiction fun hn => ?_
    rw [PM.free_none fun hh => hn hh.2] at hfree
    cases hfree.1
   have hp8 := PM.pow_le8 hn8
   obtain ⟨G, hGe⟩ := Int.eq_ofNat_of_zero_le hGr.1
   have hG256 : G < 256 := by omega
   have HS := Lib.hid (fun on => showF_eq on l0_0.length G hG256 hn8)
   have HL := Lib.hid (fun g (hg : g ∈ Sp.groupsOf (G : Int)) => (show 0 ≤ g ∧ g < (l0_0.length : Int) from Sp.groupsOf_lt (n := l0_0.length) (by unfold Sp.inB; rw [Int.toNat_natCast]; exact decide_eq_true ⟨by omega, by have := hGr.2; rw [hGe] at this; exact_mod_cast this⟩) hg))
   have hlen8 : (Sp.groupsOf (G : Int)).length ≤ 8 := Sp.groupsOf_len _
   obtain ⟨h1, h2, h3, h4⟩ := hin
   have n1 : ¬ a1 < 0 := by omega
   have n2 : ¬ (l0_1.length : Int) ≤ a1 := by omega
   have n3 : ¬ a2 < 0 := by omega
   have n4 : ¬ 3 ≤ a2 := by omega
   clear hf hst hmay hrd hfree hGr hkk hk' hp8
   obtain ⟨pj, hpj⟩ := Int.eq_ofNat_of_zero_le h3
   have hix : ∀ w, (Instr.index 106 (.agg #[.int .i64 2, .int .i64 1, .int .i64 0]) (.int .i64 a2)).run Tryd.prog w = .ok (.int .i64 (lamp_on.f a2)) w := fun w => by rw [hpj]; exact showIndex w pj (by omega)
   clear hpj
   generalize lamp_on.f a2 = on at *
   rw [hGe]
   all_goals
    go_enter Tryd.func73, Tryd.ntmps73
    go_wp2_with (first | (go_at_call 25; (refine HF.out.mono ?_); rintro e w1 ⟨rfl, hb⟩; obtain ⟨C0, C1⟩ := HC.out w1 hb; have hb1 := Lib.hid hb; have hsz1 := hb.size; clear hb) | (at_make; go_loud (refine wpList_make_full _ rfl _ _ 22 rfl w1.heap.size 3 i0 (.int .i64 0) 1 Tryd.underlying22 hi hz0 hz1 .i64 .i64 (l0_0.length : Int) (l0_0.length : Int) l0_0.length rfl rfl rfl rfl ?b2 ?b3 (Nat.le_refl _) ?_)))
    case b2 => rw [hz2]; omega
    case b3 => unfold maxLen; omega
    intro w2 ho hgr
    have hB2 := Lib.hid (show Below w.heap.size w w2 from (HB0.out.trans (hb1.out.mono (by simp))).grown hgr (by have := hb1.out.size; simp at this; omega) (fun k hk => by cases hk))
    have hsz : w.heap.size + 1 ≤ w1.heap.size := by have := hb1.out.size; simpa using this
    have hout : w2.heap[w1.heap.size]? = some (.cells ((showF on l0_0.length []).map (Value.int .i64)).toArray 3 (0, 0)) := by
     rcases ho.2 with ⟨hv, _⟩ | ⟨g, cap, cur, hv, _, hg, _, _, hcs, htk⟩
     ·
      cases hv
     ·
      injection hv with h1 h2 h3
      injection h1 with h1
      injection h1 with h1
      subst h1
      rw [hg]
      congr 2
      refine Array.toList_inj.1 ?_
      rw [List.take_of_length_le (by rw [Array.length_toList]; omega)] at htk
      rw [htk, toList_madeCells_one]
      simp [showF]
    have hC2 : w2.cell? ⟨w.heap.size, 1, none⟩ = some (.slice A0_1 l0_1.length c0_1) := by
     rw [cell_block (W := w1) (hgr.block _ (show w.heap.size < w1.heap.size by omega) (by simp))]
     exact C1
    have hlt2 : w1.heap.size < w2.heap.size := (Array.getElem?_eq_some_iff.1 hout).1
    obtain ⟨ad, hA, hx0, -, -⟩ := at_T87 (Kd.C_below HR1.out hB2.out) a1 h1 h2
    subst hA
    rw [hGe] at hx0
    have hLc := Lib.hid (group_List.calls (G : Int) (Sp.groupsOf (G : Int)) w2 (GlobOk.below HG.out hB2.out) rfl)
    clear ho hgr hb1 C0 C1 HF HC
    go_wp2_with (go_at_call 104; refine hLc.out.mono ?_; rintro e w3 ⟨v0, rfl, hR, hb3⟩; obtain ⟨A, c, hv⟩ := Kd.R_slice hR; subst hv; have hR3 := Lib.hid hR; have hb3' := Lib.hid hb3; clear hR hb3)
    have hbase := Kd.R_base hR3.out
    have hC3 := Lib.hid ((Kd.R_reads' hR3.out).2.2)
    have hlc := (Kd.R_reads' hR3.out).2.1
    have hb4 : Below w.heap.size w w3 := hB2.out.trans (hb3'.out.mono hB2.out.size)
    have hout3 : w3.heap[w1.heap.size]? = some (.cells ((showF on l0_0.length []).map (Value.int .i64)).toArray 3 (0, 0)) := (hb3'.out.block _ hlt2).trans hout
    have hmxL := Kd.C_max hC3.out
    clear hout hC2 hx0 hLc hix
    go_loopw [48] (fun i wr => ∃ k : Nat, k ≤ (Sp.groupsOf (G : Int)).length ∧ i = .int .i64 k ∧ Hid (wr.heap[w1.heap.size]? = some (.cells ((showF on l0_0.length ((Sp.groupsOf (G : Int)).take k)).map (Value.int .i64)).toArray 3 (0, 0))) ∧ Hid (∀ j, j ≠ w1.heap.size → wr.heap[j]? = w3.heap[j]?) ∧ Below w.heap.size w wr) (fun i _ => (Sp.groupsOf (G : Int)).length - (intOf i).toNat)
    case atStart => exact ⟨0, Nat.zero_le _, rfl, Lib.hid hout3, Lib.hid (fun _ _ => rfl), hb4⟩
    case round =>
     obtain ⟨k, hk, rfl, hH, hO, hb⟩ := hrel
     by_cases hlt : k < (Sp.groupsOf (G : Int)).length
     ·
      obtain ⟨va, hA, hx⟩ := Kd.at_int hC3.out (k : Int) (by omega) (by omega)
      rw [Int.toNat_natCast] at hx
      subst hA
      have hbk : va.block ≠ w1.heap.size := fun e => by have := hbase va.block rfl; omega
      have hxr : wr.cell? (va.add k) = some (.int .i64 (rd (Sp.groupsOf (G : Int)) k)) := by rw [cell_block (W := w3) (hO.out _ (by rw [addr_block]; exact hbk))]; exact hx
      have hge : rd (Sp.groupsOf (G : Int)) (k : Int) = (Sp.groupsOf (G : Int))[k] := by simp [rd, hlt]
      have hgr := HL.out _ (List.getElem_mem hlt)
      rw [← hge] at hgr
      have hsucc : showF on l0_0.length ((Sp.groupsOf (G : Int)).take (k + 1)) = (showF on l0_0.length ((Sp.groupsOf (G : Int)).take k)).set (rd (Sp.groupsOf (G : Int)) k).toNat on := by
       rw [List.take_succ_eq_append_getElem hlt, hge]
       unfold showF
       rw [List.foldl_append]
       rfl
      obtain ⟨gg, hgg⟩ := Int.eq_ofNat_of_zero_le hgr.1
      rw [hgg] at hxr hgr hsucc
      rw [Int.toNat_natCast] at hsucc
      have hcell : ∃ v, wr.cell? ⟨w1.heap.size, gg, none⟩ = some v := by
       rw [showCell hH.out]
       refine ⟨_, Array.getElem?_eq_getElem (by simp [showF_length]; omega)⟩
      obtain ⟨vold, hcell⟩ := hcell
      have hfz : wr.frozen? ⟨w1.heap.size, gg, none⟩ = false := showFrozen hH.out gg
      have hlt8 : (gg : Int) < (l0_0.length : Int) := hgr.2
      have hg0 : (0 : Int) ≤ (gg : Int) := by omega
      have hset : (wr.setCell ⟨w1.heap.size, gg, none⟩ (.int .i64 on)).heap[w1.heap.size]? = some (.cells ((showF on l0_0.length ((Sp.groupsOf (G : Int)).take (k + 1))).map (Value.int .i64)).toArray 3 (0, 0)) := by
       rw [hsucc]
       simp [World.setCell, Array.getElem?_modify, hH.out]
      have hset := Lib.hid hset
      clear hsucc hge hx hgr hH
      go_wp2
      go_roundw
      case rel =>
       refine ⟨k + 1, by omega, by go_num, hset, Lib.hid (fun j hj => ?_), hb.setCell (p := ⟨w1.heap.size, gg, none⟩) (by show w.heap.size ≤ w1.heap.size; omega) _⟩
       rw [← hO.out j hj]
       simp [World.setCell, Array.getElem?_modify, Ne.symm hj]
      case measure => simp [intOf]; omega
     ·
      obtain rfl : k = (Sp.groupsOf (G : Int)).length := by omega
      rw [List.take_length, HS.out on] at hH
      go_wp2
      go_ret
      refine ⟨_, rfl, ?_, hb⟩
      have hlen : (lamp_showL.f l0_0.length (G : Int) on).length = l0_0.length := by unfold lamp_showL.f; simp
      refine showOwn_R ?_
      rw [hlen]
      refine ⟨by simp [hlen], .inr ⟨w1.heap.size, l0_0.length, _, rfl, by omega, hH.out, Nat.le_refl _, by unfold maxLen; omega, by simp [hlen], ?_⟩⟩
      rw [List.take_of_length_le (by simp [hlen])]
  ·
   rw [decide_eq_false hin] at h
   simp only [Bool.false_eq_true, if_false] at h
   subst h
   rcases (by omega : a1 < 0 ∨ (¬ a1 < 0 ∧ (l0_1.length : Int) ≤ a1) ∨ (¬ a1 < 0 ∧ ¬ (l0_1.length : Int) ≤ a1 ∧ a2 < 0) ∨ (¬ a1 < 0 ∧ ¬ (l0_1.length : Int) ≤ a1 ∧ ¬ a2 < 0 ∧ 3 ≤ a2)) with h1 | ⟨h1, h2⟩ | ⟨h1, h2, h3⟩ | ⟨h1, h2, h3, h4⟩
   all_goals
    clear hin hf
    go_enter Tryd.func73, Tryd.ntmps73
    go_wp2_with (go_at_call 25; (refine HF.out.mono ?_); rintro e w' ⟨rfl, hb⟩; obtain ⟨C0, C1⟩ := HC.out w' hb; have hb' := Lib.hid hb; clear hb)
    go_ret
    exact ⟨_, rfl, showNil, HB0.out.trans (hb'.out.mono (by simp))⟩
end Go.Proofs.YtpciieagafddcaaDoor.F
