/- Woven by wip/weave/weave.py of this repo (own tool) out of the translation: the contracts of some functions. Lean checks it. -/
import Derived.Test.YtpciieagafddcaaDoorQjD
import Derived.Test.YtpciieagafddcaaDoorQjSp
import Derived.Test.YtpciieagafddcaaDoorQjF7
import Derived.Lib.Strings
import Derived.Lib.Slices
import Derived.Lib.Walk
import Derived.Lib.Builder
import Derived.Lib.AppendStr
import Derived.Lib.UnsafeStr
import Derived.WalkKit
import Derived.Laws.Externs
import Derived.Laws.IdiomCopy
import Derived.Laws.BitsLemmas
import Derived.Deep.RegionWith
import Derived.StillTailTactics
namespace Go.Proofs.YtpciieagafddcaaDoor.F
open Go.RowKit Go.Proofs.YtpciieagafddcaaDoorW.PrintWords Go.Proofs.YtpciieagafddcaaDoorW.PrintLast Go.Proofs.YtpciieagafddcaaDoorW.PrintMore
attribute [local go_sem] max2_int min2_int max_two min_two max_three min_three max_four min_four   -- for this text's walks alone
set_option linter.unusedVariables false
set_option linter.unusedSimpArgs false
-- IMPORT Derived.Lib.Strings
-- IMPORT Derived.Lib.Slices
-- IMPORT Derived.Lib.Walk
-- IMPORT Derived.Lib.Builder
-- IMPORT Derived.Lib.AppendStr
-- IMPORT Derived.Lib.UnsafeStr
-- IMPORT Derived.WalkKit
-- IMPORT Derived.Laws.Externs
-- IMPORT Derived.Laws.IdiomCopy
-- IMPORT Derived.Laws.BitsLemmas
-- IMPORT Derived.Deep.RegionWith
-- IMPORT Derived.StillTailTactics
attribute [local go_sem] Oper.semAt_some
theorem paper_size : (Tryd.prog.info? 116).map (·.size) = some 2 := by kernel_rfl
theorem paper_lies : liesAt Tryd.prog Tryd.prog.depth 118 (2 / Tryd.prog.cellsOf 118) 0 116 1 = true := by kernel_rfl
theorem paper_byte : (Tryd.prog.info? 5).map (fun i => (i.zero, i.size, i.bytes)) = some (some (.int .u8 0), 1, 1) := by kernel_rfl
set_option maxHeartbeats 1000000 in
set_option maxRecDepth 100000 in
theorem paperCheck_used (b : Nat) (w : World) (h0 : w.cell? ⟨b, 0, none⟩ = some (.pointer (some ⟨b, 0, none⟩))) :
    Calls Tryd.prog 124 #[.pointer (some ⟨b, 0, none⟩)] w fun e w' => e = .returned (.tuple #[]) ∧ w' = w := by
  obtain ⟨j, hj, _⟩ := Option.map_eq_some_iff.1 paper_size
  go_enter Tryd.func124, Tryd.ntmps124
  go_wp2
  rw [Lib.run_neq_ptr_same w _ Tryd.underlying113 hj]
  go_wp2
  go_end0
  exact ⟨rfl, rfl⟩
set_option maxHeartbeats 1000000 in
set_option maxRecDepth 100000 in
theorem paperCheck_fresh (b : Nat) (w : World) (h0 : w.cell? ⟨b, 0, none⟩ = some (.pointer none)) (hsh : w.shape? b = some (118, 2)) (hfz : w.frozen? ⟨b, 0, none⟩ = false) :
    Calls Tryd.prog 124 #[.pointer (some ⟨b, 0, none⟩)] w fun e w' => e = .returned (.tuple #[]) ∧ w' = w.setCell ⟨b, 0, none⟩ (.pointer (some ⟨b, 0, none⟩)) := by
  obtain ⟨j, hj, hjs⟩ := Option.map_eq_some_iff.1 paper_size
  go_enter Tryd.func124, Tryd.ntmps124
  go_wp2
  rw [Lib.run_to_unsafe w ⟨b, 0, none⟩ Tryd.underlying113 Tryd.underlying145 hj (by rw [hjs]; decide) hsh (Nat.zero_lt_succ 1)]
  simp only [Result.andThen]
  rw [Oper.upon_value]
  go_wp2
  rw [run_callFunc_extern Tryd.func126 (by kernel_rfl) (by kernel_rfl) (by kernel_rfl) (e := Extern.AbiNoEscape.same) (by kernel_rfl)]
  rw [Lib.run_noEscape]
  simp only [Result.andThen]
  rw [Oper.upon_value]
  go_wp2
  rw [Lib.run_from_unsafe w ⟨b, 0, none⟩ Tryd.underlying145 Tryd.underlying113 hj hsh paper_lies]
  simp only [Result.andThen]
  rw [Oper.upon_value]
  go_wp2
  go_end0
  exact ⟨rfl, rfl⟩
theorem paperCheck_calls (B b : Nat) (bs : List Value) (w : World) (h : Lib.IsBuilder 118 5 B b bs w) :
    Calls Tryd.prog 124 #[.pointer (some ⟨b, 0, none⟩)] w fun e w' => e = .returned (.tuple #[]) ∧ (Lib.BuilderAt 118 5 B b (.pointer (some ⟨b, 0, none⟩)) bs w' ∧ Below B w w') := by
  rcases h with h | h
  · refine (paperCheck_fresh b w h.cell0 h.shape h.frozen0).mono ?_
    rintro e w' ⟨rfl, rfl⟩
    exact ⟨rfl, h.used _, (Below.refl B w).setCell (p := ⟨b, 0, none⟩) h.1 _⟩
  · refine (paperCheck_used b w h.cell0).mono ?_
    rintro e w' ⟨rfl, rfl⟩
    exact ⟨rfl, h, Below.refl B _⟩
set_option maxHeartbeats 2000000 in
set_option maxRecDepth 100000 in
theorem paperByte_calls (B b : Nat) (bs : List Value) (c : Int) (w : World) (h : Lib.IsBuilder 118 5 B b bs w) (hlen : bs.length + 1 ≤ 140737488355328) (hBw : B ≤ w.heap.size) :
    Calls Tryd.prog 118 #[.pointer (some ⟨b, 0, none⟩), .int .u8 c] w fun e w' => e = .returned .nilIface ∧ (Lib.BuilderAt 118 5 B b (.pointer (some ⟨b, 0, none⟩)) (bs ++ [.int .u8 c]) w' ∧ Below B w w') := by
  obtain ⟨i0, hi, hz0, hz1, hz2⟩ := info_parts paper_byte
  go_enter Tryd.func118, Tryd.ntmps118
  go_wp2_with (go_at_call 124; refine (paperCheck_calls B b bs _ h).mono ?_)
  rintro e w1 ⟨rfl, h1, hb1⟩
  obtain ⟨hB, v, hbk, hown, hne⟩ := h1
  have c0 : w1.cell? ⟨b, 0, none⟩ = some (.pointer (some ⟨b, 0, none⟩)) := by rw [Lib.cell_of_heap hbk]; rfl
  have c1 : w1.cell? ⟨b, 1, none⟩ = some v := by rw [Lib.cell_of_heap hbk]; rfl
  go_wp2_with (at_builtin; refine wpList_append_own _ rfl _ _ 114 rfl B 5 i0 (.int .u8 0) 1 1 Tryd.underlying114 hi hz0 hz1 hz2 rfl (by decide) _ _ _ rfl (hown.alloc _) ⟨w1.heap.size, 0, none⟩ 1 1 [.int .u8 c] rfl rfl ?c1 ?c2 ?c3 ?c4 ?c5 ?_)
  case c1 =>
    intro j u hj
    match j, hj with
    | 0, hj => simp at hj; subst hj; simp [Addr.add]
  case c2 => intro u hu; simp at hu; subst hu; rfl
  case c3 => unfold maxLen; omega
  case c4 => omega
  case c5 => have := hb1.size; simp; omega
  intro v' w2 hown' hgrow _
  have hlt : b < w1.heap.size := by
    rcases Nat.lt_or_ge b w1.heap.size with h' | h'
    · exact h'
    · simp [Array.getElem?_eq_none h'] at hbk
  have hb2 : w2.heap[b]? = some (.cells #[.pointer (some ⟨b, 0, none⟩), v] 118 (0, 0)) := by
    rw [hgrow.block b (by simp; omega) (fun e => hne e.symm), Lib.alloc_old w1 _ b hlt]
    exact hbk
  have d0 : w2.cell? ⟨b, 0, none⟩ = some (.pointer (some ⟨b, 0, none⟩)) := by rw [Lib.cell_of_heap hb2]; rfl
  have d1 : w2.cell? ⟨b, 1, none⟩ = some v := by rw [Lib.cell_of_heap hb2]; rfl
  have f1 : w2.frozen? ⟨b, 1, none⟩ = false := Lib.frozen_of_heap hb2 1
  obtain ⟨g, cap, rfl⟩ : ∃ g cap, v' = .slice (some ⟨g, 0, none⟩) (bs.length + 1) cap := by
    rcases hown'.2 with ⟨_, h0⟩ | ⟨g, cap, cur, hv, _⟩
    · omega
    · exact ⟨g, cap, hv⟩
  go_wp2
  go_ret
  refine ⟨rfl, ?_, ?_⟩
  · exact Lib.BuilderAt.put (T := 118) (e := 5) hB hb2 (bs' := bs ++ [.int .u8 c]) (by simpa using hown') (by decide)
  · exact ((hb1.alloc (by have := hb1.size; omega) _).grown hgrow (by have := hb1.size; simp; omega) (fun k hk => (hown.lt k hk).1)).setCell (p := ⟨b, 1, none⟩) hB _
set_option maxHeartbeats 2000000 in
set_option maxRecDepth 100000 in
theorem paperString_calls (B b : Nat) (l : List UInt8) (w : World) (h : Lib.IsBuilder 118 5 B b (Lib.byteCells l) w) (h0 : l ≠ []) :
    Calls Tryd.prog 97 #[.pointer (some ⟨b, 0, none⟩)] w fun e w' => e = .returned (.string ⟨l.toArray⟩) ∧ Below B w w' := by
  obtain ⟨p, hB, v, hbk, hown, hne⟩ : ∃ p, Lib.BuilderAt 118 5 B b p (Lib.byteCells l) w := by
    rcases h with h | h
    · exact ⟨_, h⟩
    · exact ⟨_, h⟩
  have hl0 : l.length ≠ 0 := by simpa using h0
  rw [Lib.byteCells_length] at hown
  obtain ⟨g, cap, cur, rfl, hbg, hg, hnc, hcm, hcs, htake⟩ : ∃ g cap cur, v = .slice (some ⟨g, 0, none⟩) l.length cap ∧ B ≤ g ∧ w.heap[g]? = some (.cells cur 5 (0, 0)) ∧ l.length ≤ cap ∧ cap ≤ maxLen ∧ cur.size = cap * 1 ∧ cur.toList.take (l.length * 1) = Lib.byteCells l := by
    rcases hown.2 with ⟨_, hz⟩ | ⟨g, cap, cur, hv, r⟩
    · exact absurd hz hl0
    · exact ⟨g, cap, cur, hv, r⟩
  have c1 : w.drew.cell? ⟨b, 1, none⟩ = some (.slice (some ⟨g, 0, none⟩) l.length cap) := by
    have : w.drew.heap[b]? = some (.cells #[p, .slice (some ⟨g, 0, none⟩) l.length cap] 118 (0, 0)) := hbk
    rw [Lib.cell_of_heap this]; rfl
  have hSD : (Builtin.unsafeSliceData_ #[114] 135 #[.slice (some ⟨g, 0, none⟩) l.length cap]).run Tryd.prog w.drew = .ok (.pointer (some ⟨g, 0, none⟩)) w.drew :=
    Lib.run_unsafeSliceData_row _ _ _ _ _ _ (by omega)
  have hUS : (Builtin.unsafeString_ #[135, 3] 9 #[.pointer (some ⟨g, 0, none⟩), .int .i64 l.length]).run Tryd.prog w.drew = .ok (.string ⟨l.toArray⟩) (w.drew.freeze ⟨g, 0, none⟩ l.length) := by
    refine Lib.run_unsafeString_row w.drew 135 3 9 5 Tryd.underlying135 (by kernel_rfl) g cur.size (by have hg' : w.drew.heap[g]? = some (.cells cur 5 (0, 0)) := hg; simp [World.shape?, hg']) l h0 (by omega) (by unfold maxLen at hcm; omega) ?_
    intro j x hx
    have := hown.cells (g := g) rfl j (.int .u8 x.toNat) (by simp [Lib.byteCells, hx])
    exact this
  go_enter Tryd.func97, Tryd.ntmps97
  go_wp2
  go_region
  all_goals (go_wp2; go_ret; exact ⟨rfl, Lib.below_freeze (Below.drew (Below.refl B w)) (p := ⟨g, 0, none⟩) hbg _⟩)
set_option maxHeartbeats 1000000 in
set_option maxRecDepth 100000 in
theorem paperPut_calls (B b : Nat) (bs : List Value) (x : Int) (w : World) (h0 : 0 ≤ x) (h3 : x < 3) (h : Lib.IsBuilder 118 5 B b bs w) (hlen : bs.length + 1 ≤ 140737488355328) (hBw : B ≤ w.heap.size) :
    Calls Tryd.prog 96 #[.pointer (some ⟨b, 0, none⟩), .int .i64 x] w fun e w' => e = .returned (.tuple #[]) ∧ (Lib.IsBuilder 118 5 B b (bs ++ [.int .u8 (lamp_letter.f x).toNat]) w' ∧ Below B w w') := by
  have HD := Lib.hid (show Lib.IsBuilder 118 5 B b bs w.drew from h)
  clear h
  rcases (by omega : x = 0 ∨ x = 1 ∨ x = 2) with rfl | rfl | rfl
  all_goals
    go_enter Tryd.func96, Tryd.ntmps96
    go_wp2
    go_still_tail 5, (by kernel_rfl)
    change wpList _ _ _ _ _ w.drew
    go_wp2_with (go_at_call 118; (refine (paperByte_calls B b bs _ w.drew HD.out hlen hBw).mono ?_); rintro e w' ⟨rfl, h1, hb1⟩; have H1 := Lib.hid h1; have HB1 := Lib.hid hb1; clear h1 hb1)
    go_end0
    exact ⟨rfl, .inr H1.out, Below.trans (Below.drew (Below.refl B w)) HB1.out⟩
set_option maxHeartbeats 2000000 in
set_option maxRecDepth 100000 in
theorem paperEach_calls (A : Option Addr) (c : Nat) (xs : List Int) (w0 w : World) (hr : Kd.C (Kd.int .i64) w0 A xs.length xs) (h8 : xs.length ≤ 8) (hm : ∀ x ∈ xs, 0 ≤ x ∧ x < 3) (hw : Below w0.heap.size w0 w) (h : Lib.IsBuilder 118 5 w0.heap.size w0.heap.size [] w) :
    Calls Tryd.prog 95 #[.slice A xs.length c, .func (.func 96) #[.pointer (some ⟨w0.heap.size, 0, none⟩)] #[]] w fun e w' => e = .returned (.tuple #[]) ∧ (Lib.IsBuilder 118 5 w0.heap.size w0.heap.size (Lib.byteCells (lamp_letters.f xs)) w' ∧ Below w0.heap.size w0 w') := by
  have hmx := Kd.C_max hr
  have HR := Lib.hid hr
  have HI := Lib.hid h
  have HM := Lib.hid hm
  clear hr h hm
  go_enter Tryd.func95, Tryd.ntmps95
  go_wp2
  go_loopw [8] (fun i wr => ∃ k : Nat, k ≤ xs.length ∧ i = .int .i64 k ∧ Hid (Lib.IsBuilder 118 5 w0.heap.size w0.heap.size (Lib.byteCells (lamp_letters.f (xs.take k))) wr) ∧ Below w0.heap.size w0 wr) (fun i _ => xs.length - (intOf i).toNat)
  case atStart => exact ⟨0, Nat.zero_le _, rfl, HI, hw⟩
  case round =>
    obtain ⟨k, hk, rfl, hI, hb⟩ := hrel
    by_cases hlt : k < xs.length
    · have hgt : xs[k] ∈ xs := List.getElem_mem hlt
      have hx := HM.out _ hgt
      have hrd : rd xs (k : Int) = xs[k] := by simp [rd, hlt]
      obtain ⟨ad, hA, hxc⟩ := Kd.at_int (Kd.C_below HR.out hb) (k : Int) (by omega) (by omega)
      rw [Int.toNat_natCast] at hxc
      subst hA
      have hsz := hb.size
      have hc := Lib.hid (paperPut_calls w0.heap.size w0.heap.size _ (rd xs k) wr (by rw [hrd]; exact hx.1) (by rw [hrd]; exact hx.2) hI.out (by simp [Lib.byteCells_length, lamp_letters.f]; omega) hsz)
      have hT := Lib.hid (show Lib.byteCells (lamp_letters.f (xs.take (k + 1))) = Lib.byteCells (lamp_letters.f (xs.take k)) ++ [.int .u8 (lamp_letter.f (rd xs k)).toNat] by unfold lamp_letters.f; rw [List.take_succ_eq_append_getElem hlt, hrd, List.map_append, Lib.byteCells_append]; rfl)
      clear hI hgt hx hrd
      go_wp2_with (go_at_call 96; refine hc.out.mono ?_; rintro e w' ⟨rfl, hI', hb'⟩; have hI2 := Lib.hid hI'; clear hI')
      go_roundw
      case rel => exact ⟨k + 1, by omega, by go_num, Lib.hid (by rw [hT.out]; exact hI2.out), hb.trans hb'⟩
      case measure => simp [intOf]; omega
    · obtain rfl : k = xs.length := by omega
      rw [List.take_length] at hI
      go_wp2
      go_end0
      exact ⟨rfl, hI.out, hb⟩
set_option maxHeartbeats 2000000 in
set_option maxRecDepth 100000 in
theorem lamp_Text.calls (A0 : Option Addr) (c0 : Nat) (l0 : List Int) (r : ByteArray) (w : World) (hr0 : Kd.C (Kd.int .i64) w A0 l0.length l0) (hc0 : l0.length ≤ c0) (h : lamp_Text.f l0 = some r) :
    Calls Tryd.prog 59 #[.slice A0 l0.length c0] w fun e w' => e = .returned (.string r) ∧ Below w.heap.size w w' := by
  have h := Option.some.inj h
  unfold lamp_textB.f at h
  have hmx := Kd.C_max hr0
  have HR := Lib.hid hr0
  cases hm : lamp_mayB.f l0 with
  | false =>
    rw [hm] at h
    have HM := Lib.hid (lamp_May_drawn A0 c0 l0 false w hr0 hc0 (by rw [lamp_May.f, hm]))
    clear hr0 hm
    simp only [Bool.false_eq_true, if_false] at h
    subst h
    go_enter Tryd.func59, Tryd.ntmps59
    go_wp2_with (go_at_call 49; refine HM.out.mono ?_; rintro e w' ⟨rfl, ⟨nd, rfl⟩⟩)
    go_ret
    exact ⟨rfl, pw_below_drewN (Below.refl _ _) nd⟩
  | true =>
    rw [hm] at h
    have HM := Lib.hid (lamp_May_drawn A0 c0 l0 true w hr0 hc0 (by rw [lamp_May.f, hm]))
    simp only [if_true] at h
    subst h
    have hm2 := hm
    unfold lamp_mayB.f at hm2
    rw [Bool.and_eq_true, decide_eq_true_eq] at hm2
    have hmm : ∀ x ∈ l0, 0 ≤ x ∧ x < 3 := by
      intro x hx
      have := hm2.2
      rw [Bool.not_eq_true', List.any_eq_false] at this
      have := this x hx
      simp only [lamp_badB.f, Bool.or_eq_true, decide_eq_true_eq, not_or] at this
      omega
    have HE := Lib.hid (fun nd : Nat => paperEach_calls A0 c0 l0 w ((w.drewN nd).alloc (.cells #[.pointer none, .slice none 0 0] 118)) hr0 hm2.1.2 hmm ((pw_below_drewN (Below.refl _ _) nd).alloc (Nat.le_refl _) _) (Lib.fresh_isBuilder 118 5 (w.drewN nd)))
    have hne : lamp_letters.f l0 ≠ [] := by
      intro e
      have := congrArg List.length e
      simp [lamp_letters.f] at this
      have := hm2.1.1
      simp_all
    have HS := Lib.hid (fun W hI => paperString_calls w.heap.size w.heap.size (lamp_letters.f l0) W hI hne)
    clear hr0 hm hm2 hmm hne
    go_enter Tryd.func59, Tryd.ntmps59
    go_wp2_with (first | (go_at_call 49; refine HM.out.mono ?_; rintro e w' ⟨rfl, ⟨nd, rfl⟩⟩) | (go_at_call 95; refine (HE.out _).mono ?_; rintro e w1 ⟨rfl, hI, hb1⟩; have HI := Lib.hid hI; clear hI) | (go_at_call 97; refine (HS.out _ HI.out).mono ?_; rintro e w2 ⟨rfl, hb2⟩))
    go_ret
    exact ⟨rfl, hb1.trans hb2⟩
end Go.Proofs.YtpciieagafddcaaDoor.F
