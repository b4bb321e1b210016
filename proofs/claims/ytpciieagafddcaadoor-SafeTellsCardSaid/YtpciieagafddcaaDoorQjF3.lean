/- Woven by wip/weave/weave.py of this repo (own tool) out of the translation: the contracts of some functions. Lean checks it. -/
import Derived.Test.YtpciieagafddcaaDoorQjD
import Derived.Test.YtpciieagafddcaaDoorQjSp
import Derived.Test.YtpciieagafddcaaDoorQjF2
import Derived.RangeFuncBox
import Derived.RangeFuncLeaves
import Derived.RangeFuncNested
import Derived.Shelf.Abstract
import Derived.OwnWalkIn
import Derived.TacticsInMore
import Derived.LoopNIn
import Derived.LoopIn
import Derived.BigGuardIn
import Derived.Outline
import Derived.Sort.QuietIn
namespace Go.Proofs.YtpciieagafddcaaDoor.F
open Go.RowKit Go.Proofs.YtpciieagafddcaaDoorW.PrintWords Go.Proofs.YtpciieagafddcaaDoorW.PrintLast Go.Proofs.YtpciieagafddcaaDoorW.PrintMore
attribute [local go_sem] max2_int min2_int max_two min_two max_three min_three max_four min_four   -- for this text's walks alone
set_option linter.unusedVariables false
set_option linter.unusedSimpArgs false
-- IMPORT Derived.RangeFuncBox
-- IMPORT Derived.RangeFuncLeaves
-- IMPORT Derived.RangeFuncNested
-- IMPORT Derived.Shelf.Abstract
-- IMPORT Derived.OwnWalkIn
-- IMPORT Derived.TacticsInMore
-- IMPORT Derived.LoopNIn
-- IMPORT Derived.LoopIn
-- IMPORT Derived.BigGuardIn
-- IMPORT Derived.Outline
-- IMPORT Derived.Sort.QuietIn
open Go.Shelf
attribute [local go_sem] Oper.semAt_some
theorem in_spec (x n : Int) (h0 : 0 ≤ n) (h8 : n ≤ 8) : group_in.f x n = some (Sp.inB x n) := by
 have hs : shl .i64 1 n = 2 ^ n.toNat := by
  obtain ⟨m, rfl⟩ := Int.eq_ofNat_of_zero_le h0
  have : m ≤ 8 := by omega
  rcases (by omega : m = 0 ∨ m = 1 ∨ m = 2 ∨ m = 3 ∨ m = 4 ∨ m = 5 ∨ m = 6 ∨ m = 7 ∨ m = 8) with rfl | rfl | rfl | rfl | rfl | rfl | rfl | rfl | rfl <;> decide
 unfold group_in.f Sp.inB
 by_cases hx : x ≥ 0
 ·
  rw [if_pos hx, if_pos h0, hs]
  simp [hx]
 ·
  rw [if_neg hx]
  simp [hx]
set_option maxHeartbeats 1000000 in
theorem may1_calls (x n : Int) (h0 : 0 ≤ n) (h8 : n ≤ 8) (B : Nat) (w : World) (hB : w.cell? ⟨B, 0, none⟩ = some (.int .i64 n)) :
  Calls Tryd.prog 91 #[.int .i64 x, .pointer (some ⟨B, 0, none⟩)] w fun e w' => e = .returned (.bool (!Sp.inB x n)) ∧ Drawn0 w w' := by
 have hin := Lib.hid (in_spec x n h0 h8)
 go_enter Tryd.func91, Tryd.ntmps91
 go_wp2_with (go_at_call 92; refine (group_in.calls x n _ _ hin.out).mono ?_; rintro e w' ⟨rfl, ⟨nd, rfl⟩⟩)
 go_ret
 exact ⟨rfl, ⟨⟨nd, rfl⟩⟩⟩
def IdxTells (p : Int → Bool) (xs : List Int) (w : World) (e : Ending) (w' : World) : Prop := ∃ r : Int, e = .returned (.int .i64 r) ∧ decide (0 ≤ r) = xs.any p ∧ Drawn0 w w'
theorem take_any (p : Int → Bool) (xs : List Int) (k : Nat) (h : k < xs.length) : (xs.take (k + 1)).any p = ((xs.take k).any p || p (rd xs k)) := by
 rw [List.take_succ_eq_append_getElem h, List.any_append]
 simp [rd, List.getD_eq_getElem?_getD, h]
theorem any_of_take (p : Int → Bool) (xs : List Int) (k : Nat) (h : (xs.take k).any p = true) : xs.any p = true := by
 rw [← List.take_append_drop k xs, List.any_append, h]; rfl
set_option maxHeartbeats 2000000 in
set_option maxRecDepth 100000 in
theorem indexFunc_calls (g : Nat) (B : Nat) (A : Option Addr) (c : Nat) (xs : List Int) (p : Int → Bool) (w : World) (hr : Kd.C (Kd.int .i64) w A xs.length xs)
  (hp : ∀ x W, Drawn0 w W → Calls Tryd.prog 91 #[.int .i64 x, .pointer (some ⟨B, 0, none⟩)] W fun e W' => e = .returned (.bool (p x)) ∧ Drawn0 W W') :
  Calls Tryd.prog 109 #[.slice A xs.length c, .func (.func 91) #[] #[.pointer (some ⟨B, 0, none⟩)]] w (IdxTells p xs w) := by
 have hm := Kd.C_max hr
 have HR := Lib.hid hr
 have HP := Lib.hid hp
 clear hr hp
 go_enter Tryd.func109, Tryd.ntmps109
 go_wp2
 go_loopw [8] (fun i wr => ∃ k : Nat, k ≤ xs.length ∧ i = .int .i64 k ∧ Hid ((xs.take k).any p = false) ∧ Drawn0 w wr) (fun i _ => xs.length - (intOf i).toNat)
 case atStart => exact ⟨0, Nat.zero_le _, rfl, Lib.hid (by simp), Drawn0.refl _⟩
 case round =>
  obtain ⟨k, hk, rfl, hno, hd⟩ := hrel
  by_cases hlt : k < xs.length
  ·
   have hta := Lib.hid (take_any p xs k hlt)
   obtain ⟨ad, hA, hx⟩ := Kd.at_int (Kd.C_below HR.out hd.below) (k : Int) (by omega) (by omega)
   rw [Int.toNat_natCast] at hx
   subst hA
   have hc := Lib.hid (HP.out (rd xs k) wr hd)
   cases hpx : p (rd xs k) with
   | true =>
    rw [hpx] at hc
    have hfin := Lib.hid (any_of_take p xs (k + 1) (by rw [hta.out, hpx]; simp))
    clear hpx
    go_wp2_with (go_at_call 91; refine hc.out.mono ?_; rintro e w' ⟨rfl, ⟨nd, rfl⟩⟩)
    go_ret
    exact ⟨_, rfl, by rw [hfin.out]; simp, ⟨let ⟨m, e⟩ := hd.out; ⟨m + nd, by rw [e, World.drewN_drewN]⟩⟩⟩
   | false =>
    rw [hpx] at hc
    have hfin := Lib.hid (show (xs.take (k + 1)).any p = false by rw [hta.out, hpx, hno.out]; rfl)
    clear hpx
    go_wp2_with (go_at_call 91; refine hc.out.mono ?_; rintro e w' ⟨rfl, ⟨nd, rfl⟩⟩)
    go_roundw
    case rel => exact ⟨k + 1, by omega, by go_num, hfin, ⟨let ⟨m, e⟩ := hd.out; ⟨m + nd, by rw [e, World.drewN_drewN]⟩⟩⟩
    case measure => simp [intOf]; omega
  ·
   obtain rfl : k = xs.length := by omega
   go_wp2
   go_ret
   exact ⟨_, rfl, by have := hno.out; rw [List.take_length] at this; rw [this]; decide, hd⟩
set_option maxHeartbeats 1000000 in
theorem containsFunc_calls (B : Nat) (A : Option Addr) (c : Nat) (xs : List Int) (p : Int → Bool) (w : World) (hr : Kd.C (Kd.int .i64) w A xs.length xs)
  (hp : ∀ x W, Drawn0 w W → Calls Tryd.prog 91 #[.int .i64 x, .pointer (some ⟨B, 0, none⟩)] W fun e W' => e = .returned (.bool (p x)) ∧ Drawn0 W W') :
  Calls Tryd.prog 84 #[.slice A xs.length c, .func (.func 91) #[] #[.pointer (some ⟨B, 0, none⟩)]] w fun e w' => e = .returned (.bool (xs.any p)) ∧ Drawn0 w w' := by
 have hc := Lib.hid (indexFunc_calls 91 B A c xs p w hr hp)
 clear hr hp
 go_enter Tryd.func84, Tryd.ntmps84
 go_wp2_with (go_at_call 109; refine hc.out.mono ?_; rintro e w' ⟨r, rfl, hr, ⟨nd, rfl⟩⟩; have hr' := Lib.hid hr; clear hr)
 go_ret
 exact ⟨by rw [← hr'.out]; rfl, ⟨⟨nd, rfl⟩⟩⟩
def MarksOk (n₀ : Nat) (Ds : List Nat) (W : World) : Prop := Ds.Pairwise (· ≠ ·) ∧ ∀ D ∈ Ds, n₀ ≤ D ∧ W.heap[D]? = some (.deferred (some []))
def marks (Ds : List Nat) : List Deferred := Ds.map fun D => { target := .collected D, args := #[] }
theorem MarksOk.keeps {n₀ : Nat} {Ds : List Nat} {W W' : World} (h : MarksOk n₀ Ds W) (hk : ∀ D ∈ Ds, W'.heap[D]? = W.heap[D]?) : MarksOk n₀ Ds W' := ⟨h.1, fun D hD => ⟨(h.2 D hD).1, (hk D hD).trans (h.2 D hD).2⟩⟩
theorem MarksOk.lt {n₀ : Nat} {Ds : List Nat} {W : World} (h : MarksOk n₀ Ds W) : ∀ D ∈ Ds, D < W.heap.size := fun D hD => (Array.getElem?_eq_some_iff.1 (h.2 D hD).2).1
theorem MarksOk.others {n₀ : Nat} {Ds : List Nat} {W W' : World} (h : MarksOk n₀ Ds W) (hk : KeepsOthers W W') : MarksOk n₀ Ds W' := ⟨h.1, fun D hD => ⟨(h.2 D hD).1, hk.same D _ (h.2 D hD).2 rfl⟩⟩
theorem others_drewN (W : World) (n : Nat) : KeepsOthers W (W.drewN n) := ⟨Nat.le_refl _, fun _ _ h _ => h⟩
theorem MarksOk.cons {n₀ D : Nat} {Ds : List Nat} {W : World} (h : MarksOk n₀ Ds W) (hn : n₀ ≤ D) (hD : W.heap[D]? = some (.deferred (some []))) (hne : ∀ D' ∈ Ds, D' < D) : MarksOk n₀ (D :: Ds) W :=
 ⟨List.pairwise_cons.2 ⟨fun D' hD' e => by have := hne D' hD'; omega, h.1⟩, fun D' hD' => by
  rcases List.mem_cons.1 hD' with rfl | h'
  ·
   exact ⟨hn, hD⟩
  ·
   exact h.2 D' h'⟩
theorem leaves_marks {P : Program} {fn : Func} {tmps : Array Value} {R : Ending → World → Prop} {n : Nat} (n₀ : Nat) (Ds : List Nat) : ∀ (W : World), n₀ ≤ W.heap.size → MarksOk n₀ Ds W →
  (∀ W', Below n₀ W W' → (∀ (b : Nat) (o : Obj), W.heap[b]? = some o → o.isCells = true → W'.heap[b]? = some o) → LeavesIn Fence.wide n P fn tmps R [] .returning W') →
  LeavesInM Fence.wide n P fn tmps R (marks Ds) .returning W := by
 induction Ds with
 | nil => exact fun W _ _ h => h W (Below.refl _ _) (fun _ _ h _ => h)
 | cons D Ds ih =>
  intro W hn hm h
  obtain ⟨hp, ha⟩ := hm
  obtain ⟨hD0, hD⟩ := ha D (by simp)
  obtain ⟨hp1, hp2⟩ := List.pairwise_cons.1 hp
  have hlt := (Array.getElem?_eq_some_iff.1 hD).1
  refine ⟨by simp, .inl ⟨D, _, rfl, run_takeDeferred hD, ih _ (by simp; exact hn) ⟨hp2, fun D' hD' => ⟨(ha D' (by simp [hD'])).1, (World.putObj_heap_other (fun e => hp1 D' hD' e.symm)).trans (ha D' (by simp [hD'])).2⟩⟩ fun W' hb hc => h W' (((Below.refl n₀ W).grown (grownBy_putObj' W D _) hn (fun k e => by cases e; exact hD0)).trans hb) fun b o hb' ho => hc b o ?_ ho⟩⟩
  refine (World.putObj_heap_other (fun e => ?_)).trans hb'
  subst e
  rw [hD] at hb'
  cases hb'
  cases ho
theorem marks_own {β : Type} {B n₀ : Nat} {Ds : List Nat} (h : ∀ D ∈ Ds, D < B) : OwnFrom B (fun (_ : β) W => MarksOk n₀ Ds W) := fun _ X Y row hs hg hr =>
 hs.keeps fun D hD => hg.block D (hs.lt D hD) fun e => by have := (hr D e.symm).1; have := h D hD; omega
structure MayAt (w : World) (A0 : Option Addr) (c0 : Nat) (l0 : List Int) (k : Nat) (Ds : List Nat) (W : World) : Prop where
 le : k ≤ l0.length
 rows : ∀ i, i < k → Sp.mayRow l0 i = true
 m : Boxed W w.heap.size 22 (.slice A0 l0.length c0)
 res : Boxed W (w.heap.size + 1) 4 (.bool false)
 mks : MarksOk w.heap.size Ds W
 below : Below w.heap.size w W
set_option maxRecDepth 100000 in
set_option maxHeartbeats 4000000 in
theorem may_in (A0 : Option Addr) (c0 : Nat) (l0 : List Int) (w : World) (hr0 : Kd.C (Kd.int .i64) w A0 l0.length l0) (hc0 : l0.length ≤ c0) (hG : GlobOk w) :
  CallsIn Fence.wide 6 Tryd.prog 55 #[.slice A0 l0.length c0] w fun e w' => e = .returned (.bool (Sp.may l0)) ∧ Below w.heap.size w w' := by
 have HR := Lib.hid hr0
 have HG := Lib.hid hG
 have hmx := Kd.C_max hr0
 clear hr0 hG
 refine callsIn_of_wp_marks Tryd.func55 rfl trivial ?_ rfl
 simp only [Tryd.ntmps55, List.size_toArray, List.length_cons, List.length_nil, Nat.reduceAdd, Nat.reduceSub, Array.replicate_succ, Array.replicate_zero, List.push_toArray, List.append_toArray, List.nil_append, List.cons_append]
 have bM := ((Boxed.new w 22 (.slice A0 l0.length c0)).alloc (.cells #[.bool false] 4)).alloc (.cells #[.int .i64 (l0.length : Int)] 3)
 have bR := (Boxed.new (w.alloc (.cells #[.slice A0 l0.length c0] 22)) 4 (.bool false)).alloc (.cells #[.int .i64 (l0.length : Int)] 3)
 have bN := Boxed.new ((w.alloc (.cells #[.slice A0 l0.length c0] 22)).alloc (.cells #[.bool false] 4)) 3 (.int .i64 (l0.length : Int))
 simp only [World.size_alloc] at bR bN
 have hB0 : Below w.heap.size w (((w.alloc (.cells #[.slice A0 l0.length c0] 22)).alloc (.cells #[.bool false] 4)).alloc (.cells #[.int .i64 (l0.length : Int)] 3)) := (((Below.refl _ w).alloc (Nat.le_refl _) _).alloc (by simp) _).alloc (by simp; omega) _
 by_cases h1 : l0.length < 1
 ·
  have d1 : decide ((l0.length : Int) < 1) = true := decide_eq_true (by omega)
  have hm := Lib.hid (show Sp.may l0 = false by simp [Sp.may]; omega)
  gi_wp2_with (refine ⟨trivial, ?_⟩)
  exact ⟨.bool false, by simp [results, Tryd.f55, go_sem], by rw [hm.out], hB0⟩
 ·
  by_cases h8 : 8 < l0.length
  ·
   have d1 : decide ((l0.length : Int) < 1) = false := decide_eq_false (by omega)
   have d8 : decide (8 < (l0.length : Int)) = true := decide_eq_true (by omega)
   have hm := Lib.hid (show Sp.may l0 = false by simp [Sp.may]; omega)
   gi_wp2_with (refine ⟨trivial, ?_⟩)
   exact ⟨.bool false, by simp [results, Tryd.f55, go_sem], by rw [hm.out], hB0⟩
  ·
   have d1 : decide ((l0.length : Int) < 1) = false := decide_eq_false (by omega)
   have d8 : decide (8 < (l0.length : Int)) = false := decide_eq_false (by omega)
   have hcl := containsFunc_calls (w.heap.size + 1 + 1) A0 c0 l0 (fun x => !Sp.inB x (l0.length : Int)) _ (Kd.C_below HR.out hB0) (fun x W' hd' => may1_calls x _ (by omega) (by omega) _ _ ((hd'.below.cell (World.block_lt_of_cell? _ _ bN.cell)).trans bN.cell))
   cases hany : (l0.any fun x => !Sp.inB x (l0.length : Int)) with
   | true =>
    rw [hany] at hcl
    have HCL := Lib.hid hcl
    have hm := Lib.hid (show Sp.may l0 = false by simp [Sp.may, hany])
    clear hcl hany
    gi_wp2_with (refine ⟨trivial, (callsIn_wide.2 HCL.out).mono ?_⟩; rintro e w' ⟨rfl, ⟨nd, rfl⟩⟩)
    exact ⟨.bool false, by simp [results, Tryd.f55, go_sem], by rw [hm.out], (pw_below_drewN hB0 nd).setCell (p := ⟨w.heap.size + 1, 0, none⟩) (by simp) _⟩
   | false =>
    rw [hany] at hcl
    have HCL := Lib.hid hcl
    have hm := Lib.hid (show Sp.may l0 = (List.range l0.length).all (Sp.mayRow l0) by simp [Sp.may, hany]; omega)
    have hany' := Lib.hid hany
    clear hcl hany
    gi_wp2_with (refine ⟨trivial, (callsIn_wide.2 HCL.out).mono ?_⟩; rintro e w' ⟨rfl, ⟨nd, rfl⟩⟩)
    have bM1 : Boxed _ _ _ _ := blk_drewN bM nd
    have bR1 : Boxed _ _ _ _ := blk_drewN bR nd
    have hB1 := pw_below_drewN hB0 nd
    clear bM bR bN hB0 HCL
    obtain ⟨W0, hW0⟩ : ∃ W0, ((((w.alloc (.cells #[.slice A0 l0.length c0] 22)).alloc (.cells #[.bool false] 4)).alloc (.cells #[.int .i64 (l0.length : Int)] 3)).drewN nd) = W0 := ⟨_, rfl⟩
    rw [hW0] at bM1 bR1 hB1 ⊢
    clear hW0
    refine wpIn_loop (fun a W => ∃ (k : Nat) (u4 u5 u6 u23 u24 u25 u26 u27 u28 u29 u30 u31 u32 u33 u34 u35 u36 u37 u38 u39 u40 u41 u42 u43 : Value) (Ds : List Nat), a = { tmps := #[.slice A0 l0.length c0, .pointer (some ⟨w.heap.size, 0, none⟩), .pointer (some ⟨w.heap.size + 1, 0, none⟩), .pointer (some ⟨w.heap.size + 1 + 1, 0, none⟩), u4, u5, u6, .slice A0 l0.length c0, .int .i64 l0.length, .int .i64 l0.length, .bool false, .bool false, .int .i64 l0.length, .bool false, .bool false, .bool false, .slice A0 l0.length c0, .func (.func 91) #[] #[.pointer (some ⟨w.heap.size + 1 + 1, 0, none⟩)], .bool false, .bool false, .slice A0 l0.length c0, .int .i64 l0.length, .int .i64 k, u23, u24, u25, u26, u27, u28, u29, u30, u31, u32, u33, u34, u35, u36, u37, u38, u39, u40, u41, u42, u43], defers := marks Ds } ∧ MayAt w A0 c0 l0 k Ds W)
     (fun a _ => l0.length - (intOf (a.tmps.getD 22 undef)).toNat) ⟨0, undef, undef, undef, undef, undef, undef, undef, undef, undef, undef, undef, undef, undef, undef, undef, undef, undef, undef, undef, undef, undef, undef, undef, undef, [], rfl, ?_⟩ ?_
    ·
     exact ⟨Nat.zero_le _, fun i hi => absurd hi (Nat.not_lt_zero _), bM1, bR1, ⟨List.Pairwise.nil, fun _ h => by cases h⟩, hB1⟩
    ·
     rintro _ W ⟨k, u4, u5, u6, u23, u24, u25, u26, u27, u28, u29, u30, u31, u32, u33, u34, u35, u36, u37, u38, u39, u40, u41, u42, u43, Ds, rfl, hat⟩
     by_cases hlt : k < l0.length
     ·
      obtain ⟨hk, hrows, bM, bR, hmk, hB⟩ := hat
      obtain ⟨ad, hA, hx⟩ := Kd.at_int (Kd.C_below HR.out hB) (k : Int) (by omega) (by omega)
      rw [Int.toNat_natCast] at hx
      subst hA
      have cM := bM.cell
      gi_wp2_with (refine ⟨trivial, ?_⟩; gi_at_call 93; refine (groups_in _ _ _).mono ?_; rintro e w' ⟨rfl, rfl⟩)
      have hsz := hB.size
      have bI := (Boxed.new W 3 (.int .i64 (k : Int))).alloc (.cells #[.int .i64 (rd l0 (k : Int))] 3)
      have bX := Boxed.new (W.alloc (.cells #[.int .i64 (k : Int)] 3)) 3 (.int .i64 (rd l0 (k : Int)))
      rw [World.size_alloc] at bX
      have bM2 := (bM.alloc (.cells #[.int .i64 (k : Int)] 3)).alloc (.cells #[.int .i64 (rd l0 (k : Int))] 3)
      have bR2 := (bR.alloc (.cells #[.int .i64 (k : Int)] 3)).alloc (.cells #[.int .i64 (rd l0 (k : Int))] 3)
      have hB2 : Below w.heap.size w ((W.alloc (.cells #[.int .i64 (k : Int)] 3)).alloc (.cells #[.int .i64 (rd l0 (k : Int))] 3)) := (hB.alloc hsz _).alloc (by simp; omega) _
      have hmk2 : MarksOk w.heap.size Ds ((W.alloc (.cells #[.int .i64 (k : Int)] 3)).alloc (.cells #[.int .i64 (rd l0 (k : Int))] 3)) := hmk.keeps fun D hD => (Below.heap_alloc _ _ D (by have := hmk.lt D hD; simp; omega)).trans (Below.heap_alloc _ _ D (hmk.lt D hD))
      have hinx : Sp.inB (rd l0 (k : Int)) (l0.length : Int) = true := by
       have := List.any_eq_false.1 hany'.out (rd l0 (k : Int)) (by simp only [rd, Int.toNat_natCast, List.getD_eq_getElem?_getD, List.getElem?_eq_getElem hlt, Option.getD_some]; exact List.getElem_mem hlt)
       simpa using this
      have hin' := Lib.hid hinx
      clear hinx
      refine wpIn_rangeFunc_ownF rfl (by decide) (gf := 116) (lb := #[.pointer (some ⟨W.heap.size + 1, 0, none⟩)]) rfl trivial (enters_of Tryd.func116 (by kernel_rfl) rfl)
       (groups_stops (6 - 1) (by decide) (W.heap.size + 1) w.heap.size (rd l0 (k : Int)) _ (by simp) HG.out.lt (by simp; omega) bX.cell (HG.out.below hB2)) belowK_t (belowK_b (by simp; omega)) (Below.refl _ _) (fun _ => rfl)
       (fun pre W' => (((((∀ z ∈ pre, Sp.rowBit l0 k z.1 = true) ∧ Boxed W' w.heap.size 22 (.slice (some ad) l0.length c0)) ∧ Boxed W' (w.heap.size + 1) 4 (.bool false)) ∧ Boxed W' W.heap.size 3 (.int .i64 (k : Int))) ∧ MarksOk w.heap.size Ds W') ∧ Below w.heap.size w W')
       (fun c pre W' => (((c = .ret ∧ ∃ z ∈ pre, Sp.rowBit l0 k z.1 = false) ∧ Boxed W' (w.heap.size + 1) 4 (.bool false)) ∧ MarksOk w.heap.size Ds W') ∧ Below w.heap.size w W')
       (OwnFrom.and (OwnFrom.and (OwnFrom.and (OwnFrom.and (OwnFrom.and (ownFrom_pure _ _) (Own.from (boxed_own _ _ _) _)) (Own.from (boxed_own _ _ _) _)) (Own.from (boxed_own _ _ _) _)) (marks_own (fun D hD => by have := hmk.lt D hD; simp; omega))) (ownFrom_below (Nat.le_refl _) (by simp; omega)))
       (fun c => OwnFrom.and (OwnFrom.and (OwnFrom.and (ownFrom_pure _ _) (Own.from (boxed_own _ _ _) _)) (marks_own (fun D hD => by have := hmk.lt D hD; simp; omega))) (ownFrom_below (Nat.le_refl _) (by simp; omega)))
       ⟨⟨⟨⟨⟨by simp, bM2⟩, bR2⟩, bI⟩, hmk2⟩, hB2⟩
       (fun y => { tmps := #[.slice (some ad) l0.length c0, .pointer (some ⟨w.heap.size, 0, none⟩), .pointer (some ⟨w.heap.size + 1, 0, none⟩), .pointer (some ⟨w.heap.size + 1 + 1, 0, none⟩), .pointer (some ⟨W.heap.size, 0, none⟩), .int .i64 (rd l0 (k : Int)), .int .i64 y.1, .slice (some ad) l0.length c0, .int .i64 l0.length, .int .i64 l0.length, .bool false, .bool false, .int .i64 l0.length, .bool false, .bool false, .bool false, .slice (some ad) l0.length c0, .func (.func 91) #[] #[.pointer (some ⟨w.heap.size + 1 + 1, 0, none⟩)], .bool false, .bool false, .slice (some ad) l0.length c0, .int .i64 l0.length, .int .i64 k, .bool true, .int .i64 k, .pointer (some (ad.add k)), .int .i64 (rd l0 (k : Int)), .int .i64 (rd l0 (k : Int)), .func (.func 116) #[] #[.pointer (some ⟨W.heap.size + 1, 0, none⟩)], .int .i64 y.1, u30, u31, u32, u33, u34, u35, u36, u37, u38, u39, u40, u41, u42, u43], defers := [] }) ?assign ?body ?done ?stop
      case assign =>
       intro l y W' K hK
       gi_wp2
       exact hK
      case body =>
       rintro l pre y W' ⟨⟨⟨⟨⟨hpre, bM3⟩, bR3⟩, bI3⟩, hmk3⟩, hB3⟩ _
       obtain ⟨hy0, hy1⟩ := Sp.groupsOf_lt hin'.out y.2
       obtain ⟨y, hy⟩ := y
       dsimp only at hy0 hy1
       obtain ⟨ad', hA', hxy⟩ := Kd.at_int (Kd.C_below HR.out hB3) y hy0 hy1
       obtain rfl : ad = ad' := Option.some.inj hA'
       have cM := bM3.cell
       have cI := bI3.cell
       have cR := bR3.cell
       have fR := bR3.frozen
       have hiny : Sp.inB (rd l0 y) (l0.length : Int) = true := by
        have hyl : y.toNat < l0.length := by omega
        have := List.any_eq_false.1 hany'.out (rd l0 y) (by simp only [rd, List.getD_eq_getElem?_getD, List.getElem?_eq_getElem hyl, Option.getD_some]; exact List.getElem_mem hyl)
        simpa using this
       obtain ⟨hr0, hr1⟩ := Sp.inB_256 (by omega) hiny
       have hbe := Lib.hid (Sp.bit_eq hr0 hr1 (show k < 8 by omega))
       clear hiny
       by_cases hyk : y = (k : Int)
       ·
        have hb : (y == (k : Int)) = true := by simpa using hyk
        have hrb := Lib.hid (show Sp.rowBit l0 k y = false by simp [Sp.rowBit, hyk])
        clear hyk
        gi_wp2
        refine region_quiet_round (by kernel_rfl) (by kernel_rfl) (by kernel_rfl) ?_
        repeat (gi_big_quiet_step (fail))
        refine wpQuietIn_nil ?_
        intro _ hw'
        obtain ⟨nq, hw''⟩ := hw'
        subst hw''
        gi_wp2
        have hko := (others_drewN W' nq).trans (KeepsOthers.setCell (W'.drewN nq) ⟨w.heap.size + 1, 0, none⟩ (.bool false))
        exact ⟨hko, ⟨⟨⟨rfl, ⟨y, hy⟩, List.mem_append.2 (.inr (by simp)), hrb.out⟩, Boxed.set _ (blk_drewN bR3 nq)⟩, hmk3.others hko⟩, (pw_below_drewN hB3 nq).setCell (p := ⟨w.heap.size + 1, 0, none⟩) (by simp) _⟩
       ·
        have hb : (y == (k : Int)) = false := by simpa using hyk
        cases hbit : Sp.bitAt (rd l0 y) (k : Int) with
        | false =>
         have hbb : (bits .and .i64 (rd l0 y / 2 ^ k) 1 == 0) = true := by rw [hbe.out, hbit]; rfl
         have hrb := Lib.hid (show Sp.rowBit l0 k y = false by simp only [Sp.rowBit]; rw [show l0.getD y.toNat 0 = rd l0 y from rfl, hbit, Bool.and_false])
         clear hyk hbit
         gi_wp2
         refine region_quiet_round (by kernel_rfl) (by kernel_rfl) (by kernel_rfl) ?_
         repeat (gi_big_quiet_step (fail))
         refine wpQuietIn_nil ?_
         intro _ hw'
         obtain ⟨nq, hw''⟩ := hw'
         subst hw''
         gi_wp2
         have hko := (others_drewN W' nq).trans (KeepsOthers.setCell (W'.drewN nq) ⟨w.heap.size + 1, 0, none⟩ (.bool false))
         exact ⟨hko, ⟨⟨⟨rfl, ⟨y, hy⟩, List.mem_append.2 (.inr (by simp)), hrb.out⟩, Boxed.set _ (blk_drewN bR3 nq)⟩, hmk3.others hko⟩, (pw_below_drewN hB3 nq).setCell (p := ⟨w.heap.size + 1, 0, none⟩) (by simp) _⟩
        | true =>
         have hbb : (bits .and .i64 (rd l0 y / 2 ^ k) 1 == 0) = false := by rw [hbe.out, hbit]; rfl
         have hrb := Lib.hid (show Sp.rowBit l0 k y = true by simp only [Sp.rowBit]; rw [show l0.getD y.toNat 0 = rd l0 y from rfl, hbit]; simp [hyk])
         clear hyk hbit
         gi_wp2
         refine region_quiet_round (by kernel_rfl) (by kernel_rfl) (by kernel_rfl) ?_
         repeat (gi_big_quiet_step (fail))
         refine wpQuietIn_nil ?_
         intro _ hw'
         obtain ⟨nq, hw''⟩ := hw'
         subst hw''
         gi_wp2
         have hpre2 : ∀ z ∈ pre ++ [(⟨y, hy⟩ : Gr (rd l0 (k : Int)))], Sp.rowBit l0 k z.1 = true := fun z hz => (List.mem_append.1 hz).elim (hpre z) (fun e => by rw [List.mem_singleton.1 e]; exact hrb.out)
         exact ⟨others_drewN W' nq, pw_below_drewN (Below.refl _ _) nq, ⟨⟨⟨⟨hpre2, blk_drewN bM3 nq⟩, blk_drewN bR3 nq⟩, blk_drewN bI3 nq⟩, hmk3.others (others_drewN W' nq)⟩, pw_below_drewN hB3 nq⟩
      case done =>
       rintro D ys W' hD hys ⟨⟨⟨⟨⟨hall, bM3⟩, bR3⟩, bI3⟩, hmk3⟩, hB3⟩ hK
       have hrow := Lib.hid (show Sp.mayRow l0 k = true by
        simp only [Sp.mayRow]
        rw [show l0.getD k 0 = rd l0 (k : Int) by simp [rd], ← hys, List.all_map, List.all_eq_true]
        exact fun z hz => hall z hz)
       have hys' := Lib.hid hys
       have hD' : W.heap.size + 2 ≤ D := by simpa using hD
       clear hys hD
       gi_wp2
       refine ⟨⟨k + 1, _, _, _, _, _, _, _, _, _, _, _, _, _, _, _, _, _, _, _, _, _, _, _, _, D :: Ds, rfl, by omega, fun i hi => ?_, bM3, bR3, hmk3.cons (by omega) hK (fun D' h' => by have := hmk.lt D' h'; omega), hB3⟩, by simp [intOf]; omega⟩
       rcases Nat.lt_succ_iff_lt_or_eq.1 hi with h' | rfl
       ·
        exact hrows i h'
       ·
        exact hrow.out
      case stop =>
       rintro D c pre W' hD hpre ⟨⟨⟨⟨rfl, z, hz, hzb⟩, bR3⟩, hmk3⟩, hB3⟩ hK
       have hfal := Lib.hid (show Sp.may l0 = false by
        rw [hm.out, List.all_eq_false]
        refine ⟨k, List.mem_range.2 hlt, ?_⟩
        simp only [Sp.mayRow, Bool.not_eq_true]
        rw [show l0.getD k 0 = rd l0 (k : Int) by simp [rd], List.all_eq_false]
        exact ⟨z.1, hpre.subset (List.mem_map.2 ⟨z, hz, rfl⟩), by simp [hzb]⟩)
       have hD' : W.heap.size + 2 ≤ D := by simpa using hD
       clear hD hpre
       gi_wp2
       refine leaves_marks w.heap.size (D :: Ds) W' hB3.size (hmk3.cons (by omega) hK (fun D' h' => by have := hmk.lt D' h'; omega)) fun W2 hb2 hc2 => ?_
       have cR : W2.cell? ⟨w.heap.size + 1, 0, none⟩ = some (.bool false) := Boxed.cell (t := 4) (hc2 _ _ bR3 rfl)
       exact ⟨.bool false, by simp [results, Tryd.f55, go_sem, cR], by rw [hfal.out], hB3.trans hb2⟩
     ·
      obtain ⟨hk, hrows, bM, bR, hmk, hB⟩ := hat
      obtain rfl : k = l0.length := by omega
      have htru := Lib.hid (show Sp.may l0 = true by rw [hm.out, List.all_eq_true]; exact fun i hi => hrows i (List.mem_range.1 hi))
      have cR := bR.cell
      have fR := bR.frozen
      gi_wp2
      have hko := KeepsOthers.setCell W ⟨w.heap.size + 1, 0, none⟩ (.bool true)
      refine leaves_marks w.heap.size Ds _ (by simp; exact hB.size) (hmk.others hko) fun W2 hb2 hc2 => ?_
      have cR2 : W2.cell? ⟨w.heap.size + 1, 0, none⟩ = some (.bool true) := Boxed.cell (t := 4) (hc2 _ _ (bR.set _) rfl)
      exact ⟨.bool true, by simp [results, Tryd.f55, go_sem, cR2], by rw [htru.out], (hB.setCell (p := ⟨w.heap.size + 1, 0, none⟩) (by simp) _).trans hb2⟩
theorem group_May.calls (A0 : Option Addr) (c0 : Nat) (l0 : List Int) (r : Bool) (w : World) (hr0 : Kd.C (Kd.int .i64) w A0 l0.length l0) (hc0 : l0.length ≤ c0) (hG : GlobOk w) (h : group_May.f l0 = some r) :
  Calls Tryd.prog 55 #[.slice A0 l0.length c0] w fun e w' => e = .returned (.bool r) ∧ Below w.heap.size w w' := by
 obtain rfl := Option.some.inj h
 exact callsIn_wide.1 (may_in A0 c0 l0 w hr0 hc0 hG)
end Go.Proofs.YtpciieagafddcaaDoor.F
