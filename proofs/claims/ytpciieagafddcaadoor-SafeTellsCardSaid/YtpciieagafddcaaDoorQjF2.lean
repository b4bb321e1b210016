/- Woven by wip/weave/weave.py of this repo (own tool) out of the translation: the contracts of some functions. Lean checks it. -/
import Derived.Test.YtpciieagafddcaaDoorQjD
import Derived.Test.YtpciieagafddcaaDoorQjSp
import Derived.RangeFuncBox
import Derived.RangeFuncLeaves
import Derived.RangeFuncNested
import Derived.Shelf.Abstract
import Derived.OwnWalkIn
import Derived.TacticsInMore
import Derived.LoopNIn
import Derived.LoopIn
import Derived.Laws.Bits64b
import Derived.Sort.QuietIn
namespace Go.Proofs.YtpciieagafddcaaDoor.F
open Go.RowKit Go.Proofs.YtpciieagafddcaaDoorW.PrintWords Go.Proofs.YtpciieagafddcaaDoorW.PrintLast Go.Proofs.YtpciieagafddcaaDoorW.PrintMore
attribute [local go_sem] max2_int min2_int max_two min_two max_three min_three max_four min_four   -- for this text's walks alone
set_option linter.unusedVariables false
set_option linter.unusedSimpArgs false
-- IMPORT Derived.RangeFuncBox
-- IMPORT Derived.RangeFuncLeaves
-- IMPORT Derived.RangeFuncNested
-- IMPORT Derived.Shelf.Abstract
-- IMPORT Derived.OwnWalkIn
-- IMPORT Derived.TacticsInMore
-- IMPORT Derived.LoopNIn
-- IMPORT Derived.LoopIn
-- IMPORT Derived.Laws.Bits64b
-- IMPORT Derived.Sort.QuietIn
open Go.Shelf
attribute [local go_sem] Oper.semAt_some
section
variable {P : Program} {F : Fence} {n : Nat} {ops : Array Oper} {C : World → Prop} {md : Region.Mode}
def noDefer (o : Oper) : Bool := match o.op with
  | .defer _ => false
  | _ => true
theorem noDefer_spec {o : Oper} (h : noDefer o = true) : ∀ c, o.op ≠ .defer c := fun c e => by
  unfold noDefer at h
  rw [e] at h
  cases h
theorem quietOne {o : Oper} {a : Act} {K : Act → Prop} {K' : Act → World → Prop} {Q' : Exit → Act → World → Prop} {w : World} (hd : noDefer o = true) (hw : C w) (h : ∀ a w', C w' → K a → K' a w')
    (ha : o.askedIn F P a C) (hh : o.quietIn F n P a C K) : o.wpIn F n P a w K' Q' := by
  obtain ⟨v, h1, h2⟩ := hh
  have h3 := h1 w hw
  unfold Oper.quietAtIn at h3
  unfold Oper.wpIn
  refine ⟨ha w hw, ?_⟩
  rw [Oper.semAt_eq _ _ _ (noDefer_spec hd)]
  generalize (execOp a.eval o).run P w = r at *
  cases r with
  | ok x w' =>
    cases x <;> simp only [Oper.quietUponIn] at h3 <;> simp only [Oper.uponIn]
    case value u =>
      obtain ⟨e1, e2⟩ := h3
      rw [e1, e2]
      exact h _ _ hw h2
    case skip =>
      obtain ⟨e1, e2⟩ := h3
      rw [e1, ← e2]
      exact h _ _ hw h2
    case enter f args =>
      obtain ⟨e1, hd, hc⟩ := h3
      rw [e1]
      exact ⟨hd, hc.mono fun e w'' ⟨he, hw''⟩ => by subst he; exact h _ _ hw'' h2⟩
  | halt x w' => simp only [Oper.quietUponIn] at h3
theorem quietAt {i : Nat} {a : Act} {K : Act → Prop} {K' : Act → World → Prop} {Q' : Exit → Act → World → Prop} {w : World} (hd : ∀ (i : Nat) (o : Oper), ops[i]? = some o → noDefer o = true) (hC : C w) (h : ∀ a w', C w' → K a → K' a w')
    (hh : qOpIn F n P ops C i K a) : wpOpIn F n P ops Q' i K' a w := by
  unfold qOpIn at hh
  unfold wpOpIn
  split
  · rename_i ho; simp only [ho] at hh; exact h _ _ hC hh
  · rename_i o ho
    simp only [ho] at hh
    obtain ⟨ha, hh⟩ := hh
    split
    · rename_i hw; simp only [hw, if_true] at hh; exact quietOne (hd i o ho) hC h ha hh
    · rename_i hw; simp only [hw] at hh; exact ⟨ha w hC, h _ _ hC hh⟩
theorem quietAll {Q : Act → Prop} {Q' : Exit → Act → World → Prop} (hd : ∀ (i : Nat) (o : Oper), ops[i]? = some o → noDefer o = true) (hQ : ∀ a w, C w → Q a → Q' .normal a w) : ∀ (fuel : Nat) (listed : Array Bool) (a : Act) (w : World), C w →
    wpAnyQIn F n P md ops C Q fuel listed a → wpAnyIn F n P md ops Q' fuel listed a w
  | 0, _, _, _, hw, h => ⟨h.1, hQ _ _ hw h.2⟩
  | fuel + 1, _, _, _, hw, h => ⟨fun h0 => hQ _ _ hw (h.1 h0), fun i hi => quietAt hd hw (fun a' w' hw' => quietAll hd hQ fuel _ a' w' hw') (h.2 i hi)⟩
theorem region_quiet_round {id : Nat} {Q : Exit → Act → World → Prop} {a : Act} {w : World} {l : List Oper} (hd : l.all noDefer = true) (hm : P.follows .mixedOrders = true) (hB : Region.lexB .any l.toArray = true)
    (h : wpQuietIn F n P l.toArray (fun w' => ∃ n, w' = w.drewN n) (fun a' => ∀ w', (∃ n, w' = w.drewN n) → Q .normal a' w') l a) : (Code.region id l.toArray true).wpIn F n P Q a w := by
  simp only [Region.lexB, Bool.and_eq_true] at hB
  refine wpIn_region_any hm (quietAll (C := fun w' => ∃ n, w' = w.drewN n) (Q := fun a' => ∀ w', (∃ n, w' = w.drewN n) → Q .normal a' w') (fun i o ho => ?_) (fun _ w' hw' h => h w' hw') _ _ _ _ ⟨1, rfl⟩ ?_)
  · simp only [List.getElem?_toArray] at ho
    exact List.all_eq_true.1 hd o (List.mem_of_getElem? ho)
  · have := wpAnyQIn_lex (F := F) (n := n) (C := fun w' => ∃ n, w' = w.drewN n) (md := .any) hB.1 l 0 (Array.replicate l.toArray.size false) a (by simp) (by simpa using hB.2) (by simpa using h)
    simpa using this
end
theorem tzKey (x a : Nat) (hx : x < 18446744073709551616) (hx0 : x ≠ 0) (hlow : x &&& (18446744073709551616 - x) = a) :
    IntKind.u64.wrap (bits BinOp.and IntKind.u64 (x : Int) (IntKind.u64.wrap (-(x : Int))) * 285870213051353865) / 288230376151711744 = ((a * 285870213051353865 % 18446744073709551616 / 288230376151711744 : Nat) : Int) := by
  have e1 : IntKind.u64.wrap (-(x : Int)) = ((18446744073709551616 - x : Nat) : Int) := by rw [IntKind.wrap_u64]; omega
  rw [e1, bits_and_u64_nat x _ hx (by omega), hlow, IntKind.wrap_u64]
  omega
set_option maxHeartbeats 1000000 in
theorem tzCore (x k idx : Nat) (w : World) (hx0 : ((x : Int) == 0) = false)
    (key : IntKind.u64.wrap (bits BinOp.and IntKind.u64 (x : Int) (IntKind.u64.wrap (-(x : Int))) * 285870213051353865) / 288230376151711744 = (idx : Int))
    (hi : idx < 64) (hk : k < 64) (hcell : w.cell? ⟨1, idx, none⟩ = some (.int .u8 k)) :
    Calls Tryd.prog 123 #[.int .u64 x] w fun e w' => e = .returned (.int .i64 k) ∧ w = w' := by
  go_enter Tryd.func123, Tryd.ntmps123
  go_wp2_with (simp only [key])
  go_ret
  exact ⟨rfl, rfl⟩
theorem tz64 (x : Nat) (hx : x < 18446744073709551616) (hx0 : x ≠ 0) (w : World) (hG : GlobOk w) :
    Calls Tryd.prog 123 #[.int .u64 x] w fun e w' => e = .returned (.int .i64 (Lib.ctz 64 x)) ∧ w = w' := by
  obtain ⟨hlow, hk⟩ := Lib.lowest_bit 64 x hx0 hx
  obtain ⟨hi, htab⟩ := Lib.deBruijn64_at _ hk
  have hcell := hG _ hi
  rw [htab] at hcell
  exact tzCore x _ _ w (by simp; omega) (tzKey x _ hx hx0 hlow) hi hk hcell
set_option maxHeartbeats 1000000 in
theorem tz (x : Nat) (hx : x < 18446744073709551616) (hx0 : x ≠ 0) (w : World) (hG : GlobOk w) :
    Calls Tryd.prog 117 #[.int .u64 x] w fun e w' => e = .returned (.int .i64 (Lib.ctz 64 x)) ∧ w = w' := by
  have c64 := Lib.hid (tz64 x hx hx0 w hG)
  have hw : IntKind.u64.wrap (x : Int) = (x : Int) := by rw [IntKind.wrap_u64]; omega
  go_enter Tryd.func117, Tryd.ntmps117
  go_wp2_with (go_at_call 123; refine c64.out.mono ?_; rintro e w' ⟨rfl, rfl⟩)
  go_ret
  exact ⟨rfl, rfl⟩
theorem Boxed.belowAll {W W1 : World} {B : Nat} {t : TypeId} {v : Value} (h : Boxed W B t v) (hb : Below W.heap.size W W1) : Boxed W1 B t v := (hb.block B h.lt).trans h
set_option maxHeartbeats 1000000 in
theorem groups_in (n : Nat) (s : Int) (w : World) :
    CallsIn Fence.wide n Tryd.prog 93 #[.int .i64 s] w fun e w' => e = .returned (.func (.func 116) #[] #[.pointer (some ⟨w.heap.size, 0, none⟩)]) ∧ w' = w.alloc (.cells #[.int .i64 s] 3) := by
  refine callsIn_of_wp Tryd.func93 rfl trivial ?_ rfl
  simp only [Tryd.ntmps93, List.size_toArray, List.length_cons, List.length_nil, Nat.reduceAdd, Nat.reduceSub, Array.replicate_succ, Array.replicate_zero, List.push_toArray, List.append_toArray, List.nil_append, List.cons_append]
  gi_wp2
  go_ret
  exact ⟨rfl, rfl⟩
abbrev Gr (s : Int) := { y : Int // y ∈ Sp.groupsOf s }
set_option maxRecDepth 100000 in
set_option maxHeartbeats 2000000 in
theorem groups1_in (n : Nat) (hn : 1 ≤ n) (l B n₀ : Nat) (hg0 : 1 < n₀) (s : Int) (J Jx : List (Gr s) → World → Prop)
    (hY : ∀ pre x W, J pre W → pre.length < (Sp.groupsOf s).length → YieldAt Fence.wide (n - 1) Tryd.prog l #[.int .i64 x.1] W fun e W' =>
      (e = .returned (.bool true) ∧ J (pre ++ [x]) W' ∧ Below n₀ W W') ∨ (e = .returned (.bool false) ∧ Jx (pre ++ [x]) W'))
    (W : World) (hB : W.cell? ⟨B, 0, none⟩ = some (.int .i64 s)) (hG : GlobOk W) (h0 : J [] W) :
    CallsIn Fence.wide n Tryd.prog 116 #[.func (.yield l) #[] #[], .pointer (some ⟨B, 0, none⟩)] W fun e W' => (∃ v, e = .returned v) ∧
      ((∃ ys : List (Gr s), ys.map Subtype.val = Sp.groupsOf s ∧ J ys W') ∨ (∃ pre : List (Gr s), pre.map Subtype.val <+: Sp.groupsOf s ∧ Jx pre W')) := by
  refine callsIn_of_wp Tryd.func116 rfl trivial ?_ rfl
  simp only [Tryd.ntmps116, List.size_toArray, List.length_cons, List.length_nil, Nat.reduceAdd, Nat.reduceSub, Array.replicate_succ, Array.replicate_zero, List.push_toArray, List.append_toArray, List.nil_append, List.cons_append]
  by_cases hs : 0 ≤ s ∧ s < 256
  · obtain ⟨hs0, hs1⟩ := hs
    obtain ⟨x0, rfl⟩ := Int.eq_ofNat_of_zero_le hs0
    have hx0 : x0 < 256 := by omega
    have hgs := Lib.hid (show Sp.groupsOf (x0 : Int) = Sp.bitsOf x0 by rw [Sp.groupsOf, if_pos ⟨hs0, hs1⟩, Int.toNat_natCast])
    gi_wp2
    gi_loopw [3] (fun v wr => ∃ (pre : List (Gr (x0 : Int))) (x : Nat), x < 256 ∧ v = .int .u64 x ∧ pre.map Subtype.val ++ Sp.bitsOf x = Sp.bitsOf x0 ∧ J pre wr ∧ GlobOk wr) (fun v _ => (intOf v).toNat)
    case atStart => exact ⟨[], x0, hx0, by simp [IntKind.wrap_u64]; try omega, rfl, h0, hG⟩
    case round =>
      obtain ⟨pre, x, hx, rfl, hpre, hJ, hGr⟩ := hrel
      by_cases hx1 : x = 0
      · subst hx1
        have hall := Lib.hid ((show pre.map Subtype.val = Sp.bitsOf x0 by rw [← hpre, Sp.bitsOf_zero, List.append_nil]).trans hgs.out.symm)
        clear hpre
        gi_wp2
        go_end0
        exact ⟨⟨_, rfl⟩, .inl ⟨pre, hall.out, hJ⟩⟩
      · have hst := Sp.bitsOf_step x hx hx1
        have hle := Sp.low_lt x hx hx1
        have hlen : pre.length < (Sp.groupsOf (x0 : Int)).length := by rw [hgs.out, ← hpre, hst.1]; simp
        have hmem : (Lib.ctz 64 x : Int) ∈ Sp.groupsOf (x0 : Int) := by rw [hgs.out, ← hpre, hst.1]; simp
        obtain ⟨fn, tmps, assign, body, hy, hR⟩ := hY pre ⟨(Lib.ctz 64 x : Int), hmem⟩ wr hJ hlen
        dsimp only at hy
        have hnext := Lib.hid (show (pre ++ [(⟨(Lib.ctz 64 x : Int), hmem⟩ : Gr (x0 : Int))]).map Subtype.val ++ Sp.bitsOf (x &&& (x - 1)) = Sp.bitsOf x0 by rw [← hpre, hst.1]; simp)
        have hlt : (0 : Int) < (x : Int) := by omega
        have hsub : IntKind.u64.wrap ((x : Int) - 1) = ((x - 1 : Nat) : Int) := by rw [IntKind.wrap_u64]; omega
        have hand : bits .and .u64 (x : Int) ((x - 1 : Nat) : Int) = ((x &&& (x - 1) : Nat) : Int) := bits_and_u64_nat x _ (by omega) (by omega)
        clear hst hpre hlen
        gi_wp2_with (refine ⟨trivial, ?_⟩; gi_at_call 117; refine (callsIn_wide.2 (tz x (by omega) hx1 _ hGr)).mono ?_; rintro e w' ⟨rfl, rfl⟩)
        refine hR.mono ?_
        rintro e W3 (⟨rfl, hJ3, hk3⟩ | ⟨rfl, hJx3⟩)
        · gi_wp2
          have hG3 := hGr.belowN hg0 hk3
          go_roundw
          case rel => exact ⟨pre ++ [⟨(Lib.ctz 64 x : Int), hmem⟩], x &&& (x - 1), by omega, rfl, hnext.out, hJ3, hG3⟩
          case measure => simp [intOf]; omega
        · gi_wp2
          refine bodyPost_ret (results_none rfl _ _ _) rfl ?_
          exact ⟨⟨_, rfl⟩, .inr ⟨_, ⟨Sp.bitsOf (x &&& (x - 1)), hnext.out.trans hgs.out.symm⟩, hJx3⟩⟩
  · have hgs := Lib.hid ((show ([] : List (Gr s)).map Subtype.val = ([] : List Int) from rfl).trans (show [] = Sp.groupsOf s by rw [Sp.groupsOf, if_neg hs]))
    by_cases hs0 : s < 0
    · have hd : decide (s < 0) = true := decide_eq_true hs0
      gi_wp2
      refine bodyPost_ret (results_none rfl _ _ _) rfl ?_
      exact ⟨⟨_, rfl⟩, .inl ⟨[], hgs.out, h0⟩⟩
    · have hd : decide (s < 0) = false := decide_eq_false hs0
      have hd2 : decide (256 ≤ s) = true := decide_eq_true (by omega)
      have hs1 : 256 ≤ s := by omega
      gi_wp2
      refine bodyPost_ret (results_none rfl _ _ _) rfl ?_
      exact ⟨⟨_, rfl⟩, .inl ⟨[], hgs.out, h0⟩⟩
theorem groups_stops (n : Nat) (hn : 1 ≤ n) (B n₀ : Nat) (s : Int) (w : World) (hB : B < w.heap.size) (hg0 : 1 < n₀) (hn₀ : n₀ ≤ w.heap.size)
    (hc : w.cell? ⟨B, 0, none⟩ = some (.int .i64 s)) (hG : GlobOk w) :
    SeqStopsK Fence.wide n Tryd.prog 116 #[.pointer (some ⟨B, 0, none⟩)] (fun x : Gr s => #[Value.int .i64 x.1]) (Below n₀) (fun ys => ys.map Subtype.val = Sp.groupsOf s) (fun pre => pre.map Subtype.val <+: Sp.groupsOf s) (Sp.groupsOf s).length w := fun l J Jx W hW _ _ hY h0 =>
  groups1_in n hn l B n₀ hg0 s J Jx hY W ((hW.cell (p := ⟨B, 0, none⟩) hB).trans hc) (hG.below hW) h0
end Go.Proofs.YtpciieagafddcaaDoor.F
/- Woven by wip/weave/weave.py of this repo (own tool) out of the translation: the contracts of some functions. Lean checks it. -/
namespace Go.Proofs.YtpciieagafddcaaDoor.F
open Go.RowKit Go.Proofs.YtpciieagafddcaaDoorW.PrintWords Go.Proofs.YtpciieagafddcaaDoorW.PrintLast Go.Proofs.YtpciieagafddcaaDoorW.PrintMore
attribute [local go_sem] max2_int min2_int max_two min_two max_three min_three max_four min_four   -- for this text's walks alone
set_option linter.unusedVariables false
set_option linter.unusedSimpArgs false
set_option maxHeartbeats 8000000 in
set_option maxRecDepth 100000 in
theorem group_in.calls (a0 : Int) (a1 : Int) (r : Bool) (w : World) (h : group_in.f a0 a1 = some r) :
    Calls Tryd.prog 92 #[.int .i64 a0, .int .i64 a1] w fun e w' => e = .returned (.bool r) ∧ Drawn0 w w' := by
  have H : (if a0 ≥ 0 then (if 0 ≤ a1 then (some (decide (a0 < (shl .i64 1 a1)))) else (none)) else (some false)) = some r := h
  clear h
  by_cases c3 : a0 ≥ 0
  · rw [if_pos c3] at H
    have c3b0 : decide (0 ≤ a0) = true := decide_eq_true c3
    clear c3
    by_cases c4 : 0 ≤ a1
    · rw [if_pos c4] at H
      have c4b0 := eq_true c4
      have c4b1 : decide (0 ≤ a1) = true := decide_eq_true c4
      clear c4
      obtain ⟨ji5, hji5⟩ : ∃ j_ : Int, (shl .i64 1 a1) = j_ := ⟨_, rfl⟩
      replace H : (some (decide (a0 < (ji5)))) = some r := by first | (rw [hji5] at H; exact H) | (simp only [hji5] at H ⊢; exact H)
      have hji5_ : (IntKind.i64.wrap (1 * 2 ^ min a1.toNat 64)) = ji5 := hji5
      have hji5z : a1 ≤ 64 → (IntKind.i64.wrap (1 * 2 ^ a1.toNat)) = ji5 := shl_small hji5
      have hji5u : (IntKind.i64.wrap (2 ^ min a1.toNat 64)) = ji5 := by have h_ := hji5_; rw [Int.one_mul] at h_; exact h_
      have hji5v : a1 ≤ 64 → (IntKind.i64.wrap (2 ^ a1.toNat)) = ji5 := fun hle_ => by have h_ := hji5z hle_; rw [Int.one_mul] at h_; exact h_
      have hji5y : (wrap64 (1 * 2 ^ min a1.toNat 64)) = ji5 := (i64_w _).symm.trans hji5_
      have hji5x : a1 ≤ 64 → (wrap64 (1 * 2 ^ a1.toNat)) = ji5 := fun h_ => (i64_w _).symm.trans (hji5z h_)
      obtain rfl := Option.some.inj H
      go_enter Tryd.func92, Tryd.ntmps92
      go_wp2
      go_ret
      exact ⟨by first | rfl | (simp; done) | (simp only [← hji5] <;> (first | rfl | simp)) | (simp [*]; done), by repeat (first | exact Drawn0.refl _ | apply Drawn0.step)⟩
    · rw [if_neg c4] at H
      exact absurd H (by simp)
  · rw [if_neg c3] at H
    have c3b0 : decide (0 ≤ a0) = false := decide_eq_false c3
    clear c3
    obtain rfl := Option.some.inj H
    go_enter Tryd.func92, Tryd.ntmps92
    go_wp2
    go_ret
    exact ⟨by first | rfl | (simp; done) | (simp [*]; done), by repeat (first | exact Drawn0.refl _ | apply Drawn0.step)⟩
end Go.Proofs.YtpciieagafddcaaDoor.F
