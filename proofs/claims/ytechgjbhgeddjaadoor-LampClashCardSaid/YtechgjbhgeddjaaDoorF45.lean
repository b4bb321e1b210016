/- Woven by wip/weave/weave.py of this repo (own tool) out of the translation: the contracts of some functions. Lean checks it. -/
import Derived.Test.YtechgjbhgeddjaaDoorD
import Derived.Test.YtechgjbhgeddjaaDoorF0
import Derived.Lib.Strings
import Derived.Lib.Slices
import Derived.Lib.Walk
import Derived.Lib.Bytealg
import Derived.Lib.OthersKept
import Derived.Laws.RangeString
import Derived.Laws.RangeAny
import Derived.WalkKit
import Derived.BigCall
import Derived.Maps.AppendAt
namespace Go.Proofs.YtechgjbhgeddjaaDoor.F
open Go.RowKit Go.Proofs.YtechgjbhgeddjaaDoorW.PrintWords Go.Proofs.YtechgjbhgeddjaaDoorW.PrintLast Go.Proofs.YtechgjbhgeddjaaDoorW.PrintMore
attribute [local go_sem] max2_int min2_int max_two min_two max_three min_three max_four min_four   -- for this text's walks alone
set_option linter.unusedVariables false
set_option linter.unusedSimpArgs false

-- IMPORT Derived.Lib.Strings
-- IMPORT Derived.Lib.Slices
-- IMPORT Derived.Lib.Walk
-- IMPORT Derived.Lib.Bytealg
-- IMPORT Derived.Lib.OthersKept
-- IMPORT Derived.Laws.RangeString
-- IMPORT Derived.Laws.RangeAny
-- IMPORT Derived.WalkKit
-- IMPORT Derived.BigCall
-- IMPORT Derived.Maps.AppendAt
attribute [local go_sem] Oper.semAt_some
set_option maxHeartbeats 1000000 in
set_option maxRecDepth 100000 in
theorem lampSliteByte_calls (s : ByteArray) (c : Int) (w : World) :
    Calls Tryd.prog 92 #[.string s, .int .u8 c] w fun e w' => e = .returned (.int .i64 (Lib.indexByte s.data.toList c.toNat.toUInt8)) ∧ w' = w := by
  go_enter Tryd.func92, Tryd.ntmps92
  go_wp2
  rw [run_callFunc_extern Tryd.func96 (by kernel_rfl) (by kernel_rfl) (by kernel_rfl) (e := Extern.BytealgIndexByte.indexByte) (by kernel_rfl), Lib.run_indexByteString]
  simp only [Result.andThen]
  rw [Oper.upon_value]
  go_wp2
  go_ret
  exact ⟨rfl, rfl⟩
set_option maxHeartbeats 1000000 in
theorem lampByte_calls (s : ByteArray) (c : Int) (w : World) :
    Calls Tryd.prog 83 #[.string s, .int .u8 c] w fun e w' => e = .returned (.int .i64 (Lib.indexByte s.data.toList c.toNat.toUInt8)) ∧ w' = w := by
  go_enter Tryd.func83, Tryd.ntmps83
  go_wp2_with (go_at_call 92; refine (lampSliteByte_calls _ _ _).mono ?_; rintro e w' ⟨rfl, rfl⟩)
  go_ret
  exact ⟨rfl, rfl⟩
theorem lampIdx_eq : ∀ c : Nat, c < 128 → Lib.indexByte [114, 97, 103] c.toUInt8 = lamp_idx.f c := by decide +kernel
set_option maxHeartbeats 1000000 in
set_option maxRecDepth 100000 in
theorem lampRune_calls (c : Nat) (hc : c < 128) (w : World) :
    Calls Tryd.prog 74 #[.string ⟨#[114, 97, 103]⟩, .int .i32 c] w fun e w' => e = .returned (.int .i64 (lamp_idx.f c)) ∧ Drawn0 w w' := by
  have HE := Lib.hid (lampIdx_eq c hc)
  have hw8 : IntKind.u8.wrap (c : Int) = (c : Int) := by
    have : IntKind.u8.bits = 8 := rfl
    simp only [IntKind.wrap, this]
    first | omega | (simp; omega)
  go_enter Tryd.func74, Tryd.ntmps74
  go_wp2_with (go_at_call 83; refine (lampByte_calls _ _ _).mono ?_; rintro e w' ⟨rfl, rfl⟩)
  go_ret
  exact ⟨by rw [← HE.out]; rfl, Drawn0.refl _⟩
set_option maxHeartbeats 1000000 in
theorem lampLamp_calls (c : Nat) (hc : c < 128) (w : World) :
    Calls Tryd.prog 57 #[.int .i32 c] w fun e w' => e = .returned (.int .i64 (lamp_idx.f c)) ∧ Drawn0 w w' := by
  go_enter Tryd.func57, Tryd.ntmps57
  go_wp2_with (go_at_call 74; refine (lampRune_calls c hc _).mono ?_; rintro e w' ⟨rfl, ⟨nd, rfl⟩⟩)
  go_ret
  exact ⟨rfl, ⟨⟨_, rfl⟩⟩⟩
theorem lampIdx_big (c : Nat) (h : ¬ c < 123) : lamp_idx.f c = -1 := by unfold lamp_idx.f; rw [if_neg (by omega), if_neg (by omega), if_neg (by omega)]
theorem lampIdx_rng (c : Nat) : -1 ≤ lamp_idx.f c ∧ lamp_idx.f c ≤ 2 := by
  unfold lamp_idx.f
  repeat' split
  all_goals decide
theorem lampGood_no (l : List UInt8) (k : Nat) (hk : k < l.length) (h : lamp_idx.f l[k].toNat < 0) : lamp_goodL.f l = false := by
  unfold lamp_goodL.f
  rw [List.all_eq_false]
  exact ⟨_, List.getElem_mem hk, by simp; omega⟩
theorem lampNe (s : ByteArray) (h : 1 ≤ s.size) : ¬ s.toList = [] ∧ s.toList.isEmpty = false := by
  rw [Lib.toList_data]
  have hl : s.data.toList.length = s.size := Array.length_toList
  cases e : s.data.toList with
  | nil => rw [e] at hl; simp at hl; omega
  | cons x l => exact ⟨by simp, rfl⟩
theorem lampOwn_slice {W : World} {B e n : Nat} {v : Value} {xs : List Value} (hown : W.ownsRow B e 1 v n xs) : ∃ ao cap, v = .slice ao n cap := by
  rcases hown.2 with ⟨hv, h0⟩ | ⟨g, cap, cur, hv, _⟩
  · exact ⟨none, 0, by rw [hv, h0]⟩
  · exact ⟨_, _, hv⟩
theorem lampInfo : (Tryd.prog.info? 3).map (fun i => (i.zero, i.size, i.bytes)) = some (some (.int .i64 0), 1, 8) := by kernel_rfl
theorem lampOwn_R {W : World} {base : Nat} {v : Value} {xs : List Int} (h : W.ownsRow base 3 1 v xs.length (xs.map (Value.int .i64))) : Kd.R (Kd.int .i64) 3 W base (fun _ => True) v xs := Kd.R_of_own h (fun _ _ => trivial)
set_option maxHeartbeats 4000000 in
set_option maxRecDepth 100000 in
/-- **lamp.Read: the lamps of a text of the three letters, from 1 to 8; else none.** -/
theorem lamp_Read.calls (a0 : ByteArray) (r1 : List Int) (r2 : Bool) (w : World) (h : lamp_Read.f a0 = some (r1, r2)) :
    Calls Tryd.prog 32 #[.string a0] w fun e w' => ∃ v0_ : Value, e = .returned (.tuple #[v0_, .bool r2]) ∧ Kd.R (Kd.int .i64) 3 w' w.heap.size (fun _ => True) v0_ r1 ∧ Below w.heap.size w w' := by
  obtain ⟨i0, hi, hz0, hz1, hz2⟩ := info_parts lampInfo
  have h := Option.some.inj h
  have hnil : ∀ W : World, Kd.R (Kd.int .i64) 3 W w.heap.size (fun _ => True) (.slice none 0 0) ([] : List Int) := fun W => lampOwn_R (xs := []) (World.ownsRow_nil _ _ _ _)
  have HN := Lib.hid hnil
  clear hnil
  by_cases hsz : 1 ≤ a0.size ∧ a0.size ≤ 8
  · rw [decide_eq_true hsz, Bool.true_and] at h
    obtain ⟨hn1, hn2⟩ := lampNe a0 hsz.1
    have hlen : a0.data.toList.length = a0.size := Array.length_toList
    have HH := Lib.hid h
    clear h
    go_enter Tryd.func32, Tryd.ntmps32
    go_wp2
    go_loopw [4] (fun o wr => ∃ k : Nat, k ≤ a0.size ∧ wr.heap[w.heap.size]? = some (.stringIter a0 k) ∧ Hid (wr.ownsRow (w.heap.size + 1) 3 1 o (lamp_readL.f (a0.data.toList.take k)).length ((lamp_readL.f (a0.data.toList.take k)).map (Value.int .i64))) ∧ Hid (lamp_goodL.f (a0.data.toList.take k) = true) ∧ Below w.heap.size w wr) (fun _ wr => a0.size - wr.iterPos w.heap.size)
    case atStart =>
      refine ⟨0, Nat.zero_le _, World.iter_heap w a0 0, Lib.hid (World.ownsRow_nil _ _ _ _), Lib.hid rfl, ?_⟩
      exact (Below.refl _ w).alloc (Nat.le_refl _) _
    case round =>
      obtain ⟨k, hk, hit, hO, hG, hb⟩ := hrel
      have hszr : w.heap.size < wr.heap.size := (Array.getElem?_eq_some_iff.1 hit).1
      have hbs := hb.size
      by_cases hp : k < a0.size
      · have hkl : k < a0.data.toList.length := by omega
        have hget : a0.data.toList[k] = a0[k] := Array.getElem_toList _
        have htk : a0.data.toList.take (k + 1) = a0.data.toList.take k ++ [a0[k]] := by rw [List.take_succ_eq_append_getElem hkl, hget]
        have hnx : ∀ ty, (Instr.next (.pointer (some ⟨w.heap.size, 0, none⟩)) true ty).run Tryd.prog wr = _ := fun ty => Lib.run_next_any_at wr w.heap.size a0 k ty hit hp
        have hbad : lamp_idx.f a0[k].toNat < 0 → Hid (r1 = [] ∧ r2 = false) := fun hneg => by
          have := lampGood_no a0.data.toList k hkl (by rw [hget]; exact hneg)
          have hh := HH.out
          rw [this] at hh
          simp only [Bool.false_eq_true, if_false, Prod.mk.injEq] at hh
          exact Lib.hid ⟨hh.1.symm, hh.2.symm⟩
        by_cases ha : a0[k].toNat < 128
        · have hd := decode_ascii a0 k hp ha
          simp only [hd] at hnx
          by_cases hz : a0[k].toNat < 123
          · have hcmp : ¬ (122 : Int) < (a0[k].toNat : Int) := by omega
            have hcl := Lib.hid (fun W => lampLamp_calls a0[k].toNat ha W)
            by_cases hneg : lamp_idx.f a0[k].toNat < 0
            · obtain ⟨rfl, rfl⟩ := (hbad hneg).out
              clear hbad hd htk hG hO
              have hB2 := Lib.hid (Lib.below_iterAt hb (k := w.heap.size) (Nat.le_refl _) a0 (k + 1))
              go_wp2_with (go_at_call 57; refine (hcl.out _).mono ?_; rintro e w' ⟨rfl, ⟨nd, rfl⟩⟩)
              go_ret2
              exact ⟨_, rfl, HN.out _, pw_below_drewN hB2.out nd⟩
            · have hpos : ¬ lamp_idx.f a0[k].toNat < 0 := hneg
              have hrl : lamp_readL.f (a0.data.toList.take (k + 1)) = lamp_readL.f (a0.data.toList.take k) ++ [lamp_idx.f a0[k].toNat] := by rw [htk]; simp [lamp_readL.f]
              have hgl : lamp_goodL.f (a0.data.toList.take (k + 1)) = true := by
                have hg := hG.out
                unfold lamp_goodL.f at hg ⊢
                rw [htk, List.all_append, hg]
                simp
                omega
              clear hbad hd htk
              have hB2 := Lib.hid (Lib.below_iterAt hb (k := w.heap.size) (Nat.le_refl _) a0 (k + 1))
              have hit2 := Lib.hid (Lib.iterAt_heap wr w.heap.size a0 k (k + 1) hit)
              have hOi := Lib.hid (World.ownsRow.kept (w' := wr.iterAt w.heap.size a0 (k + 1)) (row := some w.heap.size) hO.out ⟨rfl, rfl, rfl, by rw [Lib.iterAt_size]; exact Nat.le_refl _, fun i _ hi => Lib.iterAt_other wr w.heap.size i a0 (k + 1) (fun e => hi (by simp [e]))⟩ (.inr (fun e => by have := (hO.out.lt _ e).1; omega)))
              have hle : (lamp_readL.f (a0.data.toList.take k)).length ≤ 8 := by unfold lamp_readL.f; rw [List.length_map, List.length_take]; omega
              have hsz2 : wr.heap.size = (wr.iterAt w.heap.size a0 (k + 1)).heap.size := (Lib.iterAt_size _ _ _ _).symm
              obtain ⟨ao, cap, ho⟩ := lampOwn_slice hOi.out
              subst ho
              generalize hW : wr.iterAt w.heap.size a0 (k + 1) = W1 at *
              go_wp2_with (first | (go_at_call 57; refine (hcl.out _).mono ?_; rintro e w' ⟨rfl, ⟨nd, rfl⟩⟩) | (at_builtin; go_loud (refine wpList_append_own _ rfl _ _ 32 rfl (w.heap.size + 1) 3 i0 (.int .i64 0) 1 8 Tryd.underlying32 hi hz0 hz1 hz2 rfl (by decide) _ _ _ rfl (World.ownsRow.alloc (by exact hOi.out) _) ⟨W1.heap.size, 0, none⟩ 1 1 [.int .i64 (lamp_idx.f a0[k].toNat)] rfl rfl ?c1 ?c2 ?c3 ?c4 ?c5 ?_)))
              case c1 =>
                intro j u hj
                match j, hj with
                | 0, hj => simp at hj; subst hj; exact cell_one_new _ _ _ 0 _ rfl
              case c2 => intro u hu; simp at hu; subst hu; rfl
              case c3 => unfold maxLen; omega
              case c4 => omega
              case c5 => simp; omega
              intro v' w2 hown' hgrow _
              have hitw : w2.heap[w.heap.size]? = some (.stringIter a0 (k + 1)) := by
                rw [hgrow.block w.heap.size (by simp; omega) (fun e => by have := (hOi.out.lt _ e.symm).1; omega), Lib.alloc_old _ _ _ (by simp; omega)]
                exact hit2.out
              have hbw : Below w.heap.size w w2 := ((pw_below_drewN hB2.out _).alloc (by simp; omega) _).grown hgrow (by simp; omega) (fun k hk => by have := (hOi.out.lt k hk).1; omega)
              have hOw := Lib.hid (show w2.ownsRow (w.heap.size + 1) 3 1 v' (lamp_readL.f (a0.data.toList.take (k + 1))).length ((lamp_readL.f (a0.data.toList.take (k + 1))).map (Value.int .i64)) from by rw [hrl, List.length_append, List.map_append]; exact hown')
              have hgl' := Lib.hid hgl
              clear hown' hgrow hgl hrl hOi hO hG
              go_wp2
              go_roundw
              case rel => exact ⟨k + 1, by omega, hitw, hOw, hgl', hbw⟩
              case measure =>
                simp only [World.iterPos, hitw, hit]
                omega
          · have hcmp : (122 : Int) < (a0[k].toNat : Int) := by omega
            obtain ⟨rfl, rfl⟩ := (hbad (by rw [lampIdx_big _ hz]; decide)).out
            clear hbad hd htk hG hO
            have hB2 := Lib.hid (Lib.below_iterAt hb (k := w.heap.size) (Nat.le_refl _) a0 (k + 1))
            go_wp2
            go_ret2
            exact ⟨_, rfl, HN.out _, hB2.out⟩
        · have hd := decode_high a0 k hp (by omega)
          have hcmp : (122 : Int) < ((Utf8.decode a0 k).1 : Int) := by omega
          obtain ⟨rfl, rfl⟩ := (hbad (by rw [lampIdx_big _ (by omega)]; decide)).out
          clear hbad hd htk hG hO
          have hB2 := Lib.hid (Lib.below_iterAt hb (k := w.heap.size) (Nat.le_refl _) a0 (k + (Utf8.decode a0 k).2))
          go_wp2
          go_ret2
          exact ⟨_, rfl, HN.out _, hB2.out⟩
      · obtain rfl : k = a0.size := by omega
        have hnx : ∀ ty, (Instr.next (.pointer (some ⟨w.heap.size, 0, none⟩)) true ty).run Tryd.prog wr = _ := fun ty => Lib.run_next_end_at wr w.heap.size a0 a0.size ty hit hp
        rw [← hlen, List.take_length] at hO hG
        have hh := HH.out
        rw [hG.out] at hh
        simp only [if_true, Prod.mk.injEq] at hh
        obtain ⟨rfl, rfl⟩ := hh
        go_wp2
        go_ret2
        exact ⟨_, rfl, Kd.R_lower (lampOwn_R hO.out) (by omega), hb⟩
  · rw [decide_eq_false hsz, Bool.false_and] at h
    obtain ⟨rfl, rfl⟩ := Prod.mk.inj h
    by_cases he : a0 = ⟨#[]⟩
    · subst he
      go_enter Tryd.func32, Tryd.ntmps32
      go_wp2
      go_ret2
      exact ⟨_, rfl, HN.out _, Below.refl _ _⟩
    · have hp : 1 ≤ a0.size := by
        rcases Nat.eq_zero_or_pos a0.size with h0 | h0
        · exact absurd (ByteArray.size_eq_zero_iff.1 h0) he
        · exact h0
      obtain ⟨hn1, hn2⟩ := lampNe a0 hp
      have h9 : ¬ (a0.size : Int) ≤ 8 := by omega
      go_enter Tryd.func32, Tryd.ntmps32
      go_wp2
      go_ret2
      exact ⟨_, rfl, HN.out _, Below.refl _ _⟩

end Go.Proofs.YtechgjbhgeddjaaDoor.F
