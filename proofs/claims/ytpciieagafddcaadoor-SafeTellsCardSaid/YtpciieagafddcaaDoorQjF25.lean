/- Woven by wip/weave/weave.py of this repo (own tool) out of the translation: the contracts of some functions. Lean checks it. -/
import Derived.Test.YtpciieagafddcaaDoorQjD
import Derived.Test.YtpciieagafddcaaDoorQjSp
import Derived.Test.YtpciieagafddcaaDoorQjF6
import Derived.Test.YtpciieagafddcaaDoorQjPP
namespace Go.Proofs.YtpciieagafddcaaDoor.F
open Go.RowKit Go.Proofs.YtpciieagafddcaaDoorW.PrintWords Go.Proofs.YtpciieagafddcaaDoorW.PrintLast Go.Proofs.YtpciieagafddcaaDoorW.PrintMore
attribute [local go_sem] max2_int min2_int max_two min_two max_three min_three max_four min_four   -- for this text's walks alone
set_option linter.unusedVariables false
set_option linter.unusedSimpArgs false
-- IMPORT Derived.Test.YtpciieagafddcaaDoorPP
set_option maxHeartbeats 2000000 in
set_option maxRecDepth 100000 in
theorem all1_calls (A0_0 : Option Addr) (c0_0 : Nat) (l0_0 : List Int) (A0_1 : Option Addr) (c0_1 : Nat) (l0_1 : List S87) (a0_2 a0_3 a0_4 : Int) (B : Nat) (A : Option Addr) (c : Nat) (L : List S25) (hn : 0 < L.length) (w : World)
    (hr0_0 : Kd.C (Kd.int .i64) w A0_0 l0_0.length l0_0) (hc0_0 : l0_0.length ≤ c0_0) (hr0_1 : Kd.C k87 w A0_1 l0_1.length l0_1) (hc0_1 : l0_1.length ≤ c0_1) (hG : GlobOk w)
    (hB : w.cell? ⟨B, 0, none⟩ = some (.slice A L.length c)) (hL : Kd.C k25 w A L.length L) (b : Bool) (hb : b = plan_badB.f (rd_T25 L 0).f0.length ⟨l0_0, l0_1, a0_2, a0_3, a0_4⟩) :
    Calls Tryd.prog 105 #[.agg #[.slice A0_0 l0_0.length c0_0, .slice A0_1 l0_1.length c0_1, .int .i64 a0_2, .int .i64 a0_3, .int .i64 a0_4], .pointer (some ⟨B, 0, none⟩)] w fun e w' => e = .returned (.bool b) ∧ Below w.heap.size w w' := by
  have hmx := Kd.C_max hr0_1
  obtain ⟨K, hK⟩ := (PP.fit_ev l0_0 l0_1 a0_2 a0_3 a0_4 (by omega)).rounds
  obtain ⟨ad, A1, c1, A2, c2, eA, hx0, -⟩ := at_T25 hL 0 (by omega) (by omega)
  subst eA
  have hu37 := Tryd.underlying25
  have HR0_0 := Aside0.mk hr0_0
  have HC0_0 := Aside0.mk hc0_0
  have HR0_1 := Aside0.mk hr0_1
  have HC0_1 := Aside0.mk hc0_1
  have HG := Aside0.mk hG
  have HX := Aside0.mk hx0
  have HBx := Aside0.mk hB
  have HB := Aside0.mk (Below.refl w.heap.size w)
  have HK := Aside0.mk hK
  have hn' : decide ((0 : Int) < (L.length : Int)) = true := decide_eq_true (by omega)
  clear hr0_0 hc0_0 hr0_1 hc0_1 hG hx0 hB hL hK hmx
  generalize (rd_T25 L 0).f0.length = n0 at *
  cases hf : plan_fitB.f l0_0 l0_1 a0_2 a0_3 a0_4 with
  | true =>
    rw [hf] at HK
    have hb' : b = ((l0_0.length : Int) != (n0 : Int)) := by
      rw [hb, Bool.eq_iff_iff]
      simp only [plan_badB.f, hf, Bool.not_true, Bool.false_or, decide_eq_true_eq, bne_iff_ne, ne_eq]
      omega
    clear hb hf
    subst hb'
    go_enter Tryd.func105, Tryd.ntmps105
    go_wp2_with (first | ((with_reducible refine gate_dst (N := 2) rfl ?_); refine box_event ?hg (N := 2) ?hd (cs := #[.slice A0_0 l0_0.length c0_0, .slice A0_1 l0_1.length c0_1, .int .i64 a0_2, .int .i64 a0_3, .int .i64 a0_4]) (t := 25) ?hr ?_; (case hd => rfl); (case hg => rfl); (case hr => first | (go_simp; done) | (go_simp; rfl)); intro gb hg w4 hbox hb0; have BK := Aside0.mk hbox; have HB := Aside0.mk hb0; have hcz_0 : w4.cell? ⟨gb, 0, none⟩ = some (.slice A0_0 l0_0.length c0_0) := (blk_cell BK.out 0).trans rfl; have hcz_1 : w4.cell? ⟨gb, 1, none⟩ = some (.slice A0_1 l0_1.length c0_1) := (blk_cell BK.out 1).trans rfl; have hcz_2 : w4.cell? ⟨gb, 2, none⟩ = some (.int .i64 a0_2) := (blk_cell BK.out 2).trans rfl; have hcz_3 : w4.cell? ⟨gb, 3, none⟩ = some (.int .i64 a0_3) := (blk_cell BK.out 3).trans rfl; have hcz_4 : w4.cell? ⟨gb, 4, none⟩ = some (.int .i64 a0_4) := (blk_cell BK.out 4).trans rfl; have hfz_0 := blk_frozen BK.out 0; have hfz_1 := blk_frozen BK.out 1; have hfz_2 := blk_frozen BK.out 2; have hfz_3 := blk_frozen BK.out 3; have hfz_4 := blk_frozen BK.out 4; clear hbox hb0 hg) | (go_at_call 25; (with_reducible refine (plan_Fit.calls K _ _ l0_0 _ _ l0_1 a0_2 a0_3 a0_4 true _ (Kd.C_below HR0_0.out HB.out) HC0_0.out (Kd.C_below HR0_1.out HB.out) HC0_1.out (GlobOk.below HG.out HB.out) HK.out).mono ?_); rintro e w9 ⟨rfl, hb1⟩; have BK9 := Aside0.mk (blk_below BK.out hb1); have HB9 := Aside0.mk (below_step HB.out hb1); have hd_0 : w9.cell? ⟨gb, 0, none⟩ = some (.slice A0_0 l0_0.length c0_0) := (blk_cell BK9.out 0).trans rfl; have hbb : w9.cell? ⟨B, 0, none⟩ = some (.slice (some ad) L.length c) := (HB9.out.cell (World.block_lt_of_cell? w _ HBx.out)).trans HBx.out; have hfd_0 := blk_frozen BK9.out 0; have hxx := (HB9.out.cell (World.block_lt_of_cell? w _ HX.out)).trans HX.out; (try rw [show ((0 : Int)).toNat = 0 from rfl] at hxx); (try rw [show 0 * 5 = 0 from rfl] at hxx); (try rw [Addr.add_zero'] at hxx); clear hb1))
    first | go_region_with (go_at_call 25; (with_reducible refine (plan_Fit.calls K _ _ l0_0 _ _ l0_1 a0_2 a0_3 a0_4 true _ ?side1 HC0_0.out ?side3 HC0_1.out ?side5 HK.out).mono ?_); (case side1 => exact Kd.C_below HR0_0.out (below_drew1 HB.out)); (case side3 => exact Kd.C_below HR0_1.out (below_drew1 HB.out)); (case side5 => exact GlobOk.below HG.out (below_drew1 HB.out)); rintro e w9 ⟨rfl, hb1⟩; have BK9 := Aside0.mk (blk_below (blk_drew BK.out) hb1); have HB9 := Aside0.mk (below_step (below_drew1 HB.out) hb1); have hd_0 : w9.cell? ⟨gb, 0, none⟩ = some (.slice A0_0 l0_0.length c0_0) := (blk_cell BK9.out 0).trans rfl; have hbb : w9.cell? ⟨B, 0, none⟩ = some (.slice (some ad) L.length c) := (HB9.out.cell (World.block_lt_of_cell? w _ HBx.out)).trans HBx.out; have hfd_0 := blk_frozen BK9.out 0; have hxx := (HB9.out.cell (World.block_lt_of_cell? w _ HX.out)).trans HX.out; (try rw [show ((0 : Int)).toNat = 0 from rfl] at hxx); (try rw [show 0 * 5 = 0 from rfl] at hxx); (try rw [Addr.add_zero'] at hxx); clear hb1) | fail
    all_goals go_wp2
    all_goals go_ret
    all_goals refine ⟨?_, HB9.out⟩
    all_goals rfl
  | false =>
    rw [hf] at HK
    have hb' : b = true := by rw [hb]; simp [plan_badB.f, hf]
    clear hb hf
    subst hb'
    go_enter Tryd.func105, Tryd.ntmps105
    go_wp2_with (first | ((with_reducible refine gate_dst (N := 2) rfl ?_); refine box_event ?hg (N := 2) ?hd (cs := #[.slice A0_0 l0_0.length c0_0, .slice A0_1 l0_1.length c0_1, .int .i64 a0_2, .int .i64 a0_3, .int .i64 a0_4]) (t := 25) ?hr ?_; (case hd => rfl); (case hg => rfl); (case hr => first | (go_simp; done) | (go_simp; rfl)); intro gb hg w4 hbox hb0; have BK := Aside0.mk hbox; have HB := Aside0.mk hb0; have hcz_0 : w4.cell? ⟨gb, 0, none⟩ = some (.slice A0_0 l0_0.length c0_0) := (blk_cell BK.out 0).trans rfl; have hcz_1 : w4.cell? ⟨gb, 1, none⟩ = some (.slice A0_1 l0_1.length c0_1) := (blk_cell BK.out 1).trans rfl; have hcz_2 : w4.cell? ⟨gb, 2, none⟩ = some (.int .i64 a0_2) := (blk_cell BK.out 2).trans rfl; have hcz_3 : w4.cell? ⟨gb, 3, none⟩ = some (.int .i64 a0_3) := (blk_cell BK.out 3).trans rfl; have hcz_4 : w4.cell? ⟨gb, 4, none⟩ = some (.int .i64 a0_4) := (blk_cell BK.out 4).trans rfl; have hfz_0 := blk_frozen BK.out 0; have hfz_1 := blk_frozen BK.out 1; have hfz_2 := blk_frozen BK.out 2; have hfz_3 := blk_frozen BK.out 3; have hfz_4 := blk_frozen BK.out 4; clear hbox hb0 hg) | (go_at_call 25; (with_reducible refine (plan_Fit.calls K _ _ l0_0 _ _ l0_1 a0_2 a0_3 a0_4 true _ (Kd.C_below HR0_0.out HB.out) HC0_0.out (Kd.C_below HR0_1.out HB.out) HC0_1.out (GlobOk.below HG.out HB.out) HK.out).mono ?_); rintro e w9 ⟨rfl, hb1⟩; have BK9 := Aside0.mk (blk_below BK.out hb1); have HB9 := Aside0.mk (below_step HB.out hb1); have hd_0 : w9.cell? ⟨gb, 0, none⟩ = some (.slice A0_0 l0_0.length c0_0) := (blk_cell BK9.out 0).trans rfl; have hbb : w9.cell? ⟨B, 0, none⟩ = some (.slice (some ad) L.length c) := (HB9.out.cell (World.block_lt_of_cell? w _ HBx.out)).trans HBx.out; have hfd_0 := blk_frozen BK9.out 0; have hxx := (HB9.out.cell (World.block_lt_of_cell? w _ HX.out)).trans HX.out; (try rw [show ((0 : Int)).toNat = 0 from rfl] at hxx); (try rw [show 0 * 5 = 0 from rfl] at hxx); (try rw [Addr.add_zero'] at hxx); clear hb1))
    first | go_region_with (go_at_call 25; (with_reducible refine (plan_Fit.calls K _ _ l0_0 _ _ l0_1 a0_2 a0_3 a0_4 false _ ?side1 HC0_0.out ?side3 HC0_1.out ?side5 HK.out).mono ?_); (case side1 => exact Kd.C_below HR0_0.out (below_drew1 HB.out)); (case side3 => exact Kd.C_below HR0_1.out (below_drew1 HB.out)); (case side5 => exact GlobOk.below HG.out (below_drew1 HB.out)); rintro e w9 ⟨rfl, hb1⟩; have BK9 := Aside0.mk (blk_below (blk_drew BK.out) hb1); have HB9 := Aside0.mk (below_step (below_drew1 HB.out) hb1); have hd_0 : w9.cell? ⟨gb, 0, none⟩ = some (.slice A0_0 l0_0.length c0_0) := (blk_cell BK9.out 0).trans rfl; have hbb : w9.cell? ⟨B, 0, none⟩ = some (.slice (some ad) L.length c) := (HB9.out.cell (World.block_lt_of_cell? w _ HBx.out)).trans HBx.out; have hfd_0 := blk_frozen BK9.out 0; have hxx := (HB9.out.cell (World.block_lt_of_cell? w _ HX.out)).trans HX.out; (try rw [show ((0 : Int)).toNat = 0 from rfl] at hxx); (try rw [show 0 * 5 = 0 from rfl] at hxx); (try rw [Addr.add_zero'] at hxx); clear hb1) | fail
    all_goals go_wp2
    all_goals go_ret
    all_goals refine ⟨?_, HB9.out⟩
    all_goals rfl
theorem take_anyP (p : S25 → Bool) (xs : List S25) (k : Nat) (h : k < xs.length) : (xs.take (k + 1)).any p = ((xs.take k).any p || p (rd_T25 xs k)) := by
  rw [List.take_succ_eq_append_getElem h, List.any_append]
  simp [rd_T25, List.getD_eq_getElem?_getD, h]
theorem any_of_takeP (p : S25 → Bool) (xs : List S25) (k : Nat) (h : (xs.take k).any p = true) : xs.any p = true := by
  rw [← List.take_append_drop k xs, List.any_append, h]; rfl
set_option maxHeartbeats 2000000 in
set_option maxRecDepth 100000 in
theorem indexFuncP_calls (B : Nat) (A : Option Addr) (c : Nat) (xs : List S25) (p : S25 → Bool) (w : World) (hr : Kd.C k25 w A xs.length xs)
    (hp : ∀ (x : S25) A0 c0 A1 c1 W, Below w.heap.size w W → Kd.C (Kd.int .i64) W A0 x.f0.length x.f0 → x.f0.length ≤ c0 → Kd.C k87 W A1 x.f1.length x.f1 → x.f1.length ≤ c1 → Calls Tryd.prog 105 #[.agg #[.slice A0 x.f0.length c0, .slice A1 x.f1.length c1, .int .i64 x.f2, .int .i64 x.f3, .int .i64 x.f4], .pointer (some ⟨B, 0, none⟩)] W fun e W' => e = .returned (.bool (p x)) ∧ Below W.heap.size W W') :
    Calls Tryd.prog 121 #[.slice A xs.length c, .func (.func 105) #[] #[.pointer (some ⟨B, 0, none⟩)]] w fun e w' => ∃ r : Int, e = .returned (.int .i64 r) ∧ decide (0 ≤ r) = xs.any p ∧ Below w.heap.size w w' := by
  have hm := Kd.C_max hr
  have hu37 := Tryd.underlying25
  have HR := Lib.hid hr
  have HP := Lib.hid hp
  clear hr hp
  go_enter Tryd.func121, Tryd.ntmps121
  go_wp2
  go_loopw [8] (fun i wr => ∃ k : Nat, k ≤ xs.length ∧ i = .int .i64 k ∧ Hid ((xs.take k).any p = false) ∧ Below w.heap.size w wr) (fun i _ => xs.length - (intOf i).toNat)
  case atStart => exact ⟨0, Nat.zero_le _, rfl, Lib.hid (by simp), Below.refl _ _⟩
  case round =>
    obtain ⟨k, hk, rfl, hno, hd⟩ := hrel
    by_cases hlt : k < xs.length
    · have hta := Lib.hid (take_anyP p xs k hlt)
      obtain ⟨ad, A0, c0, A1, c1, hA, hx0, hx1, hx2, hx3, hx4, hl0, hi0, hl1, hi1⟩ := at_T25 (Kd.C_below HR.out hd) (k : Int) (by omega) (by omega)
      subst hA
      rw [Int.toNat_natCast] at hx0 hx1 hx2 hx3 hx4
      have hc := Lib.hid (HP.out (rd_T25 xs k) A0 c0 A1 c1 wr hd hi0 hl0 hi1 hl1)
      clear hi0 hl0 hi1 hl1
      cases hpx : p (rd_T25 xs k) with
      | true =>
        rw [hpx] at hc
        have hfin := Lib.hid (any_of_takeP p xs (k + 1) (by rw [hta.out, hpx]; simp))
        clear hpx
        go_wp2_with (go_at_call 105; refine hc.out.mono ?_; rintro e w' ⟨rfl, hb⟩)
        go_ret
        exact ⟨_, rfl, by rw [hfin.out]; simp, below_step hd hb⟩
      | false =>
        rw [hpx] at hc
        have hfin := Lib.hid (show (xs.take (k + 1)).any p = false by rw [hta.out, hpx, hno.out]; rfl)
        clear hpx
        go_wp2_with (go_at_call 105; refine hc.out.mono ?_; rintro e w' ⟨rfl, hb⟩)
        go_roundw
        case rel => exact ⟨k + 1, by omega, by go_num, hfin, below_step hd hb⟩
        case measure => simp [intOf]; omega
    · obtain rfl : k = xs.length := by omega
      go_wp2
      go_ret
      exact ⟨_, rfl, by have := hno.out; rw [List.take_length] at this; rw [this]; decide, hd⟩
set_option maxHeartbeats 1000000 in
theorem containsFuncP_calls (B : Nat) (A : Option Addr) (c : Nat) (xs : List S25) (p : S25 → Bool) (w : World) (hr : Kd.C k25 w A xs.length xs)
    (hp : ∀ (x : S25) A0 c0 A1 c1 W, Below w.heap.size w W → Kd.C (Kd.int .i64) W A0 x.f0.length x.f0 → x.f0.length ≤ c0 → Kd.C k87 W A1 x.f1.length x.f1 → x.f1.length ≤ c1 → Calls Tryd.prog 105 #[.agg #[.slice A0 x.f0.length c0, .slice A1 x.f1.length c1, .int .i64 x.f2, .int .i64 x.f3, .int .i64 x.f4], .pointer (some ⟨B, 0, none⟩)] W fun e W' => e = .returned (.bool (p x)) ∧ Below W.heap.size W W') :
    Calls Tryd.prog 106 #[.slice A xs.length c, .func (.func 105) #[] #[.pointer (some ⟨B, 0, none⟩)]] w fun e w' => e = .returned (.bool (xs.any p)) ∧ Below w.heap.size w w' := by
  have hc := Lib.hid (indexFuncP_calls B A c xs p w hr hp)
  clear hr hp
  go_enter Tryd.func106, Tryd.ntmps106
  go_wp2_with (go_at_call 121; refine hc.out.mono ?_; rintro e w' ⟨r, rfl, hr, hb⟩; have hr' := Lib.hid hr; clear hr)
  go_ret
  exact ⟨by rw [← hr'.out]; rfl, hb⟩
set_option maxHeartbeats 1000000 in
theorem plan_All.calls (A0 : Option Addr) (c0 : Nat) (l0 : List S25) (r : Bool) (w : World) (hr0 : Kd.C k25 w A0 l0.length l0) (hc0 : l0.length ≤ c0) (hG : GlobOk w) (h : plan_All.f l0 = some r) :
    Calls Tryd.prog 75 #[.slice A0 l0.length c0] w fun e w' => e = .returned (.bool r) ∧ Below w.heap.size w w' := by
  have hmx := Kd.C_max hr0
  have h := Option.some.inj h
  have bM := Boxed.new w 41 (.slice A0 l0.length c0)
  have hB0 : Below w.heap.size w (w.alloc (.cells #[.slice A0 l0.length c0] 41)) := (Below.refl _ w).alloc (Nat.le_refl _) _
  have hA := fun (hn : 0 < l0.length) (nd : Nat) => containsFuncP_calls w.heap.size A0 c0 l0 (plan_badB.f (rd_T25 l0 0).f0.length) ((w.alloc (.cells #[.slice A0 l0.length c0] 41)).drewN nd) (Kd.C_below hr0 (pw_below_drewN hB0 nd)) (fun x A0' c0' A1' c1' W hW h0 hc0' h1 hc1' => all1_calls A0' c0' x.f0 A1' c1' x.f1 x.f2 x.f3 x.f4 w.heap.size A0 c0 l0 hn W h0 hc0' h1 hc1' (GlobOk.below (GlobOk.below hG (pw_below_drewN hB0 nd)) hW) ((hW.cell (World.block_lt_of_cell? _ _ (bM.cell))).trans bM.cell) (Kd.C_below (Kd.C_below hr0 (pw_below_drewN hB0 nd)) hW) _ rfl)
  have HA := Lib.hid hA
  have HB0 := Lib.hid hB0
  have cM := bM.cell
  clear hA hB0 hr0 hG
  by_cases h1 : 1 ≤ l0.length ∧ l0.length ≤ 3
  · have H1 := Lib.hid (HA.out h1.1)
    rw [decide_eq_true h1, Bool.true_and] at h
    have hin := Lib.hid (show plan_in.f (l0.length : Int) 1 3 = some true by rw [PP.in_some]; congr 1; exact decide_eq_true (by omega))
    clear HA
    subst h
    go_enter Tryd.func75, Tryd.ntmps75
    go_wp2_with (first | (go_at_call 56; refine (plan_in.calls _ _ _ _ _ hin.out).mono ?_; rintro e w' ⟨rfl, ⟨nd, rfl⟩⟩) | (go_at_call 106; refine (H1.out _).mono ?_; rintro e w' ⟨rfl, hb⟩; have hbb := Lib.hid hb; clear hb))
    go_ret
    exact ⟨rfl, below_step (pw_below_drewN HB0.out _) hbb.out⟩
  · rw [decide_eq_false h1, Bool.false_and] at h
    have hin := Lib.hid (show plan_in.f (l0.length : Int) 1 3 = some false by rw [PP.in_some]; congr 1; exact decide_eq_false (by omega))
    clear HA
    subst h
    go_enter Tryd.func75, Tryd.ntmps75
    go_wp2_with (go_at_call 56; refine (plan_in.calls _ _ _ _ _ hin.out).mono ?_; rintro e w' ⟨rfl, ⟨nd, rfl⟩⟩)
    go_ret
    exact ⟨rfl, pw_below_drewN HB0.out nd⟩
end Go.Proofs.YtpciieagafddcaaDoor.F
