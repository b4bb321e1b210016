/- Woven by wip/weave/weave.py of this repo (own tool) out of the translation: the contracts of some functions. Lean checks it. -/
import Derived.Test.YtechgjbhgeddjaaDoorD
import Derived.Test.YtechgjbhgeddjaaDoorF0
import Derived.Test.YtechgjbhgeddjaaDoorF22
import Derived.Test.YtechgjbhgeddjaaDoorF42
import Derived.Test.YtechgjbhgeddjaaDoorF46
import Derived.Test.YtechgjbhgeddjaaDoorPL
namespace Go.Proofs.YtechgjbhgeddjaaDoor.F
open Go.RowKit Go.Proofs.YtechgjbhgeddjaaDoorW.PrintWords Go.Proofs.YtechgjbhgeddjaaDoorW.PrintLast Go.Proofs.YtechgjbhgeddjaaDoorW.PrintMore
attribute [local go_sem] max2_int min2_int max_two min_two max_three min_three max_four min_four   -- for this text's walks alone
set_option linter.unusedVariables false
set_option linter.unusedSimpArgs false

-- IMPORT Derived.Test.YtechgjbhgeddjaaDoorPL
theorem lcInfo : (Tryd.prog.info? 3).map (fun i => (i.zero, i.size, i.bytes)) = some (some (.int .i64 0), 1, 8) := by kernel_rfl
theorem lcOwn_C {W : World} {base : Nat} {A : Option Addr} {n c : Nat} {xs : List Int} (h : W.ownsRow base 3 1 (.slice A n c) xs.length (xs.map (Value.int .i64))) : Kd.C (Kd.int .i64) W A xs.length xs := (Kd.R_reads' (Kd.R_of_own (ok := fun _ => True) h (fun _ _ => trivial) : Kd.R (Kd.int .i64) 3 W base (fun _ => True) (.slice A n c) xs)).2.2
/-- An element of an owned row, stored. -/
theorem lcOwn_set {W : World} {base b c : Nat} {xs : List Int} (h : W.ownsRow base 3 1 (.slice (some ⟨b, 0, none⟩) xs.length c) xs.length (xs.map (Value.int .i64))) {g : Nat} (hg : g < xs.length) (x : Int) :
    (∃ v, W.cell? ⟨b, g, none⟩ = some v) ∧ W.frozen? ⟨b, g, none⟩ = false ∧ (W.setCell ⟨b, g, none⟩ (.int .i64 x)).ownsRow base 3 1 (.slice (some ⟨b, 0, none⟩) (xs.set g x).length c) (xs.set g x).length ((xs.set g x).map (Value.int .i64)) := by
  rcases h.2 with ⟨hv, _⟩ | ⟨b', cap, cur, hv, hb, hh, hn, hm, hs, ht⟩
  · cases hv
  · injection hv with h1 h2 h3
    injection h1 with h1
    injection h1 with h1
    subst h1
    subst h3
    have hcs : g < cur.size := by omega
    refine ⟨⟨cur[g], by simp [World.cell?, hh, hcs]⟩, by simp [World.frozen?, hh], by simp, .inr ⟨b, c, cur.setIfInBounds g (.int .i64 x), rfl, hb, by simp [World.setCell, Array.getElem?_modify, hh], by rw [List.length_set]; exact hn, hm, by simpa using hs, ?_⟩⟩
    rw [Array.toList_setIfInBounds, List.length_set, List.take_set, ht, List.map_set]
set_option maxHeartbeats 4000000 in
set_option maxRecDepth 100000 in
/-- The walk of LampClash. -/
theorem pelicanlaw15_LampClash.calls (_k : Nat) (A0_0 : Option Addr) (c0_0 : Nat) (l0_0 : List Int) (A0_1 : Option Addr) (c0_1 : Nat) (l0_1 : List S41) (a0_2 a0_3 a0_4 : Int) (A1 : Option Addr) (c1 : Nat) (l1 : List Int) (a2 a3 : Int) (r : Bool) (_HRR0 : r = true) (w : World) (hr0_0 : Kd.C (Kd.int .i64) w A0_0 l0_0.length l0_0) (hc0_0 : l0_0.length ≤ c0_0) (hr0_1 : Kd.C k41 w A0_1 l0_1.length l0_1) (hc0_1 : l0_1.length ≤ c0_1) (hr1 : Kd.C (Kd.int .i64) w A1 l1.length l1) (hc1 : l1.length ≤ c1) (hG : GlobOk w) (h : PL.lampClashLaw l0_0 l0_1 a0_2 a0_3 a0_4 l1 a2 a3 = r) :
    Calls Tryd.prog 13 #[.agg #[.slice A0_0 l0_0.length c0_0, .slice A0_1 l0_1.length c0_1, .int .i64 a0_2, .int .i64 a0_3, .int .i64 a0_4], .slice A1 l1.length c1, .int .i64 a2, .int .i64 a3] w fun e w' => e = .returned (.bool r) ∧ Below w.heap.size w w' := by
  obtain ⟨i0, hi, hz0, hz1, hz2⟩ := info_parts lcInfo
  have hmx := Kd.C_max hr0_1
  have hmx1 := Kd.C_max hr1
  have hu39 := Tryd.underlying39
  obtain ⟨K0, hK0⟩ := PL.awake_ev.rounds
  obtain ⟨K1, hK1⟩ := (PL.clash_ev l0_0 l0_1 a0_2 a0_3 a0_4 l1 (by omega)).rounds
  have hB0 : Below w.heap.size w (w.alloc (.cells #[.slice A0_0 l0_0.length c0_0, .slice A0_1 l0_1.length c0_1, .int .i64 a0_2, .int .i64 a0_3, .int .i64 a0_4] 39)) := (Below.refl _ w).alloc (Nat.le_refl _) _
  have HG := Lib.hid hG
  have HR0 := Lib.hid hr0_0
  have HR1 := Lib.hid hr0_1
  have HRL := Lib.hid hr1
  have HB0 := Lib.hid hB0
  have HA := Lib.hid (fun W (hb : Below w.heap.size w W) => pelicanlaw15_awake.calls K0 true W (hG.below hb) hK0)
  have HF := Lib.hid (fun W (hb : Below w.heap.size w W) => pelicanlaw14_Few.calls A0_0 c0_0 l0_0 A0_1 c0_1 l0_1 a0_2 a0_3 a0_4 _ W (Kd.C_below hr0_0 hb) hc0_0 (Kd.C_below hr0_1 hb) hc0_1 (PQ.few_f l0_0 l0_1 a0_2 a0_3 a0_4))
  have HC : ∀ (w' : World), Below (w.alloc (.cells #[.slice A0_0 l0_0.length c0_0, .slice A0_1 l0_1.length c0_1, .int .i64 a0_2, .int .i64 a0_3, .int .i64 a0_4] 39)).heap.size (w.alloc (.cells #[.slice A0_0 l0_0.length c0_0, .slice A0_1 l0_1.length c0_1, .int .i64 a0_2, .int .i64 a0_3, .int .i64 a0_4] 39)) w' → w'.cell? ⟨w.heap.size, 0, none⟩ = some (.slice A0_0 l0_0.length c0_0) ∧ w'.cell? ⟨w.heap.size, 1, none⟩ = some (.slice A0_1 l0_1.length c0_1) ∧ w'.cell? ⟨w.heap.size, 2, none⟩ = some (.int .i64 a0_2) ∧ w'.cell? ⟨w.heap.size, 3, none⟩ = some (.int .i64 a0_3) ∧ w'.cell? ⟨w.heap.size, 4, none⟩ = some (.int .i64 a0_4) := fun w' hb => ⟨(hb.cell (p := ⟨w.heap.size, 0, none⟩) (by simp)).trans (by simp), (hb.cell (p := ⟨w.heap.size, 1, none⟩) (by simp)).trans (by simp), (hb.cell (p := ⟨w.heap.size, 2, none⟩) (by simp)).trans (by simp), (hb.cell (p := ⟨w.heap.size, 3, none⟩) (by simp)).trans (by simp), (hb.cell (p := ⟨w.heap.size, 4, none⟩) (by simp)).trans (by simp)⟩
  have HC := Lib.hid HC
  unfold PL.lampClashLaw at h
  clear hG hr0_0 hr0_1 hr1 hB0 hK0
  by_cases hin : l0_0.length ≤ 10 ∧ l0_1.length ≤ 10 ∧ l1.length ≤ 20 ∧ 0 ≤ a2 ∧ a2 < (l1.length : Int) ∧ 1 ≤ a3 ∧ a3 ≤ 2
  · rw [if_pos hin] at h
    obtain ⟨g1, g2, g3, g4, g5, g6, g7⟩ := hin
    obtain ⟨gg, hgg⟩ := Int.eq_ofNat_of_zero_le g4
    subst hgg
    rw [Int.toNat_natCast] at h
    have hgl : gg < l1.length := by omega
    rw [decide_eq_true ⟨g1, g2⟩] at HF
    obtain ⟨ad, hA1, _⟩ := Kd.at_int HRL.out 0 (by omega) (by omega)
    subst hA1
    have HX := Lib.hid (fun (W : World) (hb : Below w.heap.size w W) (j : Nat) (u : Value) (hj : (l1.map (Value.int .i64))[j]? = some u) => show W.cell? (ad.add j) = some u by
      rw [List.getElem?_map] at hj
      obtain ⟨y, hy, rfl⟩ := Option.map_eq_some_iff.1 hj
      obtain ⟨hjl, hjy⟩ := List.getElem?_eq_some_iff.1 hy
      obtain ⟨ad', e, hx⟩ := Kd.at_int (Kd.C_below HRL.out hb) (j : Int) (by omega) (by omega)
      obtain rfl := Option.some.inj e
      rw [Int.toNat_natCast] at hx
      rw [hx]
      congr 2
      rw [← hjy]
      simp [rd, hjl])
    obtain ⟨K2, hK2⟩ := (PL.clash_ev l0_0 l0_1 a0_2 a0_3 a0_4 (l1.set gg a3) (by omega)).rounds
    obtain ⟨K3, hK3⟩ := (PL.clash_ev l0_0 l0_1 a0_2 a0_3 a0_4 (List.replicate l1.length 0) (by omega)).rounds
    have e3 := PL.clash_red l0_0 l0_1 a0_2 a0_3 a0_4 l1.length
    have e2 := PL.clash_more l0_0 l0_1 a0_2 a0_3 a0_4 l1 gg hgl a3 ⟨g6, g7⟩
    have HK1 := Lib.hid (fun W (hb : Below w.heap.size w W) => lamp_Clash.calls K1 A0_0 c0_0 l0_0 A0_1 c0_1 l0_1 a0_2 a0_3 a0_4 (some ad) c1 l1 _ W (Kd.C_below HR0.out hb) hc0_0 (Kd.C_below HR1.out hb) hc0_1 (Kd.C_below HRL.out hb) hc1 (HG.out.below hb) hK1)
    have hk2 := (fun W (hb : Below w.heap.size w W) A (hC : Kd.C (Kd.int .i64) W A (l1.set gg a3).length (l1.set gg a3)) c hc => lamp_Clash.calls K2 A0_0 c0_0 l0_0 A0_1 c0_1 l0_1 a0_2 a0_3 a0_4 A c (l1.set gg a3) _ W (Kd.C_below HR0.out hb) hc0_0 (Kd.C_below HR1.out hb) hc0_1 hC hc (HG.out.below hb) hK2)
    have hk3 := (fun W (hb : Below w.heap.size w W) A (hC : Kd.C (Kd.int .i64) W A (List.replicate l1.length (0 : Int)).length (List.replicate l1.length (0 : Int))) c hc => lamp_Clash.calls K3 A0_0 c0_0 l0_0 A0_1 c0_1 l0_1 a0_2 a0_3 a0_4 A c (List.replicate l1.length 0) _ W (Kd.C_below HR0.out hb) hc0_0 (Kd.C_below HR1.out hb) hc0_1 hC hc (HG.out.below hb) hK3)
    have n1 : ¬ (20 : Int) < (l1.length : Int) := by omega
    have n2 : ¬ (l1.length : Int) ≤ (gg : Int) := by omega
    have n3 : ¬ a3 < 1 := by omega
    have n4 : ¬ 2 < a3 := by omega
    clear hK1 hK2 hK3
    simp only [List.length_set] at hk2
    simp only [List.length_replicate, e3] at hk3
    have HK2 := Lib.hid hk2
    have HK3 := Lib.hid hk3
    clear hk2 hk3
    have hr : r = true := _HRR0
    subst hr
    have HE2 := Lib.hid e2
    clear e2 e3 h
    go_enter Tryd.func13, Tryd.ntmps13
    go_wp2_with (first | (go_at_call 30; refine (HA.out _ HB0.out).mono ?_; rintro e w1 ⟨rfl, hb⟩; obtain ⟨C0, C1, C2, C3, C4⟩ := HC.out w1 hb; have hb1 := Lib.hid hb; clear hb) | (go_at_call 31; refine (HF.out _ (HB0.out.trans (hb1.out.mono (by simp)))).mono ?_; rintro e w2 ⟨rfl, hb⟩; have hb2 := Lib.hid hb; clear hb; have hB2 := Lib.hid (show Below w.heap.size w w2 from (HB0.out.trans (hb1.out.mono (by simp))).trans (hb2.out.mono (by have := hb1.out.size; simp at this; omega)))) | (at_builtin; go_loud (refine wpList_append_own _ rfl _ _ 32 rfl w2.heap.size 3 i0 (.int .i64 0) 1 8 Tryd.underlying32 hi hz0 hz1 hz2 rfl (by decide) (.slice none 0 0) 0 [] rfl (World.ownsRow_nil _ _ _ _) ad l1.length c1 (l1.map (Value.int .i64)) rfl (by simp) ?c1 ?c2 ?c3 ?c4 ?c5 ?_)))
    case c1 => exact HX.out w2 hB2.out
    case c2 =>
      intro u hu
      obtain ⟨y, _, rfl⟩ := List.mem_map.1 hu
      rfl
    case c3 => unfold maxLen; omega
    case c4 => omega
    case c5 => exact Nat.le_refl _
    intro v3 w3 ho3 hgr3 _
    obtain ⟨ao, cap, hv⟩ : ∃ b cap, v3 = .slice (some ⟨b, 0, none⟩) l1.length cap := by
      rcases ho3.2 with ⟨_, h0⟩ | ⟨b, cap, cur, hv, _⟩
      · omega
      · exact ⟨b, cap, by first | exact hv | rw [hv, Nat.zero_add]⟩
    subst hv
    try simp only [Nat.zero_add, List.nil_append] at ho3
    have hB3 := Lib.hid (show Below w.heap.size w w3 from hB2.out.grown hgr3 hB2.out.size (fun k hk => by cases hk))
    obtain ⟨⟨vold, hcell⟩, hfz, ho4⟩ := lcOwn_set ho3 hgl a3
    have hbo := (ho3.lt ao rfl).1
    have hbl := (ho3.lt ao rfl).2
    have hsz2 := hB2.out.size
    have hB4 := Lib.hid (show Below w.heap.size w (w3.setCell ⟨ao, gg, none⟩ (.int .i64 a3)) from hB3.out.setCell (p := ⟨ao, gg, none⟩) (by show w.heap.size ≤ ao; omega) _)
    have hz : ∀ i, i < 5 → (w3.setCell ⟨ao, gg, none⟩ (.int .i64 a3)).cell? ⟨w.heap.size, i, none⟩ = w2.cell? ⟨w.heap.size, i, none⟩ := by
      intro i _
      have h1 : (w3.setCell ⟨ao, gg, none⟩ (.int .i64 a3)).heap[w.heap.size]? = w2.heap[w.heap.size]? := by
        rw [← hgr3.block w.heap.size (by have := hb2.out.size; have := hb1.out.size; simp at this; omega) (by simp [Value.ownBlock])]
        have hne : ao ≠ w.heap.size := by have := hb2.out.size; have := hb1.out.size; simp at this; omega
        simp [World.setCell, Array.getElem?_modify, hne]
      simp [World.cell?, h1]
    have hw2 : ∀ i, i < 5 → w2.cell? ⟨w.heap.size, i, none⟩ = w1.cell? ⟨w.heap.size, i, none⟩ := fun i _ => hb2.out.cell (p := ⟨w.heap.size, i, none⟩) (by have := hb1.out.size; simp at this; show w.heap.size < w1.heap.size; omega)
    have D0 := ((hz 0 (by decide)).trans (hw2 0 (by decide))).trans C0
    have D1 := ((hz 1 (by decide)).trans (hw2 1 (by decide))).trans C1
    have D2 := ((hz 2 (by decide)).trans (hw2 2 (by decide))).trans C2
    have D3 := ((hz 3 (by decide)).trans (hw2 3 (by decide))).trans C3
    have D4 := ((hz 4 (by decide)).trans (hw2 4 (by decide))).trans C4
    have HO4 := Lib.hid ho4
    clear ho3 ho4 hz hw2 C0 C1 C2 C3 C4 hgr3
    generalize hw4 : w3.setCell ⟨ao, gg, none⟩ (.int .i64 a3) = w4 at *
    have hp : (0 : Int) ≤ (gg : Int) := by omega
    go_wp2_with (at_make; go_loud (refine wpList_make_full _ rfl _ _ 32 rfl w4.heap.size 3 i0 (.int .i64 0) 1 Tryd.underlying32 hi hz0 hz1 .i64 .i64 (l1.length : Int) (l1.length : Int) l1.length rfl rfl rfl rfl ?b2 ?b3 (Nat.le_refl _) ?_))
    case b2 => rw [hz2]; omega
    case b3 => unfold maxLen; omega
    intro w5 ho5 hgr5
    rw [toList_madeCells_one] at ho5
    have hm5 : List.replicate l1.length (Value.int .i64 0) = (List.replicate l1.length (0 : Int)).map (Value.int .i64) := by simp
    rw [hm5] at ho5
    have hB45 := Lib.hid (show Below w4.heap.size w4 w5 from (Below.refl w4.heap.size w4).grown hgr5 (Nat.le_refl _) (fun k hk => by cases hk))
    have hC5 : Kd.C (Kd.int .i64) w5 (some ⟨w4.heap.size, 0, none⟩) l1.length (List.replicate l1.length (0 : Int)) := by
      have := lcOwn_C (xs := List.replicate l1.length (0 : Int)) (W := w5) (base := w4.heap.size) (A := some ⟨w4.heap.size, 0, none⟩) (n := l1.length) (c := l1.length) (by rw [List.length_replicate]; exact ho5)
      rwa [List.length_replicate] at this
    have hC4 : Kd.C (Kd.int .i64) w4 (some ⟨ao, 0, none⟩) l1.length (l1.set gg a3) := by
      have := lcOwn_C HO4.out
      rwa [List.length_set] at this
    have HC5 := Lib.hid hC5
    have HC4 := Lib.hid (Kd.C_below hC4 hB45.out)
    have hsz4 := hB4.out.size
    have hs0 : w.heap.size < w4.heap.size := by
      have h1 := hb1.out.size
      have h2 := hb2.out.size
      have h3 : w2.heap.size ≤ w3.heap.size := by omega
      simp at h1
      have h4 : w3.heap.size = w4.heap.size := by rw [← hw4]; simp [World.setCell]
      omega
    have hcap : l1.length ≤ cap := by
      rcases HO4.out.2 with ⟨hv, _⟩ | ⟨b', cap', cur, hv, _, _, hn, _⟩
      · cases hv
      · injection hv with _ _ h3
        subst h3
        rw [List.length_set] at hn
        exact hn
    have HB5 := Lib.hid (show Below w.heap.size w w5 from hB4.out.trans (hB45.out.mono hsz4))
    have HD := Lib.hid (fun (W : World) (hb : Below w5.heap.size w5 W) => show W.cell? ⟨w.heap.size, 0, none⟩ = some (.slice A0_0 l0_0.length c0_0) ∧ W.cell? ⟨w.heap.size, 1, none⟩ = some (.slice A0_1 l0_1.length c0_1) ∧ W.cell? ⟨w.heap.size, 2, none⟩ = some (.int .i64 a0_2) ∧ W.cell? ⟨w.heap.size, 3, none⟩ = some (.int .i64 a0_3) ∧ W.cell? ⟨w.heap.size, 4, none⟩ = some (.int .i64 a0_4) from by
      have hb' := hB45.out.trans (hb.mono hB45.out.size)
      exact ⟨(hb'.cell (p := ⟨w.heap.size, 0, none⟩) hs0).trans D0, (hb'.cell (p := ⟨w.heap.size, 1, none⟩) hs0).trans D1, (hb'.cell (p := ⟨w.heap.size, 2, none⟩) hs0).trans D2, (hb'.cell (p := ⟨w.heap.size, 3, none⟩) hs0).trans D3, (hb'.cell (p := ⟨w.heap.size, 4, none⟩) hs0).trans D4⟩)
    obtain ⟨E0, E1, E2, E3, E4⟩ := HD.out w5 (Below.refl _ _)
    clear ho5 hm5 hC5 hC4 D0 D1 D2 D3 D4 hgr5 HO4 hcell hfz hw4 hb1 hb2 HB0 HC HA HF
    cases hcb : PL.clashB l0_0 l0_1 a0_2 a0_3 a0_4 l1 with
    | false =>
      rw [hcb] at HK1
      clear hcb HE2
      go_wp2_with (first
        | (go_at_call 29; with_reducible refine (HK1.out _ HB5.out).mono ?_; rintro e w6 ⟨rfl, hb⟩; obtain ⟨F0, F1, F2, F3, F4⟩ := HD.out w6 (hb.mono (Nat.le_refl _)); have hb6 := Lib.hid hb; have HB6 := Lib.hid (HB5.out.trans (hb.mono HB5.out.size)); clear hb)
        | (go_at_call 29; with_reducible refine (HK3.out _ HB6.out _ (Kd.C_below HC5.out hb6.out) _ (Nat.le_refl _)).mono ?_; rintro e w7 ⟨rfl, hb⟩; have HB7 := Lib.hid (HB6.out.trans (hb.mono HB6.out.size)); clear hb))
      go_ret
      exact ⟨rfl, HB7.out⟩
    | true =>
      rw [hcb] at HK1
      have e2 := HE2.out hcb
      rw [e2] at HK2
      clear hcb HE2 e2
      go_wp2_with (first
        | (go_at_call 29; with_reducible refine (HK1.out _ HB5.out).mono ?_; rintro e w6 ⟨rfl, hb⟩; obtain ⟨F0, F1, F2, F3, F4⟩ := HD.out w6 (hb.mono (Nat.le_refl _)); have hb6 := Lib.hid hb; have HB6 := Lib.hid (HB5.out.trans (hb.mono HB5.out.size)); clear hb)
        | (go_at_call 29; with_reducible refine (HK2.out _ HB6.out _ (Kd.C_below HC4.out hb6.out) _ hcap).mono ?_; rintro e w7 ⟨rfl, hb⟩; have hb67 := Lib.hid (hb6.out.trans (hb.mono hb6.out.size)); obtain ⟨I0, I1, I2, I3, I4⟩ := HD.out w7 hb67.out; have HB7 := Lib.hid (HB6.out.trans (hb.mono HB6.out.size)); clear hb)
        | (go_at_call 29; with_reducible refine (HK3.out _ HB7.out _ (Kd.C_below HC5.out hb67.out) _ (Nat.le_refl _)).mono ?_; rintro e w8 ⟨rfl, hb⟩; have HB8 := Lib.hid (HB7.out.trans (hb.mono HB7.out.size)); clear hb))
      go_ret
      exact ⟨rfl, HB8.out⟩
  · rw [if_neg hin] at h
    subst h
    have HQ : ∀ b : Bool, b = decide (l0_0.length ≤ 10 ∧ l0_1.length ≤ 10) → Hid (b = true → ((20 : Int) < (l1.length : Int) ∨ (¬ (20 : Int) < (l1.length : Int) ∧ a2 < 0) ∨ (¬ (20 : Int) < (l1.length : Int) ∧ ¬ a2 < 0 ∧ (l1.length : Int) ≤ a2) ∨ (¬ (20 : Int) < (l1.length : Int) ∧ ¬ a2 < 0 ∧ ¬ (l1.length : Int) ≤ a2 ∧ a3 < 1) ∨ (¬ (20 : Int) < (l1.length : Int) ∧ ¬ a2 < 0 ∧ ¬ (l1.length : Int) ≤ a2 ∧ ¬ a3 < 1 ∧ 2 < a3))) := by
      intro b hb
      refine Lib.hid fun ht => ?_
      rw [hb, decide_eq_true_eq] at ht
      omega
    cases hfew : decide (l0_0.length ≤ 10 ∧ l0_1.length ≤ 10) with
    | false =>
      rw [hfew] at HF
      clear hin HQ hfew
      go_enter Tryd.func13, Tryd.ntmps13
      go_wp2_with (first | (go_at_call 30; refine (HA.out _ HB0.out).mono ?_; rintro e w1 ⟨rfl, hb⟩; obtain ⟨C0, C1, C2, C3, C4⟩ := HC.out w1 hb; have hb1 := Lib.hid hb; clear hb) | (go_at_call 31; refine (HF.out _ (HB0.out.trans (hb1.out.mono (by simp)))).mono ?_; rintro e w2 ⟨rfl, hb⟩; have hb2 := Lib.hid hb; clear hb))
      go_ret
      exact ⟨rfl, (HB0.out.trans (hb1.out.mono (by simp))).trans (hb2.out.mono (by have := hb1.out.size; simp at this; omega))⟩
    | true =>
      rw [hfew] at HF
      have hq := (HQ _ hfew.symm).out rfl
      clear hin HQ hfew
      rcases hq with h1 | ⟨h1, h2⟩ | ⟨h1, h2, h3⟩ | ⟨h1, h2, h3, h4⟩ | ⟨h1, h2, h3, h4, h5⟩
      all_goals
        go_enter Tryd.func13, Tryd.ntmps13
        go_wp2_with (first | (go_at_call 30; refine (HA.out _ HB0.out).mono ?_; rintro e w1 ⟨rfl, hb⟩; obtain ⟨C0, C1, C2, C3, C4⟩ := HC.out w1 hb; have hb1 := Lib.hid hb; clear hb) | (go_at_call 31; refine (HF.out _ (HB0.out.trans (hb1.out.mono (by simp)))).mono ?_; rintro e w2 ⟨rfl, hb⟩; have hb2 := Lib.hid hb; clear hb))
        go_ret
        exact ⟨rfl, (HB0.out.trans (hb1.out.mono (by simp))).trans (hb2.out.mono (by have := hb1.out.size; simp at this; omega))⟩

end Go.Proofs.YtechgjbhgeddjaaDoor.F
