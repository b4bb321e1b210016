/- The plain law of TraceRuns: what a new machine of one plan shows has no flaw (own text). -/
import Derived.Test.YtpciieagafddcaaDoorQhPY
import Derived.Test.YtpciieagafddcaaDoorQhPW
namespace Go.Proofs.YtpciieagafddcaaDoor.PZ
open Go.RowKit Go.Proofs.YtpciieagafddcaaDoorW.PrintWords Go.Proofs.YtpciieagafddcaaDoorW.PrintLast Go.Proofs.YtpciieagafddcaaDoorW.PrintMore Go.Proofs.YtpciieagafddcaaDoor.F Go.Proofs.YtpciieagafddcaaDoor.PG Go.Proofs.YtpciieagafddcaaDoor.PM Go.Proofs.YtpciieagafddcaaDoor.PP Go.Proofs.YtpciieagafddcaaDoor.PQ Go.Proofs.YtpciieagafddcaaDoor.PL Go.Proofs.YtpciieagafddcaaDoor.PT Go.Proofs.YtpciieagafddcaaDoor.PU Go.Proofs.YtpciieagafddcaaDoor.PV Go.Proofs.YtpciieagafddcaaDoor.PX
set_option linter.unusedSimpArgs false
def new : Sg := ⟨0, 0, 0, 2, 0, 0, 0, -1, -1, false⟩
/-- The set of the stage that a machine is in. -/
abbrev G (p : S25) (s : Sg) : Int := (rd_T87 p.f1 s.stage).f0
theorem plan_zero {p : S25} {s : Sg} (h : May [p] s) : s.plan = 0 := by
  have := h.plan
  simp only [List.length_cons, List.length_nil] at this
  omega
theorem P_one {p : S25} {s : Sg} (h : May [p] s) : P [p] s = p := by
  unfold P
  rw [plan_zero h]
  rfl
/-- What a tick does. -/
structure Step (p : S25) (s u : Sg) : Prop where
  may : May [p] u
  want : u.want = -1
  is : (s.phase ≠ 2 ∧ u.phase = s.phase ∧ u.stage = s.stage ∧ u.t = s.t + 1) ∨ (s.phase = 0 ∧ u.phase = 1 ∧ u.stage = s.stage ∧ u.t = 0 ∧ (rd_T87 p.f1 s.stage).f1 ≤ s.t + 1) ∨ (s.phase = 1 ∧ u.phase = 2 ∧ u.stage = s.stage ∧ u.t = 0 ∧ s.t + 1 = p.f2) ∨ (s.phase = 2 ∧ u.phase = 2 ∧ u.t ≤ s.t + 1) ∨ (s.phase = 2 ∧ u.phase = 0 ∧ u.t = 0 ∧ p.f3 ≤ s.t + 1)
theorem tick_step {p : S25} {s : Sg} (h : May [p] s) (hw : s.want = -1) : Step p s (stage_tickB.f [p] s) := by
  have hm := tick_may h
  have hP := P_one h
  have hS : St [p] s = rd_T87 p.f1 s.stage := by unfold St; rw [hP]
  have hph := h.phase
  have hh := h.hold
  rcases (by omega : s.phase = 0 ∨ s.phase = 1 ∨ s.phase = 2) with hp | hp | hp
  · by_cases h0 : 0 < s.hold
    · rw [tick_hold h hp h0] at hm ⊢
      exact ⟨hm, hw, .inl ⟨by omega, rfl, rfl, rfl⟩⟩
    · have h0 : s.hold = 0 := by omega
      by_cases hc : s.t + 1 < (St [p] s).f1 ∨ (asked s = false ∧ s.t + 1 < (St [p] s).f2)
      · rw [tick_green_stay h hp h0 hc] at hm ⊢
        exact ⟨hm, hw, .inl ⟨by omega, rfl, rfl, rfl⟩⟩
      · rw [not_or, Int.not_lt] at hc
        have h2 : asked s = true ∨ (St [p] s).f2 ≤ s.t + 1 := by
          cases ha : asked s with
          | true => exact .inl rfl
          | false => exact .inr (Int.not_lt.1 fun hn => hc.2 ⟨ha, hn⟩)
        rw [tick_green_end h hp h0 hc.1 h2] at hm ⊢
        exact ⟨hm, hw, .inr (.inl ⟨hp, rfl, rfl, rfl, by rw [← hS]; exact hc.1⟩)⟩
  · by_cases ht : s.t + 1 = (P [p] s).f2
    · rw [tick_amber_end h hp ht] at hm ⊢
      exact ⟨hm, hw, .inr (.inr (.inl ⟨hp, rfl, rfl, rfl, by rw [hP] at ht; exact ht⟩))⟩
    · rw [tick_amber_stay h hp ht] at hm ⊢
      exact ⟨hm, hw, .inl ⟨by omega, rfl, rfl, rfl⟩⟩
  · by_cases ht : s.t + 1 < (P [p] s).f3
    · rw [tick_red_stay h hp ht] at hm ⊢
      exact ⟨hm, hw, .inr (.inr (.inr (.inl ⟨hp, hp, Int.le_refl _⟩)))⟩
    · have ht := Int.not_lt.1 ht
      cases hs : s.stop with
      | true =>
        rw [tick_red_stop h hp ht hs] at hm ⊢
        exact ⟨hm, hw, .inr (.inr (.inr (.inl ⟨hp, hp, ht⟩)))⟩
      | false =>
        rw [tick_red_next h hp ht hs hw] at hm ⊢
        exact ⟨hm, hw, .inr (.inr (.inr (.inr ⟨hp, rfl, rfl, by rw [hP] at ht; exact ht⟩)))⟩
theorem do_want {p : S25} {s : Sg} {c arg : Int} (h : May [p] s) (hw : s.want = -1) : (PW.doB [p] s c arg).1.want = -1 := by
  unfold PW.doB
  split
  · have h0 := plan_zero h
    unfold PW.actB
    simp only [List.length_cons, List.length_nil]
    repeat' split
    all_goals first | exact hw | (exfalso; rename_i h1 h2; exact h2.2 (by omega))
  · exact hw
theorem do_did {p : S25} {s : Sg} {c arg : Int} (h : May [p] s) : PW.Did [p] s (PW.doB [p] s c arg).1 := by
  unfold PW.doB
  split
  · exact PW.act_did h
  · exact ⟨h, rfl, rfl, rfl, rfl, rfl, rfl⟩
/-- What a machine shows. -/
def cs (p : S25) (s : Sg) (g : Nat) : Int := if (G p s).toNat.testBit g then lamp_on.f s.phase else 0
theorem lamps_cell {p : S25} {s : Sg} (h : May [p] s) {g : Nat} (hg : g < p.f0.length) : (lampsB [p] s).getD g 0 = cs p s g := by
  unfold lampsB cs
  rw [if_pos (may_to h)]
  have hP := P_one h
  have hS : St [p] s = rd_T87 p.f1 s.stage := by unfold St; rw [hP]
  rw [hP, hS, show_get _ _ _ _ hg]
structure Inv (p : S25) (s : Sg) (R : List (List Int)) : Prop where
  may : May [p] s
  want : s.want = -1
  ok : ∀ i, i < R.length → RowOk p R i
  last : 0 < R.length → R.getD (R.length - 1) [] = lampsB [p] s
  red0 : R.length = 0 → s.phase = 2
  grow : s.phase ≠ 2 → ∀ g, g < p.f0.length → (G p s).toNat.testBit g = true → (beg R (R.length - 1) g : Int) + s.t = (R.length : Int) - 1
  redk : s.phase = 2 → ∀ k, k < R.length → (R.length : Int) ≤ (k : Int) + s.t + 1 → ∀ g, g < p.f0.length → cell R k g = 0
theorem take_app {R : List (List Int)} {y : List Int} : (R ++ [y]).take R.length = R := by simp
theorem leastF_le (g : Nat) : ∀ (ss : List S87) (b : Int), ss.foldl (leastF g) b ≤ b ∧ ∀ s ∈ ss, s.f0.toNat.testBit g = true → ss.foldl (leastF g) b ≤ s.f1
  | [], b => ⟨Int.le_refl _, fun s hs => by cases hs⟩
  | x :: ss, b => by
    obtain ⟨h1, h2⟩ := leastF_le g ss (leastF g b x)
    have hx : leastF g b x ≤ b ∧ (x.f0.toNat.testBit g = true → leastF g b x ≤ x.f1) := by
      unfold leastF mn
      split
      · split <;> exact ⟨by omega, fun _ => by omega⟩
      · rename_i hn
        exact ⟨Int.le_refl _, fun hy => absurd hy hn⟩
    rw [List.foldl_cons]
    refine ⟨by omega, fun s hs hb => ?_⟩
    rcases List.mem_cons.1 hs with rfl | hs
    · have := hx.2 hb
      omega
    · exact h2 s hs hb
theorem tick_inv {p : S25} (hf : fitP p = true) {s : Sg} {R : List (List Int)} (h : Inv p s R) : Inv p (stage_tickB.f [p] s) (R ++ [lampsB [p] (stage_tickB.f [p] s)]) := by
  have hst := tick_step h.may h.want
  obtain ⟨u, hu⟩ : ∃ u, stage_tickB.f [p] s = u := ⟨_, rfl⟩
  rw [hu] at hst ⊢
  clear hu
  obtain ⟨hm, hwu, hs⟩ := hst
  have hF := fits_of hf
  have hn : (R ++ [lampsB [p] u]).length = R.length + 1 := by simp
  have hlast : (R ++ [lampsB [p] u]).getD R.length [] = lampsB [p] u := by simp [List.getD_eq_getElem?_getD]
  have hold : ∀ i, i < R.length → (R ++ [lampsB [p] u]).getD i [] = R.getD i [] := fun i hi => by
    rw [← row_take (rows := R ++ [lampsB [p] u]) hi, take_app]
  have hcell : ∀ i g, i < R.length → cell (R ++ [lampsB [p] u]) i g = cell R i g := fun i g hi => by unfold cell; rw [hold i hi]
  have hbeg : ∀ i g, i < R.length → beg (R ++ [lampsB [p] u]) i g = beg R i g := fun i g hi => by
    rw [← beg_take (rows := R ++ [lampsB [p] u]) g hi, take_app]
  have hok : ∀ i, i < R.length → RowOk p (R ++ [lampsB [p] u]) i := fun i hi => by
    rw [← row_ok, ← rowB_take p (rows := R ++ [lampsB [p] u]) hi, take_app, row_ok]
    exact h.ok i hi
  have hcn : ∀ g, g < p.f0.length → cell (R ++ [lampsB [p] u]) R.length g = cs p u g := fun g hg => by unfold cell; rw [hlast]; exact lamps_cell hm hg
  have hco : 0 < R.length → ∀ g, g < p.f0.length → cell (R ++ [lampsB [p] u]) (R.length - 1) g = cs p s g := fun h0 g hg => by
    rw [hcell _ _ (by omega)]; unfold cell; rw [h.last h0]; exact lamps_cell h.may hg
  have hr := hm.rows
  rw [P_one hm] at hr
  have hrd : rd_T25 [p] 0 = p := rfl
  rw [hrd] at hr
  have ht0 := h.may.t
  have htu := hm.t
  have on0 : lamp_on.f 0 = 2 := rfl
  have on1 : lamp_on.f 1 = 1 := rfl
  have on2 : lamp_on.f 2 = 0 := rfl
  have red : ∀ (v : Sg) g, v.phase = 2 → cs p v g = 0 := fun v g hv => by unfold cs; rw [hv, on2]; split <;> rfl
  have begn : ∀ g, 0 < R.length → beg (R ++ [lampsB [p] u]) R.length g = if cell (R ++ [lampsB [p] u]) (R.length - 1) g = cell (R ++ [lampsB [p] u]) R.length g then beg R (R.length - 1) g else R.length := fun g h0 => by
    obtain ⟨m, hm⟩ : ∃ m, R.length = m + 1 := ⟨R.length - 1, by omega⟩
    rw [← hbeg (R.length - 1) g (by omega), hm]
    rfl
  have beg0 : ∀ g, R.length = 0 → beg (R ++ [lampsB [p] u]) R.length g = 0 := fun g h0 => by rw [h0]; rfl
  refine ⟨hm, hwu, fun i hi => ?_, fun _ => ?_, fun h0 => by omega, fun hp g hg hb => ?_, fun hp k hk hk' g hg => ?_⟩
  · by_cases hi' : i < R.length
    · exact hok i hi'
    · obtain rfl : i = R.length := by omega
      refine ⟨by rw [hlast]; exact hr.2.1, by rw [hlast]; exact hr.1, by rw [hlast]; exact hr.2.2, fun h0 g hg hch => ?_⟩
      have hp0 := h.may.phase
      have hb0 := hbeg (R.length - 1) g (by omega)
      rw [hcn g hg, hco h0 g hg] at hch
      unfold groupB
      rw [hb0, hcn g hg, hco h0 g hg]
      rcases hs with ⟨a1, a2, a3, a4⟩ | ⟨a1, a2, a3, a4, a5⟩ | ⟨a1, a2, a3, a4, a5⟩ | ⟨a1, a2, a3⟩ | ⟨a1, a2, a3, a4⟩
      · exact absurd (by unfold cs G; rw [a2, a3]) hch
      · have hbit : (G p s).toNat.testBit g = true := by
          refine Classical.byContradiction fun hn => hch ?_
          have hn : (G p s).toNat.testBit g = false := by simpa using hn
          have hn' : (G p u).toNat.testBit g = false := by unfold G; rw [a3]; exact hn
          unfold cs
          rw [hn, hn']
          rfl
        have hbit' : (G p u).toNat.testBit g = true := by unfold G; rw [a3]; exact hbit
        have c1 : cs p s g = 2 := by unfold cs; rw [hbit, a1]; rfl
        have c2 : cs p u g = 1 := by unfold cs; rw [hbit', a2]; rfl
        have hgr := h.grow (by omega) g hg hbit
        have hle : leastB p g ≤ (rd_T87 p.f1 s.stage).f1 := by
          have hsr := h.may.stage
          rw [P_one h.may] at hsr
          obtain ⟨j, hj⟩ := Int.eq_ofNat_of_zero_le hsr.1
          have hjl : j < p.f1.length := by omega
          have hbit2 : (rd_T87 p.f1 s.stage).f0.toNat.testBit g = true := hbit
          rw [hj, rd_stage p.f1 hjl] at hbit2 ⊢
          exact (leastF_le g p.f1 200).2 _ (List.getElem_mem hjl) hbit2
        rw [c1, c2, if_neg (by decide), if_neg, if_neg (by intro hx; exact absurd hx.1 (by decide)), if_neg (by intro hx; exact absurd hx.1 (by decide))]
        rintro ⟨-, -, hlt⟩
        omega
      · have hbit : (G p s).toNat.testBit g = true := by
          refine Classical.byContradiction fun hn => hch ?_
          have hn : (G p s).toNat.testBit g = false := by simpa using hn
          have hn' : (G p u).toNat.testBit g = false := by unfold G; rw [a3]; exact hn
          unfold cs
          rw [hn, hn']
          rfl
        have c1 : cs p s g = 1 := by unfold cs; rw [hbit, a1]; rfl
        have c2 : cs p u g = 0 := red u g a2
        have hgr := h.grow (by omega) g hg hbit
        rw [c1, c2, if_neg (by decide), if_neg (by intro hx; exact absurd hx.1 (by decide)), if_neg, if_neg (by intro hx; exact absurd hx.1 (by decide))]
        rintro ⟨-, -, hne⟩
        omega
      · exact absurd (by rw [red u g a2, red s g a1]) hch
      · have c1 : cs p s g = 0 := red s g a1
        have c2 : cs p u g = 2 := by
          rw [c1] at hch
          unfold cs at hch ⊢
          rw [a2, on0] at hch ⊢
          split at hch
          · rename_i hx; rw [if_pos hx]
          · exact absurd rfl hch
        rw [c1, c2, if_neg (by decide), if_neg (by intro hx; exact absurd hx.1 (by decide)), if_neg (by intro hx; exact absurd hx.1 (by decide)), if_neg]
        rintro ⟨-, hso⟩
        rw [soon_no fun k x hk hk' hx _ => ?_] at hso
        · cases hso
        · rw [hcell k x hk]
          exact h.redk a1 k hk (by omega) x hx
  · rw [hn, Nat.add_sub_cancel, hlast]
  · rw [hn, Nat.add_sub_cancel]
    rcases hs with ⟨a1, a2, a3, a4⟩ | ⟨a1, a2, a3, a4, a5⟩ | ⟨a1, a2, a3, a4, a5⟩ | ⟨a1, a2, a3⟩ | ⟨a1, a2, a3, a4⟩
    · have h0 : 0 < R.length := by
        refine Nat.pos_of_ne_zero fun h0 => a1 (h.red0 h0)
      have hb' : (G p s).toNat.testBit g = true := by have := hb; unfold G at this ⊢; rw [a3] at this; exact this
      have hgr := h.grow a1 g hg hb'
      rw [begn g h0, hcn g hg, hco h0 g hg, if_pos (by unfold cs G; rw [a2, a3])]
      omega
    · have h0 : 0 < R.length := by
        refine Nat.pos_of_ne_zero fun h0 => ?_
        have := h.red0 h0
        omega
      have hb' : (G p s).toNat.testBit g = true := by have := hb; unfold G at this ⊢; rw [a3] at this; exact this
      rw [begn g h0, hcn g hg, hco h0 g hg, if_neg (by unfold cs; rw [hb, hb', a1, a2]; decide)]
      omega
    · omega
    · omega
    · by_cases h0 : R.length = 0
      · rw [beg0 g h0, h0, a3]; omega
      · rw [begn g (by omega), hcn g hg, hco (by omega) g hg, red s g a1, if_neg (by unfold cs; rw [hb, a2]; decide)]
        omega
  · by_cases hkn : k = R.length
    · rw [hkn, hcn g hg]; exact red u g hp
    · rw [hcell k g (by omega)]
      rw [hn] at hk'
      rcases hs with ⟨a1, a2, a3, a4⟩ | ⟨a1, a2, a3, a4, a5⟩ | ⟨a1, a2, a3, a4, a5⟩ | ⟨a1, a2, a3⟩ | ⟨a1, a2, a3, a4⟩
      · omega
      · omega
      · omega
      · exact h.redk a1 k (by omega) (by omega) g hg
      · omega
theorem do_inv {p : S25} {s : Sg} {R : List (List Int)} {c arg : Int} (h : Inv p s R) : Inv p (PW.doB [p] s c arg).1 R := by
  have hd := do_did (c := c) (arg := arg) h.may
  have hw := do_want (c := c) (arg := arg) h.may h.want
  have hl := PW.lamps_same h.may hd
  obtain ⟨u, hu⟩ : ∃ u, (PW.doB [p] s c arg).1 = u := ⟨_, rfl⟩
  rw [hu] at hd hw hl ⊢
  exact ⟨hd.may, hw, h.ok, fun h0 => by rw [hl]; exact h.last h0, fun h0 => by rw [hd.phase]; exact h.red0 h0, fun hp g hg hb => by
    rw [hd.t]
    have hb' : (G p s).toNat.testBit g = true := by have := hb; unfold G at this ⊢; rw [hd.stage] at this; exact this
    exact h.grow (by rw [← hd.phase]; exact hp) g hg hb', fun hp k hk hk' g hg => h.redk (by rw [← hd.phase]; exact hp) k hk (by rw [← hd.t]; exact hk') g hg⟩
theorem play_inv {p : S25} (hf : fitP p = true) : ∀ (a : List S65) {s : Sg} {R : List (List Int)}, Inv p s R → Inv p (PW.playS [p] a s) (R ++ PW.playR [p] a s)
  | [], s, R, h => by
    show Inv p s (R ++ [])
    rw [List.append_nil]; exact h
  | x :: xs, s, R, h => by
    show Inv p (PW.playS [p] xs (PW.oneB [p] s x)) (R ++ ((if x.f0 = -1 then [lampsB [p] (PW.oneB [p] s x)] else []) ++ PW.playR [p] xs (PW.oneB [p] s x)))
    rw [← List.append_assoc]
    refine play_inv hf xs ?_
    unfold PW.oneB
    by_cases hx : x.f0 = -1
    · rw [if_pos hx, if_pos hx]
      exact tick_inv hf h
    · rw [if_neg hx, if_neg hx, List.append_nil]
      exact do_inv h
theorem new_may {p : S25} (hf : fitP p = true) : May [p] new := by
  have hF := fits_of hf
  have ha : PU.allB [p] = true := by
    unfold PU.allB
    have hb : plan_badB.f (rd_T25 [p] 0).f0.length p = false := by
      unfold plan_badB.f
      have : plan_fitB.f p.f0 p.f1 p.f2 p.f3 p.f4 = true := hf
      rw [this]
      exact decide_eq_false (fun hn => hn rfl)
    simp [hb]
  have hP : P [p] new = p := rfl
  have hl := hF.few
  have hh := hF.hold
  have hr := hF.red
  refine ⟨ha, ⟨Int.le_refl _, show (0 : Int) < 1 by decide⟩, ?_, ?_, ?_, ⟨Int.le_refl _, show (-1 : Int) < 1 by decide⟩, ⟨by decide, by decide⟩, ?_, ?_, fun hp => absurd hp (by decide), fun _ => ⟨rfl, rfl, rfl, Int.le_refl _, ?_⟩⟩
  · rw [hP]; exact ⟨Int.le_refl _, by show (0 : Int) < _; omega⟩
  · rw [hP]; exact ⟨Int.le_refl _, by show (0 : Int) < _; omega⟩
  · rw [hP]; exact ⟨Int.le_refl _, by show (-1 : Int) < _; omega⟩
  · rw [hP]; exact ⟨Int.le_refl _, hh.1⟩
  · rw [hP]; exact ⟨Int.le_refl _, by show (0 : Int) ≤ p.f4 - 0; omega⟩
  · rw [hP, if_neg (by decide)]; show (0 : Int) ≤ p.f3; omega
theorem play_check {p : S25} (hf : fitP p = true) (a : List S65) : checkB p (PW.playR [p] a new) = (0, 0, 0) := by
  have h0 : Inv p new [] := ⟨new_may hf, rfl, fun i hi => absurd hi (Nat.not_lt_zero i), fun h => absurd h (Nat.lt_irrefl 0), fun _ => rfl, fun hp => absurd rfl hp, fun _ k hk => absurd hk (Nat.not_lt_zero k)⟩
  have h := play_inv hf a h0
  rw [List.nil_append] at h
  exact check_zero ((check_none hf).2 h.ok)
end Go.Proofs.YtpciieagafddcaaDoor.PZ
