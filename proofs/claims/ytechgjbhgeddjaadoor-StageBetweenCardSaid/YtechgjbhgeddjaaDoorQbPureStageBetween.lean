/- The plain law of StageBetween: behind a green it is amber for Amber ticks, then all red for Red ticks; then the next stage is green, or the first one of the plan that is wanted. -/
import Derived.Test.YtechgjbhgeddjaaDoorQbDStageBetween
import Derived.Test.YtechgjbhgeddjaaDoorQbPV
namespace Go.Proofs.YtechgjbhgeddjaaDoor.Pure
open Go.RowKit Go.Proofs.YtechgjbhgeddjaaDoorW.PrintWords Go.Proofs.YtechgjbhgeddjaaDoorW.PrintLast Go.Proofs.YtechgjbhgeddjaaDoorW.PrintMore Go.Proofs.YtechgjbhgeddjaaDoor.F Go.Proofs.YtechgjbhgeddjaaDoor.PG Go.Proofs.YtechgjbhgeddjaaDoor.PM Go.Proofs.YtechgjbhgeddjaaDoor.PP Go.Proofs.YtechgjbhgeddjaaDoor.PQ Go.Proofs.YtechgjbhgeddjaaDoor.PL Go.Proofs.YtechgjbhgeddjaaDoor.PT Go.Proofs.YtechgjbhgeddjaaDoor.PU Go.Proofs.YtechgjbhgeddjaaDoor.PV
namespace StageBetween
abbrev BL0 (n : Nat) (x : List (List Int)) (i : Int) (s t : Sg) (p : S39) (c : Sg) : Option Bool := pelicanlaw16_StageBetween.l0 n x i s.plan s.stage s.next s.phase s.t s.hold s.held s.ask s.want s.stop t.plan t.stage t.next t.phase t.t t.hold t.held t.ask t.want t.stop p.f0 p.f1 p.f2 p.f3 p.f4 c.plan c.stage c.next c.phase c.t c.hold c.held c.ask c.want c.stop
abbrev BL1 (n : Nat) (x : List (List Int)) (i g : Int) (s t : Sg) (p : S39) (c : Sg) : Option Bool := pelicanlaw16_StageBetween.l1 n x i g s.plan s.stage s.next s.phase s.t s.hold s.held s.ask s.want s.stop t.plan t.stage t.next t.phase t.t t.hold t.held t.ask t.want t.stop p.f0 p.f1 p.f2 p.f3 p.f4 c.plan c.stage c.next c.phase c.t c.hold c.held c.ask c.want c.stop
theorem rd_row (x : List (List Int)) {i : Nat} (h : i < x.length) : rd_L1 x (i : Int) = x[i] := by simp [rd_L1, h]
theorem loop1 {x : List (List Int)} (hx : x.length ≤ 3000) (hz : ∀ y ∈ x, y.length ≤ 100 ∧ ∀ v ∈ y, v = 0) {i : Nat} (hi : i < x.length) (s t : Sg) (p : S39) (c : Sg) {r : Bool} (hn : Ev (fun n => BL0 n x ((i + 1 : Nat) : Int) s t p c) r) :
    ∀ d g : Nat, g + d = x[i].length → Ev (fun n => BL1 n x (i : Int) (g : Int) s t p c) r := by
  have hy := hz _ (List.getElem_mem hi)
  have e1 : ((i : Int) + 1) = ((i + 1 : Nat) : Int) := by omega
  intro d
  induction d with
  | zero =>
    intro g hg
    refine Ev.step (fun n => ?_) hn
    simp only [BL1, pelicanlaw16_StageBetween.l1]
    rw [if_pos (by omega), if_pos (by omega), rd_row x hi, if_neg (by omega), wr (by omega) (by omega), e1]
  | succ d ih =>
    intro g hg
    have e2 : ((g : Int) + 1) = ((g + 1 : Nat) : Int) := by omega
    refine Ev.step (fun n => ?_) (ih (g + 1) (by omega))
    have hv : rd x[i] (g : Int) = 0 := by
      have hlt : g < x[i].length := by omega
      rw [show rd x[i] (g : Int) = x[i].getD g 0 by simp [rd]]
      rw [List.getD_eq_getElem?_getD, List.getElem?_eq_getElem hlt]
      exact hy.2 _ (List.getElem_mem hlt)
    simp only [BL1, pelicanlaw16_StageBetween.l1]
    rw [if_pos (by omega), if_pos (by omega), rd_row x hi, if_pos (by omega), if_pos (by omega), if_pos hv, wr (by omega) (by omega), e2]
theorem loop0 {x : List (List Int)} (hx : x.length ≤ 3000) (hz : ∀ y ∈ x, y.length ≤ 100 ∧ ∀ v ∈ y, v = 0) (s t : Sg) (p : S39) (c : Sg) (hfin : (if s.stop = true then (if c.phase = 2 then (some (c.t == p.f3)) else (some false)) else (if c.phase = 0 then (if c.t = 0 then (if s.want = (-1) then (if c.plan = s.plan then (if c.stage = t.next then (some true) else (some false)) else (some false)) else (if c.plan = s.want then (some (c.stage == 0)) else (some false))) else (some false)) else (some false))) = some true) :
    ∀ d i : Nat, i + d = x.length → Ev (fun n => BL0 n x (i : Int) s t p c) true := by
  intro d
  induction d with
  | zero =>
    intro i hi
    refine Ev.step (f := fun _ => some true) (fun n => ?_) (Ev.now _)
    simp only [BL0, pelicanlaw16_StageBetween.l0]
    rw [if_neg (by omega)]
    exact hfin
  | succ d ih =>
    intro i hi
    have hlt : i < x.length := by omega
    refine Ev.step (fun n => ?_) (loop1 hx hz hlt s t p c (ih (i + 1) (by omega)) x[i].length 0 (Nat.zero_add _))
    simp only [BL0, BL1, pelicanlaw16_StageBetween.l0]
    rw [if_pos (by omega)]
    rfl
theorem rows_len {l : List S39} : ∀ (n : Nat) {s : Sg}, May l s → ∀ y ∈ rowsN l n s, y.length ≤ 100
  | 0, s, _ => by intro y hy; cases hy
  | n + 1, s, h => by
    intro y hy
    rw [rowsN] at hy
    have h2 := tick_may h
    rcases List.mem_cons.1 hy with rfl | hy
    · have h3 := h2.rows.2.1
      have := PL.may_len h3
      omega
    · exact rows_len n h2 y hy
end StageBetween
open StageBetween
theorem StageBetween (l0 : List S39) (a1_0 a1_1 a1_2 a1_3 a1_4 a1_5 a1_6 a1_7 a1_8 : Int) (a1_9 : Bool) (hw : Wf ⟨a1_0, a1_1, a1_2, a1_3, a1_4, a1_5, a1_6, a1_7, a1_8, a1_9⟩) : ∃ k, pelicanlaw16_StageBetween.f k l0 a1_0 a1_1 a1_2 a1_3 a1_4 a1_5 a1_6 a1_7 a1_8 a1_9 = some true := by
  refine Ev.rounds ?_
  obtain ⟨b, hb⟩ := fewAll_ev l0
  refine Ev.congr (fun n => rfl) (Ev.bind awake16_ev (Ev.bind hb ?_))
  simp only [if_true]
  have hup : Ev (fun n => pelicanlaw16_StageBetween.j0 n l0 true true a1_0 a1_1 a1_2 a1_3 a1_4 a1_5 a1_6 a1_7 a1_8 a1_9) true := Ev.step (f := fun _ => some true) (fun n => by simp only [pelicanlaw16_StageBetween.j0, if_true]) (Ev.now _)
  cases b with
  | false => exact hup
  | true =>
    obtain ⟨s, hs⟩ : ∃ s : Sg, s = ⟨a1_0, a1_1, a1_2, a1_3, a1_4, a1_5, a1_6, a1_7, a1_8, a1_9⟩ := ⟨_, rfl⟩
    have hm := may_rounds l0 s
    rw [← hs] at hw
    simp only [if_true]
    rw [show a1_0 = s.plan by rw [hs], show a1_1 = s.stage by rw [hs], show a1_2 = s.next by rw [hs], show a1_3 = s.phase by rw [hs], show a1_4 = s.t by rw [hs], show a1_5 = s.hold by rw [hs], show a1_6 = s.held by rw [hs], show a1_7 = s.ask by rw [hs], show a1_8 = s.want by rw [hs], show a1_9 = s.stop by rw [hs]] at hup ⊢
    refine Ev.bind hm ?_
    cases hmb : stage_mayB.f l0 s with
    | false => simp only [Bool.false_eq_true, if_false]; exact hup
    | true =>
      have h := may_of hw hmb
      have h2 := tick_may h
      simp only [if_true]
      by_cases p0 : s.phase = 0
      · rw [show (s.phase != 0) = false by rw [p0]; rfl]
        -- the tick
        have hfin0 : (stage_tickB.f l0 s).phase = 0 → Ev (fun n => pelicanlaw16_StageBetween.j0 n l0 true false s.plan s.stage s.next s.phase s.t s.hold s.held s.ask s.want s.stop) true := fun hp => by
          refine Ev.step (f := fun n => pelicanlaw16_StageBetween.j1 n l0 true s.plan s.stage s.next s.phase s.t s.hold s.held s.ask s.want s.stop (stage_tickB.f l0 s).plan (stage_tickB.f l0 s).stage (stage_tickB.f l0 s).next (stage_tickB.f l0 s).phase (stage_tickB.f l0 s).t (stage_tickB.f l0 s).hold (stage_tickB.f l0 s).held (stage_tickB.f l0 s).ask (stage_tickB.f l0 s).want (stage_tickB.f l0 s).stop) (fun n => ?_) (Ev.step (f := fun _ => some true) (fun n => ?_) (Ev.now _))
          · simp only [pelicanlaw16_StageBetween.j0, Bool.false_eq_true, if_false, tick_f, Option.bind_some, hp, if_true]
          · simp only [pelicanlaw16_StageBetween.j1, if_true, hp, beq_self_eq_true]
        by_cases hh : s.hold = 0
        · by_cases hst : s.t + 1 < (St l0 s).f1 ∨ (asked s = false ∧ s.t + 1 < (St l0 s).f2)
          · exact hfin0 (by rw [tick_green_stay h p0 hh hst]; exact p0)
          · have ht1 : (St l0 s).f1 ≤ s.t + 1 := by omega
            have ht2 : asked s = true ∨ (St l0 s).f2 ≤ s.t + 1 := by
              cases ha : asked s with
              | true => exact .inl rfl
              | false => exact .inr (by have : ¬ s.t + 1 < (St l0 s).f2 := fun hx => hst (.inr ⟨ha, hx⟩); omega)
            have et := tick_green_end h p0 hh ht1 ht2
            obtain ⟨A, R, hA, hR, hA2, hR2, e1, e2, e3⟩ := between h2 (by rw [et]) (by rw [et])
            have eP : (P l0 (stage_tickB.f l0 s)) = P l0 s := by rw [et]
            have tp : (stage_tickB.f l0 s).plan = s.plan := by rw [et]
            have tph : (stage_tickB.f l0 s).phase = 1 := by rw [et]
            have tw : (stage_tickB.f l0 s).want = s.want := by rw [et]
            have ts : (stage_tickB.f l0 s).stop = s.stop := by rw [et]
            have hk := tick_f l0 s
            clear et
            generalize stage_tickB.f l0 s = t at *
            have ha : May l0 { t with t := (A : Int) } := by rw [← e1]; exact tickN_may A h2
            have hbm : May l0 { t with phase := 2, t := (R : Int) } := by rw [← e2]; exact tickN_may _ ha
            have r1 := run_ev h2 (n := A) (by omega)
            have r2 := run_ev ha (n := R + 1) (by omega)
            rw [e1] at r1
            rw [e2] at r2
            have hl2 := rows_len (R + 1) ha
            have hn2 := rowsN_len l0 (R + 1) { t with t := (A : Int) }
            have hn1 := rowsN_len l0 A t
            generalize rowsN l0 (R + 1) { t with t := (A : Int) } = two at *
            generalize rowsN l0 A t = one at *
            have hc := tick_f l0 { t with phase := 2, t := (R : Int) }
            obtain ⟨c, hce⟩ : ∃ c, c = stage_tickB.f l0 { t with phase := 2, t := (R : Int) } := ⟨_, rfl⟩
            rw [← hce] at hc
            have hpr := h2.plan
            have hfin : (if s.stop = true then (if c.phase = 2 then (some (c.t == (P l0 t).f3)) else (some false)) else (if c.phase = 0 then (if c.t = 0 then (if s.want = (-1) then (if c.plan = s.plan then (if c.stage = t.next then (some true) else (some false)) else (some false)) else (if c.plan = s.want then (some (c.stage == 0)) else (some false))) else (some false)) else (some false))) = some true := by
              have hRt : (P l0 { t with phase := 2, t := (R : Int) }).f3 ≤ (R : Int) + 1 := by show (P l0 t).f3 ≤ _; omega
              by_cases hsp : s.stop = true
              · rw [if_pos hsp, hce, tick_red_stop hbm rfl hRt (ts.trans hsp)]
                simp
              · have hsf : s.stop = false := by simpa using hsp
                rw [if_neg hsp]
                by_cases hwa : s.want = -1
                · rw [hce, tick_red_next hbm rfl hRt (ts.trans hsf) (tw.trans hwa)]
                  simp [hwa, tp]
                · rw [hce, tick_red_want hbm rfl hRt (ts.trans hsf) (by show t.want ≠ -1; rw [tw]; exact hwa)]
                  simp [hwa, tw]
            have hloop := loop0 (x := two) (by omega) (fun y hy => ⟨hl2 y hy, e3 y hy⟩) s t (P l0 t) c hfin two.length 0 (Nat.zero_add _)
            refine Ev.step (f := fun n => pelicanlaw16_StageBetween.j1 n l0 false s.plan s.stage s.next s.phase s.t s.hold s.held s.ask s.want s.stop t.plan t.stage t.next t.phase t.t t.hold t.held t.ask t.want t.stop) (fun n => ?_) ?_
            · have c1 : ¬ (t.plan < 0) := by omega
              have c2 : ¬ (t.plan ≥ (l0.length : Int)) := by omega
              simp only [pelicanlaw16_StageBetween.j0, Bool.false_eq_true, if_false, hk, Option.bind_some]
              rw [if_neg (by show ¬ t.phase = 0; omega), if_neg c1, decide_eq_false c2]
            · refine Ev.step (f := fun n => pelicanlaw16_StageBetween.j1 (n + 1) l0 false s.plan s.stage s.next s.phase s.t s.hold s.held s.ask s.want s.stop t.plan t.stage t.next t.phase t.t t.hold t.held t.ask t.want t.stop) (fun n => rfl) ?_
              have w1 : wrap64 ((rd_T39 l0 t.plan).f2 - 1) = (A : Int) := by rw [wr (by simp only [P] at hA; omega) (by simp only [P] at hA; omega)]; simp only [P] at hA; omega
              have w2 : (rd_T39 l0 t.plan).f3 = ((R + 1 : Nat) : Int) := by simp only [P] at hR; omega
              simp only [pelicanlaw16_StageBetween.j1, Bool.false_eq_true, if_false, w1, w2, hpr.1, hpr.2, if_true]
              refine Ev.bind r1 ?_
              simp only [hn1, if_true]
              refine Ev.bind r2 ?_
              simp only [hn2, if_true, hc, Option.bind_some]
              have hcond : (t.phase = 1) = True := by simp [tph]
              simp only [hcond, if_true]
              refine Ev.step (fun n => ?_) hloop
              simp only [pelicanlaw16_StageBetween.j2, bne_self_eq_false, Bool.false_eq_true, if_false]
              rw [show ((R + 1 : Nat) : Int) = (P l0 t).f3 by omega]
              rfl
        · have hp0 : 0 < s.hold := by have := h.hold; omega
          exact hfin0 (by rw [tick_hold h p0 hp0]; exact p0)
      · rw [show (s.phase != 0) = true by simpa using p0]
        exact hup
end Go.Proofs.YtechgjbhgeddjaaDoor.Pure
