/- Plain laws on signal machines that are asked for something (own text). -/
import Derived.Test.YtpciieagafddcaaDoorQjPU
namespace Go.Proofs.YtpciieagafddcaaDoor.PW
open Go.RowKit Go.Proofs.YtpciieagafddcaaDoorW.PrintWords Go.Proofs.YtpciieagafddcaaDoorW.PrintLast Go.Proofs.YtpciieagafddcaaDoorW.PrintMore Go.Proofs.YtpciieagafddcaaDoor.F Go.Proofs.YtpciieagafddcaaDoor.PG Go.Proofs.YtpciieagafddcaaDoor.PM Go.Proofs.YtpciieagafddcaaDoor.PP Go.Proofs.YtpciieagafddcaaDoor.PQ Go.Proofs.YtpciieagafddcaaDoor.PL Go.Proofs.YtpciieagafddcaaDoor.PT Go.Proofs.YtpciieagafddcaaDoor.PU Go.Proofs.YtpciieagafddcaaDoor.PV
set_option linter.unusedSimpArgs false
def free (s : Sg) : Bool := decide (s.phase = 0) && !s.stop
def actB (l : List S25) (s : Sg) (c arg : Int) : Sg × Int :=
  if c = 1 then (if arg < 1 then (s, 1) else if free s = true ∧ arg ≤ (P l s).f4 - s.held then ({ s with hold := arg }, 0) else (s, 11))
  else if c = 2 then (if arg ≠ 0 then (s, 1) else if 0 < s.hold then ({ s with hold := 0 }, 0) else (s, 11))
  else if c = 3 then (if ¬ (0 ≤ arg ∧ arg < ((P l s).f1.length : Int)) then (s, 1) else if free s = true ∧ s.want = -1 ∧ arg ≠ s.stage then ({ s with ask := arg }, 0) else (s, 11))
  else if c = 4 then (if ¬ (0 ≤ arg ∧ arg < (l.length : Int)) then (s, 1) else if s.stop = false ∧ arg ≠ s.plan then ({ s with want := arg }, 0) else (s, 11))
  else if c = 5 then (if arg ≠ 0 then (s, 1) else ({ s with stop := true, hold := 0 }, 0))
  else (if arg ≠ 0 then (s, 1) else if s.stop = true ∧ s.phase = 2 then ({ s with stop := false }, 0) else (s, 11))
def turnsB (c : Int) : Bool := decide (1 ≤ c ∧ c ≤ 6)
def doB (l : List S25) (s : Sg) (c arg : Int) : Sg × Int := if stage_mayB.f l s = true ∧ turnsB c = true then actB l s c arg else (s, 1)
theorem doB_act {l : List S25} {s : Sg} {c arg : Int} (h : stage_mayB.f l s = true) (hc : turnsB c = true) : doB l s c arg = actB l s c arg := if_pos ⟨h, hc⟩
theorem doB_no {l : List S25} {s : Sg} {c arg : Int} (h : ¬ (stage_mayB.f l s = true ∧ turnsB c = true)) : doB l s c arg = (s, 1) := if_neg h
structure Did (l : List S25) (s u : Sg) : Prop where
  may : May l u
  plan : u.plan = s.plan
  stage : u.stage = s.stage
  next : u.next = s.next
  phase : u.phase = s.phase
  held : u.held = s.held
  t : u.t = s.t
theorem act_did {l : List S25} {s : Sg} {c arg : Int} (h : May l s) : Did l s (actB l s c arg).1 := by
  have h0 : Did l s s := ⟨h, rfl, rfl, rfl, rfl, rfl, rfl⟩
  have hst := h.stage
  unfold actB
  split
  · split
    · exact h0
    · split
      · rename_i c1 ha hf
        refine ⟨⟨h.all, h.plan, h.stage, h.next, h.ask, h.want, h.phase, h.held, ⟨by show 0 ≤ arg; omega, hf.2⟩, fun hp => ?_, fun hp => ?_⟩, rfl, rfl, rfl, rfl, rfl, rfl⟩
        · obtain ⟨g1, g2, g3⟩ := h.green hp
          refine ⟨g1, g2, fun hx => ?_⟩
          have hfr := hf.1
          have hx1 : s.stop = true := hx.1
          unfold free at hfr
          rw [hx1] at hfr
          simp at hfr
        · have hfr := hf.1
          have hp : s.phase ≠ 0 := hp
          unfold free at hfr
          simp [hp] at hfr
      · exact h0
  · split
    · split
      · exact h0
      · split
        · rename_i hh
          refine ⟨⟨h.all, h.plan, h.stage, h.next, h.ask, h.want, h.phase, h.held, ⟨Int.le_refl _, by have := h.held; show 0 ≤ _; exact Int.sub_nonneg.2 this.2⟩, fun hp => ?_, fun hp => ?_⟩, rfl, rfl, rfl, rfl, rfl, rfl⟩
          · obtain ⟨g1, g2, g3⟩ := h.green hp
            exact ⟨g1, g2, fun hx => by have hx2 : (0 : Int) < 0 := hx.2; omega⟩
          · have := h.other hp
            omega
        · exact h0
    · split
      · split
        · exact h0
        · split
          · rename_i hr hf
            refine ⟨⟨h.all, h.plan, h.stage, h.next, ⟨by show -1 ≤ arg; omega, by show arg < _; have hr2 := Decidable.not_not.1 hr; exact hr2.2⟩, h.want, h.phase, h.held, h.hold, h.green, fun hp => ?_⟩, rfl, rfl, rfl, rfl, rfl, rfl⟩
            have hfr := hf.1
            have hp : s.phase ≠ 0 := hp
            unfold free at hfr
            simp [hp] at hfr
          · exact h0
      · split
        · split
          · exact h0
          · split
            · rename_i hr hf
              exact ⟨⟨h.all, h.plan, h.stage, h.next, h.ask, ⟨by show -1 ≤ arg; omega, by show arg < _; have hr2 := Decidable.not_not.1 hr; exact hr2.2⟩, h.phase, h.held, h.hold, h.green, h.other⟩, rfl, rfl, rfl, rfl, rfl, rfl⟩
            · exact h0
        · split
          · split
            · exact h0
            · refine ⟨⟨h.all, h.plan, h.stage, h.next, h.ask, h.want, h.phase, h.held, ⟨Int.le_refl _, by have := h.held; show 0 ≤ _; exact Int.sub_nonneg.2 this.2⟩, fun hp => ?_, fun hp => ?_⟩, rfl, rfl, rfl, rfl, rfl, rfl⟩
              · obtain ⟨g1, g2, g3⟩ := h.green hp
                exact ⟨g1, g2, fun hx => by have hx2 : (0 : Int) < 0 := hx.2; omega⟩
              · obtain ⟨g1, g2⟩ := h.other hp
                exact ⟨rfl, g2⟩
          · split
            · exact h0
            · split
              · rename_i hf
                refine ⟨⟨h.all, h.plan, h.stage, h.next, h.ask, h.want, h.phase, h.held, h.hold, fun hp => ?_, h.other⟩, rfl, rfl, rfl, rfl, rfl, rfl⟩
                have hp : s.phase = 0 := hp
                omega
              · exact h0
theorem act_err {l : List S25} {s : Sg} {c arg : Int} (h : (actB l s c arg).2 ≠ 0) : (actB l s c arg).1 = s := by
  revert h
  unfold actB
  repeat' split
  all_goals first
    | (intro _; rfl)
    | (intro h; exact absurd rfl h)
theorem do_wf {l : List S25} {s : Sg} {c arg : Int} (hw : Wf s) : Wf (doB l s c arg).1 := by
  unfold doB
  split
  · rename_i h
    exact (act_did (may_of hw h.1)).may.wf
  · exact hw
theorem tick_no {l : List S25} {s : Sg} (h : ¬ stage_mayB.f l s = true) : stage_tickB.f l s = s := by unfold stage_tickB.f; rw [if_neg h]
theorem tick_wf {l : List S25} {s : Sg} (hw : Wf s) : Wf (stage_tickB.f l s) := by
  cases h : stage_mayB.f l s with
  | true => exact (tick_may (may_of hw h)).wf
  | false => rw [tick_no (by rw [h]; decide)]; exact hw
theorem act1 {l : List S25} {s : Sg} {arg : Int} : (1 ≤ arg ∧ (free s = true ∧ arg ≤ (P l s).f4 - s.held) ∧ actB l s 1 arg = ({ s with hold := arg }, 0)) ∨ (¬ 1 ≤ arg ∧ actB l s 1 arg = (s, 1)) ∨ (1 ≤ arg ∧ ¬ (free s = true ∧ arg ≤ (P l s).f4 - s.held) ∧ actB l s 1 arg = (s, 11)) := by
  by_cases h1 : 1 ≤ arg
  · by_cases h2 : free s = true ∧ arg ≤ (P l s).f4 - s.held
    · refine .inl ⟨h1, h2, ?_⟩
      unfold actB
      simp [h1, h2, Int.not_lt.2 h1]
    · refine .inr (.inr ⟨h1, h2, ?_⟩)
      unfold actB
      simp [h1, h2, Int.not_lt.2 h1]
  · refine .inr (.inl ⟨h1, ?_⟩)
    unfold actB
    simp [h1, Int.not_le.1 h1]
theorem act2 {l : List S25} {s : Sg} {arg : Int} : (arg = 0 ∧ (0 < s.hold) ∧ actB l s 2 arg = ({ s with hold := 0 }, 0)) ∨ (¬ arg = 0 ∧ actB l s 2 arg = (s, 1)) ∨ (arg = 0 ∧ ¬ (0 < s.hold) ∧ actB l s 2 arg = (s, 11)) := by
  by_cases h1 : arg = 0
  · by_cases h2 : 0 < s.hold
    · refine .inl ⟨h1, h2, ?_⟩
      unfold actB
      simp [h1, h2]
    · refine .inr (.inr ⟨h1, h2, ?_⟩)
      unfold actB
      simp [h1, h2]
  · refine .inr (.inl ⟨h1, ?_⟩)
    unfold actB
    simp [h1]
theorem act3 {l : List S25} {s : Sg} {arg : Int} : ((0 ≤ arg ∧ arg < ((P l s).f1.length : Int)) ∧ (free s = true ∧ s.want = -1 ∧ arg ≠ s.stage) ∧ actB l s 3 arg = ({ s with ask := arg }, 0)) ∨ (¬ (0 ≤ arg ∧ arg < ((P l s).f1.length : Int)) ∧ actB l s 3 arg = (s, 1)) ∨ ((0 ≤ arg ∧ arg < ((P l s).f1.length : Int)) ∧ ¬ (free s = true ∧ s.want = -1 ∧ arg ≠ s.stage) ∧ actB l s 3 arg = (s, 11)) := by
  by_cases h1 : (0 ≤ arg ∧ arg < ((P l s).f1.length : Int))
  · by_cases h2 : free s = true ∧ s.want = -1 ∧ arg ≠ s.stage
    · refine .inl ⟨h1, h2, ?_⟩
      unfold actB
      simp [h1, h2]
    · refine .inr (.inr ⟨h1, h2, ?_⟩)
      unfold actB
      simp [h1, h2]
  · refine .inr (.inl ⟨h1, ?_⟩)
    unfold actB
    simp [h1]
theorem act4 {l : List S25} {s : Sg} {arg : Int} : ((0 ≤ arg ∧ arg < (l.length : Int)) ∧ (s.stop = false ∧ arg ≠ s.plan) ∧ actB l s 4 arg = ({ s with want := arg }, 0)) ∨ (¬ (0 ≤ arg ∧ arg < (l.length : Int)) ∧ actB l s 4 arg = (s, 1)) ∨ ((0 ≤ arg ∧ arg < (l.length : Int)) ∧ ¬ (s.stop = false ∧ arg ≠ s.plan) ∧ actB l s 4 arg = (s, 11)) := by
  by_cases h1 : (0 ≤ arg ∧ arg < (l.length : Int))
  · by_cases h2 : s.stop = false ∧ arg ≠ s.plan
    · refine .inl ⟨h1, h2, ?_⟩
      unfold actB
      simp [h1, h2]
    · refine .inr (.inr ⟨h1, h2, ?_⟩)
      unfold actB
      simp [h1, h2]
  · refine .inr (.inl ⟨h1, ?_⟩)
    unfold actB
    simp [h1]
theorem act5 {l : List S25} {s : Sg} {arg : Int} : (arg = 0 ∧ (True) ∧ actB l s 5 arg = ({ s with stop := true, hold := 0 }, 0)) ∨ (¬ arg = 0 ∧ actB l s 5 arg = (s, 1)) ∨ (arg = 0 ∧ ¬ (True) ∧ actB l s 5 arg = (s, 11)) := by
  by_cases h1 : arg = 0
  · by_cases h2 : True
    · refine .inl ⟨h1, h2, ?_⟩
      unfold actB
      simp [h1, h2]
    · exact absurd trivial h2
  · refine .inr (.inl ⟨h1, ?_⟩)
    unfold actB
    simp [h1]
theorem act6 {l : List S25} {s : Sg} {arg : Int} : (arg = 0 ∧ (s.stop = true ∧ s.phase = 2) ∧ actB l s 6 arg = ({ s with stop := false }, 0)) ∨ (¬ arg = 0 ∧ actB l s 6 arg = (s, 1)) ∨ (arg = 0 ∧ ¬ (s.stop = true ∧ s.phase = 2) ∧ actB l s 6 arg = (s, 11)) := by
  by_cases h1 : arg = 0
  · by_cases h2 : s.stop = true ∧ s.phase = 2
    · refine .inl ⟨h1, h2, ?_⟩
      unfold actB
      simp [h1, h2]
    · refine .inr (.inr ⟨h1, h2, ?_⟩)
      unfold actB
      simp [h1, h2]
  · refine .inr (.inl ⟨h1, ?_⟩)
    unfold actB
    simp [h1]
def allB (l : List S25) : List S65 → Sg → Sg × List Int
  | [], s => (s, [])
  | x :: xs, s => ((allB l xs (doB l s x.f0 x.f1).1).1, (doB l s x.f0 x.f1).2 :: (allB l xs (doB l s x.f0 x.f1).1).2)
def oneB (l : List S25) (s : Sg) (x : S65) : Sg := if x.f0 = -1 then stage_tickB.f l s else (doB l s x.f0 x.f1).1
def playS (l : List S25) : List S65 → Sg → Sg
  | [], s => s
  | x :: xs, s => playS l xs (oneB l s x)
def playR (l : List S25) : List S65 → Sg → List (List Int)
  | [], _ => []
  | x :: xs, s => (if x.f0 = -1 then [lampsB l (oneB l s x)] else []) ++ playR l xs (oneB l s x)
theorem one_wf {l : List S25} {s : Sg} {x : S65} (h : Wf s) : Wf (oneB l s x) := by
  unfold oneB
  split
  · exact tick_wf h
  · exact do_wf h
theorem playS_app {l : List S25} : ∀ (a b : List S65) (s : Sg), playS l (a ++ b) s = playS l b (playS l a s)
  | [], b, s => rfl
  | x :: xs, b, s => playS_app xs b (oneB l s x)
theorem playR_app {l : List S25} : ∀ (a b : List S65) (s : Sg), playR l (a ++ b) s = playR l a s ++ playR l b (playS l a s)
  | [], b, s => rfl
  | x :: xs, b, s => by
    show _ ++ playR l (xs ++ b) (oneB l s x) = (_ ++ playR l xs (oneB l s x)) ++ _
    rw [playR_app xs b, List.append_assoc]
    rfl
theorem playR_len {l : List S25} : ∀ (a : List S65) (s : Sg), (playR l a s).length ≤ a.length
  | [], _ => Nat.le_refl _
  | x :: xs, s => by
    have := playR_len (l := l) xs (oneB l s x)
    show ((if x.f0 = -1 then _ else []) ++ playR l xs (oneB l s x)).length ≤ _
    rw [List.length_append, List.length_cons]
    split
    · simp only [List.length_cons, List.length_nil]; omega
    · simp only [List.length_nil]; omega
theorem take_one {α : Type} {a : List α} {i : Nat} (h : i < a.length) (z : α) : a.take (i + 1) = a.take i ++ [a.getD i z] := by
  rw [List.take_succ_eq_append_getElem h, List.getD_eq_getElem?_getD, List.getElem?_eq_getElem h]
  rfl
theorem playS_one {l : List S25} {a : List S65} {i : Nat} (s : Sg) (h : i < a.length) : playS l (a.take (i + 1)) s = oneB l (playS l (a.take i) s) (a.getD i z65) := by
  rw [take_one h z65, playS_app]; rfl
theorem playR_one {l : List S25} {a : List S65} {i : Nat} (s : Sg) (h : i < a.length) : playR l (a.take (i + 1)) s = playR l (a.take i) s ++ (if (a.getD i z65).f0 = -1 then [lampsB l (oneB l (playS l (a.take i) s) (a.getD i z65))] else []) := by
  rw [take_one h z65, playR_app]
  show _ ++ (_ ++ []) = _
  rw [List.append_nil]
theorem playR_no {l : List S25} {a : List S65} {i : Nat} (s : Sg) (h : i < a.length) (hx : ¬ (a.getD i z65).f0 = -1) : playR l (a.take (i + 1)) s = playR l (a.take i) s := by
  rw [playR_one s h, if_neg hx, List.append_nil]
theorem playR_tick {l : List S25} {a : List S65} {i : Nat} (s : Sg) (h : i < a.length) (hx : (a.getD i z65).f0 = -1) : playR l (a.take (i + 1)) s = playR l (a.take i) s ++ [lampsB l (stage_tickB.f l (playS l (a.take i) s))] := by
  rw [playR_one s h, if_pos hx]
  unfold oneB
  rw [if_pos hx]
theorem one_tick {l : List S25} {s : Sg} {x : S65} (h : x.f0 = -1) : oneB l s x = stage_tickB.f l s := if_pos h
theorem one_do {l : List S25} {s : Sg} {x : S65} (h : ¬ x.f0 = -1) : oneB l s x = (doB l s x.f0 x.f1).1 := if_neg h
theorem playS_wf {l : List S25} : ∀ (a : List S65) {s : Sg}, Wf s → Wf (playS l a s)
  | [], _, h => h
  | x :: xs, _, h => playS_wf xs (one_wf h)
theorem lamps_len {l : List S25} {s : Sg} (hw : Wf s) : (lampsB l s).length ≤ 100 := by
  cases hm : stage_mayB.f l s with
  | false =>
    unfold lampsB
    rw [if_neg (by rw [hm]; decide)]
    exact Nat.zero_le _
  | true =>
    have := may_len (may_of hw hm).rows.2.1
    omega
theorem playR_rows {l : List S25} : ∀ (a : List S65) {s : Sg}, Wf s → ∀ y ∈ playR l a s, y.length ≤ 100
  | [], _, _ => by intro y hy; cases hy
  | x :: xs, s, hw => by
    intro y hy
    rcases List.mem_append.1 hy with hy | hy
    · split at hy
      · rw [List.mem_singleton.1 hy]
        exact lamps_len (one_wf hw)
      · cases hy
    · exact playR_rows xs (one_wf hw) y hy
def allS (l : List S25) (a : List S65) (s : Sg) : Sg := (allB l a s).1
def allE (l : List S25) (a : List S65) (s : Sg) : List Int := (allB l a s).2
theorem all_app {l : List S25} : ∀ (a b : List S65) (s : Sg), allB l (a ++ b) s = ((allB l b (allS l a s)).1, allE l a s ++ (allB l b (allS l a s)).2)
  | [], b, s => rfl
  | x :: xs, b, s => by
    show ((allB l (xs ++ b) (doB l s x.f0 x.f1).1).1, (doB l s x.f0 x.f1).2 :: (allB l (xs ++ b) (doB l s x.f0 x.f1).1).2) = _
    rw [all_app xs b]
    rfl
theorem allS_one {l : List S25} {a : List S65} {i : Nat} (s : Sg) (h : i < a.length) : allS l (a.take (i + 1)) s = (doB l (allS l (a.take i) s) (a.getD i z65).f0 (a.getD i z65).f1).1 := by
  unfold allS
  rw [take_one h z65, all_app]; rfl
theorem allE_one {l : List S25} {a : List S65} {i : Nat} (s : Sg) (h : i < a.length) : allE l (a.take (i + 1)) s = allE l (a.take i) s ++ [(doB l (allS l (a.take i) s) (a.getD i z65).f0 (a.getD i z65).f1).2] := by
  unfold allE
  rw [take_one h z65, all_app]; rfl
theorem allS_wf {l : List S25} : ∀ (a : List S65) {s : Sg}, Wf s → Wf (allS l a s)
  | [], _, h => h
  | x :: xs, s, h => allS_wf xs (do_wf (c := x.f0) (arg := x.f1) h)
theorem allE_len {l : List S25} : ∀ (a : List S65) (s : Sg), (allE l a s).length = a.length
  | [], _ => rfl
  | x :: xs, s => by
    show (allE l xs (doB l s x.f0 x.f1).1).length + 1 = _
    rw [allE_len xs]; rfl
end Go.Proofs.YtpciieagafddcaaDoor.PW
