/- Plain laws on signal machines: several ticks, what a tick does in each phase, a machine that stops (own text). -/
import Derived.Test.YtechgjbhgeddjaaDoorQePU
namespace Go.Proofs.YtechgjbhgeddjaaDoor.PV
open Go.RowKit Go.Proofs.YtechgjbhgeddjaaDoorW.PrintWords Go.Proofs.YtechgjbhgeddjaaDoorW.PrintLast Go.Proofs.YtechgjbhgeddjaaDoorW.PrintMore Go.Proofs.YtechgjbhgeddjaaDoor.F Go.Proofs.YtechgjbhgeddjaaDoor.PG Go.Proofs.YtechgjbhgeddjaaDoor.PM Go.Proofs.YtechgjbhgeddjaaDoor.PP Go.Proofs.YtechgjbhgeddjaaDoor.PQ Go.Proofs.YtechgjbhgeddjaaDoor.PL Go.Proofs.YtechgjbhgeddjaaDoor.PT Go.Proofs.YtechgjbhgeddjaaDoor.PU
set_option linter.unusedSimpArgs false
/-! ### several ticks -/
def tickN (l : List S39) : Nat → Sg → Sg
  | 0, s => s
  | n + 1, s => tickN l n (stage_tickB.f l s)
def rowsN (l : List S39) : Nat → Sg → List (List Int)
  | 0, _ => []
  | n + 1, s => lampsB l (stage_tickB.f l s) :: rowsN l n (stage_tickB.f l s)
theorem rowsN_len (l : List S39) : ∀ n s, (rowsN l n s).length = n
  | 0, _ => rfl
  | n + 1, s => by rw [rowsN, List.length_cons, rowsN_len l n]
theorem tickN_add (l : List S39) : ∀ m n s, tickN l (m + n) s = tickN l n (tickN l m s)
  | 0, n, s => by rw [Nat.zero_add]; rfl
  | m + 1, n, s => by rw [show m + 1 + n = (m + n) + 1 by omega, tickN, tickN, tickN_add l m n]
theorem rowsN_add (l : List S39) : ∀ m n s, rowsN l (m + n) s = rowsN l m s ++ rowsN l n (tickN l m s)
  | 0, n, s => by rw [Nat.zero_add]; rfl
  | m + 1, n, s => by rw [show m + 1 + n = (m + n) + 1 by omega, rowsN, rowsN, tickN, rowsN_add l m n]; rfl
theorem tickN_may {l : List S39} : ∀ n {s : Sg}, May l s → May l (tickN l n s)
  | 0, _, h => h
  | n + 1, _, h => tickN_may n (tick_may h)
/-- The flat answer of a function that returns a machine, and rows. -/
abbrev rn (s : Sg) (x : List (List Int)) : Int × Int × Int × Int × Int × Int × Int × Int × Int × Bool × List (List Int) := (s.plan, s.stage, s.next, s.phase, s.t, s.hold, s.held, s.ask, s.want, s.stop, x)
theorem run_loop (l : List S39) (N : Nat) (hN : N ≤ 2000) : ∀ d k : Nat, k + d = N → ∀ (s : Sg) (acc : List (List Int)), May l s → acc.length = k → Ev (fun n => stage_Run.l0 n l acc (N : Int) (k : Int) s.plan s.stage s.next s.phase s.t s.hold s.held s.ask s.want s.stop) (rn (tickN l d s) (acc ++ rowsN l d s)) := by
  intro d
  induction d with
  | zero =>
    intro k hk s acc _ _
    refine Ev.step (f := fun _ => some (rn (tickN l 0 s) (acc ++ rowsN l 0 s))) (fun n => ?_) (Ev.now _)
    simp only [stage_Run.l0]
    rw [if_neg (by omega)]
    simp [tickN, rowsN]
  | succ d ih =>
    intro k hk s acc h hacc
    have h2 := tick_may h
    have e1 : ((k : Int) + 1) = ((k + 1 : Nat) : Int) := by omega
    have hrec := ih (k + 1) (by omega) (stage_tickB.f l s) (acc ++ [lampsB l (stage_tickB.f l s)]) h2 (by rw [List.length_append, hacc]; rfl)
    have hl := lamps_ev l (stage_tickB.f l s) h2.wf
    have e2 : rn (tickN l (d + 1) s) (acc ++ rowsN l (d + 1) s) = rn (tickN l d (stage_tickB.f l s)) ((acc ++ [lampsB l (stage_tickB.f l s)]) ++ rowsN l d (stage_tickB.f l s)) := by rw [tickN, rowsN, List.append_assoc]; rfl
    rw [e2]
    refine Ev.step (fun n => ?_) (Ev.bind (f := fun n t162 => stage_Run.l0 n l (acc ++ [t162]) (N : Int) ((k + 1 : Nat) : Int) (stage_tickB.f l s).plan (stage_tickB.f l s).stage (stage_tickB.f l s).next (stage_tickB.f l s).phase (stage_tickB.f l s).t (stage_tickB.f l s).hold (stage_tickB.f l s).held (stage_tickB.f l s).ask (stage_tickB.f l s).want (stage_tickB.f l s).stop) hl hrec)
    simp only [stage_Run.l0]
    rw [if_pos (by omega), tick_f, Option.bind_some, wr (by omega) (by omega), e1]
    have hlt : acc.length < 5864062014805 := by omega
    simp only [hlt, if_true]
theorem run_ev {l : List S39} {s : Sg} (h : May l s) {n : Nat} (hn : n ≤ 2000) : Ev (fun k => stage_Run.f k l s.plan s.stage s.next s.phase s.t s.hold s.held s.ask s.want s.stop (n : Int)) (rn (tickN l n s) (rowsN l n s)) := by
  refine Ev.congr (fun n => rfl) (Ev.bind (may_rounds l s) ?_)
  rw [may_to h]
  have e : decide ((0 : Int) ≤ (n : Int) ∧ (n : Int) ≤ 2000) = true := decide_eq_true (by omega)
  simp only [if_true, stin_some, Option.bind_some, e, Bool.not_true]
  have := run_loop l n hn n 0 (Nat.zero_add _) s [] h rfl
  refine Ev.step (fun k => ?_) this
  simp only [stage_Run.j0, Bool.false_eq_true, if_false]
  rfl
theorem run_none {l : List S39} {s : Sg} {n : Int} (h : ¬ (stage_mayB.f l s = true ∧ 0 ≤ n ∧ n ≤ 2000)) : Ev (fun k => stage_Run.f k l s.plan s.stage s.next s.phase s.t s.hold s.held s.ask s.want s.stop n) (rn s []) := by
  have hno : Ev (fun k => stage_Run.j0 k l n true s.plan s.stage s.next s.phase s.t s.hold s.held s.ask s.want s.stop) (rn s []) := Ev.step (f := fun _ => some (rn s [])) (fun k => by simp only [stage_Run.j0, if_true]) (Ev.now _)
  refine Ev.congr (fun n => rfl) (Ev.bind (may_rounds l s) ?_)
  cases hm : stage_mayB.f l s with
  | false => simp only [Bool.false_eq_true, if_false]; exact hno
  | true =>
    have e : decide (0 ≤ n ∧ n ≤ 2000) = false := decide_eq_false (fun hh => h ⟨hm, hh.1, hh.2⟩)
    simp only [if_true, stin_some, Option.bind_some, e, Bool.not_false]
    exact hno
/-! ### what a tick does, by phase -/
/-! ### a machine that stops -/
end Go.Proofs.YtechgjbhgeddjaaDoor.PV
