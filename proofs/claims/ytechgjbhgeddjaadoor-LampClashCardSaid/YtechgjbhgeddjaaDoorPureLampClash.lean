/- The plain law of LampClash: a row that clashes does so with any lamp more that is not red; without it is all red none does. -/
import Derived.Test.YtechgjbhgeddjaaDoorPL
namespace Go.Proofs.YtechgjbhgeddjaaDoor.Pure
open Go.RowKit Go.Proofs.YtechgjbhgeddjaaDoorW.PrintWords Go.Proofs.YtechgjbhgeddjaaDoorW.PrintLast Go.Proofs.YtechgjbhgeddjaaDoorW.PrintMore Go.Proofs.YtechgjbhgeddjaaDoor.F Go.Proofs.YtechgjbhgeddjaaDoor.PG Go.Proofs.YtechgjbhgeddjaaDoor.PM Go.Proofs.YtechgjbhgeddjaaDoor.PP Go.Proofs.YtechgjbhgeddjaaDoor.PQ Go.Proofs.YtechgjbhgeddjaaDoor.PL
theorem LampClash (l0_0 : List Int) (l0_1 : List S41) (a0_2 a0_3 a0_4 : Int) (l1 : List Int) (a2 a3 : Int) : ∃ _k : Nat, lampClashLaw l0_0 l0_1 a0_2 a0_3 a0_4 l1 a2 a3 = true := by
  refine ⟨0, ?_⟩
  unfold lampClashLaw
  split
  · rename_i h
    rw [clash_red]
    cases hc : clashB l0_0 l0_1 a0_2 a0_3 a0_4 l1 with
    | false => rfl
    | true => rw [clash_more _ _ _ _ _ _ a2.toNat (by omega) a3 ⟨by omega, by omega⟩ hc]; rfl
  · rfl
end Go.Proofs.YtechgjbhgeddjaaDoor.Pure
