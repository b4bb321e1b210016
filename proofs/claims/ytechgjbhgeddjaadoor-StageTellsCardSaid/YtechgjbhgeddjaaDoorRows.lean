/-
  NARROWER THAN 'FOR EVERY INPUT', by the rows' own cells (each row's printed sentence says how): StageTells: laid · StageGreen: laid · StageBetween: laid · StageStops: laid · StageRun: laid · StageStays: laid · LampTells: laid · LampBack: laid · LampFree: laid · LampShow: laid · LampClash: laid.
  DERIVED. THE GIVEN ROWS OF THIS SEAT. 11 by the template 'for every input the law returns true; each argument reads behind the call as it read before'; 0 by the template 'total and deterministic' (their statements: YtechgjbhgeddjaaDoorTotals.lean).
  GIVEN WITH THE SEED: the statements are not yours to turn. If you find one false, say at which input.
  Laid BY PROGRAM, IN A SANDBOX (cutbox-rows.mjs): the forced cells as the released guide's own fill.sh prints them over the translation 23e4c9e035143e86… (all of the seat's roots in one cut). By AI agents, Wed Nov 11 2026. No macro, syntax, notation, axiom, sorry.
-/
import Derived.Test.YtechgjbhgeddjaaDoorChecked
import GoSem.Claim
import GoSem.ClaimJoined
import GoSem.ClaimMapViews
import Derived.JoinedTies
import Derived.KernelRfl
namespace Go.Proofs.YtechgjbhgeddjaaDoor
/- THE CELL 'sum', in the pinned program and in every row, IS THE sha256 OF THE DUMP (.gsa) THAT YtechgjbhgeddjaaDoorProg.lean LOADS. Nothing in Lean hashes anything: it is a label: what it is worth is what the hold of that sum in a sandbox is worth. -/
noncomputable def Tryd.pinned : Pinned := { name := "ytechgjbhgeddjaadoor", sum := "23e4c9e035143e8623b1c05cbcd3f66ac8d519d9e4823483b3f2b1e8fc7e361e", checked := Tryd.checked }
namespace Rows
def none {H : Type} : Left H := { results := [], args := [] }

/- WHAT THE LISTED PACKAGE-LEVEL VARIABLES READ AS WHEN THE CALL BEGINS. Each datum BY PROGRAM (the guide's laid-datum.mjs) off the statement by which the dump's own 'gosem.cut.vars' lays the variable. In a bare row this is a premise. The card (YtechgjbhgeddjaaDoorCards.lean) ties it to the program's text. -/
def laid_math_bits_deBruijn32tab {H : Type} : DataW H := .agg [.lit (.int .u8 0), .lit (.int .u8 1), .lit (.int .u8 28), .lit (.int .u8 2), .lit (.int .u8 29), .lit (.int .u8 14), .lit (.int .u8 24), .lit (.int .u8 3), .lit (.int .u8 30), .lit (.int .u8 22), .lit (.int .u8 20), .lit (.int .u8 15), .lit (.int .u8 25), .lit (.int .u8 17), .lit (.int .u8 4), .lit (.int .u8 8), .lit (.int .u8 31), .lit (.int .u8 27), .lit (.int .u8 13), .lit (.int .u8 23), .lit (.int .u8 21), .lit (.int .u8 19), .lit (.int .u8 16), .lit (.int .u8 7), .lit (.int .u8 26), .lit (.int .u8 12), .lit (.int .u8 18), .lit (.int .u8 6), .lit (.int .u8 11), .lit (.int .u8 5), .lit (.int .u8 10), .lit (.int .u8 9)]
def laid_math_bits_deBruijn64tab {H : Type} : DataW H := .agg [.lit (.int .u8 0), .lit (.int .u8 1), .lit (.int .u8 56), .lit (.int .u8 2), .lit (.int .u8 57), .lit (.int .u8 49), .lit (.int .u8 28), .lit (.int .u8 3), .lit (.int .u8 61), .lit (.int .u8 58), .lit (.int .u8 42), .lit (.int .u8 50), .lit (.int .u8 38), .lit (.int .u8 29), .lit (.int .u8 17), .lit (.int .u8 4), .lit (.int .u8 62), .lit (.int .u8 47), .lit (.int .u8 59), .lit (.int .u8 36), .lit (.int .u8 45), .lit (.int .u8 43), .lit (.int .u8 51), .lit (.int .u8 22), .lit (.int .u8 53), .lit (.int .u8 39), .lit (.int .u8 33), .lit (.int .u8 30), .lit (.int .u8 24), .lit (.int .u8 18), .lit (.int .u8 12), .lit (.int .u8 5), .lit (.int .u8 63), .lit (.int .u8 55), .lit (.int .u8 48), .lit (.int .u8 27), .lit (.int .u8 60), .lit (.int .u8 41), .lit (.int .u8 37), .lit (.int .u8 16), .lit (.int .u8 46), .lit (.int .u8 35), .lit (.int .u8 44), .lit (.int .u8 21), .lit (.int .u8 52), .lit (.int .u8 32), .lit (.int .u8 23), .lit (.int .u8 11), .lit (.int .u8 54), .lit (.int .u8 26), .lit (.int .u8 40), .lit (.int .u8 15), .lit (.int .u8 34), .lit (.int .u8 20), .lit (.int .u8 31), .lit (.int .u8 10), .lit (.int .u8 25), .lit (.int .u8 14), .lit (.int .u8 19), .lit (.int .u8 9), .lit (.int .u8 13), .lit (.int .u8 8), .lit (.int .u8 7), .lit (.int .u8 6)]

/-- 'pelicanlaw16.StageTells': WHATEVER THE INPUT: true; the input reads as it did. -/
def stageTellsSpec : ChangeSpec := { name := "stageTells", fn := fun _ => fun
  | [d1, d2, d3] => { results := [.lit (.bool true)], args := [d1, d2, d3] }
  | _ => none }
def stageTellsRow : OpenClaim := { program := "ytechgjbhgeddjaadoor", sum := "23e4c9e035143e8623b1c05cbcd3f66ac8d519d9e4823483b3f2b1e8fc7e361e", func := "pelican/pelicanlaw16.StageTells", spec := "stageTells", inPlace := ["internal/abi.NoEscape"], unfollowed := true, recurses := true, named := ["math/bits.deBruijn32tab", "math/bits.deBruijn64tab"], apart := false, laid := [("math/bits.deBruijn32tab", laid_math_bits_deBruijn32tab), ("math/bits.deBruijn64tab", laid_math_bits_deBruijn64tab)] }
def StageTellsSaid : Prop := stageTellsRow.holds Tryd.pinned (OpenSpec.ofChange stageTellsSpec)

/-- ITS FALSE NEIGHBOUR: 'it returns false'. Refute it at one input. -/
def stageTellsWrong : ChangeSpec := { name := "stageTells", fn := fun _ => fun
  | [d1, d2, d3] => { results := [.lit (.bool false)], args := [d1, d2, d3] }
  | _ => none }
def StageTellsWrongFalsely : Prop := stageTellsRow.holds Tryd.pinned (OpenSpec.ofChange stageTellsWrong)

/-- 'pelicanlaw16.StageGreen': WHATEVER THE INPUT: true; the input reads as it did. -/
def stageGreenSpec : ChangeSpec := { name := "stageGreen", fn := fun _ => fun
  | [d1, d2] => { results := [.lit (.bool true)], args := [d1, d2] }
  | _ => none }
def stageGreenRow : OpenClaim := { program := "ytechgjbhgeddjaadoor", sum := "23e4c9e035143e8623b1c05cbcd3f66ac8d519d9e4823483b3f2b1e8fc7e361e", func := "pelican/pelicanlaw16.StageGreen", spec := "stageGreen", inPlace := ["internal/abi.NoEscape"], unfollowed := true, recurses := true, named := ["math/bits.deBruijn32tab", "math/bits.deBruijn64tab"], apart := false, laid := [("math/bits.deBruijn32tab", laid_math_bits_deBruijn32tab), ("math/bits.deBruijn64tab", laid_math_bits_deBruijn64tab)] }
def StageGreenSaid : Prop := stageGreenRow.holds Tryd.pinned (OpenSpec.ofChange stageGreenSpec)

/-- ITS FALSE NEIGHBOUR: 'it returns false'. Refute it at one input. -/
def stageGreenWrong : ChangeSpec := { name := "stageGreen", fn := fun _ => fun
  | [d1, d2] => { results := [.lit (.bool false)], args := [d1, d2] }
  | _ => none }
def StageGreenWrongFalsely : Prop := stageGreenRow.holds Tryd.pinned (OpenSpec.ofChange stageGreenWrong)

/-- 'pelicanlaw16.StageBetween': WHATEVER THE INPUT: true; the input reads as it did. -/
def stageBetweenSpec : ChangeSpec := { name := "stageBetween", fn := fun _ => fun
  | [d1, d2] => { results := [.lit (.bool true)], args := [d1, d2] }
  | _ => none }
def stageBetweenRow : OpenClaim := { program := "ytechgjbhgeddjaadoor", sum := "23e4c9e035143e8623b1c05cbcd3f66ac8d519d9e4823483b3f2b1e8fc7e361e", func := "pelican/pelicanlaw16.StageBetween", spec := "stageBetween", inPlace := ["internal/abi.NoEscape"], unfollowed := true, recurses := true, named := ["math/bits.deBruijn32tab", "math/bits.deBruijn64tab"], apart := false, laid := [("math/bits.deBruijn32tab", laid_math_bits_deBruijn32tab), ("math/bits.deBruijn64tab", laid_math_bits_deBruijn64tab)] }
def StageBetweenSaid : Prop := stageBetweenRow.holds Tryd.pinned (OpenSpec.ofChange stageBetweenSpec)

/-- ITS FALSE NEIGHBOUR: 'it returns false'. Refute it at one input. -/
def stageBetweenWrong : ChangeSpec := { name := "stageBetween", fn := fun _ => fun
  | [d1, d2] => { results := [.lit (.bool false)], args := [d1, d2] }
  | _ => none }
def StageBetweenWrongFalsely : Prop := stageBetweenRow.holds Tryd.pinned (OpenSpec.ofChange stageBetweenWrong)

/-- 'pelicanlaw16.StageStops': WHATEVER THE INPUT: true; the input reads as it did. -/
def stageStopsSpec : ChangeSpec := { name := "stageStops", fn := fun _ => fun
  | [d1, d2, d3] => { results := [.lit (.bool true)], args := [d1, d2, d3] }
  | _ => none }
def stageStopsRow : OpenClaim := { program := "ytechgjbhgeddjaadoor", sum := "23e4c9e035143e8623b1c05cbcd3f66ac8d519d9e4823483b3f2b1e8fc7e361e", func := "pelican/pelicanlaw16.StageStops", spec := "stageStops", inPlace := ["internal/abi.NoEscape"], unfollowed := true, recurses := true, named := ["math/bits.deBruijn32tab", "math/bits.deBruijn64tab"], apart := false, laid := [("math/bits.deBruijn32tab", laid_math_bits_deBruijn32tab), ("math/bits.deBruijn64tab", laid_math_bits_deBruijn64tab)] }
def StageStopsSaid : Prop := stageStopsRow.holds Tryd.pinned (OpenSpec.ofChange stageStopsSpec)

/-- ITS FALSE NEIGHBOUR: 'it returns false'. Refute it at one input. -/
def stageStopsWrong : ChangeSpec := { name := "stageStops", fn := fun _ => fun
  | [d1, d2, d3] => { results := [.lit (.bool false)], args := [d1, d2, d3] }
  | _ => none }
def StageStopsWrongFalsely : Prop := stageStopsRow.holds Tryd.pinned (OpenSpec.ofChange stageStopsWrong)

/-- 'pelicanlaw16.StageRun': WHATEVER THE INPUT: true; the input reads as it did. -/
def stageRunSpec : ChangeSpec := { name := "stageRun", fn := fun _ => fun
  | [d1, d2, d3, d4] => { results := [.lit (.bool true)], args := [d1, d2, d3, d4] }
  | _ => none }
def stageRunRow : OpenClaim := { program := "ytechgjbhgeddjaadoor", sum := "23e4c9e035143e8623b1c05cbcd3f66ac8d519d9e4823483b3f2b1e8fc7e361e", func := "pelican/pelicanlaw16.StageRun", spec := "stageRun", inPlace := ["internal/abi.NoEscape"], unfollowed := true, recurses := true, named := ["math/bits.deBruijn32tab", "math/bits.deBruijn64tab"], apart := false, laid := [("math/bits.deBruijn32tab", laid_math_bits_deBruijn32tab), ("math/bits.deBruijn64tab", laid_math_bits_deBruijn64tab)] }
def StageRunSaid : Prop := stageRunRow.holds Tryd.pinned (OpenSpec.ofChange stageRunSpec)

/-- ITS FALSE NEIGHBOUR: 'it returns false'. Refute it at one input. -/
def stageRunWrong : ChangeSpec := { name := "stageRun", fn := fun _ => fun
  | [d1, d2, d3, d4] => { results := [.lit (.bool false)], args := [d1, d2, d3, d4] }
  | _ => none }
def StageRunWrongFalsely : Prop := stageRunRow.holds Tryd.pinned (OpenSpec.ofChange stageRunWrong)

/-- 'pelicanlaw16.StageStays': WHATEVER THE INPUT: true; the input reads as it did. -/
def stageStaysSpec : ChangeSpec := { name := "stageStays", fn := fun _ => fun
  | [d1, d2] => { results := [.lit (.bool true)], args := [d1, d2] }
  | _ => none }
def stageStaysRow : OpenClaim := { program := "ytechgjbhgeddjaadoor", sum := "23e4c9e035143e8623b1c05cbcd3f66ac8d519d9e4823483b3f2b1e8fc7e361e", func := "pelican/pelicanlaw16.StageStays", spec := "stageStays", inPlace := ["internal/abi.NoEscape"], unfollowed := true, recurses := true, named := ["math/bits.deBruijn32tab", "math/bits.deBruijn64tab"], apart := false, laid := [("math/bits.deBruijn32tab", laid_math_bits_deBruijn32tab), ("math/bits.deBruijn64tab", laid_math_bits_deBruijn64tab)] }
def StageStaysSaid : Prop := stageStaysRow.holds Tryd.pinned (OpenSpec.ofChange stageStaysSpec)

/-- ITS FALSE NEIGHBOUR: 'it returns false'. Refute it at one input. -/
def stageStaysWrong : ChangeSpec := { name := "stageStays", fn := fun _ => fun
  | [d1, d2] => { results := [.lit (.bool false)], args := [d1, d2] }
  | _ => none }
def StageStaysWrongFalsely : Prop := stageStaysRow.holds Tryd.pinned (OpenSpec.ofChange stageStaysWrong)

/-- 'pelicanlaw15.LampTells': WHATEVER THE INPUT: true; the input reads as it did. -/
def lampTellsSpec : ChangeSpec := { name := "lampTells", fn := fun _ => fun
  | [d1, d2, d3, d4, d5] => { results := [.lit (.bool true)], args := [d1, d2, d3, d4, d5] }
  | _ => none }
def lampTellsRow : OpenClaim := { program := "ytechgjbhgeddjaadoor", sum := "23e4c9e035143e8623b1c05cbcd3f66ac8d519d9e4823483b3f2b1e8fc7e361e", func := "pelican/pelicanlaw15.LampTells", spec := "lampTells", inPlace := ["internal/bytealg.IndexByteString", "internal/bytealg.IndexString", "internal/abi.NoEscape"], unfollowed := true, recurses := true, named := ["math/bits.deBruijn32tab", "math/bits.deBruijn64tab", "internal/bytealg.MaxLen"], apart := false, laid := [("math/bits.deBruijn32tab", laid_math_bits_deBruijn32tab), ("math/bits.deBruijn64tab", laid_math_bits_deBruijn64tab)] }
def LampTellsSaid : Prop := lampTellsRow.holds Tryd.pinned (OpenSpec.ofChange lampTellsSpec)

/-- ITS FALSE NEIGHBOUR: 'it returns false'. Refute it at one input. -/
def lampTellsWrong : ChangeSpec := { name := "lampTells", fn := fun _ => fun
  | [d1, d2, d3, d4, d5] => { results := [.lit (.bool false)], args := [d1, d2, d3, d4, d5] }
  | _ => none }
def LampTellsWrongFalsely : Prop := lampTellsRow.holds Tryd.pinned (OpenSpec.ofChange lampTellsWrong)

/-- 'pelicanlaw15.LampBack': WHATEVER THE INPUT: true; the input reads as it did. -/
def lampBackSpec : ChangeSpec := { name := "lampBack", fn := fun _ => fun
  | [d1, d2, d3] => { results := [.lit (.bool true)], args := [d1, d2, d3] }
  | _ => none }
def lampBackRow : OpenClaim := { program := "ytechgjbhgeddjaadoor", sum := "23e4c9e035143e8623b1c05cbcd3f66ac8d519d9e4823483b3f2b1e8fc7e361e", func := "pelican/pelicanlaw15.LampBack", spec := "lampBack", inPlace := ["internal/bytealg.IndexByteString", "internal/bytealg.IndexString", "internal/abi.NoEscape"], unfollowed := true, recurses := true, named := ["math/bits.deBruijn32tab", "math/bits.deBruijn64tab", "internal/bytealg.MaxLen"], apart := false, laid := [("math/bits.deBruijn32tab", laid_math_bits_deBruijn32tab), ("math/bits.deBruijn64tab", laid_math_bits_deBruijn64tab)] }
def LampBackSaid : Prop := lampBackRow.holds Tryd.pinned (OpenSpec.ofChange lampBackSpec)

/-- ITS FALSE NEIGHBOUR: 'it returns false'. Refute it at one input. -/
def lampBackWrong : ChangeSpec := { name := "lampBack", fn := fun _ => fun
  | [d1, d2, d3] => { results := [.lit (.bool false)], args := [d1, d2, d3] }
  | _ => none }
def LampBackWrongFalsely : Prop := lampBackRow.holds Tryd.pinned (OpenSpec.ofChange lampBackWrong)

/-- 'pelicanlaw15.LampFree': WHATEVER THE INPUT: true; the input reads as it did. -/
def lampFreeSpec : ChangeSpec := { name := "lampFree", fn := fun _ => fun
  | [d1, d2, d3] => { results := [.lit (.bool true)], args := [d1, d2, d3] }
  | _ => none }
def lampFreeRow : OpenClaim := { program := "ytechgjbhgeddjaadoor", sum := "23e4c9e035143e8623b1c05cbcd3f66ac8d519d9e4823483b3f2b1e8fc7e361e", func := "pelican/pelicanlaw15.LampFree", spec := "lampFree", inPlace := ["internal/bytealg.IndexByteString", "internal/bytealg.IndexString", "internal/abi.NoEscape"], unfollowed := true, recurses := true, named := ["math/bits.deBruijn32tab", "math/bits.deBruijn64tab", "internal/bytealg.MaxLen"], apart := false, laid := [("math/bits.deBruijn32tab", laid_math_bits_deBruijn32tab), ("math/bits.deBruijn64tab", laid_math_bits_deBruijn64tab)] }
def LampFreeSaid : Prop := lampFreeRow.holds Tryd.pinned (OpenSpec.ofChange lampFreeSpec)

/-- ITS FALSE NEIGHBOUR: 'it returns false'. Refute it at one input. -/
def lampFreeWrong : ChangeSpec := { name := "lampFree", fn := fun _ => fun
  | [d1, d2, d3] => { results := [.lit (.bool false)], args := [d1, d2, d3] }
  | _ => none }
def LampFreeWrongFalsely : Prop := lampFreeRow.holds Tryd.pinned (OpenSpec.ofChange lampFreeWrong)

/-- 'pelicanlaw15.LampShow': WHATEVER THE INPUT: true; the input reads as it did. -/
def lampShowSpec : ChangeSpec := { name := "lampShow", fn := fun _ => fun
  | [d1, d2, d3] => { results := [.lit (.bool true)], args := [d1, d2, d3] }
  | _ => none }
def lampShowRow : OpenClaim := { program := "ytechgjbhgeddjaadoor", sum := "23e4c9e035143e8623b1c05cbcd3f66ac8d519d9e4823483b3f2b1e8fc7e361e", func := "pelican/pelicanlaw15.LampShow", spec := "lampShow", inPlace := ["internal/bytealg.IndexByteString", "internal/bytealg.IndexString", "internal/abi.NoEscape"], unfollowed := true, recurses := true, named := ["math/bits.deBruijn32tab", "math/bits.deBruijn64tab", "internal/bytealg.MaxLen"], apart := false, laid := [("math/bits.deBruijn32tab", laid_math_bits_deBruijn32tab), ("math/bits.deBruijn64tab", laid_math_bits_deBruijn64tab)] }
def LampShowSaid : Prop := lampShowRow.holds Tryd.pinned (OpenSpec.ofChange lampShowSpec)

/-- ITS FALSE NEIGHBOUR: 'it returns false'. Refute it at one input. -/
def lampShowWrong : ChangeSpec := { name := "lampShow", fn := fun _ => fun
  | [d1, d2, d3] => { results := [.lit (.bool false)], args := [d1, d2, d3] }
  | _ => none }
def LampShowWrongFalsely : Prop := lampShowRow.holds Tryd.pinned (OpenSpec.ofChange lampShowWrong)

/-- 'pelicanlaw15.LampClash': WHATEVER THE INPUT: true; the input reads as it did. -/
def lampClashSpec : ChangeSpec := { name := "lampClash", fn := fun _ => fun
  | [d1, d2, d3, d4] => { results := [.lit (.bool true)], args := [d1, d2, d3, d4] }
  | _ => none }
def lampClashRow : OpenClaim := { program := "ytechgjbhgeddjaadoor", sum := "23e4c9e035143e8623b1c05cbcd3f66ac8d519d9e4823483b3f2b1e8fc7e361e", func := "pelican/pelicanlaw15.LampClash", spec := "lampClash", inPlace := ["internal/bytealg.IndexByteString", "internal/bytealg.IndexString", "internal/abi.NoEscape"], unfollowed := true, recurses := true, named := ["math/bits.deBruijn32tab", "math/bits.deBruijn64tab", "internal/bytealg.MaxLen"], apart := false, laid := [("math/bits.deBruijn32tab", laid_math_bits_deBruijn32tab), ("math/bits.deBruijn64tab", laid_math_bits_deBruijn64tab)] }
def LampClashSaid : Prop := lampClashRow.holds Tryd.pinned (OpenSpec.ofChange lampClashSpec)

/-- ITS FALSE NEIGHBOUR: 'it returns false'. Refute it at one input. -/
def lampClashWrong : ChangeSpec := { name := "lampClash", fn := fun _ => fun
  | [d1, d2, d3, d4] => { results := [.lit (.bool false)], args := [d1, d2, d3, d4] }
  | _ => none }
def LampClashWrongFalsely : Prop := lampClashRow.holds Tryd.pinned (OpenSpec.ofChange lampClashWrong)

/- THE SECOND FORM. 'bulk': how many values and letters a reading holds, each counted each time it is reached (what is shared counts as often as it is met; a slice's spare places count too). A statement '..UptoSaid' is the law's where the arguments, and the package variables that the reading takes, are together of bulk at most 1048576: NARROWER than '..Said'. Prove '..Said' where nothing that the law and all that it calls make is longer than what came in: it says more and counts as full. Else prove '..UptoSaid'. A law counts once. -/
mutual
def uptoBulk {H : Type} : DataW H → Nat
  | .lit (.string bytes) => bytes.length + 1
  | .lit _ => 1
  | .nil => 1
  | .ptr d => uptoBulk d + 1
  | .slice elems spare => uptoBulkAll elems + uptoBulkAll spare + 1
  | .agg parts => uptoBulkAll parts + 1
  | .iface _ d => uptoBulk d + 1
  | .map entries => uptoBulkEntries entries + 1
  | .held _ => 1
def uptoBulkAll {H : Type} : List (DataW H) → Nat
  | [] => 0
  | d :: r => uptoBulk d + uptoBulkAll r
def uptoBulkEntries {H : Type} : List (Lit × DataW H) → Nat
  | [] => 0
  | x :: r => uptoBulkEntry x + uptoBulkEntries r
def uptoBulkEntry {H : Type} : Lit × DataW H → Nat
  | (.string bytes, d) => bytes.length + uptoBulk d + 1
  | (_, d) => uptoBulk d + 1
 end
def uptoSmall : (H : Type) → List (DataW H) → Bool := fun _ ds => decide (uptoBulkAll ds ≤ 1048576)
def OpenSpec.upto (s : _root_.Go.ChangeSpec) : _root_.Go.OpenSpec := { _root_.Go.OpenSpec.ofChange s with cond := some uptoSmall }

/-- 'pelicanlaw16.StageTells', WHERE WHAT IT READS IS OF BULK AT MOST 1048576: true; the input reads as it did. -/
def stageTellsUptoRow : OpenClaim := { program := "ytechgjbhgeddjaadoor", sum := "23e4c9e035143e8623b1c05cbcd3f66ac8d519d9e4823483b3f2b1e8fc7e361e", func := "pelican/pelicanlaw16.StageTells", spec := "stageTells", inPlace := ["internal/abi.NoEscape"], unfollowed := true, recurses := true, named := ["math/bits.deBruijn32tab", "math/bits.deBruijn64tab"], apart := false, laid := [("math/bits.deBruijn32tab", laid_math_bits_deBruijn32tab), ("math/bits.deBruijn64tab", laid_math_bits_deBruijn64tab)], narrowed := true }
def StageTellsUptoSaid : Prop := stageTellsUptoRow.holds Tryd.pinned (OpenSpec.upto stageTellsSpec)

/-- 'pelicanlaw16.StageGreen', WHERE WHAT IT READS IS OF BULK AT MOST 1048576: true; the input reads as it did. -/
def stageGreenUptoRow : OpenClaim := { program := "ytechgjbhgeddjaadoor", sum := "23e4c9e035143e8623b1c05cbcd3f66ac8d519d9e4823483b3f2b1e8fc7e361e", func := "pelican/pelicanlaw16.StageGreen", spec := "stageGreen", inPlace := ["internal/abi.NoEscape"], unfollowed := true, recurses := true, named := ["math/bits.deBruijn32tab", "math/bits.deBruijn64tab"], apart := false, laid := [("math/bits.deBruijn32tab", laid_math_bits_deBruijn32tab), ("math/bits.deBruijn64tab", laid_math_bits_deBruijn64tab)], narrowed := true }
def StageGreenUptoSaid : Prop := stageGreenUptoRow.holds Tryd.pinned (OpenSpec.upto stageGreenSpec)

/-- 'pelicanlaw16.StageBetween', WHERE WHAT IT READS IS OF BULK AT MOST 1048576: true; the input reads as it did. -/
def stageBetweenUptoRow : OpenClaim := { program := "ytechgjbhgeddjaadoor", sum := "23e4c9e035143e8623b1c05cbcd3f66ac8d519d9e4823483b3f2b1e8fc7e361e", func := "pelican/pelicanlaw16.StageBetween", spec := "stageBetween", inPlace := ["internal/abi.NoEscape"], unfollowed := true, recurses := true, named := ["math/bits.deBruijn32tab", "math/bits.deBruijn64tab"], apart := false, laid := [("math/bits.deBruijn32tab", laid_math_bits_deBruijn32tab), ("math/bits.deBruijn64tab", laid_math_bits_deBruijn64tab)], narrowed := true }
def StageBetweenUptoSaid : Prop := stageBetweenUptoRow.holds Tryd.pinned (OpenSpec.upto stageBetweenSpec)

/-- 'pelicanlaw16.StageStops', WHERE WHAT IT READS IS OF BULK AT MOST 1048576: true; the input reads as it did. -/
def stageStopsUptoRow : OpenClaim := { program := "ytechgjbhgeddjaadoor", sum := "23e4c9e035143e8623b1c05cbcd3f66ac8d519d9e4823483b3f2b1e8fc7e361e", func := "pelican/pelicanlaw16.StageStops", spec := "stageStops", inPlace := ["internal/abi.NoEscape"], unfollowed := true, recurses := true, named := ["math/bits.deBruijn32tab", "math/bits.deBruijn64tab"], apart := false, laid := [("math/bits.deBruijn32tab", laid_math_bits_deBruijn32tab), ("math/bits.deBruijn64tab", laid_math_bits_deBruijn64tab)], narrowed := true }
def StageStopsUptoSaid : Prop := stageStopsUptoRow.holds Tryd.pinned (OpenSpec.upto stageStopsSpec)

/-- 'pelicanlaw16.StageRun', WHERE WHAT IT READS IS OF BULK AT MOST 1048576: true; the input reads as it did. -/
def stageRunUptoRow : OpenClaim := { program := "ytechgjbhgeddjaadoor", sum := "23e4c9e035143e8623b1c05cbcd3f66ac8d519d9e4823483b3f2b1e8fc7e361e", func := "pelican/pelicanlaw16.StageRun", spec := "stageRun", inPlace := ["internal/abi.NoEscape"], unfollowed := true, recurses := true, named := ["math/bits.deBruijn32tab", "math/bits.deBruijn64tab"], apart := false, laid := [("math/bits.deBruijn32tab", laid_math_bits_deBruijn32tab), ("math/bits.deBruijn64tab", laid_math_bits_deBruijn64tab)], narrowed := true }
def StageRunUptoSaid : Prop := stageRunUptoRow.holds Tryd.pinned (OpenSpec.upto stageRunSpec)

/-- 'pelicanlaw16.StageStays', WHERE WHAT IT READS IS OF BULK AT MOST 1048576: true; the input reads as it did. -/
def stageStaysUptoRow : OpenClaim := { program := "ytechgjbhgeddjaadoor", sum := "23e4c9e035143e8623b1c05cbcd3f66ac8d519d9e4823483b3f2b1e8fc7e361e", func := "pelican/pelicanlaw16.StageStays", spec := "stageStays", inPlace := ["internal/abi.NoEscape"], unfollowed := true, recurses := true, named := ["math/bits.deBruijn32tab", "math/bits.deBruijn64tab"], apart := false, laid := [("math/bits.deBruijn32tab", laid_math_bits_deBruijn32tab), ("math/bits.deBruijn64tab", laid_math_bits_deBruijn64tab)], narrowed := true }
def StageStaysUptoSaid : Prop := stageStaysUptoRow.holds Tryd.pinned (OpenSpec.upto stageStaysSpec)

/-- 'pelicanlaw15.LampTells', WHERE WHAT IT READS IS OF BULK AT MOST 1048576: true; the input reads as it did. -/
def lampTellsUptoRow : OpenClaim := { program := "ytechgjbhgeddjaadoor", sum := "23e4c9e035143e8623b1c05cbcd3f66ac8d519d9e4823483b3f2b1e8fc7e361e", func := "pelican/pelicanlaw15.LampTells", spec := "lampTells", inPlace := ["internal/bytealg.IndexByteString", "internal/bytealg.IndexString", "internal/abi.NoEscape"], unfollowed := true, recurses := true, named := ["math/bits.deBruijn32tab", "math/bits.deBruijn64tab", "internal/bytealg.MaxLen"], apart := false, laid := [("math/bits.deBruijn32tab", laid_math_bits_deBruijn32tab), ("math/bits.deBruijn64tab", laid_math_bits_deBruijn64tab)], narrowed := true }
def LampTellsUptoSaid : Prop := lampTellsUptoRow.holds Tryd.pinned (OpenSpec.upto lampTellsSpec)

/-- 'pelicanlaw15.LampBack', WHERE WHAT IT READS IS OF BULK AT MOST 1048576: true; the input reads as it did. -/
def lampBackUptoRow : OpenClaim := { program := "ytechgjbhgeddjaadoor", sum := "23e4c9e035143e8623b1c05cbcd3f66ac8d519d9e4823483b3f2b1e8fc7e361e", func := "pelican/pelicanlaw15.LampBack", spec := "lampBack", inPlace := ["internal/bytealg.IndexByteString", "internal/bytealg.IndexString", "internal/abi.NoEscape"], unfollowed := true, recurses := true, named := ["math/bits.deBruijn32tab", "math/bits.deBruijn64tab", "internal/bytealg.MaxLen"], apart := false, laid := [("math/bits.deBruijn32tab", laid_math_bits_deBruijn32tab), ("math/bits.deBruijn64tab", laid_math_bits_deBruijn64tab)], narrowed := true }
def LampBackUptoSaid : Prop := lampBackUptoRow.holds Tryd.pinned (OpenSpec.upto lampBackSpec)

/-- 'pelicanlaw15.LampFree', WHERE WHAT IT READS IS OF BULK AT MOST 1048576: true; the input reads as it did. -/
def lampFreeUptoRow : OpenClaim := { program := "ytechgjbhgeddjaadoor", sum := "23e4c9e035143e8623b1c05cbcd3f66ac8d519d9e4823483b3f2b1e8fc7e361e", func := "pelican/pelicanlaw15.LampFree", spec := "lampFree", inPlace := ["internal/bytealg.IndexByteString", "internal/bytealg.IndexString", "internal/abi.NoEscape"], unfollowed := true, recurses := true, named := ["math/bits.deBruijn32tab", "math/bits.deBruijn64tab", "internal/bytealg.MaxLen"], apart := false, laid := [("math/bits.deBruijn32tab", laid_math_bits_deBruijn32tab), ("math/bits.deBruijn64tab", laid_math_bits_deBruijn64tab)], narrowed := true }
def LampFreeUptoSaid : Prop := lampFreeUptoRow.holds Tryd.pinned (OpenSpec.upto lampFreeSpec)

/-- 'pelicanlaw15.LampShow', WHERE WHAT IT READS IS OF BULK AT MOST 1048576: true; the input reads as it did. -/
def lampShowUptoRow : OpenClaim := { program := "ytechgjbhgeddjaadoor", sum := "23e4c9e035143e8623b1c05cbcd3f66ac8d519d9e4823483b3f2b1e8fc7e361e", func := "pelican/pelicanlaw15.LampShow", spec := "lampShow", inPlace := ["internal/bytealg.IndexByteString", "internal/bytealg.IndexString", "internal/abi.NoEscape"], unfollowed := true, recurses := true, named := ["math/bits.deBruijn32tab", "math/bits.deBruijn64tab", "internal/bytealg.MaxLen"], apart := false, laid := [("math/bits.deBruijn32tab", laid_math_bits_deBruijn32tab), ("math/bits.deBruijn64tab", laid_math_bits_deBruijn64tab)], narrowed := true }
def LampShowUptoSaid : Prop := lampShowUptoRow.holds Tryd.pinned (OpenSpec.upto lampShowSpec)

/-- 'pelicanlaw15.LampClash', WHERE WHAT IT READS IS OF BULK AT MOST 1048576: true; the input reads as it did. -/
def lampClashUptoRow : OpenClaim := { program := "ytechgjbhgeddjaadoor", sum := "23e4c9e035143e8623b1c05cbcd3f66ac8d519d9e4823483b3f2b1e8fc7e361e", func := "pelican/pelicanlaw15.LampClash", spec := "lampClash", inPlace := ["internal/bytealg.IndexByteString", "internal/bytealg.IndexString", "internal/abi.NoEscape"], unfollowed := true, recurses := true, named := ["math/bits.deBruijn32tab", "math/bits.deBruijn64tab", "internal/bytealg.MaxLen"], apart := false, laid := [("math/bits.deBruijn32tab", laid_math_bits_deBruijn32tab), ("math/bits.deBruijn64tab", laid_math_bits_deBruijn64tab)], narrowed := true }
def LampClashUptoSaid : Prop := lampClashUptoRow.holds Tryd.pinned (OpenSpec.upto lampClashSpec)

end Rows
end Go.Proofs.YtechgjbhgeddjaaDoor
