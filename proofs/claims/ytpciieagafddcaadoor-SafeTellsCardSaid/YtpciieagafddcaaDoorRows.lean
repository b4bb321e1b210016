/-
  NARROWER THAN 'FOR EVERY INPUT', by the rows' own cells (each row's printed sentence says how): TraceTells: laid · TraceCut: laid · TraceFree: laid · TraceGreen: laid · SafeTells: laid · SafeStays: laid · SafeHold: laid · SafeRed: laid · SafeNext: laid · SafePlan: laid · SafePlay: laid · TraceRuns: laid.
  DERIVED. THE GIVEN ROWS OF THIS SEAT. 12 by the template 'for every input the law returns true; each argument reads behind the call as it read before'; 0 by the template 'total and deterministic' (their statements: YtpciieagafddcaaDoorTotals.lean).
  GIVEN WITH THE SEED: the statements are not yours to turn. If you find one false, say at which input.
  Laid BY PROGRAM, IN A SANDBOX (cutbox-rows.mjs): the forced cells as the released guide's own fill.sh prints them over the translation 1d9711f60b7846bf… (all of the seat's roots in one cut). By AI agents, Wed Nov 11 2026. No macro, syntax, notation, axiom, sorry.
-/
import Derived.Test.YtpciieagafddcaaDoorChecked
import GoSem.Claim
import GoSem.ClaimJoined
import GoSem.ClaimMapViews
import Derived.JoinedTies
import Derived.KernelRfl
namespace Go.Proofs.YtpciieagafddcaaDoor
/- THE CELL 'sum', in the pinned program and in every row, IS THE sha256 OF THE DUMP (.gsa) THAT YtpciieagafddcaaDoorProg.lean LOADS. Nothing in Lean hashes anything: it is a label: what it is worth is what the hold of that sum in a sandbox is worth. -/
noncomputable def Tryd.pinned : Pinned := { name := "ytpciieagafddcaadoor", sum := "1d9711f60b7846bfd34869f62ba200c68c8df0e8ae47ee9c5972413e3b34e9a5", checked := Tryd.checked }
namespace Rows
def none {H : Type} : Left H := { results := [], args := [] }

/- WHAT THE LISTED PACKAGE-LEVEL VARIABLES READ AS WHEN THE CALL BEGINS. Each datum BY PROGRAM (the guide's laid-datum.mjs) off the statement by which the dump's own 'gosem.cut.vars' lays the variable. In a bare row this is a premise. The card (YtpciieagafddcaaDoorCards.lean) ties it to the program's text. -/
def laid_math_bits_deBruijn32tab {H : Type} : DataW H := .agg [.lit (.int .u8 0), .lit (.int .u8 1), .lit (.int .u8 28), .lit (.int .u8 2), .lit (.int .u8 29), .lit (.int .u8 14), .lit (.int .u8 24), .lit (.int .u8 3), .lit (.int .u8 30), .lit (.int .u8 22), .lit (.int .u8 20), .lit (.int .u8 15), .lit (.int .u8 25), .lit (.int .u8 17), .lit (.int .u8 4), .lit (.int .u8 8), .lit (.int .u8 31), .lit (.int .u8 27), .lit (.int .u8 13), .lit (.int .u8 23), .lit (.int .u8 21), .lit (.int .u8 19), .lit (.int .u8 16), .lit (.int .u8 7), .lit (.int .u8 26), .lit (.int .u8 12), .lit (.int .u8 18), .lit (.int .u8 6), .lit (.int .u8 11), .lit (.int .u8 5), .lit (.int .u8 10), .lit (.int .u8 9)]
def laid_math_bits_deBruijn64tab {H : Type} : DataW H := .agg [.lit (.int .u8 0), .lit (.int .u8 1), .lit (.int .u8 56), .lit (.int .u8 2), .lit (.int .u8 57), .lit (.int .u8 49), .lit (.int .u8 28), .lit (.int .u8 3), .lit (.int .u8 61), .lit (.int .u8 58), .lit (.int .u8 42), .lit (.int .u8 50), .lit (.int .u8 38), .lit (.int .u8 29), .lit (.int .u8 17), .lit (.int .u8 4), .lit (.int .u8 62), .lit (.int .u8 47), .lit (.int .u8 59), .lit (.int .u8 36), .lit (.int .u8 45), .lit (.int .u8 43), .lit (.int .u8 51), .lit (.int .u8 22), .lit (.int .u8 53), .lit (.int .u8 39), .lit (.int .u8 33), .lit (.int .u8 30), .lit (.int .u8 24), .lit (.int .u8 18), .lit (.int .u8 12), .lit (.int .u8 5), .lit (.int .u8 63), .lit (.int .u8 55), .lit (.int .u8 48), .lit (.int .u8 27), .lit (.int .u8 60), .lit (.int .u8 41), .lit (.int .u8 37), .lit (.int .u8 16), .lit (.int .u8 46), .lit (.int .u8 35), .lit (.int .u8 44), .lit (.int .u8 21), .lit (.int .u8 52), .lit (.int .u8 32), .lit (.int .u8 23), .lit (.int .u8 11), .lit (.int .u8 54), .lit (.int .u8 26), .lit (.int .u8 40), .lit (.int .u8 15), .lit (.int .u8 34), .lit (.int .u8 20), .lit (.int .u8 31), .lit (.int .u8 10), .lit (.int .u8 25), .lit (.int .u8 14), .lit (.int .u8 19), .lit (.int .u8 9), .lit (.int .u8 13), .lit (.int .u8 8), .lit (.int .u8 7), .lit (.int .u8 6)]

/-- 'pelicanlaw23.TraceTells': WHATEVER THE INPUT: true; the input reads as it did. -/
def traceTellsSpec : ChangeSpec := { name := "traceTells", fn := fun _ => fun
  | [d1, d2, d3, d4, d5] => { results := [.lit (.bool true)], args := [d1, d2, d3, d4, d5] }
  | _ => none }
def traceTellsRow : OpenClaim := { program := "ytpciieagafddcaadoor", sum := "1d9711f60b7846bfd34869f62ba200c68c8df0e8ae47ee9c5972413e3b34e9a5", func := "pelican/pelicanlaw23.TraceTells", spec := "traceTells", unfollowed := true, recurses := true, named := ["math/bits.deBruijn32tab", "math/bits.deBruijn64tab"], apart := false, laid := [("math/bits.deBruijn32tab", laid_math_bits_deBruijn32tab), ("math/bits.deBruijn64tab", laid_math_bits_deBruijn64tab)] }
def TraceTellsSaid : Prop := traceTellsRow.holds Tryd.pinned (OpenSpec.ofChange traceTellsSpec)

/-- ITS FALSE NEIGHBOUR: 'it returns false'. Refute it at one input. -/
def traceTellsWrong : ChangeSpec := { name := "traceTells", fn := fun _ => fun
  | [d1, d2, d3, d4, d5] => { results := [.lit (.bool false)], args := [d1, d2, d3, d4, d5] }
  | _ => none }
def TraceTellsWrongFalsely : Prop := traceTellsRow.holds Tryd.pinned (OpenSpec.ofChange traceTellsWrong)

/-- 'pelicanlaw23.TraceCut': WHATEVER THE INPUT: true; the input reads as it did. -/
def traceCutSpec : ChangeSpec := { name := "traceCut", fn := fun _ => fun
  | [d1, d2, d3] => { results := [.lit (.bool true)], args := [d1, d2, d3] }
  | _ => none }
def traceCutRow : OpenClaim := { program := "ytpciieagafddcaadoor", sum := "1d9711f60b7846bfd34869f62ba200c68c8df0e8ae47ee9c5972413e3b34e9a5", func := "pelican/pelicanlaw23.TraceCut", spec := "traceCut", unfollowed := true, recurses := true, named := ["math/bits.deBruijn32tab", "math/bits.deBruijn64tab"], apart := false, laid := [("math/bits.deBruijn32tab", laid_math_bits_deBruijn32tab), ("math/bits.deBruijn64tab", laid_math_bits_deBruijn64tab)] }
def TraceCutSaid : Prop := traceCutRow.holds Tryd.pinned (OpenSpec.ofChange traceCutSpec)

/-- ITS FALSE NEIGHBOUR: 'it returns false'. Refute it at one input. -/
def traceCutWrong : ChangeSpec := { name := "traceCut", fn := fun _ => fun
  | [d1, d2, d3] => { results := [.lit (.bool false)], args := [d1, d2, d3] }
  | _ => none }
def TraceCutWrongFalsely : Prop := traceCutRow.holds Tryd.pinned (OpenSpec.ofChange traceCutWrong)

/-- 'pelicanlaw23.TraceFree': WHATEVER THE INPUT: true; the input reads as it did. -/
def traceFreeSpec : ChangeSpec := { name := "traceFree", fn := fun _ => fun
  | [d1, d2, d3, d4] => { results := [.lit (.bool true)], args := [d1, d2, d3, d4] }
  | _ => none }
def traceFreeRow : OpenClaim := { program := "ytpciieagafddcaadoor", sum := "1d9711f60b7846bfd34869f62ba200c68c8df0e8ae47ee9c5972413e3b34e9a5", func := "pelican/pelicanlaw23.TraceFree", spec := "traceFree", unfollowed := true, recurses := true, named := ["math/bits.deBruijn32tab", "math/bits.deBruijn64tab"], apart := false, laid := [("math/bits.deBruijn32tab", laid_math_bits_deBruijn32tab), ("math/bits.deBruijn64tab", laid_math_bits_deBruijn64tab)] }
def TraceFreeSaid : Prop := traceFreeRow.holds Tryd.pinned (OpenSpec.ofChange traceFreeSpec)

/-- ITS FALSE NEIGHBOUR: 'it returns false'. Refute it at one input. -/
def traceFreeWrong : ChangeSpec := { name := "traceFree", fn := fun _ => fun
  | [d1, d2, d3, d4] => { results := [.lit (.bool false)], args := [d1, d2, d3, d4] }
  | _ => none }
def TraceFreeWrongFalsely : Prop := traceFreeRow.holds Tryd.pinned (OpenSpec.ofChange traceFreeWrong)

/-- 'pelicanlaw23.TraceGreen': WHATEVER THE INPUT: true; the input reads as it did. -/
def traceGreenSpec : ChangeSpec := { name := "traceGreen", fn := fun _ => fun
  | [d1, d2, d3] => { results := [.lit (.bool true)], args := [d1, d2, d3] }
  | _ => none }
def traceGreenRow : OpenClaim := { program := "ytpciieagafddcaadoor", sum := "1d9711f60b7846bfd34869f62ba200c68c8df0e8ae47ee9c5972413e3b34e9a5", func := "pelican/pelicanlaw23.TraceGreen", spec := "traceGreen", unfollowed := true, recurses := true, named := ["math/bits.deBruijn32tab", "math/bits.deBruijn64tab"], apart := false, laid := [("math/bits.deBruijn32tab", laid_math_bits_deBruijn32tab), ("math/bits.deBruijn64tab", laid_math_bits_deBruijn64tab)] }
def TraceGreenSaid : Prop := traceGreenRow.holds Tryd.pinned (OpenSpec.ofChange traceGreenSpec)

/-- ITS FALSE NEIGHBOUR: 'it returns false'. Refute it at one input. -/
def traceGreenWrong : ChangeSpec := { name := "traceGreen", fn := fun _ => fun
  | [d1, d2, d3] => { results := [.lit (.bool false)], args := [d1, d2, d3] }
  | _ => none }
def TraceGreenWrongFalsely : Prop := traceGreenRow.holds Tryd.pinned (OpenSpec.ofChange traceGreenWrong)

/-- 'pelicanlaw17.SafeTells': WHATEVER THE INPUT: true; the input reads as it did. -/
def safeTellsSpec : ChangeSpec := { name := "safeTells", fn := fun _ => fun
  | [d1, d2, d3, d4, d5] => { results := [.lit (.bool true)], args := [d1, d2, d3, d4, d5] }
  | _ => none }
def safeTellsRow : OpenClaim := { program := "ytpciieagafddcaadoor", sum := "1d9711f60b7846bfd34869f62ba200c68c8df0e8ae47ee9c5972413e3b34e9a5", func := "pelican/pelicanlaw17.SafeTells", spec := "safeTells", inPlace := ["internal/abi.NoEscape"], unfollowed := true, recurses := true, named := ["math/bits.deBruijn32tab", "math/bits.deBruijn64tab"], apart := false, laid := [("math/bits.deBruijn32tab", laid_math_bits_deBruijn32tab), ("math/bits.deBruijn64tab", laid_math_bits_deBruijn64tab)] }
def SafeTellsSaid : Prop := safeTellsRow.holds Tryd.pinned (OpenSpec.ofChange safeTellsSpec)

/-- ITS FALSE NEIGHBOUR: 'it returns false'. Refute it at one input. -/
def safeTellsWrong : ChangeSpec := { name := "safeTells", fn := fun _ => fun
  | [d1, d2, d3, d4, d5] => { results := [.lit (.bool false)], args := [d1, d2, d3, d4, d5] }
  | _ => none }
def SafeTellsWrongFalsely : Prop := safeTellsRow.holds Tryd.pinned (OpenSpec.ofChange safeTellsWrong)

/-- 'pelicanlaw17.SafeStays': WHATEVER THE INPUT: true; the input reads as it did. -/
def safeStaysSpec : ChangeSpec := { name := "safeStays", fn := fun _ => fun
  | [d1, d2, d3, d4] => { results := [.lit (.bool true)], args := [d1, d2, d3, d4] }
  | _ => none }
def safeStaysRow : OpenClaim := { program := "ytpciieagafddcaadoor", sum := "1d9711f60b7846bfd34869f62ba200c68c8df0e8ae47ee9c5972413e3b34e9a5", func := "pelican/pelicanlaw17.SafeStays", spec := "safeStays", inPlace := ["internal/abi.NoEscape"], unfollowed := true, recurses := true, named := ["math/bits.deBruijn32tab", "math/bits.deBruijn64tab"], apart := false, laid := [("math/bits.deBruijn32tab", laid_math_bits_deBruijn32tab), ("math/bits.deBruijn64tab", laid_math_bits_deBruijn64tab)] }
def SafeStaysSaid : Prop := safeStaysRow.holds Tryd.pinned (OpenSpec.ofChange safeStaysSpec)

/-- ITS FALSE NEIGHBOUR: 'it returns false'. Refute it at one input. -/
def safeStaysWrong : ChangeSpec := { name := "safeStays", fn := fun _ => fun
  | [d1, d2, d3, d4] => { results := [.lit (.bool false)], args := [d1, d2, d3, d4] }
  | _ => none }
def SafeStaysWrongFalsely : Prop := safeStaysRow.holds Tryd.pinned (OpenSpec.ofChange safeStaysWrong)

/-- 'pelicanlaw17.SafeHold': WHATEVER THE INPUT: true; the input reads as it did. -/
def safeHoldSpec : ChangeSpec := { name := "safeHold", fn := fun _ => fun
  | [d1, d2, d3] => { results := [.lit (.bool true)], args := [d1, d2, d3] }
  | _ => none }
def safeHoldRow : OpenClaim := { program := "ytpciieagafddcaadoor", sum := "1d9711f60b7846bfd34869f62ba200c68c8df0e8ae47ee9c5972413e3b34e9a5", func := "pelican/pelicanlaw17.SafeHold", spec := "safeHold", inPlace := ["internal/abi.NoEscape"], unfollowed := true, recurses := true, named := ["math/bits.deBruijn32tab", "math/bits.deBruijn64tab"], apart := false, laid := [("math/bits.deBruijn32tab", laid_math_bits_deBruijn32tab), ("math/bits.deBruijn64tab", laid_math_bits_deBruijn64tab)] }
def SafeHoldSaid : Prop := safeHoldRow.holds Tryd.pinned (OpenSpec.ofChange safeHoldSpec)

/-- ITS FALSE NEIGHBOUR: 'it returns false'. Refute it at one input. -/
def safeHoldWrong : ChangeSpec := { name := "safeHold", fn := fun _ => fun
  | [d1, d2, d3] => { results := [.lit (.bool false)], args := [d1, d2, d3] }
  | _ => none }
def SafeHoldWrongFalsely : Prop := safeHoldRow.holds Tryd.pinned (OpenSpec.ofChange safeHoldWrong)

/-- 'pelicanlaw17.SafeRed': WHATEVER THE INPUT: true; the input reads as it did. -/
def safeRedSpec : ChangeSpec := { name := "safeRed", fn := fun _ => fun
  | [d1, d2, d3] => { results := [.lit (.bool true)], args := [d1, d2, d3] }
  | _ => none }
def safeRedRow : OpenClaim := { program := "ytpciieagafddcaadoor", sum := "1d9711f60b7846bfd34869f62ba200c68c8df0e8ae47ee9c5972413e3b34e9a5", func := "pelican/pelicanlaw17.SafeRed", spec := "safeRed", inPlace := ["internal/abi.NoEscape"], unfollowed := true, recurses := true, named := ["math/bits.deBruijn32tab", "math/bits.deBruijn64tab"], apart := false, laid := [("math/bits.deBruijn32tab", laid_math_bits_deBruijn32tab), ("math/bits.deBruijn64tab", laid_math_bits_deBruijn64tab)] }
def SafeRedSaid : Prop := safeRedRow.holds Tryd.pinned (OpenSpec.ofChange safeRedSpec)

/-- ITS FALSE NEIGHBOUR: 'it returns false'. Refute it at one input. -/
def safeRedWrong : ChangeSpec := { name := "safeRed", fn := fun _ => fun
  | [d1, d2, d3] => { results := [.lit (.bool false)], args := [d1, d2, d3] }
  | _ => none }
def SafeRedWrongFalsely : Prop := safeRedRow.holds Tryd.pinned (OpenSpec.ofChange safeRedWrong)

/-- 'pelicanlaw17.SafeNext': WHATEVER THE INPUT: true; the input reads as it did. -/
def safeNextSpec : ChangeSpec := { name := "safeNext", fn := fun _ => fun
  | [d1, d2, d3, d4] => { results := [.lit (.bool true)], args := [d1, d2, d3, d4] }
  | _ => none }
def safeNextRow : OpenClaim := { program := "ytpciieagafddcaadoor", sum := "1d9711f60b7846bfd34869f62ba200c68c8df0e8ae47ee9c5972413e3b34e9a5", func := "pelican/pelicanlaw17.SafeNext", spec := "safeNext", inPlace := ["internal/abi.NoEscape"], unfollowed := true, recurses := true, named := ["math/bits.deBruijn32tab", "math/bits.deBruijn64tab"], apart := false, laid := [("math/bits.deBruijn32tab", laid_math_bits_deBruijn32tab), ("math/bits.deBruijn64tab", laid_math_bits_deBruijn64tab)] }
def SafeNextSaid : Prop := safeNextRow.holds Tryd.pinned (OpenSpec.ofChange safeNextSpec)

/-- ITS FALSE NEIGHBOUR: 'it returns false'. Refute it at one input. -/
def safeNextWrong : ChangeSpec := { name := "safeNext", fn := fun _ => fun
  | [d1, d2, d3, d4] => { results := [.lit (.bool false)], args := [d1, d2, d3, d4] }
  | _ => none }
def SafeNextWrongFalsely : Prop := safeNextRow.holds Tryd.pinned (OpenSpec.ofChange safeNextWrong)

/-- 'pelicanlaw17.SafePlan': WHATEVER THE INPUT: true; the input reads as it did. -/
def safePlanSpec : ChangeSpec := { name := "safePlan", fn := fun _ => fun
  | [d1, d2, d3, d4] => { results := [.lit (.bool true)], args := [d1, d2, d3, d4] }
  | _ => none }
def safePlanRow : OpenClaim := { program := "ytpciieagafddcaadoor", sum := "1d9711f60b7846bfd34869f62ba200c68c8df0e8ae47ee9c5972413e3b34e9a5", func := "pelican/pelicanlaw17.SafePlan", spec := "safePlan", inPlace := ["internal/abi.NoEscape"], unfollowed := true, recurses := true, named := ["math/bits.deBruijn32tab", "math/bits.deBruijn64tab"], apart := false, laid := [("math/bits.deBruijn32tab", laid_math_bits_deBruijn32tab), ("math/bits.deBruijn64tab", laid_math_bits_deBruijn64tab)] }
def SafePlanSaid : Prop := safePlanRow.holds Tryd.pinned (OpenSpec.ofChange safePlanSpec)

/-- ITS FALSE NEIGHBOUR: 'it returns false'. Refute it at one input. -/
def safePlanWrong : ChangeSpec := { name := "safePlan", fn := fun _ => fun
  | [d1, d2, d3, d4] => { results := [.lit (.bool false)], args := [d1, d2, d3, d4] }
  | _ => none }
def SafePlanWrongFalsely : Prop := safePlanRow.holds Tryd.pinned (OpenSpec.ofChange safePlanWrong)

/-- 'pelicanlaw17.SafePlay': WHATEVER THE INPUT: true; the input reads as it did. -/
def safePlaySpec : ChangeSpec := { name := "safePlay", fn := fun _ => fun
  | [d1, d2, d3, d4, d5] => { results := [.lit (.bool true)], args := [d1, d2, d3, d4, d5] }
  | _ => none }
def safePlayRow : OpenClaim := { program := "ytpciieagafddcaadoor", sum := "1d9711f60b7846bfd34869f62ba200c68c8df0e8ae47ee9c5972413e3b34e9a5", func := "pelican/pelicanlaw17.SafePlay", spec := "safePlay", inPlace := ["internal/abi.NoEscape"], unfollowed := true, recurses := true, named := ["math/bits.deBruijn32tab", "math/bits.deBruijn64tab"], apart := false, laid := [("math/bits.deBruijn32tab", laid_math_bits_deBruijn32tab), ("math/bits.deBruijn64tab", laid_math_bits_deBruijn64tab)] }
def SafePlaySaid : Prop := safePlayRow.holds Tryd.pinned (OpenSpec.ofChange safePlaySpec)

/-- ITS FALSE NEIGHBOUR: 'it returns false'. Refute it at one input. -/
def safePlayWrong : ChangeSpec := { name := "safePlay", fn := fun _ => fun
  | [d1, d2, d3, d4, d5] => { results := [.lit (.bool false)], args := [d1, d2, d3, d4, d5] }
  | _ => none }
def SafePlayWrongFalsely : Prop := safePlayRow.holds Tryd.pinned (OpenSpec.ofChange safePlayWrong)

/-- 'pelicanlaw23.TraceRuns': WHATEVER THE INPUT: true; the input reads as it did. -/
def traceRunsSpec : ChangeSpec := { name := "traceRuns", fn := fun _ => fun
  | [d1, d2] => { results := [.lit (.bool true)], args := [d1, d2] }
  | _ => none }
def traceRunsRow : OpenClaim := { program := "ytpciieagafddcaadoor", sum := "1d9711f60b7846bfd34869f62ba200c68c8df0e8ae47ee9c5972413e3b34e9a5", func := "pelican/pelicanlaw23.TraceRuns", spec := "traceRuns", unfollowed := true, recurses := true, named := ["math/bits.deBruijn32tab", "math/bits.deBruijn64tab"], apart := false, laid := [("math/bits.deBruijn32tab", laid_math_bits_deBruijn32tab), ("math/bits.deBruijn64tab", laid_math_bits_deBruijn64tab)] }
def TraceRunsSaid : Prop := traceRunsRow.holds Tryd.pinned (OpenSpec.ofChange traceRunsSpec)

/-- ITS FALSE NEIGHBOUR: 'it returns false'. Refute it at one input. -/
def traceRunsWrong : ChangeSpec := { name := "traceRuns", fn := fun _ => fun
  | [d1, d2] => { results := [.lit (.bool false)], args := [d1, d2] }
  | _ => none }
def TraceRunsWrongFalsely : Prop := traceRunsRow.holds Tryd.pinned (OpenSpec.ofChange traceRunsWrong)

/- THE SECOND FORM. 'bulk': how many values and letters a reading holds, each counted each time it is reached (what is shared counts as often as it is met; a slice's spare places count too). A statement '..UptoSaid' is the law's where the arguments, and the package variables that the reading takes, are together of bulk at most 1048576: NARROWER than '..Said'. Prove '..Said' where nothing that the law and all that it calls make is longer than what came in: it says more and counts as full. Else prove '..UptoSaid'. A law counts once. -/
mutual
def uptoBulk {H : Type} : DataW H → Nat
  | .lit (.string bytes) => bytes.length + 1
  | .lit _ => 1
  | .nil => 1
  | .ptr d => uptoBulk d + 1
  | .slice elems spare => uptoBulkAll elems + uptoBulkAll spare + 1
  | .agg parts => uptoBulkAll parts + 1
  | .iface _ d => uptoBulk d + 1
  | .map entries => uptoBulkEntries entries + 1
  | .held _ => 1
def uptoBulkAll {H : Type} : List (DataW H) → Nat
  | [] => 0
  | d :: r => uptoBulk d + uptoBulkAll r
def uptoBulkEntries {H : Type} : List (Lit × DataW H) → Nat
  | [] => 0
  | x :: r => uptoBulkEntry x + uptoBulkEntries r
def uptoBulkEntry {H : Type} : Lit × DataW H → Nat
  | (.string bytes, d) => bytes.length + uptoBulk d + 1
  | (_, d) => uptoBulk d + 1
 end
def uptoSmall : (H : Type) → List (DataW H) → Bool := fun _ ds => decide (uptoBulkAll ds ≤ 1048576)
def OpenSpec.upto (s : _root_.Go.ChangeSpec) : _root_.Go.OpenSpec := { _root_.Go.OpenSpec.ofChange s with cond := some uptoSmall }

/-- 'pelicanlaw23.TraceTells', WHERE WHAT IT READS IS OF BULK AT MOST 1048576: true; the input reads as it did. -/
def traceTellsUptoRow : OpenClaim := { program := "ytpciieagafddcaadoor", sum := "1d9711f60b7846bfd34869f62ba200c68c8df0e8ae47ee9c5972413e3b34e9a5", func := "pelican/pelicanlaw23.TraceTells", spec := "traceTells", unfollowed := true, recurses := true, named := ["math/bits.deBruijn32tab", "math/bits.deBruijn64tab"], apart := false, laid := [("math/bits.deBruijn32tab", laid_math_bits_deBruijn32tab), ("math/bits.deBruijn64tab", laid_math_bits_deBruijn64tab)], narrowed := true }
def TraceTellsUptoSaid : Prop := traceTellsUptoRow.holds Tryd.pinned (OpenSpec.upto traceTellsSpec)

/-- 'pelicanlaw23.TraceCut', WHERE WHAT IT READS IS OF BULK AT MOST 1048576: true; the input reads as it did. -/
def traceCutUptoRow : OpenClaim := { program := "ytpciieagafddcaadoor", sum := "1d9711f60b7846bfd34869f62ba200c68c8df0e8ae47ee9c5972413e3b34e9a5", func := "pelican/pelicanlaw23.TraceCut", spec := "traceCut", unfollowed := true, recurses := true, named := ["math/bits.deBruijn32tab", "math/bits.deBruijn64tab"], apart := false, laid := [("math/bits.deBruijn32tab", laid_math_bits_deBruijn32tab), ("math/bits.deBruijn64tab", laid_math_bits_deBruijn64tab)], narrowed := true }
def TraceCutUptoSaid : Prop := traceCutUptoRow.holds Tryd.pinned (OpenSpec.upto traceCutSpec)

/-- 'pelicanlaw23.TraceFree', WHERE WHAT IT READS IS OF BULK AT MOST 1048576: true; the input reads as it did. -/
def traceFreeUptoRow : OpenClaim := { program := "ytpciieagafddcaadoor", sum := "1d9711f60b7846bfd34869f62ba200c68c8df0e8ae47ee9c5972413e3b34e9a5", func := "pelican/pelicanlaw23.TraceFree", spec := "traceFree", unfollowed := true, recurses := true, named := ["math/bits.deBruijn32tab", "math/bits.deBruijn64tab"], apart := false, laid := [("math/bits.deBruijn32tab", laid_math_bits_deBruijn32tab), ("math/bits.deBruijn64tab", laid_math_bits_deBruijn64tab)], narrowed := true }
def TraceFreeUptoSaid : Prop := traceFreeUptoRow.holds Tryd.pinned (OpenSpec.upto traceFreeSpec)

/-- 'pelicanlaw23.TraceGreen', WHERE WHAT IT READS IS OF BULK AT MOST 1048576: true; the input reads as it did. -/
def traceGreenUptoRow : OpenClaim := { program := "ytpciieagafddcaadoor", sum := "1d9711f60b7846bfd34869f62ba200c68c8df0e8ae47ee9c5972413e3b34e9a5", func := "pelican/pelicanlaw23.TraceGreen", spec := "traceGreen", unfollowed := true, recurses := true, named := ["math/bits.deBruijn32tab", "math/bits.deBruijn64tab"], apart := false, laid := [("math/bits.deBruijn32tab", laid_math_bits_deBruijn32tab), ("math/bits.deBruijn64tab", laid_math_bits_deBruijn64tab)], narrowed := true }
def TraceGreenUptoSaid : Prop := traceGreenUptoRow.holds Tryd.pinned (OpenSpec.upto traceGreenSpec)

/-- 'pelicanlaw17.SafeTells', WHERE WHAT IT READS IS OF BULK AT MOST 1048576: true; the input reads as it did. -/
def safeTellsUptoRow : OpenClaim := { program := "ytpciieagafddcaadoor", sum := "1d9711f60b7846bfd34869f62ba200c68c8df0e8ae47ee9c5972413e3b34e9a5", func := "pelican/pelicanlaw17.SafeTells", spec := "safeTells", inPlace := ["internal/abi.NoEscape"], unfollowed := true, recurses := true, named := ["math/bits.deBruijn32tab", "math/bits.deBruijn64tab"], apart := false, laid := [("math/bits.deBruijn32tab", laid_math_bits_deBruijn32tab), ("math/bits.deBruijn64tab", laid_math_bits_deBruijn64tab)], narrowed := true }
def SafeTellsUptoSaid : Prop := safeTellsUptoRow.holds Tryd.pinned (OpenSpec.upto safeTellsSpec)

/-- 'pelicanlaw17.SafeStays', WHERE WHAT IT READS IS OF BULK AT MOST 1048576: true; the input reads as it did. -/
def safeStaysUptoRow : OpenClaim := { program := "ytpciieagafddcaadoor", sum := "1d9711f60b7846bfd34869f62ba200c68c8df0e8ae47ee9c5972413e3b34e9a5", func := "pelican/pelicanlaw17.SafeStays", spec := "safeStays", inPlace := ["internal/abi.NoEscape"], unfollowed := true, recurses := true, named := ["math/bits.deBruijn32tab", "math/bits.deBruijn64tab"], apart := false, laid := [("math/bits.deBruijn32tab", laid_math_bits_deBruijn32tab), ("math/bits.deBruijn64tab", laid_math_bits_deBruijn64tab)], narrowed := true }
def SafeStaysUptoSaid : Prop := safeStaysUptoRow.holds Tryd.pinned (OpenSpec.upto safeStaysSpec)

/-- 'pelicanlaw17.SafeHold', WHERE WHAT IT READS IS OF BULK AT MOST 1048576: true; the input reads as it did. -/
def safeHoldUptoRow : OpenClaim := { program := "ytpciieagafddcaadoor", sum := "1d9711f60b7846bfd34869f62ba200c68c8df0e8ae47ee9c5972413e3b34e9a5", func := "pelican/pelicanlaw17.SafeHold", spec := "safeHold", inPlace := ["internal/abi.NoEscape"], unfollowed := true, recurses := true, named := ["math/bits.deBruijn32tab", "math/bits.deBruijn64tab"], apart := false, laid := [("math/bits.deBruijn32tab", laid_math_bits_deBruijn32tab), ("math/bits.deBruijn64tab", laid_math_bits_deBruijn64tab)], narrowed := true }
def SafeHoldUptoSaid : Prop := safeHoldUptoRow.holds Tryd.pinned (OpenSpec.upto safeHoldSpec)

/-- 'pelicanlaw17.SafeRed', WHERE WHAT IT READS IS OF BULK AT MOST 1048576: true; the input reads as it did. -/
def safeRedUptoRow : OpenClaim := { program := "ytpciieagafddcaadoor", sum := "1d9711f60b7846bfd34869f62ba200c68c8df0e8ae47ee9c5972413e3b34e9a5", func := "pelican/pelicanlaw17.SafeRed", spec := "safeRed", inPlace := ["internal/abi.NoEscape"], unfollowed := true, recurses := true, named := ["math/bits.deBruijn32tab", "math/bits.deBruijn64tab"], apart := false, laid := [("math/bits.deBruijn32tab", laid_math_bits_deBruijn32tab), ("math/bits.deBruijn64tab", laid_math_bits_deBruijn64tab)], narrowed := true }
def SafeRedUptoSaid : Prop := safeRedUptoRow.holds Tryd.pinned (OpenSpec.upto safeRedSpec)

/-- 'pelicanlaw17.SafeNext', WHERE WHAT IT READS IS OF BULK AT MOST 1048576: true; the input reads as it did. -/
def safeNextUptoRow : OpenClaim := { program := "ytpciieagafddcaadoor", sum := "1d9711f60b7846bfd34869f62ba200c68c8df0e8ae47ee9c5972413e3b34e9a5", func := "pelican/pelicanlaw17.SafeNext", spec := "safeNext", inPlace := ["internal/abi.NoEscape"], unfollowed := true, recurses := true, named := ["math/bits.deBruijn32tab", "math/bits.deBruijn64tab"], apart := false, laid := [("math/bits.deBruijn32tab", laid_math_bits_deBruijn32tab), ("math/bits.deBruijn64tab", laid_math_bits_deBruijn64tab)], narrowed := true }
def SafeNextUptoSaid : Prop := safeNextUptoRow.holds Tryd.pinned (OpenSpec.upto safeNextSpec)

/-- 'pelicanlaw17.SafePlan', WHERE WHAT IT READS IS OF BULK AT MOST 1048576: true; the input reads as it did. -/
def safePlanUptoRow : OpenClaim := { program := "ytpciieagafddcaadoor", sum := "1d9711f60b7846bfd34869f62ba200c68c8df0e8ae47ee9c5972413e3b34e9a5", func := "pelican/pelicanlaw17.SafePlan", spec := "safePlan", inPlace := ["internal/abi.NoEscape"], unfollowed := true, recurses := true, named := ["math/bits.deBruijn32tab", "math/bits.deBruijn64tab"], apart := false, laid := [("math/bits.deBruijn32tab", laid_math_bits_deBruijn32tab), ("math/bits.deBruijn64tab", laid_math_bits_deBruijn64tab)], narrowed := true }
def SafePlanUptoSaid : Prop := safePlanUptoRow.holds Tryd.pinned (OpenSpec.upto safePlanSpec)

/-- 'pelicanlaw17.SafePlay', WHERE WHAT IT READS IS OF BULK AT MOST 1048576: true; the input reads as it did. -/
def safePlayUptoRow : OpenClaim := { program := "ytpciieagafddcaadoor", sum := "1d9711f60b7846bfd34869f62ba200c68c8df0e8ae47ee9c5972413e3b34e9a5", func := "pelican/pelicanlaw17.SafePlay", spec := "safePlay", inPlace := ["internal/abi.NoEscape"], unfollowed := true, recurses := true, named := ["math/bits.deBruijn32tab", "math/bits.deBruijn64tab"], apart := false, laid := [("math/bits.deBruijn32tab", laid_math_bits_deBruijn32tab), ("math/bits.deBruijn64tab", laid_math_bits_deBruijn64tab)], narrowed := true }
def SafePlayUptoSaid : Prop := safePlayUptoRow.holds Tryd.pinned (OpenSpec.upto safePlaySpec)

/-- 'pelicanlaw23.TraceRuns', WHERE WHAT IT READS IS OF BULK AT MOST 1048576: true; the input reads as it did. -/
def traceRunsUptoRow : OpenClaim := { program := "ytpciieagafddcaadoor", sum := "1d9711f60b7846bfd34869f62ba200c68c8df0e8ae47ee9c5972413e3b34e9a5", func := "pelican/pelicanlaw23.TraceRuns", spec := "traceRuns", unfollowed := true, recurses := true, named := ["math/bits.deBruijn32tab", "math/bits.deBruijn64tab"], apart := false, laid := [("math/bits.deBruijn32tab", laid_math_bits_deBruijn32tab), ("math/bits.deBruijn64tab", laid_math_bits_deBruijn64tab)], narrowed := true }
def TraceRunsUptoSaid : Prop := traceRunsUptoRow.holds Tryd.pinned (OpenSpec.upto traceRunsSpec)

end Rows
end Go.Proofs.YtpciieagafddcaaDoor
