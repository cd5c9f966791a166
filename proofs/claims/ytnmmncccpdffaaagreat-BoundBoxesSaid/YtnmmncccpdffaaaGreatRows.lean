/-
  NARROWER THAN 'FOR EVERY INPUT', by the rows' own cells (each row's printed sentence says how): BoundExprs: loops.
  DERIVED. THE GIVEN ROWS OF THIS SEAT. 5 by the template 'for every input the law returns true; each argument reads behind the call as it read before'; 0 by the template 'total and deterministic' (their statements: YtnmmncccpdffaaaGreatTotals.lean).
  GIVEN WITH THE SEED: the statements are not yours to turn. If you find one false, say at which input.
  Laid BY PROGRAM, IN A SANDBOX (cutbox-rows.mjs): the forced cells as the released guide's own fill.sh prints them over the translation bfbc463a55ebbf64… (all of the seat's roots in one cut). By AI agents, Wed Nov 11 2026. No macro, syntax, notation, axiom, sorry.
-/
import Derived.Test.YtnmmncccpdffaaaGreatChecked
import GoSem.Claim
import GoSem.ClaimJoined
import GoSem.ClaimMapViews
import Derived.JoinedTies
import Derived.KernelRfl
namespace Go.Proofs.YtnmmncccpdffaaaGreat
/- THE CELL 'sum', in the pinned program and in every row, IS THE sha256 OF THE DUMP (.gsa) THAT YtnmmncccpdffaaaGreatProg.lean LOADS. Nothing in Lean hashes anything: it is a label: what it is worth is what the hold of that sum in a sandbox is worth. -/
noncomputable def Tryz.pinned : Pinned := { name := "ytnmmncccpdffaaagreat", sum := "bfbc463a55ebbf6486e94132e99fe5d6596b95d1e13657dd8ef799ff53e5c530", checked := Tryz.checked }
namespace Rows
def none {H : Type} : Left H := { results := [], args := [] }

/-- 'quadratrixlaw22.BoundBoxes': WHATEVER THE INPUT: true; the input reads as it did. -/
def boundBoxesSpec : ChangeSpec := { name := "boundBoxes", fn := fun _ => fun
  | [d1, d2, d3] => { results := [.lit (.bool true)], args := [d1, d2, d3] }
  | _ => none }
def boundBoxesRow : OpenClaim := { program := "ytnmmncccpdffaaagreat", sum := "bfbc463a55ebbf6486e94132e99fe5d6596b95d1e13657dd8ef799ff53e5c530", func := "quadratrix/quadratrixlaw22.BoundBoxes", spec := "boundBoxes", inPlace := ["math/bits.Sub64"], unfollowed := true, recurses := true, apart := false }
def BoundBoxesSaid : Prop := boundBoxesRow.holds Tryz.pinned (OpenSpec.ofChange boundBoxesSpec)

/-- ITS FALSE NEIGHBOUR: 'it returns false'. Refute it at one input. -/
def boundBoxesWrong : ChangeSpec := { name := "boundBoxes", fn := fun _ => fun
  | [d1, d2, d3] => { results := [.lit (.bool false)], args := [d1, d2, d3] }
  | _ => none }
def BoundBoxesWrongFalsely : Prop := boundBoxesRow.holds Tryz.pinned (OpenSpec.ofChange boundBoxesWrong)

/-- 'quadratrixlaw22.BoundExp': WHATEVER THE INPUT: true; the input reads as it did. -/
def boundExpSpec : ChangeSpec := { name := "boundExp", fn := fun _ => fun
  | [d1, d2] => { results := [.lit (.bool true)], args := [d1, d2] }
  | _ => none }
def boundExpRow : OpenClaim := { program := "ytnmmncccpdffaaagreat", sum := "bfbc463a55ebbf6486e94132e99fe5d6596b95d1e13657dd8ef799ff53e5c530", func := "quadratrix/quadratrixlaw22.BoundExp", spec := "boundExp", inPlace := ["math/bits.Sub64"], unfollowed := true, recurses := true, apart := false }
def BoundExpSaid : Prop := boundExpRow.holds Tryz.pinned (OpenSpec.ofChange boundExpSpec)

/-- ITS FALSE NEIGHBOUR: 'it returns false'. Refute it at one input. -/
def boundExpWrong : ChangeSpec := { name := "boundExp", fn := fun _ => fun
  | [d1, d2] => { results := [.lit (.bool false)], args := [d1, d2] }
  | _ => none }
def BoundExpWrongFalsely : Prop := boundExpRow.holds Tryz.pinned (OpenSpec.ofChange boundExpWrong)

/-- 'quadratrixlaw22.BoundLog': WHATEVER THE INPUT: true; the input reads as it did. -/
def boundLogSpec : ChangeSpec := { name := "boundLog", fn := fun _ => fun
  | [d1, d2] => { results := [.lit (.bool true)], args := [d1, d2] }
  | _ => none }
def boundLogRow : OpenClaim := { program := "ytnmmncccpdffaaagreat", sum := "bfbc463a55ebbf6486e94132e99fe5d6596b95d1e13657dd8ef799ff53e5c530", func := "quadratrix/quadratrixlaw22.BoundLog", spec := "boundLog", inPlace := ["math/bits.Sub64"], unfollowed := true, recurses := true, apart := false }
def BoundLogSaid : Prop := boundLogRow.holds Tryz.pinned (OpenSpec.ofChange boundLogSpec)

/-- ITS FALSE NEIGHBOUR: 'it returns false'. Refute it at one input. -/
def boundLogWrong : ChangeSpec := { name := "boundLog", fn := fun _ => fun
  | [d1, d2] => { results := [.lit (.bool false)], args := [d1, d2] }
  | _ => none }
def BoundLogWrongFalsely : Prop := boundLogRow.holds Tryz.pinned (OpenSpec.ofChange boundLogWrong)

/-- 'quadratrixlaw22.BoundEquations': WHATEVER THE INPUT: true; the input reads as it did. -/
def boundEquationsSpec : ChangeSpec := { name := "boundEquations", fn := fun _ => fun
  | [d1, d2, d3] => { results := [.lit (.bool true)], args := [d1, d2, d3] }
  | _ => none }
def boundEquationsRow : OpenClaim := { program := "ytnmmncccpdffaaagreat", sum := "bfbc463a55ebbf6486e94132e99fe5d6596b95d1e13657dd8ef799ff53e5c530", func := "quadratrix/quadratrixlaw22.BoundEquations", spec := "boundEquations", inPlace := ["math/bits.Sub64"], unfollowed := true, recurses := true, apart := false }
def BoundEquationsSaid : Prop := boundEquationsRow.holds Tryz.pinned (OpenSpec.ofChange boundEquationsSpec)

/-- ITS FALSE NEIGHBOUR: 'it returns false'. Refute it at one input. -/
def boundEquationsWrong : ChangeSpec := { name := "boundEquations", fn := fun _ => fun
  | [d1, d2, d3] => { results := [.lit (.bool false)], args := [d1, d2, d3] }
  | _ => none }
def BoundEquationsWrongFalsely : Prop := boundEquationsRow.holds Tryz.pinned (OpenSpec.ofChange boundEquationsWrong)

/-- 'quadratrixlaw22.BoundExprs': WHATEVER THE INPUT: true; the input reads as it did. -/
def boundExprsSpec : ChangeSpec := { name := "boundExprs", fn := fun _ => fun
  | [d1, d2, d3] => { results := [.lit (.bool true)], args := [d1, d2, d3] }
  | _ => none }
def boundExprsRow : OpenClaim := { program := "ytnmmncccpdffaaagreat", sum := "bfbc463a55ebbf6486e94132e99fe5d6596b95d1e13657dd8ef799ff53e5c530", func := "quadratrix/quadratrixlaw22.BoundExprs", spec := "boundExprs", inPlace := ["math/bits.Sub64"], unfollowed := true, recurses := true, loops := true, apart := false }
def BoundExprsSaid : Prop := boundExprsRow.holds Tryz.pinned (OpenSpec.ofChange boundExprsSpec)

/-- ITS FALSE NEIGHBOUR: 'it returns false'. Refute it at one input. -/
def boundExprsWrong : ChangeSpec := { name := "boundExprs", fn := fun _ => fun
  | [d1, d2, d3] => { results := [.lit (.bool false)], args := [d1, d2, d3] }
  | _ => none }
def BoundExprsWrongFalsely : Prop := boundExprsRow.holds Tryz.pinned (OpenSpec.ofChange boundExprsWrong)

/- THE SECOND FORM. 'bulk': how many values and letters a reading holds, each counted each time it is reached (what is shared counts as often as it is met; a slice's spare places count too). A statement '..UptoSaid' is the law's where the arguments, and the package variables that the reading takes, are together of bulk at most 1048576: NARROWER than '..Said'. Prove '..Said' where nothing that the law and all that it calls make is longer than what came in: it says more and counts as full. Else prove '..UptoSaid'. A law counts once. -/
mutual
def uptoBulk {H : Type} : DataW H → Nat
  | .lit (.string bytes) => bytes.length + 1
  | .lit _ => 1
  | .nil => 1
  | .ptr d => uptoBulk d + 1
  | .slice elems spare => uptoBulkAll elems + uptoBulkAll spare + 1
  | .agg parts => uptoBulkAll parts + 1
  | .iface _ d => uptoBulk d + 1
  | .map entries => uptoBulkEntries entries + 1
  | .held _ => 1
def uptoBulkAll {H : Type} : List (DataW H) → Nat
  | [] => 0
  | d :: r => uptoBulk d + uptoBulkAll r
def uptoBulkEntries {H : Type} : List (Lit × DataW H) → Nat
  | [] => 0
  | x :: r => uptoBulkEntry x + uptoBulkEntries r
def uptoBulkEntry {H : Type} : Lit × DataW H → Nat
  | (.string bytes, d) => bytes.length + uptoBulk d + 1
  | (_, d) => uptoBulk d + 1
 end
def uptoSmall : (H : Type) → List (DataW H) → Bool := fun _ ds => decide (uptoBulkAll ds ≤ 1048576)
def OpenSpec.upto (s : _root_.Go.ChangeSpec) : _root_.Go.OpenSpec := { _root_.Go.OpenSpec.ofChange s with cond := some uptoSmall }

/-- 'quadratrixlaw22.BoundBoxes', WHERE WHAT IT READS IS OF BULK AT MOST 1048576: true; the input reads as it did. -/
def boundBoxesUptoRow : OpenClaim := { program := "ytnmmncccpdffaaagreat", sum := "bfbc463a55ebbf6486e94132e99fe5d6596b95d1e13657dd8ef799ff53e5c530", func := "quadratrix/quadratrixlaw22.BoundBoxes", spec := "boundBoxes", inPlace := ["math/bits.Sub64"], unfollowed := true, recurses := true, apart := false, narrowed := true }
def BoundBoxesUptoSaid : Prop := boundBoxesUptoRow.holds Tryz.pinned (OpenSpec.upto boundBoxesSpec)

/-- 'quadratrixlaw22.BoundExp', WHERE WHAT IT READS IS OF BULK AT MOST 1048576: true; the input reads as it did. -/
def boundExpUptoRow : OpenClaim := { program := "ytnmmncccpdffaaagreat", sum := "bfbc463a55ebbf6486e94132e99fe5d6596b95d1e13657dd8ef799ff53e5c530", func := "quadratrix/quadratrixlaw22.BoundExp", spec := "boundExp", inPlace := ["math/bits.Sub64"], unfollowed := true, recurses := true, apart := false, narrowed := true }
def BoundExpUptoSaid : Prop := boundExpUptoRow.holds Tryz.pinned (OpenSpec.upto boundExpSpec)

/-- 'quadratrixlaw22.BoundLog', WHERE WHAT IT READS IS OF BULK AT MOST 1048576: true; the input reads as it did. -/
def boundLogUptoRow : OpenClaim := { program := "ytnmmncccpdffaaagreat", sum := "bfbc463a55ebbf6486e94132e99fe5d6596b95d1e13657dd8ef799ff53e5c530", func := "quadratrix/quadratrixlaw22.BoundLog", spec := "boundLog", inPlace := ["math/bits.Sub64"], unfollowed := true, recurses := true, apart := false, narrowed := true }
def BoundLogUptoSaid : Prop := boundLogUptoRow.holds Tryz.pinned (OpenSpec.upto boundLogSpec)

/-- 'quadratrixlaw22.BoundEquations', WHERE WHAT IT READS IS OF BULK AT MOST 1048576: true; the input reads as it did. -/
def boundEquationsUptoRow : OpenClaim := { program := "ytnmmncccpdffaaagreat", sum := "bfbc463a55ebbf6486e94132e99fe5d6596b95d1e13657dd8ef799ff53e5c530", func := "quadratrix/quadratrixlaw22.BoundEquations", spec := "boundEquations", inPlace := ["math/bits.Sub64"], unfollowed := true, recurses := true, apart := false, narrowed := true }
def BoundEquationsUptoSaid : Prop := boundEquationsUptoRow.holds Tryz.pinned (OpenSpec.upto boundEquationsSpec)

/-- 'quadratrixlaw22.BoundExprs', WHERE WHAT IT READS IS OF BULK AT MOST 1048576: true; the input reads as it did. -/
def boundExprsUptoRow : OpenClaim := { program := "ytnmmncccpdffaaagreat", sum := "bfbc463a55ebbf6486e94132e99fe5d6596b95d1e13657dd8ef799ff53e5c530", func := "quadratrix/quadratrixlaw22.BoundExprs", spec := "boundExprs", inPlace := ["math/bits.Sub64"], unfollowed := true, recurses := true, loops := true, apart := false, narrowed := true }
def BoundExprsUptoSaid : Prop := boundExprsUptoRow.holds Tryz.pinned (OpenSpec.upto boundExprsSpec)

end Rows
end Go.Proofs.YtnmmncccpdffaaaGreat
