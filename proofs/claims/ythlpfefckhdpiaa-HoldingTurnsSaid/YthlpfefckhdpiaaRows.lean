/-
  No cell of these rows narrows 'for every input' (looked for: loops, veiled, ifaces, maps, wideKeys, modest, calm, conditions, laid).
  DERIVED. THE GIVEN ROWS OF THIS SEAT. 2 by the template 'for every input the law returns true; each argument reads behind the call as it read before'; 0 by the template 'total and deterministic' (their statements: YthlpfefckhdpiaaTotals.lean).
  GIVEN WITH THE SEED: the statements are not yours to turn. If you find one false, say at which input.
  Laid BY PROGRAM, IN A SANDBOX (cutbox-rows.mjs): the forced cells as the released guide's own fill.sh prints them over the translation 1f802afc5e9e6a09… (all of the seat's roots in one cut). By AI agents, Wed Nov 11 2026. No macro, syntax, notation, axiom, sorry.
-/
import Derived.Test.YthlpfefckhdpiaaChecked
import GoSem.Claim
import GoSem.ClaimJoined
import GoSem.ClaimMapViews
import Derived.JoinedTies
import Derived.KernelRfl
namespace Go.Proofs.Ythlpfefckhdpiaa
/- THE CELL 'sum', in the pinned program and in every row, IS THE sha256 OF THE DUMP (.gsa) THAT YthlpfefckhdpiaaProg.lean LOADS. Nothing in Lean hashes anything: it is a label: what it is worth is what the hold of that sum in a sandbox is worth. -/
noncomputable def Try.pinned : Pinned := { name := "ythlpfefckhdpiaa", sum := "1f802afc5e9e6a0956bd208ecce85a20c31985ed4cc17c4c04693b85a1fc2562", checked := Try.checked }
namespace Rows
def none {H : Type} : Left H := { results := [], args := [] }

/-- 'tranchelaw23.HoldingDays': WHATEVER THE INPUT: true; the input reads as it did. -/
def holdingDaysSpec : ChangeSpec := { name := "holdingDays", fn := fun _ => fun
  | [d1, d2, d3] => { results := [.lit (.bool true)], args := [d1, d2, d3] }
  | _ => none }
def holdingDaysRow : OpenClaim := { program := "ythlpfefckhdpiaa", sum := "1f802afc5e9e6a0956bd208ecce85a20c31985ed4cc17c4c04693b85a1fc2562", func := "tranche/tranchelaw23.HoldingDays", spec := "holdingDays", unfollowed := true, recurses := true, apart := false }
def HoldingDaysSaid : Prop := holdingDaysRow.holds Try.pinned (OpenSpec.ofChange holdingDaysSpec)

/-- ITS FALSE NEIGHBOUR: 'it returns false'. Refute it at one input. -/
def holdingDaysWrong : ChangeSpec := { name := "holdingDays", fn := fun _ => fun
  | [d1, d2, d3] => { results := [.lit (.bool false)], args := [d1, d2, d3] }
  | _ => none }
def HoldingDaysWrongFalsely : Prop := holdingDaysRow.holds Try.pinned (OpenSpec.ofChange holdingDaysWrong)

/-- 'tranchelaw23.HoldingTurns': WHATEVER THE INPUT: true; the input reads as it did. -/
def holdingTurnsSpec : ChangeSpec := { name := "holdingTurns", fn := fun _ => fun
  | [d1, d2, d3, d4] => { results := [.lit (.bool true)], args := [d1, d2, d3, d4] }
  | _ => none }
def holdingTurnsRow : OpenClaim := { program := "ythlpfefckhdpiaa", sum := "1f802afc5e9e6a0956bd208ecce85a20c31985ed4cc17c4c04693b85a1fc2562", func := "tranche/tranchelaw23.HoldingTurns", spec := "holdingTurns", unfollowed := true, recurses := true, apart := false }
def HoldingTurnsSaid : Prop := holdingTurnsRow.holds Try.pinned (OpenSpec.ofChange holdingTurnsSpec)

/-- ITS FALSE NEIGHBOUR: 'it returns false'. Refute it at one input. -/
def holdingTurnsWrong : ChangeSpec := { name := "holdingTurns", fn := fun _ => fun
  | [d1, d2, d3, d4] => { results := [.lit (.bool false)], args := [d1, d2, d3, d4] }
  | _ => none }
def HoldingTurnsWrongFalsely : Prop := holdingTurnsRow.holds Try.pinned (OpenSpec.ofChange holdingTurnsWrong)

/- THE SECOND FORM. 'bulk': how many values and letters a reading holds, each counted each time it is reached (what is shared counts as often as it is met; a slice's spare places count too). A statement '..UptoSaid' is the law's where the arguments, and the package variables that the reading takes, are together of bulk at most 1048576: NARROWER than '..Said'. Prove '..Said' where nothing that the law and all that it calls make is longer than what came in: it says more and counts as full. Else prove '..UptoSaid'. A law counts once. -/
mutual
def uptoBulk {H : Type} : DataW H → Nat
  | .lit (.string bytes) => bytes.length + 1
  | .lit _ => 1
  | .nil => 1
  | .ptr d => uptoBulk d + 1
  | .slice elems spare => uptoBulkAll elems + uptoBulkAll spare + 1
  | .agg parts => uptoBulkAll parts + 1
  | .iface _ d => uptoBulk d + 1
  | .map entries => uptoBulkEntries entries + 1
  | .held _ => 1
def uptoBulkAll {H : Type} : List (DataW H) → Nat
  | [] => 0
  | d :: r => uptoBulk d + uptoBulkAll r
def uptoBulkEntries {H : Type} : List (Lit × DataW H) → Nat
  | [] => 0
  | x :: r => uptoBulkEntry x + uptoBulkEntries r
def uptoBulkEntry {H : Type} : Lit × DataW H → Nat
  | (.string bytes, d) => bytes.length + uptoBulk d + 1
  | (_, d) => uptoBulk d + 1
 end
def uptoSmall : (H : Type) → List (DataW H) → Bool := fun _ ds => decide (uptoBulkAll ds ≤ 1048576)
def OpenSpec.upto (s : _root_.Go.ChangeSpec) : _root_.Go.OpenSpec := { _root_.Go.OpenSpec.ofChange s with cond := some uptoSmall }

/-- 'tranchelaw23.HoldingDays', WHERE WHAT IT READS IS OF BULK AT MOST 1048576: true; the input reads as it did. -/
def holdingDaysUptoRow : OpenClaim := { program := "ythlpfefckhdpiaa", sum := "1f802afc5e9e6a0956bd208ecce85a20c31985ed4cc17c4c04693b85a1fc2562", func := "tranche/tranchelaw23.HoldingDays", spec := "holdingDays", unfollowed := true, recurses := true, apart := false, narrowed := true }
def HoldingDaysUptoSaid : Prop := holdingDaysUptoRow.holds Try.pinned (OpenSpec.upto holdingDaysSpec)

/-- 'tranchelaw23.HoldingTurns', WHERE WHAT IT READS IS OF BULK AT MOST 1048576: true; the input reads as it did. -/
def holdingTurnsUptoRow : OpenClaim := { program := "ythlpfefckhdpiaa", sum := "1f802afc5e9e6a0956bd208ecce85a20c31985ed4cc17c4c04693b85a1fc2562", func := "tranche/tranchelaw23.HoldingTurns", spec := "holdingTurns", unfollowed := true, recurses := true, apart := false, narrowed := true }
def HoldingTurnsUptoSaid : Prop := holdingTurnsUptoRow.holds Try.pinned (OpenSpec.upto holdingTurnsSpec)

end Rows
end Go.Proofs.Ythlpfefckhdpiaa
