/-
  NARROWER THAN 'FOR EVERY INPUT', by the rows' own cells (each row's printed sentence says how): SemFirst: loops · SemEvals: loops · SemTurned: loops · SemNamed: loops.
  DERIVED. THE GIVEN ROWS OF THIS SEAT. 7 by the template 'for every input the law returns true; each argument reads behind the call as it read before'; 0 by the template 'total and deterministic' (their statements: YtkojnaebkgekaaaTotals.lean).
  GIVEN WITH THE SEED: the statements are not yours to turn. If you find one false, say at which input.
  Laid BY PROGRAM, IN A SANDBOX (cutbox-rows.mjs): the forced cells as the released guide's own fill.sh prints them over the translation a8ac8a95c64f971e… (all of the seat's roots in one cut). By AI agents, Wed Nov 11 2026. No macro, syntax, notation, axiom, sorry.
-/
import Derived.Test.YtkojnaebkgekaaaChecked
import GoSem.Claim
import GoSem.ClaimJoined
import GoSem.ClaimMapViews
import Derived.JoinedTies
import Derived.KernelRfl
namespace Go.Proofs.Ytkojnaebkgekaaa
/- THE CELL 'sum', in the pinned program and in every row, IS THE sha256 OF THE DUMP (.gsa) THAT YtkojnaebkgekaaaProg.lean LOADS. Nothing in Lean hashes anything: it is a label: what it is worth is what the hold of that sum in a sandbox is worth. -/
noncomputable def Try.pinned : Pinned := { name := "ytkojnaebkgekaaa", sum := "a8ac8a95c64f971ee5de077e15efd6ae057c46ca8d9f6a1ed4feaf86f6ed2a98", checked := Try.checked }
namespace Rows
def none {H : Type} : Left H := { results := [], args := [] }

/-- 'ravelinlaw07.SemFirst': WHATEVER THE INPUT: true; the input reads as it did. -/
def semFirstSpec : ChangeSpec := { name := "semFirst", fn := fun _ => fun
  | [d] => { results := [.lit (.bool true)], args := [d] }
  | _ => none }
def semFirstRow : OpenClaim := { program := "ytkojnaebkgekaaa", sum := "a8ac8a95c64f971ee5de077e15efd6ae057c46ca8d9f6a1ed4feaf86f6ed2a98", func := "ravelin/ravelinlaw07.SemFirst", spec := "semFirst", unfollowed := true, recurses := true, loops := true, plainKeys := false, apart := false }
def SemFirstSaid : Prop := semFirstRow.holds Try.pinned (OpenSpec.ofChange semFirstSpec)

/-- ITS FALSE NEIGHBOUR: 'it returns false'. Refute it at one input. -/
def semFirstWrong : ChangeSpec := { name := "semFirst", fn := fun _ => fun
  | [d] => { results := [.lit (.bool false)], args := [d] }
  | _ => none }
def SemFirstWrongFalsely : Prop := semFirstRow.holds Try.pinned (OpenSpec.ofChange semFirstWrong)

/-- 'ravelinlaw07.SemEvals': WHATEVER THE INPUT: true; the input reads as it did. -/
def semEvalsSpec : ChangeSpec := { name := "semEvals", fn := fun _ => fun
  | [d1, d2] => { results := [.lit (.bool true)], args := [d1, d2] }
  | _ => none }
def semEvalsRow : OpenClaim := { program := "ytkojnaebkgekaaa", sum := "a8ac8a95c64f971ee5de077e15efd6ae057c46ca8d9f6a1ed4feaf86f6ed2a98", func := "ravelin/ravelinlaw07.SemEvals", spec := "semEvals", unfollowed := true, recurses := true, loops := true, plainKeys := false, apart := false }
def SemEvalsSaid : Prop := semEvalsRow.holds Try.pinned (OpenSpec.ofChange semEvalsSpec)

/-- ITS FALSE NEIGHBOUR: 'it returns false'. Refute it at one input. -/
def semEvalsWrong : ChangeSpec := { name := "semEvals", fn := fun _ => fun
  | [d1, d2] => { results := [.lit (.bool false)], args := [d1, d2] }
  | _ => none }
def SemEvalsWrongFalsely : Prop := semEvalsRow.holds Try.pinned (OpenSpec.ofChange semEvalsWrong)

/-- 'ravelinlaw07.SemTurned': WHATEVER THE INPUT: true; the input reads as it did. -/
def semTurnedSpec : ChangeSpec := { name := "semTurned", fn := fun _ => fun
  | [d1, d2] => { results := [.lit (.bool true)], args := [d1, d2] }
  | _ => none }
def semTurnedRow : OpenClaim := { program := "ytkojnaebkgekaaa", sum := "a8ac8a95c64f971ee5de077e15efd6ae057c46ca8d9f6a1ed4feaf86f6ed2a98", func := "ravelin/ravelinlaw07.SemTurned", spec := "semTurned", unfollowed := true, recurses := true, loops := true, plainKeys := false, apart := false }
def SemTurnedSaid : Prop := semTurnedRow.holds Try.pinned (OpenSpec.ofChange semTurnedSpec)

/-- ITS FALSE NEIGHBOUR: 'it returns false'. Refute it at one input. -/
def semTurnedWrong : ChangeSpec := { name := "semTurned", fn := fun _ => fun
  | [d1, d2] => { results := [.lit (.bool false)], args := [d1, d2] }
  | _ => none }
def SemTurnedWrongFalsely : Prop := semTurnedRow.holds Try.pinned (OpenSpec.ofChange semTurnedWrong)

/-- 'ravelinlaw07.SemTables': WHATEVER THE INPUT: true; the input reads as it did. -/
def semTablesSpec : ChangeSpec := { name := "semTables", fn := fun _ => fun
  | [d1, d2, d3] => { results := [.lit (.bool true)], args := [d1, d2, d3] }
  | _ => none }
def semTablesRow : OpenClaim := { program := "ytkojnaebkgekaaa", sum := "a8ac8a95c64f971ee5de077e15efd6ae057c46ca8d9f6a1ed4feaf86f6ed2a98", func := "ravelin/ravelinlaw07.SemTables", spec := "semTables", unfollowed := true, recurses := true, plainKeys := false, apart := false }
def SemTablesSaid : Prop := semTablesRow.holds Try.pinned (OpenSpec.ofChange semTablesSpec)

/-- ITS FALSE NEIGHBOUR: 'it returns false'. Refute it at one input. -/
def semTablesWrong : ChangeSpec := { name := "semTables", fn := fun _ => fun
  | [d1, d2, d3] => { results := [.lit (.bool false)], args := [d1, d2, d3] }
  | _ => none }
def SemTablesWrongFalsely : Prop := semTablesRow.holds Try.pinned (OpenSpec.ofChange semTablesWrong)

/-- 'ravelinlaw07.SemNamed': WHATEVER THE INPUT: true; the input reads as it did. -/
def semNamedSpec : ChangeSpec := { name := "semNamed", fn := fun _ => fun
  | [d1, d2] => { results := [.lit (.bool true)], args := [d1, d2] }
  | _ => none }
def semNamedRow : OpenClaim := { program := "ytkojnaebkgekaaa", sum := "a8ac8a95c64f971ee5de077e15efd6ae057c46ca8d9f6a1ed4feaf86f6ed2a98", func := "ravelin/ravelinlaw07.SemNamed", spec := "semNamed", unfollowed := true, recurses := true, loops := true, plainKeys := false, apart := false }
def SemNamedSaid : Prop := semNamedRow.holds Try.pinned (OpenSpec.ofChange semNamedSpec)

/-- ITS FALSE NEIGHBOUR: 'it returns false'. Refute it at one input. -/
def semNamedWrong : ChangeSpec := { name := "semNamed", fn := fun _ => fun
  | [d1, d2] => { results := [.lit (.bool false)], args := [d1, d2] }
  | _ => none }
def SemNamedWrongFalsely : Prop := semNamedRow.holds Try.pinned (OpenSpec.ofChange semNamedWrong)

/-- 'ravelinlaw09.LowerSays': WHATEVER THE INPUT: true; the input reads as it did. -/
def lowerSaysSpec : ChangeSpec := { name := "lowerSays", fn := fun _ => fun
  | [d1, d2, d3] => { results := [.lit (.bool true)], args := [d1, d2, d3] }
  | _ => none }
def lowerSaysRow : OpenClaim := { program := "ytkojnaebkgekaaa", sum := "a8ac8a95c64f971ee5de077e15efd6ae057c46ca8d9f6a1ed4feaf86f6ed2a98", func := "ravelin/ravelinlaw09.LowerSays", spec := "lowerSays", unfollowed := true, recurses := true, plainKeys := false, apart := false }
def LowerSaysSaid : Prop := lowerSaysRow.holds Try.pinned (OpenSpec.ofChange lowerSaysSpec)

/-- ITS FALSE NEIGHBOUR: 'it returns false'. Refute it at one input. -/
def lowerSaysWrong : ChangeSpec := { name := "lowerSays", fn := fun _ => fun
  | [d1, d2, d3] => { results := [.lit (.bool false)], args := [d1, d2, d3] }
  | _ => none }
def LowerSaysWrongFalsely : Prop := lowerSaysRow.holds Try.pinned (OpenSpec.ofChange lowerSaysWrong)

/-- 'ravelinlaw09.LowerNames': WHATEVER THE INPUT: true; the input reads as it did. -/
def lowerNamesSpec : ChangeSpec := { name := "lowerNames", fn := fun _ => fun
  | [] => { results := [.lit (.bool true)], args := [] }
  | _ => none }
def lowerNamesRow : OpenClaim := { program := "ytkojnaebkgekaaa", sum := "a8ac8a95c64f971ee5de077e15efd6ae057c46ca8d9f6a1ed4feaf86f6ed2a98", func := "ravelin/ravelinlaw09.LowerNames", spec := "lowerNames", unfollowed := true, recurses := true, plainKeys := false, apart := false }
def LowerNamesSaid : Prop := lowerNamesRow.holds Try.pinned (OpenSpec.ofChange lowerNamesSpec)

/-- ITS FALSE NEIGHBOUR: 'it returns false'. Refute it at one input. -/
def lowerNamesWrong : ChangeSpec := { name := "lowerNames", fn := fun _ => fun
  | [] => { results := [.lit (.bool false)], args := [] }
  | _ => none }
def LowerNamesWrongFalsely : Prop := lowerNamesRow.holds Try.pinned (OpenSpec.ofChange lowerNamesWrong)

/- THE SECOND FORM. 'bulk': how many values and letters a reading holds, each counted each time it is reached (what is shared counts as often as it is met; a slice's spare places count too). A statement '..UptoSaid' is the law's where the arguments, and the package variables that the reading takes, are together of bulk at most 1048576: NARROWER than '..Said'. Prove '..Said' where nothing that the law and all that it calls make is longer than what came in: it says more and counts as full. Else prove '..UptoSaid'. A law counts once. -/
mutual
def uptoBulk {H : Type} : DataW H → Nat
  | .lit (.string bytes) => bytes.length + 1
  | .lit _ => 1
  | .nil => 1
  | .ptr d => uptoBulk d + 1
  | .slice elems spare => uptoBulkAll elems + uptoBulkAll spare + 1
  | .agg parts => uptoBulkAll parts + 1
  | .iface _ d => uptoBulk d + 1
  | .map entries => uptoBulkEntries entries + 1
  | .held _ => 1
def uptoBulkAll {H : Type} : List (DataW H) → Nat
  | [] => 0
  | d :: r => uptoBulk d + uptoBulkAll r
def uptoBulkEntries {H : Type} : List (Lit × DataW H) → Nat
  | [] => 0
  | x :: r => uptoBulkEntry x + uptoBulkEntries r
def uptoBulkEntry {H : Type} : Lit × DataW H → Nat
  | (.string bytes, d) => bytes.length + uptoBulk d + 1
  | (_, d) => uptoBulk d + 1
 end
def uptoSmall : (H : Type) → List (DataW H) → Bool := fun _ ds => decide (uptoBulkAll ds ≤ 1048576)
def OpenSpec.upto (s : _root_.Go.ChangeSpec) : _root_.Go.OpenSpec := { _root_.Go.OpenSpec.ofChange s with cond := some uptoSmall }

/-- 'ravelinlaw07.SemFirst', WHERE WHAT IT READS IS OF BULK AT MOST 1048576: true; the input reads as it did. -/
def semFirstUptoRow : OpenClaim := { program := "ytkojnaebkgekaaa", sum := "a8ac8a95c64f971ee5de077e15efd6ae057c46ca8d9f6a1ed4feaf86f6ed2a98", func := "ravelin/ravelinlaw07.SemFirst", spec := "semFirst", unfollowed := true, recurses := true, loops := true, plainKeys := false, apart := false, narrowed := true }
def SemFirstUptoSaid : Prop := semFirstUptoRow.holds Try.pinned (OpenSpec.upto semFirstSpec)

/-- 'ravelinlaw07.SemEvals', WHERE WHAT IT READS IS OF BULK AT MOST 1048576: true; the input reads as it did. -/
def semEvalsUptoRow : OpenClaim := { program := "ytkojnaebkgekaaa", sum := "a8ac8a95c64f971ee5de077e15efd6ae057c46ca8d9f6a1ed4feaf86f6ed2a98", func := "ravelin/ravelinlaw07.SemEvals", spec := "semEvals", unfollowed := true, recurses := true, loops := true, plainKeys := false, apart := false, narrowed := true }
def SemEvalsUptoSaid : Prop := semEvalsUptoRow.holds Try.pinned (OpenSpec.upto semEvalsSpec)

/-- 'ravelinlaw07.SemTurned', WHERE WHAT IT READS IS OF BULK AT MOST 1048576: true; the input reads as it did. -/
def semTurnedUptoRow : OpenClaim := { program := "ytkojnaebkgekaaa", sum := "a8ac8a95c64f971ee5de077e15efd6ae057c46ca8d9f6a1ed4feaf86f6ed2a98", func := "ravelin/ravelinlaw07.SemTurned", spec := "semTurned", unfollowed := true, recurses := true, loops := true, plainKeys := false, apart := false, narrowed := true }
def SemTurnedUptoSaid : Prop := semTurnedUptoRow.holds Try.pinned (OpenSpec.upto semTurnedSpec)

/-- 'ravelinlaw07.SemTables', WHERE WHAT IT READS IS OF BULK AT MOST 1048576: true; the input reads as it did. -/
def semTablesUptoRow : OpenClaim := { program := "ytkojnaebkgekaaa", sum := "a8ac8a95c64f971ee5de077e15efd6ae057c46ca8d9f6a1ed4feaf86f6ed2a98", func := "ravelin/ravelinlaw07.SemTables", spec := "semTables", unfollowed := true, recurses := true, plainKeys := false, apart := false, narrowed := true }
def SemTablesUptoSaid : Prop := semTablesUptoRow.holds Try.pinned (OpenSpec.upto semTablesSpec)

/-- 'ravelinlaw07.SemNamed', WHERE WHAT IT READS IS OF BULK AT MOST 1048576: true; the input reads as it did. -/
def semNamedUptoRow : OpenClaim := { program := "ytkojnaebkgekaaa", sum := "a8ac8a95c64f971ee5de077e15efd6ae057c46ca8d9f6a1ed4feaf86f6ed2a98", func := "ravelin/ravelinlaw07.SemNamed", spec := "semNamed", unfollowed := true, recurses := true, loops := true, plainKeys := false, apart := false, narrowed := true }
def SemNamedUptoSaid : Prop := semNamedUptoRow.holds Try.pinned (OpenSpec.upto semNamedSpec)

/-- 'ravelinlaw09.LowerSays', WHERE WHAT IT READS IS OF BULK AT MOST 1048576: true; the input reads as it did. -/
def lowerSaysUptoRow : OpenClaim := { program := "ytkojnaebkgekaaa", sum := "a8ac8a95c64f971ee5de077e15efd6ae057c46ca8d9f6a1ed4feaf86f6ed2a98", func := "ravelin/ravelinlaw09.LowerSays", spec := "lowerSays", unfollowed := true, recurses := true, plainKeys := false, apart := false, narrowed := true }
def LowerSaysUptoSaid : Prop := lowerSaysUptoRow.holds Try.pinned (OpenSpec.upto lowerSaysSpec)

/-- 'ravelinlaw09.LowerNames', WHERE WHAT IT READS IS OF BULK AT MOST 1048576: true; the input reads as it did. -/
def lowerNamesUptoRow : OpenClaim := { program := "ytkojnaebkgekaaa", sum := "a8ac8a95c64f971ee5de077e15efd6ae057c46ca8d9f6a1ed4feaf86f6ed2a98", func := "ravelin/ravelinlaw09.LowerNames", spec := "lowerNames", unfollowed := true, recurses := true, plainKeys := false, apart := false, narrowed := true }
def LowerNamesUptoSaid : Prop := lowerNamesUptoRow.holds Try.pinned (OpenSpec.upto lowerNamesSpec)

end Rows
end Go.Proofs.Ytkojnaebkgekaaa
