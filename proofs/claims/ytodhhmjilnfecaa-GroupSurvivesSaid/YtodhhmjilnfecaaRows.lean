/-
  No cell of these rows narrows 'for every input' (looked for: loops, veiled, ifaces, maps, wideKeys, modest, calm, conditions, laid).
  DERIVED. THE GIVEN ROWS OF THIS SEAT. 8 by the template 'for every input the law returns true; each argument reads behind the call as it read before'; 0 by the template 'total and deterministic' (their statements: YtodhhmjilnfecaaTotals.lean).
  GIVEN WITH THE SEED: the statements are not yours to turn. If you find one false, say at which input.
  Laid BY PROGRAM, IN A SANDBOX (cutbox-rows.mjs): the forced cells as the released guide's own fill.sh prints them over the translation 735b04a13a6e8d42… (all of the seat's roots in one cut). By AI agents, Wed Nov 11 2026. No macro, syntax, notation, axiom, sorry.
-/
import Derived.Test.YtodhhmjilnfecaaChecked
import GoSem.Claim
import GoSem.ClaimJoined
import GoSem.ClaimMapViews
import Derived.JoinedTies
import Derived.KernelRfl
namespace Go.Proofs.Ytodhhmjilnfecaa
/- THE CELL 'sum', in the pinned program and in every row, IS THE sha256 OF THE DUMP (.gsa) THAT YtodhhmjilnfecaaProg.lean LOADS. Nothing in Lean hashes anything: it is a label: what it is worth is what the hold of that sum in a sandbox is worth. -/
noncomputable def Try.pinned : Pinned := { name := "ytodhhmjilnfecaa", sum := "735b04a13a6e8d423ca8603e3e783458b3d0e76c590e0b8f37fd0a25ba2a3c78", checked := Try.checked }
namespace Rows
def none {H : Type} : Left H := { results := [], args := [] }

/-- 'standbylaw20.GroupIssues': WHATEVER THE INPUT: true; the input reads as it did. -/
def groupIssuesSpec : ChangeSpec := { name := "groupIssues", fn := fun _ => fun
  | [d1, d2, d3] => { results := [.lit (.bool true)], args := [d1, d2, d3] }
  | _ => none }
def groupIssuesRow : OpenClaim := { program := "ytodhhmjilnfecaa", sum := "735b04a13a6e8d423ca8603e3e783458b3d0e76c590e0b8f37fd0a25ba2a3c78", func := "standby/standbylaw20.GroupIssues", spec := "groupIssues", unfollowed := true, recurses := true, apart := false }
def GroupIssuesSaid : Prop := groupIssuesRow.holds Try.pinned (OpenSpec.ofChange groupIssuesSpec)

/-- ITS FALSE NEIGHBOUR: 'it returns false'. Refute it at one input. -/
def groupIssuesWrong : ChangeSpec := { name := "groupIssues", fn := fun _ => fun
  | [d1, d2, d3] => { results := [.lit (.bool false)], args := [d1, d2, d3] }
  | _ => none }
def GroupIssuesWrongFalsely : Prop := groupIssuesRow.holds Try.pinned (OpenSpec.ofChange groupIssuesWrong)

/-- 'standbylaw20.GroupFreezes': WHATEVER THE INPUT: true; the input reads as it did. -/
def groupFreezesSpec : ChangeSpec := { name := "groupFreezes", fn := fun _ => fun
  | [d] => { results := [.lit (.bool true)], args := [d] }
  | _ => none }
def groupFreezesRow : OpenClaim := { program := "ytodhhmjilnfecaa", sum := "735b04a13a6e8d423ca8603e3e783458b3d0e76c590e0b8f37fd0a25ba2a3c78", func := "standby/standbylaw20.GroupFreezes", spec := "groupFreezes", unfollowed := true, recurses := true, apart := false }
def GroupFreezesSaid : Prop := groupFreezesRow.holds Try.pinned (OpenSpec.ofChange groupFreezesSpec)

/-- ITS FALSE NEIGHBOUR: 'it returns false'. Refute it at one input. -/
def groupFreezesWrong : ChangeSpec := { name := "groupFreezes", fn := fun _ => fun
  | [d] => { results := [.lit (.bool false)], args := [d] }
  | _ => none }
def GroupFreezesWrongFalsely : Prop := groupFreezesRow.holds Try.pinned (OpenSpec.ofChange groupFreezesWrong)

/-- 'standbylaw20.GroupRecovers': WHATEVER THE INPUT: true; the input reads as it did. -/
def groupRecoversSpec : ChangeSpec := { name := "groupRecovers", fn := fun _ => fun
  | [d1, d2] => { results := [.lit (.bool true)], args := [d1, d2] }
  | _ => none }
def groupRecoversRow : OpenClaim := { program := "ytodhhmjilnfecaa", sum := "735b04a13a6e8d423ca8603e3e783458b3d0e76c590e0b8f37fd0a25ba2a3c78", func := "standby/standbylaw20.GroupRecovers", spec := "groupRecovers", unfollowed := true, recurses := true, apart := false }
def GroupRecoversSaid : Prop := groupRecoversRow.holds Try.pinned (OpenSpec.ofChange groupRecoversSpec)

/-- ITS FALSE NEIGHBOUR: 'it returns false'. Refute it at one input. -/
def groupRecoversWrong : ChangeSpec := { name := "groupRecovers", fn := fun _ => fun
  | [d1, d2] => { results := [.lit (.bool false)], args := [d1, d2] }
  | _ => none }
def GroupRecoversWrongFalsely : Prop := groupRecoversRow.holds Try.pinned (OpenSpec.ofChange groupRecoversWrong)

/-- 'standbylaw20.GroupHolds': WHATEVER THE INPUT: true; the input reads as it did. -/
def groupHoldsSpec : ChangeSpec := { name := "groupHolds", fn := fun _ => fun
  | [d1, d2, d3] => { results := [.lit (.bool true)], args := [d1, d2, d3] }
  | _ => none }
def groupHoldsRow : OpenClaim := { program := "ytodhhmjilnfecaa", sum := "735b04a13a6e8d423ca8603e3e783458b3d0e76c590e0b8f37fd0a25ba2a3c78", func := "standby/standbylaw20.GroupHolds", spec := "groupHolds", unfollowed := true, recurses := true, apart := false }
def GroupHoldsSaid : Prop := groupHoldsRow.holds Try.pinned (OpenSpec.ofChange groupHoldsSpec)

/-- ITS FALSE NEIGHBOUR: 'it returns false'. Refute it at one input. -/
def groupHoldsWrong : ChangeSpec := { name := "groupHolds", fn := fun _ => fun
  | [d1, d2, d3] => { results := [.lit (.bool false)], args := [d1, d2, d3] }
  | _ => none }
def GroupHoldsWrongFalsely : Prop := groupHoldsRow.holds Try.pinned (OpenSpec.ofChange groupHoldsWrong)

/-- 'standbylaw20.GroupMakes': WHATEVER THE INPUT: true; the input reads as it did. -/
def groupMakesSpec : ChangeSpec := { name := "groupMakes", fn := fun _ => fun
  | [d1, d2] => { results := [.lit (.bool true)], args := [d1, d2] }
  | _ => none }
def groupMakesRow : OpenClaim := { program := "ytodhhmjilnfecaa", sum := "735b04a13a6e8d423ca8603e3e783458b3d0e76c590e0b8f37fd0a25ba2a3c78", func := "standby/standbylaw20.GroupMakes", spec := "groupMakes", unfollowed := true, recurses := true, apart := false }
def GroupMakesSaid : Prop := groupMakesRow.holds Try.pinned (OpenSpec.ofChange groupMakesSpec)

/-- ITS FALSE NEIGHBOUR: 'it returns false'. Refute it at one input. -/
def groupMakesWrong : ChangeSpec := { name := "groupMakes", fn := fun _ => fun
  | [d1, d2] => { results := [.lit (.bool false)], args := [d1, d2] }
  | _ => none }
def GroupMakesWrongFalsely : Prop := groupMakesRow.holds Try.pinned (OpenSpec.ofChange groupMakesWrong)

/-- 'standbylaw20.GroupAccounts': WHATEVER THE INPUT: true; the input reads as it did. -/
def groupAccountsSpec : ChangeSpec := { name := "groupAccounts", fn := fun _ => fun
  | [d1, d2] => { results := [.lit (.bool true)], args := [d1, d2] }
  | _ => none }
def groupAccountsRow : OpenClaim := { program := "ytodhhmjilnfecaa", sum := "735b04a13a6e8d423ca8603e3e783458b3d0e76c590e0b8f37fd0a25ba2a3c78", func := "standby/standbylaw20.GroupAccounts", spec := "groupAccounts", unfollowed := true, recurses := true, apart := false }
def GroupAccountsSaid : Prop := groupAccountsRow.holds Try.pinned (OpenSpec.ofChange groupAccountsSpec)

/-- ITS FALSE NEIGHBOUR: 'it returns false'. Refute it at one input. -/
def groupAccountsWrong : ChangeSpec := { name := "groupAccounts", fn := fun _ => fun
  | [d1, d2] => { results := [.lit (.bool false)], args := [d1, d2] }
  | _ => none }
def GroupAccountsWrongFalsely : Prop := groupAccountsRow.holds Try.pinned (OpenSpec.ofChange groupAccountsWrong)

/-- 'standbylaw20.GroupCuts': WHATEVER THE INPUT: true; the input reads as it did. -/
def groupCutsSpec : ChangeSpec := { name := "groupCuts", fn := fun _ => fun
  | [d1, d2, d3] => { results := [.lit (.bool true)], args := [d1, d2, d3] }
  | _ => none }
def groupCutsRow : OpenClaim := { program := "ytodhhmjilnfecaa", sum := "735b04a13a6e8d423ca8603e3e783458b3d0e76c590e0b8f37fd0a25ba2a3c78", func := "standby/standbylaw20.GroupCuts", spec := "groupCuts", unfollowed := true, recurses := true, apart := false }
def GroupCutsSaid : Prop := groupCutsRow.holds Try.pinned (OpenSpec.ofChange groupCutsSpec)

/-- ITS FALSE NEIGHBOUR: 'it returns false'. Refute it at one input. -/
def groupCutsWrong : ChangeSpec := { name := "groupCuts", fn := fun _ => fun
  | [d1, d2, d3] => { results := [.lit (.bool false)], args := [d1, d2, d3] }
  | _ => none }
def GroupCutsWrongFalsely : Prop := groupCutsRow.holds Try.pinned (OpenSpec.ofChange groupCutsWrong)

/-- 'standbylaw20.GroupSurvives': WHATEVER THE INPUT: true; the input reads as it did. -/
def groupSurvivesSpec : ChangeSpec := { name := "groupSurvives", fn := fun _ => fun
  | [d1, d2, d3] => { results := [.lit (.bool true)], args := [d1, d2, d3] }
  | _ => none }
def groupSurvivesRow : OpenClaim := { program := "ytodhhmjilnfecaa", sum := "735b04a13a6e8d423ca8603e3e783458b3d0e76c590e0b8f37fd0a25ba2a3c78", func := "standby/standbylaw20.GroupSurvives", spec := "groupSurvives", unfollowed := true, recurses := true, apart := false }
def GroupSurvivesSaid : Prop := groupSurvivesRow.holds Try.pinned (OpenSpec.ofChange groupSurvivesSpec)

/-- ITS FALSE NEIGHBOUR: 'it returns false'. Refute it at one input. -/
def groupSurvivesWrong : ChangeSpec := { name := "groupSurvives", fn := fun _ => fun
  | [d1, d2, d3] => { results := [.lit (.bool false)], args := [d1, d2, d3] }
  | _ => none }
def GroupSurvivesWrongFalsely : Prop := groupSurvivesRow.holds Try.pinned (OpenSpec.ofChange groupSurvivesWrong)

/- THE SECOND FORM. 'bulk': how many values and letters a reading holds, each counted each time it is reached (what is shared counts as often as it is met; a slice's spare places count too). A statement '..UptoSaid' is the law's where the arguments, and the package variables that the reading takes, are together of bulk at most 1048576: NARROWER than '..Said'. Prove '..Said' where nothing that the law and all that it calls make is longer than what came in: it says more and counts as full. Else prove '..UptoSaid'. A law counts once. -/
mutual
def uptoBulk {H : Type} : DataW H → Nat
  | .lit (.string bytes) => bytes.length + 1
  | .lit _ => 1
  | .nil => 1
  | .ptr d => uptoBulk d + 1
  | .slice elems spare => uptoBulkAll elems + uptoBulkAll spare + 1
  | .agg parts => uptoBulkAll parts + 1
  | .iface _ d => uptoBulk d + 1
  | .map entries => uptoBulkEntries entries + 1
  | .held _ => 1
def uptoBulkAll {H : Type} : List (DataW H) → Nat
  | [] => 0
  | d :: r => uptoBulk d + uptoBulkAll r
def uptoBulkEntries {H : Type} : List (Lit × DataW H) → Nat
  | [] => 0
  | x :: r => uptoBulkEntry x + uptoBulkEntries r
def uptoBulkEntry {H : Type} : Lit × DataW H → Nat
  | (.string bytes, d) => bytes.length + uptoBulk d + 1
  | (_, d) => uptoBulk d + 1
 end
def uptoSmall : (H : Type) → List (DataW H) → Bool := fun _ ds => decide (uptoBulkAll ds ≤ 1048576)
def OpenSpec.upto (s : _root_.Go.ChangeSpec) : _root_.Go.OpenSpec := { _root_.Go.OpenSpec.ofChange s with cond := some uptoSmall }

/-- 'standbylaw20.GroupIssues', WHERE WHAT IT READS IS OF BULK AT MOST 1048576: true; the input reads as it did. -/
def groupIssuesUptoRow : OpenClaim := { program := "ytodhhmjilnfecaa", sum := "735b04a13a6e8d423ca8603e3e783458b3d0e76c590e0b8f37fd0a25ba2a3c78", func := "standby/standbylaw20.GroupIssues", spec := "groupIssues", unfollowed := true, recurses := true, apart := false, narrowed := true }
def GroupIssuesUptoSaid : Prop := groupIssuesUptoRow.holds Try.pinned (OpenSpec.upto groupIssuesSpec)

/-- 'standbylaw20.GroupFreezes', WHERE WHAT IT READS IS OF BULK AT MOST 1048576: true; the input reads as it did. -/
def groupFreezesUptoRow : OpenClaim := { program := "ytodhhmjilnfecaa", sum := "735b04a13a6e8d423ca8603e3e783458b3d0e76c590e0b8f37fd0a25ba2a3c78", func := "standby/standbylaw20.GroupFreezes", spec := "groupFreezes", unfollowed := true, recurses := true, apart := false, narrowed := true }
def GroupFreezesUptoSaid : Prop := groupFreezesUptoRow.holds Try.pinned (OpenSpec.upto groupFreezesSpec)

/-- 'standbylaw20.GroupRecovers', WHERE WHAT IT READS IS OF BULK AT MOST 1048576: true; the input reads as it did. -/
def groupRecoversUptoRow : OpenClaim := { program := "ytodhhmjilnfecaa", sum := "735b04a13a6e8d423ca8603e3e783458b3d0e76c590e0b8f37fd0a25ba2a3c78", func := "standby/standbylaw20.GroupRecovers", spec := "groupRecovers", unfollowed := true, recurses := true, apart := false, narrowed := true }
def GroupRecoversUptoSaid : Prop := groupRecoversUptoRow.holds Try.pinned (OpenSpec.upto groupRecoversSpec)

/-- 'standbylaw20.GroupHolds', WHERE WHAT IT READS IS OF BULK AT MOST 1048576: true; the input reads as it did. -/
def groupHoldsUptoRow : OpenClaim := { program := "ytodhhmjilnfecaa", sum := "735b04a13a6e8d423ca8603e3e783458b3d0e76c590e0b8f37fd0a25ba2a3c78", func := "standby/standbylaw20.GroupHolds", spec := "groupHolds", unfollowed := true, recurses := true, apart := false, narrowed := true }
def GroupHoldsUptoSaid : Prop := groupHoldsUptoRow.holds Try.pinned (OpenSpec.upto groupHoldsSpec)

/-- 'standbylaw20.GroupMakes', WHERE WHAT IT READS IS OF BULK AT MOST 1048576: true; the input reads as it did. -/
def groupMakesUptoRow : OpenClaim := { program := "ytodhhmjilnfecaa", sum := "735b04a13a6e8d423ca8603e3e783458b3d0e76c590e0b8f37fd0a25ba2a3c78", func := "standby/standbylaw20.GroupMakes", spec := "groupMakes", unfollowed := true, recurses := true, apart := false, narrowed := true }
def GroupMakesUptoSaid : Prop := groupMakesUptoRow.holds Try.pinned (OpenSpec.upto groupMakesSpec)

/-- 'standbylaw20.GroupAccounts', WHERE WHAT IT READS IS OF BULK AT MOST 1048576: true; the input reads as it did. -/
def groupAccountsUptoRow : OpenClaim := { program := "ytodhhmjilnfecaa", sum := "735b04a13a6e8d423ca8603e3e783458b3d0e76c590e0b8f37fd0a25ba2a3c78", func := "standby/standbylaw20.GroupAccounts", spec := "groupAccounts", unfollowed := true, recurses := true, apart := false, narrowed := true }
def GroupAccountsUptoSaid : Prop := groupAccountsUptoRow.holds Try.pinned (OpenSpec.upto groupAccountsSpec)

/-- 'standbylaw20.GroupCuts', WHERE WHAT IT READS IS OF BULK AT MOST 1048576: true; the input reads as it did. -/
def groupCutsUptoRow : OpenClaim := { program := "ytodhhmjilnfecaa", sum := "735b04a13a6e8d423ca8603e3e783458b3d0e76c590e0b8f37fd0a25ba2a3c78", func := "standby/standbylaw20.GroupCuts", spec := "groupCuts", unfollowed := true, recurses := true, apart := false, narrowed := true }
def GroupCutsUptoSaid : Prop := groupCutsUptoRow.holds Try.pinned (OpenSpec.upto groupCutsSpec)

/-- 'standbylaw20.GroupSurvives', WHERE WHAT IT READS IS OF BULK AT MOST 1048576: true; the input reads as it did. -/
def groupSurvivesUptoRow : OpenClaim := { program := "ytodhhmjilnfecaa", sum := "735b04a13a6e8d423ca8603e3e783458b3d0e76c590e0b8f37fd0a25ba2a3c78", func := "standby/standbylaw20.GroupSurvives", spec := "groupSurvives", unfollowed := true, recurses := true, apart := false, narrowed := true }
def GroupSurvivesUptoSaid : Prop := groupSurvivesUptoRow.holds Try.pinned (OpenSpec.upto groupSurvivesSpec)

end Rows
end Go.Proofs.Ytodhhmjilnfecaa
