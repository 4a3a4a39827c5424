/-
  No cell of these rows narrows 'for every input' (looked for: loops, veiled, ifaces, maps, wideKeys, modest, calm, conditions, laid).
  DERIVED. THE GIVEN ROWS OF THIS SEAT. 8 by the template 'for every input the law returns true; each argument reads behind the call as it read before'; 0 by the template 'total and deterministic' (their statements: YtoechplbhbalaaaTotals.lean).
  GIVEN WITH THE SEED: the statements are not yours to turn. If you find one false, say at which input.
  Laid BY PROGRAM, IN A SANDBOX (cutbox-rows.mjs): the forced cells as the released guide's own fill.sh prints them over the translation 5eaba74802eb6cde… (all of the seat's roots in one cut). By AI agents, Wed Nov 11 2026. No macro, syntax, notation, axiom, sorry.
-/
import Derived.Test.YtoechplbhbalaaaChecked
import GoSem.Claim
import GoSem.ClaimJoined
import GoSem.ClaimMapViews
import Derived.JoinedTies
import Derived.KernelRfl
namespace Go.Proofs.Ytoechplbhbalaaa
/- THE CELL 'sum', in the pinned program and in every row, IS THE sha256 OF THE DUMP (.gsa) THAT YtoechplbhbalaaaProg.lean LOADS. Nothing in Lean hashes anything: it is a label: what it is worth is what the hold of that sum in a sandbox is worth. -/
noncomputable def Try.pinned : Pinned := { name := "ytoechplbhbalaaa", sum := "5eaba74802eb6cde2066c812e4b3b1a90b1c3d85901e010899dea8b9d9d54f26", checked := Try.checked }
namespace Rows
def none {H : Type} : Left H := { results := [], args := [] }

/-- 'standbylaw21.BarrierStarts': WHATEVER THE INPUT: true; the input reads as it did. -/
def barrierStartsSpec : ChangeSpec := { name := "barrierStarts", fn := fun _ => fun
  | [d1, d2, d3] => { results := [.lit (.bool true)], args := [d1, d2, d3] }
  | _ => none }
def barrierStartsRow : OpenClaim := { program := "ytoechplbhbalaaa", sum := "5eaba74802eb6cde2066c812e4b3b1a90b1c3d85901e010899dea8b9d9d54f26", func := "standby/standbylaw21.BarrierStarts", spec := "barrierStarts", unfollowed := true, recurses := true, apart := false }
def BarrierStartsSaid : Prop := barrierStartsRow.holds Try.pinned (OpenSpec.ofChange barrierStartsSpec)

/-- ITS FALSE NEIGHBOUR: 'it returns false'. Refute it at one input. -/
def barrierStartsWrong : ChangeSpec := { name := "barrierStarts", fn := fun _ => fun
  | [d1, d2, d3] => { results := [.lit (.bool false)], args := [d1, d2, d3] }
  | _ => none }
def BarrierStartsWrongFalsely : Prop := barrierStartsRow.holds Try.pinned (OpenSpec.ofChange barrierStartsWrong)

/-- 'standbylaw21.BarrierObeys': WHATEVER THE INPUT: true; the input reads as it did. -/
def barrierObeysSpec : ChangeSpec := { name := "barrierObeys", fn := fun _ => fun
  | [d1, d2] => { results := [.lit (.bool true)], args := [d1, d2] }
  | _ => none }
def barrierObeysRow : OpenClaim := { program := "ytoechplbhbalaaa", sum := "5eaba74802eb6cde2066c812e4b3b1a90b1c3d85901e010899dea8b9d9d54f26", func := "standby/standbylaw21.BarrierObeys", spec := "barrierObeys", unfollowed := true, recurses := true, apart := false }
def BarrierObeysSaid : Prop := barrierObeysRow.holds Try.pinned (OpenSpec.ofChange barrierObeysSpec)

/-- ITS FALSE NEIGHBOUR: 'it returns false'. Refute it at one input. -/
def barrierObeysWrong : ChangeSpec := { name := "barrierObeys", fn := fun _ => fun
  | [d1, d2] => { results := [.lit (.bool false)], args := [d1, d2] }
  | _ => none }
def BarrierObeysWrongFalsely : Prop := barrierObeysRow.holds Try.pinned (OpenSpec.ofChange barrierObeysWrong)

/-- 'standbylaw21.BarrierCollects': WHATEVER THE INPUT: true; the input reads as it did. -/
def barrierCollectsSpec : ChangeSpec := { name := "barrierCollects", fn := fun _ => fun
  | [d1, d2, d3] => { results := [.lit (.bool true)], args := [d1, d2, d3] }
  | _ => none }
def barrierCollectsRow : OpenClaim := { program := "ytoechplbhbalaaa", sum := "5eaba74802eb6cde2066c812e4b3b1a90b1c3d85901e010899dea8b9d9d54f26", func := "standby/standbylaw21.BarrierCollects", spec := "barrierCollects", unfollowed := true, recurses := true, apart := false }
def BarrierCollectsSaid : Prop := barrierCollectsRow.holds Try.pinned (OpenSpec.ofChange barrierCollectsSpec)

/-- ITS FALSE NEIGHBOUR: 'it returns false'. Refute it at one input. -/
def barrierCollectsWrong : ChangeSpec := { name := "barrierCollects", fn := fun _ => fun
  | [d1, d2, d3] => { results := [.lit (.bool false)], args := [d1, d2, d3] }
  | _ => none }
def BarrierCollectsWrongFalsely : Prop := barrierCollectsRow.holds Try.pinned (OpenSpec.ofChange barrierCollectsWrong)

/-- 'standbytop.TopBarrierGrows': WHATEVER THE INPUT: true; the input reads as it did. -/
def topBarrierGrowsSpec : ChangeSpec := { name := "topBarrierGrows", fn := fun _ => fun
  | [d1, d2, d3] => { results := [.lit (.bool true)], args := [d1, d2, d3] }
  | _ => none }
def topBarrierGrowsRow : OpenClaim := { program := "ytoechplbhbalaaa", sum := "5eaba74802eb6cde2066c812e4b3b1a90b1c3d85901e010899dea8b9d9d54f26", func := "standby/standbytop.TopBarrierGrows", spec := "topBarrierGrows", unfollowed := true, recurses := true, apart := false }
def TopBarrierGrowsSaid : Prop := topBarrierGrowsRow.holds Try.pinned (OpenSpec.ofChange topBarrierGrowsSpec)

/-- ITS FALSE NEIGHBOUR: 'it returns false'. Refute it at one input. -/
def topBarrierGrowsWrong : ChangeSpec := { name := "topBarrierGrows", fn := fun _ => fun
  | [d1, d2, d3] => { results := [.lit (.bool false)], args := [d1, d2, d3] }
  | _ => none }
def TopBarrierGrowsWrongFalsely : Prop := topBarrierGrowsRow.holds Try.pinned (OpenSpec.ofChange topBarrierGrowsWrong)

/-- 'standbylaw21.BarrierCounts': WHATEVER THE INPUT: true; the input reads as it did. -/
def barrierCountsSpec : ChangeSpec := { name := "barrierCounts", fn := fun _ => fun
  | [d1, d2, d3] => { results := [.lit (.bool true)], args := [d1, d2, d3] }
  | _ => none }
def barrierCountsRow : OpenClaim := { program := "ytoechplbhbalaaa", sum := "5eaba74802eb6cde2066c812e4b3b1a90b1c3d85901e010899dea8b9d9d54f26", func := "standby/standbylaw21.BarrierCounts", spec := "barrierCounts", unfollowed := true, recurses := true, apart := false }
def BarrierCountsSaid : Prop := barrierCountsRow.holds Try.pinned (OpenSpec.ofChange barrierCountsSpec)

/-- ITS FALSE NEIGHBOUR: 'it returns false'. Refute it at one input. -/
def barrierCountsWrong : ChangeSpec := { name := "barrierCounts", fn := fun _ => fun
  | [d1, d2, d3] => { results := [.lit (.bool false)], args := [d1, d2, d3] }
  | _ => none }
def BarrierCountsWrongFalsely : Prop := barrierCountsRow.holds Try.pinned (OpenSpec.ofChange barrierCountsWrong)

/-- 'standbylaw21.BarrierConsistent': WHATEVER THE INPUT: true; the input reads as it did. -/
def barrierConsistentSpec : ChangeSpec := { name := "barrierConsistent", fn := fun _ => fun
  | [d] => { results := [.lit (.bool true)], args := [d] }
  | _ => none }
def barrierConsistentRow : OpenClaim := { program := "ytoechplbhbalaaa", sum := "5eaba74802eb6cde2066c812e4b3b1a90b1c3d85901e010899dea8b9d9d54f26", func := "standby/standbylaw21.BarrierConsistent", spec := "barrierConsistent", unfollowed := true, recurses := true, apart := false }
def BarrierConsistentSaid : Prop := barrierConsistentRow.holds Try.pinned (OpenSpec.ofChange barrierConsistentSpec)

/-- ITS FALSE NEIGHBOUR: 'it returns false'. Refute it at one input. -/
def barrierConsistentWrong : ChangeSpec := { name := "barrierConsistent", fn := fun _ => fun
  | [d] => { results := [.lit (.bool false)], args := [d] }
  | _ => none }
def BarrierConsistentWrongFalsely : Prop := barrierConsistentRow.holds Try.pinned (OpenSpec.ofChange barrierConsistentWrong)

/-- 'standbylaw21.BarrierAcknowledges': WHATEVER THE INPUT: true; the input reads as it did. -/
def barrierAcknowledgesSpec : ChangeSpec := { name := "barrierAcknowledges", fn := fun _ => fun
  | [d] => { results := [.lit (.bool true)], args := [d] }
  | _ => none }
def barrierAcknowledgesRow : OpenClaim := { program := "ytoechplbhbalaaa", sum := "5eaba74802eb6cde2066c812e4b3b1a90b1c3d85901e010899dea8b9d9d54f26", func := "standby/standbylaw21.BarrierAcknowledges", spec := "barrierAcknowledges", unfollowed := true, recurses := true, apart := false }
def BarrierAcknowledgesSaid : Prop := barrierAcknowledgesRow.holds Try.pinned (OpenSpec.ofChange barrierAcknowledgesSpec)

/-- ITS FALSE NEIGHBOUR: 'it returns false'. Refute it at one input. -/
def barrierAcknowledgesWrong : ChangeSpec := { name := "barrierAcknowledges", fn := fun _ => fun
  | [d] => { results := [.lit (.bool false)], args := [d] }
  | _ => none }
def BarrierAcknowledgesWrongFalsely : Prop := barrierAcknowledgesRow.holds Try.pinned (OpenSpec.ofChange barrierAcknowledgesWrong)

/-- 'standbylaw21.BarrierSucceeds': WHATEVER THE INPUT: true; the input reads as it did. -/
def barrierSucceedsSpec : ChangeSpec := { name := "barrierSucceeds", fn := fun _ => fun
  | [d1, d2] => { results := [.lit (.bool true)], args := [d1, d2] }
  | _ => none }
def barrierSucceedsRow : OpenClaim := { program := "ytoechplbhbalaaa", sum := "5eaba74802eb6cde2066c812e4b3b1a90b1c3d85901e010899dea8b9d9d54f26", func := "standby/standbylaw21.BarrierSucceeds", spec := "barrierSucceeds", unfollowed := true, recurses := true, apart := false }
def BarrierSucceedsSaid : Prop := barrierSucceedsRow.holds Try.pinned (OpenSpec.ofChange barrierSucceedsSpec)

/-- ITS FALSE NEIGHBOUR: 'it returns false'. Refute it at one input. -/
def barrierSucceedsWrong : ChangeSpec := { name := "barrierSucceeds", fn := fun _ => fun
  | [d1, d2] => { results := [.lit (.bool false)], args := [d1, d2] }
  | _ => none }
def BarrierSucceedsWrongFalsely : Prop := barrierSucceedsRow.holds Try.pinned (OpenSpec.ofChange barrierSucceedsWrong)

/- THE SECOND FORM. 'bulk': how many values and letters a reading holds, each counted each time it is reached (what is shared counts as often as it is met; a slice's spare places count too). A statement '..UptoSaid' is the law's where the arguments, and the package variables that the reading takes, are together of bulk at most 1048576: NARROWER than '..Said'. Prove '..Said' where nothing that the law and all that it calls make is longer than what came in: it says more and counts as full. Else prove '..UptoSaid'. A law counts once. -/
mutual
def uptoBulk {H : Type} : DataW H → Nat
  | .lit (.string bytes) => bytes.length + 1
  | .lit _ => 1
  | .nil => 1
  | .ptr d => uptoBulk d + 1
  | .slice elems spare => uptoBulkAll elems + uptoBulkAll spare + 1
  | .agg parts => uptoBulkAll parts + 1
  | .iface _ d => uptoBulk d + 1
  | .map entries => uptoBulkEntries entries + 1
  | .held _ => 1
def uptoBulkAll {H : Type} : List (DataW H) → Nat
  | [] => 0
  | d :: r => uptoBulk d + uptoBulkAll r
def uptoBulkEntries {H : Type} : List (Lit × DataW H) → Nat
  | [] => 0
  | x :: r => uptoBulkEntry x + uptoBulkEntries r
def uptoBulkEntry {H : Type} : Lit × DataW H → Nat
  | (.string bytes, d) => bytes.length + uptoBulk d + 1
  | (_, d) => uptoBulk d + 1
 end
def uptoSmall : (H : Type) → List (DataW H) → Bool := fun _ ds => decide (uptoBulkAll ds ≤ 1048576)
def OpenSpec.upto (s : _root_.Go.ChangeSpec) : _root_.Go.OpenSpec := { _root_.Go.OpenSpec.ofChange s with cond := some uptoSmall }

/-- 'standbylaw21.BarrierStarts', WHERE WHAT IT READS IS OF BULK AT MOST 1048576: true; the input reads as it did. -/
def barrierStartsUptoRow : OpenClaim := { program := "ytoechplbhbalaaa", sum := "5eaba74802eb6cde2066c812e4b3b1a90b1c3d85901e010899dea8b9d9d54f26", func := "standby/standbylaw21.BarrierStarts", spec := "barrierStarts", unfollowed := true, recurses := true, apart := false, narrowed := true }
def BarrierStartsUptoSaid : Prop := barrierStartsUptoRow.holds Try.pinned (OpenSpec.upto barrierStartsSpec)

/-- 'standbylaw21.BarrierObeys', WHERE WHAT IT READS IS OF BULK AT MOST 1048576: true; the input reads as it did. -/
def barrierObeysUptoRow : OpenClaim := { program := "ytoechplbhbalaaa", sum := "5eaba74802eb6cde2066c812e4b3b1a90b1c3d85901e010899dea8b9d9d54f26", func := "standby/standbylaw21.BarrierObeys", spec := "barrierObeys", unfollowed := true, recurses := true, apart := false, narrowed := true }
def BarrierObeysUptoSaid : Prop := barrierObeysUptoRow.holds Try.pinned (OpenSpec.upto barrierObeysSpec)

/-- 'standbylaw21.BarrierCollects', WHERE WHAT IT READS IS OF BULK AT MOST 1048576: true; the input reads as it did. -/
def barrierCollectsUptoRow : OpenClaim := { program := "ytoechplbhbalaaa", sum := "5eaba74802eb6cde2066c812e4b3b1a90b1c3d85901e010899dea8b9d9d54f26", func := "standby/standbylaw21.BarrierCollects", spec := "barrierCollects", unfollowed := true, recurses := true, apart := false, narrowed := true }
def BarrierCollectsUptoSaid : Prop := barrierCollectsUptoRow.holds Try.pinned (OpenSpec.upto barrierCollectsSpec)

/-- 'standbytop.TopBarrierGrows', WHERE WHAT IT READS IS OF BULK AT MOST 1048576: true; the input reads as it did. -/
def topBarrierGrowsUptoRow : OpenClaim := { program := "ytoechplbhbalaaa", sum := "5eaba74802eb6cde2066c812e4b3b1a90b1c3d85901e010899dea8b9d9d54f26", func := "standby/standbytop.TopBarrierGrows", spec := "topBarrierGrows", unfollowed := true, recurses := true, apart := false, narrowed := true }
def TopBarrierGrowsUptoSaid : Prop := topBarrierGrowsUptoRow.holds Try.pinned (OpenSpec.upto topBarrierGrowsSpec)

/-- 'standbylaw21.BarrierCounts', WHERE WHAT IT READS IS OF BULK AT MOST 1048576: true; the input reads as it did. -/
def barrierCountsUptoRow : OpenClaim := { program := "ytoechplbhbalaaa", sum := "5eaba74802eb6cde2066c812e4b3b1a90b1c3d85901e010899dea8b9d9d54f26", func := "standby/standbylaw21.BarrierCounts", spec := "barrierCounts", unfollowed := true, recurses := true, apart := false, narrowed := true }
def BarrierCountsUptoSaid : Prop := barrierCountsUptoRow.holds Try.pinned (OpenSpec.upto barrierCountsSpec)

/-- 'standbylaw21.BarrierConsistent', WHERE WHAT IT READS IS OF BULK AT MOST 1048576: true; the input reads as it did. -/
def barrierConsistentUptoRow : OpenClaim := { program := "ytoechplbhbalaaa", sum := "5eaba74802eb6cde2066c812e4b3b1a90b1c3d85901e010899dea8b9d9d54f26", func := "standby/standbylaw21.BarrierConsistent", spec := "barrierConsistent", unfollowed := true, recurses := true, apart := false, narrowed := true }
def BarrierConsistentUptoSaid : Prop := barrierConsistentUptoRow.holds Try.pinned (OpenSpec.upto barrierConsistentSpec)

/-- 'standbylaw21.BarrierAcknowledges', WHERE WHAT IT READS IS OF BULK AT MOST 1048576: true; the input reads as it did. -/
def barrierAcknowledgesUptoRow : OpenClaim := { program := "ytoechplbhbalaaa", sum := "5eaba74802eb6cde2066c812e4b3b1a90b1c3d85901e010899dea8b9d9d54f26", func := "standby/standbylaw21.BarrierAcknowledges", spec := "barrierAcknowledges", unfollowed := true, recurses := true, apart := false, narrowed := true }
def BarrierAcknowledgesUptoSaid : Prop := barrierAcknowledgesUptoRow.holds Try.pinned (OpenSpec.upto barrierAcknowledgesSpec)

/-- 'standbylaw21.BarrierSucceeds', WHERE WHAT IT READS IS OF BULK AT MOST 1048576: true; the input reads as it did. -/
def barrierSucceedsUptoRow : OpenClaim := { program := "ytoechplbhbalaaa", sum := "5eaba74802eb6cde2066c812e4b3b1a90b1c3d85901e010899dea8b9d9d54f26", func := "standby/standbylaw21.BarrierSucceeds", spec := "barrierSucceeds", unfollowed := true, recurses := true, apart := false, narrowed := true }
def BarrierSucceedsUptoSaid : Prop := barrierSucceedsUptoRow.holds Try.pinned (OpenSpec.upto barrierSucceedsSpec)

end Rows
end Go.Proofs.Ytoechplbhbalaaa
