/-
  No cell of these rows narrows 'for every input' (looked for: loops, veiled, ifaces, maps, wideKeys, modest, calm, conditions, laid).
  DERIVED. THE GIVEN ROWS OF THIS SEAT. 8 by the template 'for every input the law returns true; each argument reads behind the call as it read before'; 0 by the template 'total and deterministic' (their statements: YtllmgnhjljmihaaTotals.lean).
  GIVEN WITH THE SEED: the statements are not yours to turn. If you find one false, say at which input.
  Laid BY PROGRAM, IN A SANDBOX (cutbox-rows.mjs): the forced cells as the released guide's own fill.sh prints them over the translation 2bfe9548a3713545… (all of the seat's roots in one cut). By AI agents, Wed Nov 11 2026. No macro, syntax, notation, axiom, sorry.
-/
import Derived.Test.YtllmgnhjljmihaaChecked
import GoSem.Claim
import GoSem.ClaimJoined
import GoSem.ClaimMapViews
import Derived.JoinedTies
import Derived.KernelRfl
namespace Go.Proofs.Ytllmgnhjljmihaa
/- THE CELL 'sum', in the pinned program and in every row, IS THE sha256 OF THE DUMP (.gsa) THAT YtllmgnhjljmihaaProg.lean LOADS. Nothing in Lean hashes anything: it is a label: what it is worth is what the hold of that sum in a sandbox is worth. -/
noncomputable def Try.pinned : Pinned := { name := "ytllmgnhjljmihaa", sum := "2bfe9548a37135453b4d93fe09acaf0baf09801ef9249e9d25fa0a25eaef24ba", checked := Try.checked }
namespace Rows
def none {H : Type} : Left H := { results := [], args := [] }

/-- 'standbytop.TopCascadeFollows': WHATEVER THE INPUT: true; the input reads as it did. -/
def topCascadeFollowsSpec : ChangeSpec := { name := "topCascadeFollows", fn := fun _ => fun
  | [d1, d2] => { results := [.lit (.bool true)], args := [d1, d2] }
  | _ => none }
def topCascadeFollowsRow : OpenClaim := { program := "ytllmgnhjljmihaa", sum := "2bfe9548a37135453b4d93fe09acaf0baf09801ef9249e9d25fa0a25eaef24ba", func := "standby/standbytop.TopCascadeFollows", spec := "topCascadeFollows", unfollowed := true, recurses := true, apart := false }
def TopCascadeFollowsSaid : Prop := topCascadeFollowsRow.holds Try.pinned (OpenSpec.ofChange topCascadeFollowsSpec)

/-- ITS FALSE NEIGHBOUR: 'it returns false'. Refute it at one input. -/
def topCascadeFollowsWrong : ChangeSpec := { name := "topCascadeFollows", fn := fun _ => fun
  | [d1, d2] => { results := [.lit (.bool false)], args := [d1, d2] }
  | _ => none }
def TopCascadeFollowsWrongFalsely : Prop := topCascadeFollowsRow.holds Try.pinned (OpenSpec.ofChange topCascadeFollowsWrong)

/-- 'standbylaw41.CascadeMakes': WHATEVER THE INPUT: true; the input reads as it did. -/
def cascadeMakesSpec : ChangeSpec := { name := "cascadeMakes", fn := fun _ => fun
  | [d1, d2] => { results := [.lit (.bool true)], args := [d1, d2] }
  | _ => none }
def cascadeMakesRow : OpenClaim := { program := "ytllmgnhjljmihaa", sum := "2bfe9548a37135453b4d93fe09acaf0baf09801ef9249e9d25fa0a25eaef24ba", func := "standby/standbylaw41.CascadeMakes", spec := "cascadeMakes", unfollowed := true, recurses := true, apart := false }
def CascadeMakesSaid : Prop := cascadeMakesRow.holds Try.pinned (OpenSpec.ofChange cascadeMakesSpec)

/-- ITS FALSE NEIGHBOUR: 'it returns false'. Refute it at one input. -/
def cascadeMakesWrong : ChangeSpec := { name := "cascadeMakes", fn := fun _ => fun
  | [d1, d2] => { results := [.lit (.bool false)], args := [d1, d2] }
  | _ => none }
def CascadeMakesWrongFalsely : Prop := cascadeMakesRow.holds Try.pinned (OpenSpec.ofChange cascadeMakesWrong)

/-- 'standbylaw41.CascadeRestarts': WHATEVER THE INPUT: true; the input reads as it did. -/
def cascadeRestartsSpec : ChangeSpec := { name := "cascadeRestarts", fn := fun _ => fun
  | [d1, d2, d3] => { results := [.lit (.bool true)], args := [d1, d2, d3] }
  | _ => none }
def cascadeRestartsRow : OpenClaim := { program := "ytllmgnhjljmihaa", sum := "2bfe9548a37135453b4d93fe09acaf0baf09801ef9249e9d25fa0a25eaef24ba", func := "standby/standbylaw41.CascadeRestarts", spec := "cascadeRestarts", unfollowed := true, recurses := true, apart := false }
def CascadeRestartsSaid : Prop := cascadeRestartsRow.holds Try.pinned (OpenSpec.ofChange cascadeRestartsSpec)

/-- ITS FALSE NEIGHBOUR: 'it returns false'. Refute it at one input. -/
def cascadeRestartsWrong : ChangeSpec := { name := "cascadeRestarts", fn := fun _ => fun
  | [d1, d2, d3] => { results := [.lit (.bool false)], args := [d1, d2, d3] }
  | _ => none }
def CascadeRestartsWrongFalsely : Prop := cascadeRestartsRow.holds Try.pinned (OpenSpec.ofChange cascadeRestartsWrong)

/-- 'standbylaw41.CascadeKeeps': WHATEVER THE INPUT: true; the input reads as it did. -/
def cascadeKeepsSpec : ChangeSpec := { name := "cascadeKeeps", fn := fun _ => fun
  | [d] => { results := [.lit (.bool true)], args := [d] }
  | _ => none }
def cascadeKeepsRow : OpenClaim := { program := "ytllmgnhjljmihaa", sum := "2bfe9548a37135453b4d93fe09acaf0baf09801ef9249e9d25fa0a25eaef24ba", func := "standby/standbylaw41.CascadeKeeps", spec := "cascadeKeeps", unfollowed := true, recurses := true, apart := false }
def CascadeKeepsSaid : Prop := cascadeKeepsRow.holds Try.pinned (OpenSpec.ofChange cascadeKeepsSpec)

/-- ITS FALSE NEIGHBOUR: 'it returns false'. Refute it at one input. -/
def cascadeKeepsWrong : ChangeSpec := { name := "cascadeKeeps", fn := fun _ => fun
  | [d] => { results := [.lit (.bool false)], args := [d] }
  | _ => none }
def CascadeKeepsWrongFalsely : Prop := cascadeKeepsRow.holds Try.pinned (OpenSpec.ofChange cascadeKeepsWrong)

/-- 'standbylaw41.CascadeFollows': WHATEVER THE INPUT: true; the input reads as it did. -/
def cascadeFollowsSpec : ChangeSpec := { name := "cascadeFollows", fn := fun _ => fun
  | [d] => { results := [.lit (.bool true)], args := [d] }
  | _ => none }
def cascadeFollowsRow : OpenClaim := { program := "ytllmgnhjljmihaa", sum := "2bfe9548a37135453b4d93fe09acaf0baf09801ef9249e9d25fa0a25eaef24ba", func := "standby/standbylaw41.CascadeFollows", spec := "cascadeFollows", unfollowed := true, recurses := true, apart := false }
def CascadeFollowsSaid : Prop := cascadeFollowsRow.holds Try.pinned (OpenSpec.ofChange cascadeFollowsSpec)

/-- ITS FALSE NEIGHBOUR: 'it returns false'. Refute it at one input. -/
def cascadeFollowsWrong : ChangeSpec := { name := "cascadeFollows", fn := fun _ => fun
  | [d] => { results := [.lit (.bool false)], args := [d] }
  | _ => none }
def CascadeFollowsWrongFalsely : Prop := cascadeFollowsRow.holds Try.pinned (OpenSpec.ofChange cascadeFollowsWrong)

/-- 'standbylaw41.CascadeArrives': WHATEVER THE INPUT: true; the input reads as it did. -/
def cascadeArrivesSpec : ChangeSpec := { name := "cascadeArrives", fn := fun _ => fun
  | [d] => { results := [.lit (.bool true)], args := [d] }
  | _ => none }
def cascadeArrivesRow : OpenClaim := { program := "ytllmgnhjljmihaa", sum := "2bfe9548a37135453b4d93fe09acaf0baf09801ef9249e9d25fa0a25eaef24ba", func := "standby/standbylaw41.CascadeArrives", spec := "cascadeArrives", unfollowed := true, recurses := true, apart := false }
def CascadeArrivesSaid : Prop := cascadeArrivesRow.holds Try.pinned (OpenSpec.ofChange cascadeArrivesSpec)

/-- ITS FALSE NEIGHBOUR: 'it returns false'. Refute it at one input. -/
def cascadeArrivesWrong : ChangeSpec := { name := "cascadeArrives", fn := fun _ => fun
  | [d] => { results := [.lit (.bool false)], args := [d] }
  | _ => none }
def CascadeArrivesWrongFalsely : Prop := cascadeArrivesRow.holds Try.pinned (OpenSpec.ofChange cascadeArrivesWrong)

/-- 'standbylaw41.CascadeResumes': WHATEVER THE INPUT: true; the input reads as it did. -/
def cascadeResumesSpec : ChangeSpec := { name := "cascadeResumes", fn := fun _ => fun
  | [d1, d2] => { results := [.lit (.bool true)], args := [d1, d2] }
  | _ => none }
def cascadeResumesRow : OpenClaim := { program := "ytllmgnhjljmihaa", sum := "2bfe9548a37135453b4d93fe09acaf0baf09801ef9249e9d25fa0a25eaef24ba", func := "standby/standbylaw41.CascadeResumes", spec := "cascadeResumes", unfollowed := true, recurses := true, apart := false }
def CascadeResumesSaid : Prop := cascadeResumesRow.holds Try.pinned (OpenSpec.ofChange cascadeResumesSpec)

/-- ITS FALSE NEIGHBOUR: 'it returns false'. Refute it at one input. -/
def cascadeResumesWrong : ChangeSpec := { name := "cascadeResumes", fn := fun _ => fun
  | [d1, d2] => { results := [.lit (.bool false)], args := [d1, d2] }
  | _ => none }
def CascadeResumesWrongFalsely : Prop := cascadeResumesRow.holds Try.pinned (OpenSpec.ofChange cascadeResumesWrong)

/-- 'standbytop.TopCascadeCatches': WHATEVER THE INPUT: true; the input reads as it did. -/
def topCascadeCatchesSpec : ChangeSpec := { name := "topCascadeCatches", fn := fun _ => fun
  | [d1, d2] => { results := [.lit (.bool true)], args := [d1, d2] }
  | _ => none }
def topCascadeCatchesRow : OpenClaim := { program := "ytllmgnhjljmihaa", sum := "2bfe9548a37135453b4d93fe09acaf0baf09801ef9249e9d25fa0a25eaef24ba", func := "standby/standbytop.TopCascadeCatches", spec := "topCascadeCatches", unfollowed := true, recurses := true, apart := false }
def TopCascadeCatchesSaid : Prop := topCascadeCatchesRow.holds Try.pinned (OpenSpec.ofChange topCascadeCatchesSpec)

/-- ITS FALSE NEIGHBOUR: 'it returns false'. Refute it at one input. -/
def topCascadeCatchesWrong : ChangeSpec := { name := "topCascadeCatches", fn := fun _ => fun
  | [d1, d2] => { results := [.lit (.bool false)], args := [d1, d2] }
  | _ => none }
def TopCascadeCatchesWrongFalsely : Prop := topCascadeCatchesRow.holds Try.pinned (OpenSpec.ofChange topCascadeCatchesWrong)

/- THE SECOND FORM. 'bulk': how many values and letters a reading holds, each counted each time it is reached (what is shared counts as often as it is met; a slice's spare places count too). A statement '..UptoSaid' is the law's where the arguments, and the package variables that the reading takes, are together of bulk at most 1048576: NARROWER than '..Said'. Prove '..Said' where nothing that the law and all that it calls make is longer than what came in: it says more and counts as full. Else prove '..UptoSaid'. A law counts once. -/
mutual
def uptoBulk {H : Type} : DataW H → Nat
  | .lit (.string bytes) => bytes.length + 1
  | .lit _ => 1
  | .nil => 1
  | .ptr d => uptoBulk d + 1
  | .slice elems spare => uptoBulkAll elems + uptoBulkAll spare + 1
  | .agg parts => uptoBulkAll parts + 1
  | .iface _ d => uptoBulk d + 1
  | .map entries => uptoBulkEntries entries + 1
  | .held _ => 1
def uptoBulkAll {H : Type} : List (DataW H) → Nat
  | [] => 0
  | d :: r => uptoBulk d + uptoBulkAll r
def uptoBulkEntries {H : Type} : List (Lit × DataW H) → Nat
  | [] => 0
  | x :: r => uptoBulkEntry x + uptoBulkEntries r
def uptoBulkEntry {H : Type} : Lit × DataW H → Nat
  | (.string bytes, d) => bytes.length + uptoBulk d + 1
  | (_, d) => uptoBulk d + 1
 end
def uptoSmall : (H : Type) → List (DataW H) → Bool := fun _ ds => decide (uptoBulkAll ds ≤ 1048576)
def OpenSpec.upto (s : _root_.Go.ChangeSpec) : _root_.Go.OpenSpec := { _root_.Go.OpenSpec.ofChange s with cond := some uptoSmall }

/-- 'standbytop.TopCascadeFollows', WHERE WHAT IT READS IS OF BULK AT MOST 1048576: true; the input reads as it did. -/
def topCascadeFollowsUptoRow : OpenClaim := { program := "ytllmgnhjljmihaa", sum := "2bfe9548a37135453b4d93fe09acaf0baf09801ef9249e9d25fa0a25eaef24ba", func := "standby/standbytop.TopCascadeFollows", spec := "topCascadeFollows", unfollowed := true, recurses := true, apart := false, narrowed := true }
def TopCascadeFollowsUptoSaid : Prop := topCascadeFollowsUptoRow.holds Try.pinned (OpenSpec.upto topCascadeFollowsSpec)

/-- 'standbylaw41.CascadeMakes', WHERE WHAT IT READS IS OF BULK AT MOST 1048576: true; the input reads as it did. -/
def cascadeMakesUptoRow : OpenClaim := { program := "ytllmgnhjljmihaa", sum := "2bfe9548a37135453b4d93fe09acaf0baf09801ef9249e9d25fa0a25eaef24ba", func := "standby/standbylaw41.CascadeMakes", spec := "cascadeMakes", unfollowed := true, recurses := true, apart := false, narrowed := true }
def CascadeMakesUptoSaid : Prop := cascadeMakesUptoRow.holds Try.pinned (OpenSpec.upto cascadeMakesSpec)

/-- 'standbylaw41.CascadeRestarts', WHERE WHAT IT READS IS OF BULK AT MOST 1048576: true; the input reads as it did. -/
def cascadeRestartsUptoRow : OpenClaim := { program := "ytllmgnhjljmihaa", sum := "2bfe9548a37135453b4d93fe09acaf0baf09801ef9249e9d25fa0a25eaef24ba", func := "standby/standbylaw41.CascadeRestarts", spec := "cascadeRestarts", unfollowed := true, recurses := true, apart := false, narrowed := true }
def CascadeRestartsUptoSaid : Prop := cascadeRestartsUptoRow.holds Try.pinned (OpenSpec.upto cascadeRestartsSpec)

/-- 'standbylaw41.CascadeKeeps', WHERE WHAT IT READS IS OF BULK AT MOST 1048576: true; the input reads as it did. -/
def cascadeKeepsUptoRow : OpenClaim := { program := "ytllmgnhjljmihaa", sum := "2bfe9548a37135453b4d93fe09acaf0baf09801ef9249e9d25fa0a25eaef24ba", func := "standby/standbylaw41.CascadeKeeps", spec := "cascadeKeeps", unfollowed := true, recurses := true, apart := false, narrowed := true }
def CascadeKeepsUptoSaid : Prop := cascadeKeepsUptoRow.holds Try.pinned (OpenSpec.upto cascadeKeepsSpec)

/-- 'standbylaw41.CascadeFollows', WHERE WHAT IT READS IS OF BULK AT MOST 1048576: true; the input reads as it did. -/
def cascadeFollowsUptoRow : OpenClaim := { program := "ytllmgnhjljmihaa", sum := "2bfe9548a37135453b4d93fe09acaf0baf09801ef9249e9d25fa0a25eaef24ba", func := "standby/standbylaw41.CascadeFollows", spec := "cascadeFollows", unfollowed := true, recurses := true, apart := false, narrowed := true }
def CascadeFollowsUptoSaid : Prop := cascadeFollowsUptoRow.holds Try.pinned (OpenSpec.upto cascadeFollowsSpec)

/-- 'standbylaw41.CascadeArrives', WHERE WHAT IT READS IS OF BULK AT MOST 1048576: true; the input reads as it did. -/
def cascadeArrivesUptoRow : OpenClaim := { program := "ytllmgnhjljmihaa", sum := "2bfe9548a37135453b4d93fe09acaf0baf09801ef9249e9d25fa0a25eaef24ba", func := "standby/standbylaw41.CascadeArrives", spec := "cascadeArrives", unfollowed := true, recurses := true, apart := false, narrowed := true }
def CascadeArrivesUptoSaid : Prop := cascadeArrivesUptoRow.holds Try.pinned (OpenSpec.upto cascadeArrivesSpec)

/-- 'standbylaw41.CascadeResumes', WHERE WHAT IT READS IS OF BULK AT MOST 1048576: true; the input reads as it did. -/
def cascadeResumesUptoRow : OpenClaim := { program := "ytllmgnhjljmihaa", sum := "2bfe9548a37135453b4d93fe09acaf0baf09801ef9249e9d25fa0a25eaef24ba", func := "standby/standbylaw41.CascadeResumes", spec := "cascadeResumes", unfollowed := true, recurses := true, apart := false, narrowed := true }
def CascadeResumesUptoSaid : Prop := cascadeResumesUptoRow.holds Try.pinned (OpenSpec.upto cascadeResumesSpec)

/-- 'standbytop.TopCascadeCatches', WHERE WHAT IT READS IS OF BULK AT MOST 1048576: true; the input reads as it did. -/
def topCascadeCatchesUptoRow : OpenClaim := { program := "ytllmgnhjljmihaa", sum := "2bfe9548a37135453b4d93fe09acaf0baf09801ef9249e9d25fa0a25eaef24ba", func := "standby/standbytop.TopCascadeCatches", spec := "topCascadeCatches", unfollowed := true, recurses := true, apart := false, narrowed := true }
def TopCascadeCatchesUptoSaid : Prop := topCascadeCatchesUptoRow.holds Try.pinned (OpenSpec.upto topCascadeCatchesSpec)

end Rows
end Go.Proofs.Ytllmgnhjljmihaa
