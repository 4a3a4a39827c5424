/-
  No cell of these rows narrows 'for every input' (looked for: loops, veiled, ifaces, maps, wideKeys, modest, calm, conditions, laid).
  DERIVED. THE GIVEN ROWS OF THIS SEAT. 8 by the template 'for every input the law returns true; each argument reads behind the call as it read before'; 0 by the template 'total and deterministic' (their statements: YtdiekahpofifeaaTotals.lean).
  GIVEN WITH THE SEED: the statements are not yours to turn. If you find one false, say at which input.
  Laid BY PROGRAM, IN A SANDBOX (cutbox-rows.mjs): the forced cells as the released guide's own fill.sh prints them over the translation bda660bb62ec0201… (all of the seat's roots in one cut). By AI agents, Wed Nov 11 2026. No macro, syntax, notation, axiom, sorry.
-/
import Derived.Test.YtdiekahpofifeaaChecked
import GoSem.Claim
import GoSem.ClaimJoined
import GoSem.ClaimMapViews
import Derived.JoinedTies
import Derived.KernelRfl
namespace Go.Proofs.Ytdiekahpofifeaa
/- THE CELL 'sum', in the pinned program and in every row, IS THE sha256 OF THE DUMP (.gsa) THAT YtdiekahpofifeaaProg.lean LOADS. Nothing in Lean hashes anything: it is a label: what it is worth is what the hold of that sum in a sandbox is worth. -/
noncomputable def Try.pinned : Pinned := { name := "ytdiekahpofifeaa", sum := "bda660bb62ec020102724c17766642ebd27bfd4bb8512808a8eb0720955adb46", checked := Try.checked }
namespace Rows
def none {H : Type} : Left H := { results := [], args := [] }

/-- 'standbylaw15.HistoryOrders': WHATEVER THE INPUT: true; the input reads as it did. -/
def historyOrdersSpec : ChangeSpec := { name := "historyOrders", fn := fun _ => fun
  | [d1, d2, d3] => { results := [.lit (.bool true)], args := [d1, d2, d3] }
  | _ => none }
def historyOrdersRow : OpenClaim := { program := "ytdiekahpofifeaa", sum := "bda660bb62ec020102724c17766642ebd27bfd4bb8512808a8eb0720955adb46", func := "standby/standbylaw15.HistoryOrders", spec := "historyOrders", unfollowed := true, recurses := true, apart := false }
def HistoryOrdersSaid : Prop := historyOrdersRow.holds Try.pinned (OpenSpec.ofChange historyOrdersSpec)

/-- ITS FALSE NEIGHBOUR: 'it returns false'. Refute it at one input. -/
def historyOrdersWrong : ChangeSpec := { name := "historyOrders", fn := fun _ => fun
  | [d1, d2, d3] => { results := [.lit (.bool false)], args := [d1, d2, d3] }
  | _ => none }
def HistoryOrdersWrongFalsely : Prop := historyOrdersRow.holds Try.pinned (OpenSpec.ofChange historyOrdersWrong)

/-- 'standbylaw15.HistoryMakes': WHATEVER THE INPUT: true; the input reads as it did. -/
def historyMakesSpec : ChangeSpec := { name := "historyMakes", fn := fun _ => fun
  | [d1, d2] => { results := [.lit (.bool true)], args := [d1, d2] }
  | _ => none }
def historyMakesRow : OpenClaim := { program := "ytdiekahpofifeaa", sum := "bda660bb62ec020102724c17766642ebd27bfd4bb8512808a8eb0720955adb46", func := "standby/standbylaw15.HistoryMakes", spec := "historyMakes", unfollowed := true, recurses := true, apart := false }
def HistoryMakesSaid : Prop := historyMakesRow.holds Try.pinned (OpenSpec.ofChange historyMakesSpec)

/-- ITS FALSE NEIGHBOUR: 'it returns false'. Refute it at one input. -/
def historyMakesWrong : ChangeSpec := { name := "historyMakes", fn := fun _ => fun
  | [d1, d2] => { results := [.lit (.bool false)], args := [d1, d2] }
  | _ => none }
def HistoryMakesWrongFalsely : Prop := historyMakesRow.holds Try.pinned (OpenSpec.ofChange historyMakesWrong)

/-- 'standbylaw15.HistoryShows': WHATEVER THE INPUT: true; the input reads as it did. -/
def historyShowsSpec : ChangeSpec := { name := "historyShows", fn := fun _ => fun
  | [d1, d2] => { results := [.lit (.bool true)], args := [d1, d2] }
  | _ => none }
def historyShowsRow : OpenClaim := { program := "ytdiekahpofifeaa", sum := "bda660bb62ec020102724c17766642ebd27bfd4bb8512808a8eb0720955adb46", func := "standby/standbylaw15.HistoryShows", spec := "historyShows", unfollowed := true, recurses := true, apart := false }
def HistoryShowsSaid : Prop := historyShowsRow.holds Try.pinned (OpenSpec.ofChange historyShowsSpec)

/-- ITS FALSE NEIGHBOUR: 'it returns false'. Refute it at one input. -/
def historyShowsWrong : ChangeSpec := { name := "historyShows", fn := fun _ => fun
  | [d1, d2] => { results := [.lit (.bool false)], args := [d1, d2] }
  | _ => none }
def HistoryShowsWrongFalsely : Prop := historyShowsRow.holds Try.pinned (OpenSpec.ofChange historyShowsWrong)

/-- 'standbylaw15.HistoryGrows': WHATEVER THE INPUT: true; the input reads as it did. -/
def historyGrowsSpec : ChangeSpec := { name := "historyGrows", fn := fun _ => fun
  | [d1, d2, d3] => { results := [.lit (.bool true)], args := [d1, d2, d3] }
  | _ => none }
def historyGrowsRow : OpenClaim := { program := "ytdiekahpofifeaa", sum := "bda660bb62ec020102724c17766642ebd27bfd4bb8512808a8eb0720955adb46", func := "standby/standbylaw15.HistoryGrows", spec := "historyGrows", unfollowed := true, recurses := true, apart := false }
def HistoryGrowsSaid : Prop := historyGrowsRow.holds Try.pinned (OpenSpec.ofChange historyGrowsSpec)

/-- ITS FALSE NEIGHBOUR: 'it returns false'. Refute it at one input. -/
def historyGrowsWrong : ChangeSpec := { name := "historyGrows", fn := fun _ => fun
  | [d1, d2, d3] => { results := [.lit (.bool false)], args := [d1, d2, d3] }
  | _ => none }
def HistoryGrowsWrongFalsely : Prop := historyGrowsRow.holds Try.pinned (OpenSpec.ofChange historyGrowsWrong)

/-- 'standbylaw15.HistoryPartial': WHATEVER THE INPUT: true; the input reads as it did. -/
def historyPartialSpec : ChangeSpec := { name := "historyPartial", fn := fun _ => fun
  | [d1, d2] => { results := [.lit (.bool true)], args := [d1, d2] }
  | _ => none }
def historyPartialRow : OpenClaim := { program := "ytdiekahpofifeaa", sum := "bda660bb62ec020102724c17766642ebd27bfd4bb8512808a8eb0720955adb46", func := "standby/standbylaw15.HistoryPartial", spec := "historyPartial", unfollowed := true, recurses := true, apart := false }
def HistoryPartialSaid : Prop := historyPartialRow.holds Try.pinned (OpenSpec.ofChange historyPartialSpec)

/-- ITS FALSE NEIGHBOUR: 'it returns false'. Refute it at one input. -/
def historyPartialWrong : ChangeSpec := { name := "historyPartial", fn := fun _ => fun
  | [d1, d2] => { results := [.lit (.bool false)], args := [d1, d2] }
  | _ => none }
def HistoryPartialWrongFalsely : Prop := historyPartialRow.holds Try.pinned (OpenSpec.ofChange historyPartialWrong)

/-- 'standbylaw15.HistoryReplays': WHATEVER THE INPUT: true; the input reads as it did. -/
def historyReplaysSpec : ChangeSpec := { name := "historyReplays", fn := fun _ => fun
  | [d] => { results := [.lit (.bool true)], args := [d] }
  | _ => none }
def historyReplaysRow : OpenClaim := { program := "ytdiekahpofifeaa", sum := "bda660bb62ec020102724c17766642ebd27bfd4bb8512808a8eb0720955adb46", func := "standby/standbylaw15.HistoryReplays", spec := "historyReplays", unfollowed := true, recurses := true, apart := false }
def HistoryReplaysSaid : Prop := historyReplaysRow.holds Try.pinned (OpenSpec.ofChange historyReplaysSpec)

/-- ITS FALSE NEIGHBOUR: 'it returns false'. Refute it at one input. -/
def historyReplaysWrong : ChangeSpec := { name := "historyReplays", fn := fun _ => fun
  | [d] => { results := [.lit (.bool false)], args := [d] }
  | _ => none }
def HistoryReplaysWrongFalsely : Prop := historyReplaysRow.holds Try.pinned (OpenSpec.ofChange historyReplaysWrong)

/-- 'standbylaw15.HistoryCuts': WHATEVER THE INPUT: true; the input reads as it did. -/
def historyCutsSpec : ChangeSpec := { name := "historyCuts", fn := fun _ => fun
  | [d1, d2, d3] => { results := [.lit (.bool true)], args := [d1, d2, d3] }
  | _ => none }
def historyCutsRow : OpenClaim := { program := "ytdiekahpofifeaa", sum := "bda660bb62ec020102724c17766642ebd27bfd4bb8512808a8eb0720955adb46", func := "standby/standbylaw15.HistoryCuts", spec := "historyCuts", unfollowed := true, recurses := true, apart := false }
def HistoryCutsSaid : Prop := historyCutsRow.holds Try.pinned (OpenSpec.ofChange historyCutsSpec)

/-- ITS FALSE NEIGHBOUR: 'it returns false'. Refute it at one input. -/
def historyCutsWrong : ChangeSpec := { name := "historyCuts", fn := fun _ => fun
  | [d1, d2, d3] => { results := [.lit (.bool false)], args := [d1, d2, d3] }
  | _ => none }
def HistoryCutsWrongFalsely : Prop := historyCutsRow.holds Try.pinned (OpenSpec.ofChange historyCutsWrong)

/-- 'standbylaw15.HistoryRestricts': WHATEVER THE INPUT: true; the input reads as it did. -/
def historyRestrictsSpec : ChangeSpec := { name := "historyRestricts", fn := fun _ => fun
  | [d1, d2] => { results := [.lit (.bool true)], args := [d1, d2] }
  | _ => none }
def historyRestrictsRow : OpenClaim := { program := "ytdiekahpofifeaa", sum := "bda660bb62ec020102724c17766642ebd27bfd4bb8512808a8eb0720955adb46", func := "standby/standbylaw15.HistoryRestricts", spec := "historyRestricts", unfollowed := true, recurses := true, apart := false }
def HistoryRestrictsSaid : Prop := historyRestrictsRow.holds Try.pinned (OpenSpec.ofChange historyRestrictsSpec)

/-- ITS FALSE NEIGHBOUR: 'it returns false'. Refute it at one input. -/
def historyRestrictsWrong : ChangeSpec := { name := "historyRestricts", fn := fun _ => fun
  | [d1, d2] => { results := [.lit (.bool false)], args := [d1, d2] }
  | _ => none }
def HistoryRestrictsWrongFalsely : Prop := historyRestrictsRow.holds Try.pinned (OpenSpec.ofChange historyRestrictsWrong)

/- THE SECOND FORM. 'bulk': how many values and letters a reading holds, each counted each time it is reached (what is shared counts as often as it is met; a slice's spare places count too). A statement '..UptoSaid' is the law's where the arguments, and the package variables that the reading takes, are together of bulk at most 1048576: NARROWER than '..Said'. Prove '..Said' where nothing that the law and all that it calls make is longer than what came in: it says more and counts as full. Else prove '..UptoSaid'. A law counts once. -/
mutual
def uptoBulk {H : Type} : DataW H → Nat
  | .lit (.string bytes) => bytes.length + 1
  | .lit _ => 1
  | .nil => 1
  | .ptr d => uptoBulk d + 1
  | .slice elems spare => uptoBulkAll elems + uptoBulkAll spare + 1
  | .agg parts => uptoBulkAll parts + 1
  | .iface _ d => uptoBulk d + 1
  | .map entries => uptoBulkEntries entries + 1
  | .held _ => 1
def uptoBulkAll {H : Type} : List (DataW H) → Nat
  | [] => 0
  | d :: r => uptoBulk d + uptoBulkAll r
def uptoBulkEntries {H : Type} : List (Lit × DataW H) → Nat
  | [] => 0
  | x :: r => uptoBulkEntry x + uptoBulkEntries r
def uptoBulkEntry {H : Type} : Lit × DataW H → Nat
  | (.string bytes, d) => bytes.length + uptoBulk d + 1
  | (_, d) => uptoBulk d + 1
 end
def uptoSmall : (H : Type) → List (DataW H) → Bool := fun _ ds => decide (uptoBulkAll ds ≤ 1048576)
def OpenSpec.upto (s : _root_.Go.ChangeSpec) : _root_.Go.OpenSpec := { _root_.Go.OpenSpec.ofChange s with cond := some uptoSmall }

/-- 'standbylaw15.HistoryOrders', WHERE WHAT IT READS IS OF BULK AT MOST 1048576: true; the input reads as it did. -/
def historyOrdersUptoRow : OpenClaim := { program := "ytdiekahpofifeaa", sum := "bda660bb62ec020102724c17766642ebd27bfd4bb8512808a8eb0720955adb46", func := "standby/standbylaw15.HistoryOrders", spec := "historyOrders", unfollowed := true, recurses := true, apart := false, narrowed := true }
def HistoryOrdersUptoSaid : Prop := historyOrdersUptoRow.holds Try.pinned (OpenSpec.upto historyOrdersSpec)

/-- 'standbylaw15.HistoryMakes', WHERE WHAT IT READS IS OF BULK AT MOST 1048576: true; the input reads as it did. -/
def historyMakesUptoRow : OpenClaim := { program := "ytdiekahpofifeaa", sum := "bda660bb62ec020102724c17766642ebd27bfd4bb8512808a8eb0720955adb46", func := "standby/standbylaw15.HistoryMakes", spec := "historyMakes", unfollowed := true, recurses := true, apart := false, narrowed := true }
def HistoryMakesUptoSaid : Prop := historyMakesUptoRow.holds Try.pinned (OpenSpec.upto historyMakesSpec)

/-- 'standbylaw15.HistoryShows', WHERE WHAT IT READS IS OF BULK AT MOST 1048576: true; the input reads as it did. -/
def historyShowsUptoRow : OpenClaim := { program := "ytdiekahpofifeaa", sum := "bda660bb62ec020102724c17766642ebd27bfd4bb8512808a8eb0720955adb46", func := "standby/standbylaw15.HistoryShows", spec := "historyShows", unfollowed := true, recurses := true, apart := false, narrowed := true }
def HistoryShowsUptoSaid : Prop := historyShowsUptoRow.holds Try.pinned (OpenSpec.upto historyShowsSpec)

/-- 'standbylaw15.HistoryGrows', WHERE WHAT IT READS IS OF BULK AT MOST 1048576: true; the input reads as it did. -/
def historyGrowsUptoRow : OpenClaim := { program := "ytdiekahpofifeaa", sum := "bda660bb62ec020102724c17766642ebd27bfd4bb8512808a8eb0720955adb46", func := "standby/standbylaw15.HistoryGrows", spec := "historyGrows", unfollowed := true, recurses := true, apart := false, narrowed := true }
def HistoryGrowsUptoSaid : Prop := historyGrowsUptoRow.holds Try.pinned (OpenSpec.upto historyGrowsSpec)

/-- 'standbylaw15.HistoryPartial', WHERE WHAT IT READS IS OF BULK AT MOST 1048576: true; the input reads as it did. -/
def historyPartialUptoRow : OpenClaim := { program := "ytdiekahpofifeaa", sum := "bda660bb62ec020102724c17766642ebd27bfd4bb8512808a8eb0720955adb46", func := "standby/standbylaw15.HistoryPartial", spec := "historyPartial", unfollowed := true, recurses := true, apart := false, narrowed := true }
def HistoryPartialUptoSaid : Prop := historyPartialUptoRow.holds Try.pinned (OpenSpec.upto historyPartialSpec)

/-- 'standbylaw15.HistoryReplays', WHERE WHAT IT READS IS OF BULK AT MOST 1048576: true; the input reads as it did. -/
def historyReplaysUptoRow : OpenClaim := { program := "ytdiekahpofifeaa", sum := "bda660bb62ec020102724c17766642ebd27bfd4bb8512808a8eb0720955adb46", func := "standby/standbylaw15.HistoryReplays", spec := "historyReplays", unfollowed := true, recurses := true, apart := false, narrowed := true }
def HistoryReplaysUptoSaid : Prop := historyReplaysUptoRow.holds Try.pinned (OpenSpec.upto historyReplaysSpec)

/-- 'standbylaw15.HistoryCuts', WHERE WHAT IT READS IS OF BULK AT MOST 1048576: true; the input reads as it did. -/
def historyCutsUptoRow : OpenClaim := { program := "ytdiekahpofifeaa", sum := "bda660bb62ec020102724c17766642ebd27bfd4bb8512808a8eb0720955adb46", func := "standby/standbylaw15.HistoryCuts", spec := "historyCuts", unfollowed := true, recurses := true, apart := false, narrowed := true }
def HistoryCutsUptoSaid : Prop := historyCutsUptoRow.holds Try.pinned (OpenSpec.upto historyCutsSpec)

/-- 'standbylaw15.HistoryRestricts', WHERE WHAT IT READS IS OF BULK AT MOST 1048576: true; the input reads as it did. -/
def historyRestrictsUptoRow : OpenClaim := { program := "ytdiekahpofifeaa", sum := "bda660bb62ec020102724c17766642ebd27bfd4bb8512808a8eb0720955adb46", func := "standby/standbylaw15.HistoryRestricts", spec := "historyRestricts", unfollowed := true, recurses := true, apart := false, narrowed := true }
def HistoryRestrictsUptoSaid : Prop := historyRestrictsUptoRow.holds Try.pinned (OpenSpec.upto historyRestrictsSpec)

end Rows
end Go.Proofs.Ytdiekahpofifeaa
