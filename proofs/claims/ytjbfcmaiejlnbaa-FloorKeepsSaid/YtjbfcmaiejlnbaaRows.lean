/-
  No cell of these rows narrows 'for every input' (looked for: loops, veiled, ifaces, maps, wideKeys, modest, calm, conditions, laid).
  DERIVED. THE GIVEN ROWS OF THIS SEAT. 6 by the template 'for every input the law returns true; each argument reads behind the call as it read before'; 0 by the template 'total and deterministic' (their statements: YtjbfcmaiejlnbaaTotals.lean).
  GIVEN WITH THE SEED: the statements are not yours to turn. If you find one false, say at which input.
  Laid BY PROGRAM, IN A SANDBOX (cutbox-rows.mjs): the forced cells as the released guide's own fill.sh prints them over the translation 05811276c1b77c33… (all of the seat's roots in one cut). By AI agents, Wed Nov 11 2026. No macro, syntax, notation, axiom, sorry.
-/
import Derived.Test.YtjbfcmaiejlnbaaChecked
import GoSem.Claim
import GoSem.ClaimJoined
import GoSem.ClaimMapViews
import Derived.JoinedTies
import Derived.KernelRfl
namespace Go.Proofs.Ytjbfcmaiejlnbaa
/- THE CELL 'sum', in the pinned program and in every row, IS THE sha256 OF THE DUMP (.gsa) THAT YtjbfcmaiejlnbaaProg.lean LOADS. Nothing in Lean hashes anything: it is a label: what it is worth is what the hold of that sum in a sandbox is worth. -/
noncomputable def Try.pinned : Pinned := { name := "ytjbfcmaiejlnbaa", sum := "05811276c1b77c33a6fa6853ba288fc5a03a8199e4b86e1f4446ed31e28f78da", checked := Try.checked }
namespace Rows
def none {H : Type} : Left H := { results := [], args := [] }

/-- 'weirkeeperlaw20.FloorKeeps': WHATEVER THE INPUT: true; the input reads as it did. -/
def floorKeepsSpec : ChangeSpec := { name := "floorKeeps", fn := fun _ => fun
  | [d] => { results := [.lit (.bool true)], args := [d] }
  | _ => none }
def floorKeepsRow : OpenClaim := { program := "ytjbfcmaiejlnbaa", sum := "05811276c1b77c33a6fa6853ba288fc5a03a8199e4b86e1f4446ed31e28f78da", func := "weirkeeper/weirkeeperlaw20.FloorKeeps", spec := "floorKeeps", inPlace := ["slices.overlaps[weirkeeper/feed.Sub]"], unfollowed := true, recurses := true, apart := false }
def FloorKeepsSaid : Prop := floorKeepsRow.holds Try.pinned (OpenSpec.ofChange floorKeepsSpec)

/-- ITS FALSE NEIGHBOUR: 'it returns false'. Refute it at one input. -/
def floorKeepsWrong : ChangeSpec := { name := "floorKeeps", fn := fun _ => fun
  | [d] => { results := [.lit (.bool false)], args := [d] }
  | _ => none }
def FloorKeepsWrongFalsely : Prop := floorKeepsRow.holds Try.pinned (OpenSpec.ofChange floorKeepsWrong)

/-- 'weirkeeperlaw20.FloorOrder': WHATEVER THE INPUT: true; the input reads as it did. -/
def floorOrderSpec : ChangeSpec := { name := "floorOrder", fn := fun _ => fun
  | [d1, d2, d3, d4] => { results := [.lit (.bool true)], args := [d1, d2, d3, d4] }
  | _ => none }
def floorOrderRow : OpenClaim := { program := "ytjbfcmaiejlnbaa", sum := "05811276c1b77c33a6fa6853ba288fc5a03a8199e4b86e1f4446ed31e28f78da", func := "weirkeeper/weirkeeperlaw20.FloorOrder", spec := "floorOrder", inPlace := ["slices.overlaps[weirkeeper/feed.Sub]"], unfollowed := true, recurses := true, apart := false }
def FloorOrderSaid : Prop := floorOrderRow.holds Try.pinned (OpenSpec.ofChange floorOrderSpec)

/-- ITS FALSE NEIGHBOUR: 'it returns false'. Refute it at one input. -/
def floorOrderWrong : ChangeSpec := { name := "floorOrder", fn := fun _ => fun
  | [d1, d2, d3, d4] => { results := [.lit (.bool false)], args := [d1, d2, d3, d4] }
  | _ => none }
def FloorOrderWrongFalsely : Prop := floorOrderRow.holds Try.pinned (OpenSpec.ofChange floorOrderWrong)

/-- 'weirkeeperlaw20.FloorHeads': WHATEVER THE INPUT: true; the input reads as it did. -/
def floorHeadsSpec : ChangeSpec := { name := "floorHeads", fn := fun _ => fun
  | [d1, d2, d3, d4] => { results := [.lit (.bool true)], args := [d1, d2, d3, d4] }
  | _ => none }
def floorHeadsRow : OpenClaim := { program := "ytjbfcmaiejlnbaa", sum := "05811276c1b77c33a6fa6853ba288fc5a03a8199e4b86e1f4446ed31e28f78da", func := "weirkeeper/weirkeeperlaw20.FloorHeads", spec := "floorHeads", inPlace := ["slices.overlaps[weirkeeper/feed.Sub]"], unfollowed := true, recurses := true, apart := false }
def FloorHeadsSaid : Prop := floorHeadsRow.holds Try.pinned (OpenSpec.ofChange floorHeadsSpec)

/-- ITS FALSE NEIGHBOUR: 'it returns false'. Refute it at one input. -/
def floorHeadsWrong : ChangeSpec := { name := "floorHeads", fn := fun _ => fun
  | [d1, d2, d3, d4] => { results := [.lit (.bool false)], args := [d1, d2, d3, d4] }
  | _ => none }
def FloorHeadsWrongFalsely : Prop := floorHeadsRow.holds Try.pinned (OpenSpec.ofChange floorHeadsWrong)

/-- 'weirkeeperlaw20.FloorTells': WHATEVER THE INPUT: true; the input reads as it did. -/
def floorTellsSpec : ChangeSpec := { name := "floorTells", fn := fun _ => fun
  | [d1, d2, d3, d4] => { results := [.lit (.bool true)], args := [d1, d2, d3, d4] }
  | _ => none }
def floorTellsRow : OpenClaim := { program := "ytjbfcmaiejlnbaa", sum := "05811276c1b77c33a6fa6853ba288fc5a03a8199e4b86e1f4446ed31e28f78da", func := "weirkeeper/weirkeeperlaw20.FloorTells", spec := "floorTells", inPlace := ["slices.overlaps[weirkeeper/feed.Sub]"], unfollowed := true, recurses := true, apart := false }
def FloorTellsSaid : Prop := floorTellsRow.holds Try.pinned (OpenSpec.ofChange floorTellsSpec)

/-- ITS FALSE NEIGHBOUR: 'it returns false'. Refute it at one input. -/
def floorTellsWrong : ChangeSpec := { name := "floorTells", fn := fun _ => fun
  | [d1, d2, d3, d4] => { results := [.lit (.bool false)], args := [d1, d2, d3, d4] }
  | _ => none }
def FloorTellsWrongFalsely : Prop := floorTellsRow.holds Try.pinned (OpenSpec.ofChange floorTellsWrong)

/-- 'weirkeeperlaw20.FloorSets': WHATEVER THE INPUT: true; the input reads as it did. -/
def floorSetsSpec : ChangeSpec := { name := "floorSets", fn := fun _ => fun
  | [d1, d2, d3] => { results := [.lit (.bool true)], args := [d1, d2, d3] }
  | _ => none }
def floorSetsRow : OpenClaim := { program := "ytjbfcmaiejlnbaa", sum := "05811276c1b77c33a6fa6853ba288fc5a03a8199e4b86e1f4446ed31e28f78da", func := "weirkeeper/weirkeeperlaw20.FloorSets", spec := "floorSets", inPlace := ["slices.overlaps[weirkeeper/feed.Sub]"], unfollowed := true, recurses := true, apart := false }
def FloorSetsSaid : Prop := floorSetsRow.holds Try.pinned (OpenSpec.ofChange floorSetsSpec)

/-- ITS FALSE NEIGHBOUR: 'it returns false'. Refute it at one input. -/
def floorSetsWrong : ChangeSpec := { name := "floorSets", fn := fun _ => fun
  | [d1, d2, d3] => { results := [.lit (.bool false)], args := [d1, d2, d3] }
  | _ => none }
def FloorSetsWrongFalsely : Prop := floorSetsRow.holds Try.pinned (OpenSpec.ofChange floorSetsWrong)

/-- 'weirkeeperlaw20.FloorTrims': WHATEVER THE INPUT: true; the input reads as it did. -/
def floorTrimsSpec : ChangeSpec := { name := "floorTrims", fn := fun _ => fun
  | [d1, d2, d3] => { results := [.lit (.bool true)], args := [d1, d2, d3] }
  | _ => none }
def floorTrimsRow : OpenClaim := { program := "ytjbfcmaiejlnbaa", sum := "05811276c1b77c33a6fa6853ba288fc5a03a8199e4b86e1f4446ed31e28f78da", func := "weirkeeper/weirkeeperlaw20.FloorTrims", spec := "floorTrims", inPlace := ["slices.overlaps[weirkeeper/feed.Sub]"], unfollowed := true, recurses := true, apart := false }
def FloorTrimsSaid : Prop := floorTrimsRow.holds Try.pinned (OpenSpec.ofChange floorTrimsSpec)

/-- ITS FALSE NEIGHBOUR: 'it returns false'. Refute it at one input. -/
def floorTrimsWrong : ChangeSpec := { name := "floorTrims", fn := fun _ => fun
  | [d1, d2, d3] => { results := [.lit (.bool false)], args := [d1, d2, d3] }
  | _ => none }
def FloorTrimsWrongFalsely : Prop := floorTrimsRow.holds Try.pinned (OpenSpec.ofChange floorTrimsWrong)

/- THE SECOND FORM. 'bulk': how many values and letters a reading holds, each counted each time it is reached (what is shared counts as often as it is met; a slice's spare places count too). A statement '..UptoSaid' is the law's where the arguments, and the package variables that the reading takes, are together of bulk at most 1048576: NARROWER than '..Said'. Prove '..Said' where nothing that the law and all that it calls make is longer than what came in: it says more and counts as full. Else prove '..UptoSaid'. A law counts once. -/
mutual
def uptoBulk {H : Type} : DataW H → Nat
  | .lit (.string bytes) => bytes.length + 1
  | .lit _ => 1
  | .nil => 1
  | .ptr d => uptoBulk d + 1
  | .slice elems spare => uptoBulkAll elems + uptoBulkAll spare + 1
  | .agg parts => uptoBulkAll parts + 1
  | .iface _ d => uptoBulk d + 1
  | .map entries => uptoBulkEntries entries + 1
  | .held _ => 1
def uptoBulkAll {H : Type} : List (DataW H) → Nat
  | [] => 0
  | d :: r => uptoBulk d + uptoBulkAll r
def uptoBulkEntries {H : Type} : List (Lit × DataW H) → Nat
  | [] => 0
  | x :: r => uptoBulkEntry x + uptoBulkEntries r
def uptoBulkEntry {H : Type} : Lit × DataW H → Nat
  | (.string bytes, d) => bytes.length + uptoBulk d + 1
  | (_, d) => uptoBulk d + 1
 end
def uptoSmall : (H : Type) → List (DataW H) → Bool := fun _ ds => decide (uptoBulkAll ds ≤ 1048576)
def OpenSpec.upto (s : _root_.Go.ChangeSpec) : _root_.Go.OpenSpec := { _root_.Go.OpenSpec.ofChange s with cond := some uptoSmall }

/-- 'weirkeeperlaw20.FloorKeeps', WHERE WHAT IT READS IS OF BULK AT MOST 1048576: true; the input reads as it did. -/
def floorKeepsUptoRow : OpenClaim := { program := "ytjbfcmaiejlnbaa", sum := "05811276c1b77c33a6fa6853ba288fc5a03a8199e4b86e1f4446ed31e28f78da", func := "weirkeeper/weirkeeperlaw20.FloorKeeps", spec := "floorKeeps", inPlace := ["slices.overlaps[weirkeeper/feed.Sub]"], unfollowed := true, recurses := true, apart := false, narrowed := true }
def FloorKeepsUptoSaid : Prop := floorKeepsUptoRow.holds Try.pinned (OpenSpec.upto floorKeepsSpec)

/-- 'weirkeeperlaw20.FloorOrder', WHERE WHAT IT READS IS OF BULK AT MOST 1048576: true; the input reads as it did. -/
def floorOrderUptoRow : OpenClaim := { program := "ytjbfcmaiejlnbaa", sum := "05811276c1b77c33a6fa6853ba288fc5a03a8199e4b86e1f4446ed31e28f78da", func := "weirkeeper/weirkeeperlaw20.FloorOrder", spec := "floorOrder", inPlace := ["slices.overlaps[weirkeeper/feed.Sub]"], unfollowed := true, recurses := true, apart := false, narrowed := true }
def FloorOrderUptoSaid : Prop := floorOrderUptoRow.holds Try.pinned (OpenSpec.upto floorOrderSpec)

/-- 'weirkeeperlaw20.FloorHeads', WHERE WHAT IT READS IS OF BULK AT MOST 1048576: true; the input reads as it did. -/
def floorHeadsUptoRow : OpenClaim := { program := "ytjbfcmaiejlnbaa", sum := "05811276c1b77c33a6fa6853ba288fc5a03a8199e4b86e1f4446ed31e28f78da", func := "weirkeeper/weirkeeperlaw20.FloorHeads", spec := "floorHeads", inPlace := ["slices.overlaps[weirkeeper/feed.Sub]"], unfollowed := true, recurses := true, apart := false, narrowed := true }
def FloorHeadsUptoSaid : Prop := floorHeadsUptoRow.holds Try.pinned (OpenSpec.upto floorHeadsSpec)

/-- 'weirkeeperlaw20.FloorTells', WHERE WHAT IT READS IS OF BULK AT MOST 1048576: true; the input reads as it did. -/
def floorTellsUptoRow : OpenClaim := { program := "ytjbfcmaiejlnbaa", sum := "05811276c1b77c33a6fa6853ba288fc5a03a8199e4b86e1f4446ed31e28f78da", func := "weirkeeper/weirkeeperlaw20.FloorTells", spec := "floorTells", inPlace := ["slices.overlaps[weirkeeper/feed.Sub]"], unfollowed := true, recurses := true, apart := false, narrowed := true }
def FloorTellsUptoSaid : Prop := floorTellsUptoRow.holds Try.pinned (OpenSpec.upto floorTellsSpec)

/-- 'weirkeeperlaw20.FloorSets', WHERE WHAT IT READS IS OF BULK AT MOST 1048576: true; the input reads as it did. -/
def floorSetsUptoRow : OpenClaim := { program := "ytjbfcmaiejlnbaa", sum := "05811276c1b77c33a6fa6853ba288fc5a03a8199e4b86e1f4446ed31e28f78da", func := "weirkeeper/weirkeeperlaw20.FloorSets", spec := "floorSets", inPlace := ["slices.overlaps[weirkeeper/feed.Sub]"], unfollowed := true, recurses := true, apart := false, narrowed := true }
def FloorSetsUptoSaid : Prop := floorSetsUptoRow.holds Try.pinned (OpenSpec.upto floorSetsSpec)

/-- 'weirkeeperlaw20.FloorTrims', WHERE WHAT IT READS IS OF BULK AT MOST 1048576: true; the input reads as it did. -/
def floorTrimsUptoRow : OpenClaim := { program := "ytjbfcmaiejlnbaa", sum := "05811276c1b77c33a6fa6853ba288fc5a03a8199e4b86e1f4446ed31e28f78da", func := "weirkeeper/weirkeeperlaw20.FloorTrims", spec := "floorTrims", inPlace := ["slices.overlaps[weirkeeper/feed.Sub]"], unfollowed := true, recurses := true, apart := false, narrowed := true }
def FloorTrimsUptoSaid : Prop := floorTrimsUptoRow.holds Try.pinned (OpenSpec.upto floorTrimsSpec)

end Rows
end Go.Proofs.Ytjbfcmaiejlnbaa
