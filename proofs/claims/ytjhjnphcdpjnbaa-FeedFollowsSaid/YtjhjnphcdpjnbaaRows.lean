/-
  No cell of these rows narrows 'for every input' (looked for: loops, veiled, ifaces, maps, wideKeys, modest, calm, conditions, laid).
  DERIVED. THE GIVEN ROWS OF THIS SEAT. 5 by the template 'for every input the law returns true; each argument reads behind the call as it read before'; 0 by the template 'total and deterministic' (their statements: YtjhjnphcdpjnbaaTotals.lean).
  GIVEN WITH THE SEED: the statements are not yours to turn. If you find one false, say at which input.
  Laid BY PROGRAM, IN A SANDBOX (cutbox-rows.mjs): the forced cells as the released guide's own fill.sh prints them over the translation 299573921c62d3d8… (all of the seat's roots in one cut). By AI agents, Wed Nov 11 2026. No macro, syntax, notation, axiom, sorry.
-/
import Derived.Test.YtjhjnphcdpjnbaaChecked
import GoSem.Claim
import GoSem.ClaimJoined
import GoSem.ClaimMapViews
import Derived.JoinedTies
import Derived.KernelRfl
namespace Go.Proofs.Ytjhjnphcdpjnbaa
/- THE CELL 'sum', in the pinned program and in every row, IS THE sha256 OF THE DUMP (.gsa) THAT YtjhjnphcdpjnbaaProg.lean LOADS. Nothing in Lean hashes anything: it is a label: what it is worth is what the hold of that sum in a sandbox is worth. -/
noncomputable def Try.pinned : Pinned := { name := "ytjhjnphcdpjnbaa", sum := "299573921c62d3d8e45d22576a456cac8894ae704f1013af274af7115dd3991d", checked := Try.checked }
namespace Rows
def none {H : Type} : Left H := { results := [], args := [] }

/-- 'weirkeeperlaw19.FeedTells': WHATEVER THE INPUT: true; the input reads as it did. -/
def feedTellsSpec : ChangeSpec := { name := "feedTells", fn := fun _ => fun
  | [d1, d2, d3, d4, d5, d6] => { results := [.lit (.bool true)], args := [d1, d2, d3, d4, d5, d6] }
  | _ => none }
def feedTellsRow : OpenClaim := { program := "ytjhjnphcdpjnbaa", sum := "299573921c62d3d8e45d22576a456cac8894ae704f1013af274af7115dd3991d", func := "weirkeeper/weirkeeperlaw19.FeedTells", spec := "feedTells", inPlace := ["slices.overlaps[weirkeeper/api.Pair]"], unfollowed := true, recurses := true, apart := false }
def FeedTellsSaid : Prop := feedTellsRow.holds Try.pinned (OpenSpec.ofChange feedTellsSpec)

/-- ITS FALSE NEIGHBOUR: 'it returns false'. Refute it at one input. -/
def feedTellsWrong : ChangeSpec := { name := "feedTells", fn := fun _ => fun
  | [d1, d2, d3, d4, d5, d6] => { results := [.lit (.bool false)], args := [d1, d2, d3, d4, d5, d6] }
  | _ => none }
def FeedTellsWrongFalsely : Prop := feedTellsRow.holds Try.pinned (OpenSpec.ofChange feedTellsWrong)

/-- 'weirkeeperlaw19.FeedReplays': WHATEVER THE INPUT: true; the input reads as it did. -/
def feedReplaysSpec : ChangeSpec := { name := "feedReplays", fn := fun _ => fun
  | [d1, d2] => { results := [.lit (.bool true)], args := [d1, d2] }
  | _ => none }
def feedReplaysRow : OpenClaim := { program := "ytjhjnphcdpjnbaa", sum := "299573921c62d3d8e45d22576a456cac8894ae704f1013af274af7115dd3991d", func := "weirkeeper/weirkeeperlaw19.FeedReplays", spec := "feedReplays", inPlace := ["slices.overlaps[weirkeeper/api.Pair]"], unfollowed := true, recurses := true, apart := false }
def FeedReplaysSaid : Prop := feedReplaysRow.holds Try.pinned (OpenSpec.ofChange feedReplaysSpec)

/-- ITS FALSE NEIGHBOUR: 'it returns false'. Refute it at one input. -/
def feedReplaysWrong : ChangeSpec := { name := "feedReplays", fn := fun _ => fun
  | [d1, d2] => { results := [.lit (.bool false)], args := [d1, d2] }
  | _ => none }
def FeedReplaysWrongFalsely : Prop := feedReplaysRow.holds Try.pinned (OpenSpec.ofChange feedReplaysWrong)

/-- 'weirkeeperlaw19.FeedAgain': WHATEVER THE INPUT: true; the input reads as it did. -/
def feedAgainSpec : ChangeSpec := { name := "feedAgain", fn := fun _ => fun
  | [d1, d2, d3, d4, d5] => { results := [.lit (.bool true)], args := [d1, d2, d3, d4, d5] }
  | _ => none }
def feedAgainRow : OpenClaim := { program := "ytjhjnphcdpjnbaa", sum := "299573921c62d3d8e45d22576a456cac8894ae704f1013af274af7115dd3991d", func := "weirkeeper/weirkeeperlaw19.FeedAgain", spec := "feedAgain", inPlace := ["slices.overlaps[weirkeeper/api.Pair]"], unfollowed := true, recurses := true, apart := false }
def FeedAgainSaid : Prop := feedAgainRow.holds Try.pinned (OpenSpec.ofChange feedAgainSpec)

/-- ITS FALSE NEIGHBOUR: 'it returns false'. Refute it at one input. -/
def feedAgainWrong : ChangeSpec := { name := "feedAgain", fn := fun _ => fun
  | [d1, d2, d3, d4, d5] => { results := [.lit (.bool false)], args := [d1, d2, d3, d4, d5] }
  | _ => none }
def FeedAgainWrongFalsely : Prop := feedAgainRow.holds Try.pinned (OpenSpec.ofChange feedAgainWrong)

/-- 'weirkeeperlaw19.FeedAcks': WHATEVER THE INPUT: true; the input reads as it did. -/
def feedAcksSpec : ChangeSpec := { name := "feedAcks", fn := fun _ => fun
  | [d1, d2, d3, d4, d5] => { results := [.lit (.bool true)], args := [d1, d2, d3, d4, d5] }
  | _ => none }
def feedAcksRow : OpenClaim := { program := "ytjhjnphcdpjnbaa", sum := "299573921c62d3d8e45d22576a456cac8894ae704f1013af274af7115dd3991d", func := "weirkeeper/weirkeeperlaw19.FeedAcks", spec := "feedAcks", inPlace := ["slices.overlaps[weirkeeper/api.Pair]"], unfollowed := true, recurses := true, apart := false }
def FeedAcksSaid : Prop := feedAcksRow.holds Try.pinned (OpenSpec.ofChange feedAcksSpec)

/-- ITS FALSE NEIGHBOUR: 'it returns false'. Refute it at one input. -/
def feedAcksWrong : ChangeSpec := { name := "feedAcks", fn := fun _ => fun
  | [d1, d2, d3, d4, d5] => { results := [.lit (.bool false)], args := [d1, d2, d3, d4, d5] }
  | _ => none }
def FeedAcksWrongFalsely : Prop := feedAcksRow.holds Try.pinned (OpenSpec.ofChange feedAcksWrong)

/-- 'weirkeeperlaw19.FeedFollows': WHATEVER THE INPUT: true; the input reads as it did. -/
def feedFollowsSpec : ChangeSpec := { name := "feedFollows", fn := fun _ => fun
  | [d1, d2, d3, d4] => { results := [.lit (.bool true)], args := [d1, d2, d3, d4] }
  | _ => none }
def feedFollowsRow : OpenClaim := { program := "ytjhjnphcdpjnbaa", sum := "299573921c62d3d8e45d22576a456cac8894ae704f1013af274af7115dd3991d", func := "weirkeeper/weirkeeperlaw19.FeedFollows", spec := "feedFollows", inPlace := ["slices.overlaps[weirkeeper/api.Pair]"], unfollowed := true, recurses := true, apart := false }
def FeedFollowsSaid : Prop := feedFollowsRow.holds Try.pinned (OpenSpec.ofChange feedFollowsSpec)

/-- ITS FALSE NEIGHBOUR: 'it returns false'. Refute it at one input. -/
def feedFollowsWrong : ChangeSpec := { name := "feedFollows", fn := fun _ => fun
  | [d1, d2, d3, d4] => { results := [.lit (.bool false)], args := [d1, d2, d3, d4] }
  | _ => none }
def FeedFollowsWrongFalsely : Prop := feedFollowsRow.holds Try.pinned (OpenSpec.ofChange feedFollowsWrong)

/- THE SECOND FORM. 'bulk': how many values and letters a reading holds, each counted each time it is reached (what is shared counts as often as it is met; a slice's spare places count too). A statement '..UptoSaid' is the law's where the arguments, and the package variables that the reading takes, are together of bulk at most 1048576: NARROWER than '..Said'. Prove '..Said' where nothing that the law and all that it calls make is longer than what came in: it says more and counts as full. Else prove '..UptoSaid'. A law counts once. -/
mutual
def uptoBulk {H : Type} : DataW H → Nat
  | .lit (.string bytes) => bytes.length + 1
  | .lit _ => 1
  | .nil => 1
  | .ptr d => uptoBulk d + 1
  | .slice elems spare => uptoBulkAll elems + uptoBulkAll spare + 1
  | .agg parts => uptoBulkAll parts + 1
  | .iface _ d => uptoBulk d + 1
  | .map entries => uptoBulkEntries entries + 1
  | .held _ => 1
def uptoBulkAll {H : Type} : List (DataW H) → Nat
  | [] => 0
  | d :: r => uptoBulk d + uptoBulkAll r
def uptoBulkEntries {H : Type} : List (Lit × DataW H) → Nat
  | [] => 0
  | x :: r => uptoBulkEntry x + uptoBulkEntries r
def uptoBulkEntry {H : Type} : Lit × DataW H → Nat
  | (.string bytes, d) => bytes.length + uptoBulk d + 1
  | (_, d) => uptoBulk d + 1
 end
def uptoSmall : (H : Type) → List (DataW H) → Bool := fun _ ds => decide (uptoBulkAll ds ≤ 1048576)
def OpenSpec.upto (s : _root_.Go.ChangeSpec) : _root_.Go.OpenSpec := { _root_.Go.OpenSpec.ofChange s with cond := some uptoSmall }

/-- 'weirkeeperlaw19.FeedTells', WHERE WHAT IT READS IS OF BULK AT MOST 1048576: true; the input reads as it did. -/
def feedTellsUptoRow : OpenClaim := { program := "ytjhjnphcdpjnbaa", sum := "299573921c62d3d8e45d22576a456cac8894ae704f1013af274af7115dd3991d", func := "weirkeeper/weirkeeperlaw19.FeedTells", spec := "feedTells", inPlace := ["slices.overlaps[weirkeeper/api.Pair]"], unfollowed := true, recurses := true, apart := false, narrowed := true }
def FeedTellsUptoSaid : Prop := feedTellsUptoRow.holds Try.pinned (OpenSpec.upto feedTellsSpec)

/-- 'weirkeeperlaw19.FeedReplays', WHERE WHAT IT READS IS OF BULK AT MOST 1048576: true; the input reads as it did. -/
def feedReplaysUptoRow : OpenClaim := { program := "ytjhjnphcdpjnbaa", sum := "299573921c62d3d8e45d22576a456cac8894ae704f1013af274af7115dd3991d", func := "weirkeeper/weirkeeperlaw19.FeedReplays", spec := "feedReplays", inPlace := ["slices.overlaps[weirkeeper/api.Pair]"], unfollowed := true, recurses := true, apart := false, narrowed := true }
def FeedReplaysUptoSaid : Prop := feedReplaysUptoRow.holds Try.pinned (OpenSpec.upto feedReplaysSpec)

/-- 'weirkeeperlaw19.FeedAgain', WHERE WHAT IT READS IS OF BULK AT MOST 1048576: true; the input reads as it did. -/
def feedAgainUptoRow : OpenClaim := { program := "ytjhjnphcdpjnbaa", sum := "299573921c62d3d8e45d22576a456cac8894ae704f1013af274af7115dd3991d", func := "weirkeeper/weirkeeperlaw19.FeedAgain", spec := "feedAgain", inPlace := ["slices.overlaps[weirkeeper/api.Pair]"], unfollowed := true, recurses := true, apart := false, narrowed := true }
def FeedAgainUptoSaid : Prop := feedAgainUptoRow.holds Try.pinned (OpenSpec.upto feedAgainSpec)

/-- 'weirkeeperlaw19.FeedAcks', WHERE WHAT IT READS IS OF BULK AT MOST 1048576: true; the input reads as it did. -/
def feedAcksUptoRow : OpenClaim := { program := "ytjhjnphcdpjnbaa", sum := "299573921c62d3d8e45d22576a456cac8894ae704f1013af274af7115dd3991d", func := "weirkeeper/weirkeeperlaw19.FeedAcks", spec := "feedAcks", inPlace := ["slices.overlaps[weirkeeper/api.Pair]"], unfollowed := true, recurses := true, apart := false, narrowed := true }
def FeedAcksUptoSaid : Prop := feedAcksUptoRow.holds Try.pinned (OpenSpec.upto feedAcksSpec)

/-- 'weirkeeperlaw19.FeedFollows', WHERE WHAT IT READS IS OF BULK AT MOST 1048576: true; the input reads as it did. -/
def feedFollowsUptoRow : OpenClaim := { program := "ytjhjnphcdpjnbaa", sum := "299573921c62d3d8e45d22576a456cac8894ae704f1013af274af7115dd3991d", func := "weirkeeper/weirkeeperlaw19.FeedFollows", spec := "feedFollows", inPlace := ["slices.overlaps[weirkeeper/api.Pair]"], unfollowed := true, recurses := true, apart := false, narrowed := true }
def FeedFollowsUptoSaid : Prop := feedFollowsUptoRow.holds Try.pinned (OpenSpec.upto feedFollowsSpec)

end Rows
end Go.Proofs.Ytjhjnphcdpjnbaa
