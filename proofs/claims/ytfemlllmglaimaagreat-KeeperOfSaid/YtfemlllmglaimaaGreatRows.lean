/-
  No cell of these rows narrows 'for every input' (looked for: loops, veiled, ifaces, maps, wideKeys, modest, calm, conditions, laid).
  DERIVED. THE GIVEN ROWS OF THIS SEAT. 9 by the template 'for every input the law returns true; each argument reads behind the call as it read before'; 0 by the template 'total and deterministic' (their statements: YtfemlllmglaimaaGreatTotals.lean).
  GIVEN WITH THE SEED: the statements are not yours to turn. If you find one false, say at which input.
  Laid BY PROGRAM, IN A SANDBOX (cutbox-rows.mjs): the forced cells as the released guide's own fill.sh prints them over the translation 3bf4ed2b94e36e77… (all of the seat's roots in one cut). By AI agents, Wed Nov 11 2026. No macro, syntax, notation, axiom, sorry.
-/
import Derived.Test.YtfemlllmglaimaaGreatChecked
import GoSem.Claim
import GoSem.ClaimJoined
import GoSem.ClaimMapViews
import Derived.JoinedTies
import Derived.KernelRfl
namespace Go.Proofs.YtfemlllmglaimaaGreat
/- THE CELL 'sum', in the pinned program and in every row, IS THE sha256 OF THE DUMP (.gsa) THAT YtfemlllmglaimaaGreatProg.lean LOADS. Nothing in Lean hashes anything: it is a label: what it is worth is what the hold of that sum in a sandbox is worth. -/
noncomputable def Tryz.pinned : Pinned := { name := "ytfemlllmglaimaagreat", sum := "3bf4ed2b94e36e776d0962f90c05ac8316757d61beb210455c86a698a46383f8", checked := Tryz.checked }
namespace Rows
def none {H : Type} : Left H := { results := [], args := [] }

/-- 'weirkeeperlaw21.KeeperTells': WHATEVER THE INPUT: true; the input reads as it did. -/
def keeperTellsSpec : ChangeSpec := { name := "keeperTells", fn := fun _ => fun
  | [d] => { results := [.lit (.bool true)], args := [d] }
  | _ => none }
def keeperTellsRow : OpenClaim := { program := "ytfemlllmglaimaagreat", sum := "3bf4ed2b94e36e776d0962f90c05ac8316757d61beb210455c86a698a46383f8", func := "weirkeeper/weirkeeperlaw21.KeeperTells", spec := "keeperTells", inPlace := ["slices.overlaps[weirkeeper/api.Pair]", "slices.overlaps[weirkeeper/api.Note]", "slices.overlaps[weirkeeper/feed.Sub]"], unfollowed := true, recurses := true, apart := false }
def KeeperTellsSaid : Prop := keeperTellsRow.holds Tryz.pinned (OpenSpec.ofChange keeperTellsSpec)

/-- ITS FALSE NEIGHBOUR: 'it returns false'. Refute it at one input. -/
def keeperTellsWrong : ChangeSpec := { name := "keeperTells", fn := fun _ => fun
  | [d] => { results := [.lit (.bool false)], args := [d] }
  | _ => none }
def KeeperTellsWrongFalsely : Prop := keeperTellsRow.holds Tryz.pinned (OpenSpec.ofChange keeperTellsWrong)

/-- 'weirkeeperlaw21.KeeperStays': WHATEVER THE INPUT: true; the input reads as it did. -/
def keeperStaysSpec : ChangeSpec := { name := "keeperStays", fn := fun _ => fun
  | [d] => { results := [.lit (.bool true)], args := [d] }
  | _ => none }
def keeperStaysRow : OpenClaim := { program := "ytfemlllmglaimaagreat", sum := "3bf4ed2b94e36e776d0962f90c05ac8316757d61beb210455c86a698a46383f8", func := "weirkeeper/weirkeeperlaw21.KeeperStays", spec := "keeperStays", inPlace := ["slices.overlaps[weirkeeper/api.Pair]", "slices.overlaps[weirkeeper/api.Note]", "slices.overlaps[weirkeeper/feed.Sub]"], unfollowed := true, recurses := true, apart := false }
def KeeperStaysSaid : Prop := keeperStaysRow.holds Tryz.pinned (OpenSpec.ofChange keeperStaysSpec)

/-- ITS FALSE NEIGHBOUR: 'it returns false'. Refute it at one input. -/
def keeperStaysWrong : ChangeSpec := { name := "keeperStays", fn := fun _ => fun
  | [d] => { results := [.lit (.bool false)], args := [d] }
  | _ => none }
def KeeperStaysWrongFalsely : Prop := keeperStaysRow.holds Tryz.pinned (OpenSpec.ofChange keeperStaysWrong)

/-- 'weirkeeperlaw21.KeeperTrims': WHATEVER THE INPUT: true; the input reads as it did. -/
def keeperTrimsSpec : ChangeSpec := { name := "keeperTrims", fn := fun _ => fun
  | [d1, d2] => { results := [.lit (.bool true)], args := [d1, d2] }
  | _ => none }
def keeperTrimsRow : OpenClaim := { program := "ytfemlllmglaimaagreat", sum := "3bf4ed2b94e36e776d0962f90c05ac8316757d61beb210455c86a698a46383f8", func := "weirkeeper/weirkeeperlaw21.KeeperTrims", spec := "keeperTrims", inPlace := ["slices.overlaps[weirkeeper/api.Pair]", "slices.overlaps[weirkeeper/api.Note]", "slices.overlaps[weirkeeper/feed.Sub]"], unfollowed := true, recurses := true, apart := false }
def KeeperTrimsSaid : Prop := keeperTrimsRow.holds Tryz.pinned (OpenSpec.ofChange keeperTrimsSpec)

/-- ITS FALSE NEIGHBOUR: 'it returns false'. Refute it at one input. -/
def keeperTrimsWrong : ChangeSpec := { name := "keeperTrims", fn := fun _ => fun
  | [d1, d2] => { results := [.lit (.bool false)], args := [d1, d2] }
  | _ => none }
def KeeperTrimsWrongFalsely : Prop := keeperTrimsRow.holds Tryz.pinned (OpenSpec.ofChange keeperTrimsWrong)

/-- 'weirkeeperlaw21.KeeperWas': WHATEVER THE INPUT: true; the input reads as it did. -/
def keeperWasSpec : ChangeSpec := { name := "keeperWas", fn := fun _ => fun
  | [d1, d2, d3, d4] => { results := [.lit (.bool true)], args := [d1, d2, d3, d4] }
  | _ => none }
def keeperWasRow : OpenClaim := { program := "ytfemlllmglaimaagreat", sum := "3bf4ed2b94e36e776d0962f90c05ac8316757d61beb210455c86a698a46383f8", func := "weirkeeper/weirkeeperlaw21.KeeperWas", spec := "keeperWas", inPlace := ["slices.overlaps[weirkeeper/api.Pair]", "slices.overlaps[weirkeeper/api.Note]", "slices.overlaps[weirkeeper/feed.Sub]"], unfollowed := true, recurses := true, apart := false }
def KeeperWasSaid : Prop := keeperWasRow.holds Tryz.pinned (OpenSpec.ofChange keeperWasSpec)

/-- ITS FALSE NEIGHBOUR: 'it returns false'. Refute it at one input. -/
def keeperWasWrong : ChangeSpec := { name := "keeperWas", fn := fun _ => fun
  | [d1, d2, d3, d4] => { results := [.lit (.bool false)], args := [d1, d2, d3, d4] }
  | _ => none }
def KeeperWasWrongFalsely : Prop := keeperWasRow.holds Tryz.pinned (OpenSpec.ofChange keeperWasWrong)

/-- 'weirkeeperlaw21.KeeperGets': WHATEVER THE INPUT: true; the input reads as it did. -/
def keeperGetsSpec : ChangeSpec := { name := "keeperGets", fn := fun _ => fun
  | [d1, d2, d3, d4] => { results := [.lit (.bool true)], args := [d1, d2, d3, d4] }
  | _ => none }
def keeperGetsRow : OpenClaim := { program := "ytfemlllmglaimaagreat", sum := "3bf4ed2b94e36e776d0962f90c05ac8316757d61beb210455c86a698a46383f8", func := "weirkeeper/weirkeeperlaw21.KeeperGets", spec := "keeperGets", inPlace := ["slices.overlaps[weirkeeper/api.Pair]", "slices.overlaps[weirkeeper/api.Note]", "slices.overlaps[weirkeeper/feed.Sub]"], unfollowed := true, recurses := true, apart := false }
def KeeperGetsSaid : Prop := keeperGetsRow.holds Tryz.pinned (OpenSpec.ofChange keeperGetsSpec)

/-- ITS FALSE NEIGHBOUR: 'it returns false'. Refute it at one input. -/
def keeperGetsWrong : ChangeSpec := { name := "keeperGets", fn := fun _ => fun
  | [d1, d2, d3, d4] => { results := [.lit (.bool false)], args := [d1, d2, d3, d4] }
  | _ => none }
def KeeperGetsWrongFalsely : Prop := keeperGetsRow.holds Tryz.pinned (OpenSpec.ofChange keeperGetsWrong)

/-- 'weirkeeperlaw21.KeeperPages': WHATEVER THE INPUT: true; the input reads as it did. -/
def keeperPagesSpec : ChangeSpec := { name := "keeperPages", fn := fun _ => fun
  | [d1, d2, d3] => { results := [.lit (.bool true)], args := [d1, d2, d3] }
  | _ => none }
def keeperPagesRow : OpenClaim := { program := "ytfemlllmglaimaagreat", sum := "3bf4ed2b94e36e776d0962f90c05ac8316757d61beb210455c86a698a46383f8", func := "weirkeeper/weirkeeperlaw21.KeeperPages", spec := "keeperPages", inPlace := ["slices.overlaps[weirkeeper/api.Pair]", "slices.overlaps[weirkeeper/api.Note]", "slices.overlaps[weirkeeper/feed.Sub]"], unfollowed := true, recurses := true, apart := false }
def KeeperPagesSaid : Prop := keeperPagesRow.holds Tryz.pinned (OpenSpec.ofChange keeperPagesSpec)

/-- ITS FALSE NEIGHBOUR: 'it returns false'. Refute it at one input. -/
def keeperPagesWrong : ChangeSpec := { name := "keeperPages", fn := fun _ => fun
  | [d1, d2, d3] => { results := [.lit (.bool false)], args := [d1, d2, d3] }
  | _ => none }
def KeeperPagesWrongFalsely : Prop := keeperPagesRow.holds Tryz.pinned (OpenSpec.ofChange keeperPagesWrong)

/-- 'weirkeeperlaw21.KeeperOf': WHATEVER THE INPUT: true; the input reads as it did. -/
def keeperOfSpec : ChangeSpec := { name := "keeperOf", fn := fun _ => fun
  | [d1, d2] => { results := [.lit (.bool true)], args := [d1, d2] }
  | _ => none }
def keeperOfRow : OpenClaim := { program := "ytfemlllmglaimaagreat", sum := "3bf4ed2b94e36e776d0962f90c05ac8316757d61beb210455c86a698a46383f8", func := "weirkeeper/weirkeeperlaw21.KeeperOf", spec := "keeperOf", inPlace := ["slices.overlaps[weirkeeper/api.Pair]", "slices.overlaps[weirkeeper/api.Note]", "slices.overlaps[weirkeeper/feed.Sub]"], unfollowed := true, recurses := true, apart := false }
def KeeperOfSaid : Prop := keeperOfRow.holds Tryz.pinned (OpenSpec.ofChange keeperOfSpec)

/-- ITS FALSE NEIGHBOUR: 'it returns false'. Refute it at one input. -/
def keeperOfWrong : ChangeSpec := { name := "keeperOf", fn := fun _ => fun
  | [d1, d2] => { results := [.lit (.bool false)], args := [d1, d2] }
  | _ => none }
def KeeperOfWrongFalsely : Prop := keeperOfRow.holds Tryz.pinned (OpenSpec.ofChange keeperOfWrong)

/-- 'weirkeeperlaw21.KeeperParts': WHATEVER THE INPUT: true; the input reads as it did. -/
def keeperPartsSpec : ChangeSpec := { name := "keeperParts", fn := fun _ => fun
  | [d1, d2] => { results := [.lit (.bool true)], args := [d1, d2] }
  | _ => none }
def keeperPartsRow : OpenClaim := { program := "ytfemlllmglaimaagreat", sum := "3bf4ed2b94e36e776d0962f90c05ac8316757d61beb210455c86a698a46383f8", func := "weirkeeper/weirkeeperlaw21.KeeperParts", spec := "keeperParts", inPlace := ["slices.overlaps[weirkeeper/api.Pair]", "slices.overlaps[weirkeeper/api.Note]", "slices.overlaps[weirkeeper/feed.Sub]"], unfollowed := true, recurses := true, apart := false }
def KeeperPartsSaid : Prop := keeperPartsRow.holds Tryz.pinned (OpenSpec.ofChange keeperPartsSpec)

/-- ITS FALSE NEIGHBOUR: 'it returns false'. Refute it at one input. -/
def keeperPartsWrong : ChangeSpec := { name := "keeperParts", fn := fun _ => fun
  | [d1, d2] => { results := [.lit (.bool false)], args := [d1, d2] }
  | _ => none }
def KeeperPartsWrongFalsely : Prop := keeperPartsRow.holds Tryz.pinned (OpenSpec.ofChange keeperPartsWrong)

/-- 'weirkeeperlaw21.KeeperFollows': WHATEVER THE INPUT: true; the input reads as it did. -/
def keeperFollowsSpec : ChangeSpec := { name := "keeperFollows", fn := fun _ => fun
  | [d1, d2, d3] => { results := [.lit (.bool true)], args := [d1, d2, d3] }
  | _ => none }
def keeperFollowsRow : OpenClaim := { program := "ytfemlllmglaimaagreat", sum := "3bf4ed2b94e36e776d0962f90c05ac8316757d61beb210455c86a698a46383f8", func := "weirkeeper/weirkeeperlaw21.KeeperFollows", spec := "keeperFollows", inPlace := ["slices.overlaps[weirkeeper/api.Pair]", "slices.overlaps[weirkeeper/api.Note]", "slices.overlaps[weirkeeper/feed.Sub]"], unfollowed := true, recurses := true, apart := false }
def KeeperFollowsSaid : Prop := keeperFollowsRow.holds Tryz.pinned (OpenSpec.ofChange keeperFollowsSpec)

/-- ITS FALSE NEIGHBOUR: 'it returns false'. Refute it at one input. -/
def keeperFollowsWrong : ChangeSpec := { name := "keeperFollows", fn := fun _ => fun
  | [d1, d2, d3] => { results := [.lit (.bool false)], args := [d1, d2, d3] }
  | _ => none }
def KeeperFollowsWrongFalsely : Prop := keeperFollowsRow.holds Tryz.pinned (OpenSpec.ofChange keeperFollowsWrong)

/- THE SECOND FORM. 'bulk': how many values and letters a reading holds, each counted each time it is reached (what is shared counts as often as it is met; a slice's spare places count too). A statement '..UptoSaid' is the law's where the arguments, and the package variables that the reading takes, are together of bulk at most 1048576: NARROWER than '..Said'. Prove '..Said' where nothing that the law and all that it calls make is longer than what came in: it says more and counts as full. Else prove '..UptoSaid'. A law counts once. -/
mutual
def uptoBulk {H : Type} : DataW H → Nat
  | .lit (.string bytes) => bytes.length + 1
  | .lit _ => 1
  | .nil => 1
  | .ptr d => uptoBulk d + 1
  | .slice elems spare => uptoBulkAll elems + uptoBulkAll spare + 1
  | .agg parts => uptoBulkAll parts + 1
  | .iface _ d => uptoBulk d + 1
  | .map entries => uptoBulkEntries entries + 1
  | .held _ => 1
def uptoBulkAll {H : Type} : List (DataW H) → Nat
  | [] => 0
  | d :: r => uptoBulk d + uptoBulkAll r
def uptoBulkEntries {H : Type} : List (Lit × DataW H) → Nat
  | [] => 0
  | x :: r => uptoBulkEntry x + uptoBulkEntries r
def uptoBulkEntry {H : Type} : Lit × DataW H → Nat
  | (.string bytes, d) => bytes.length + uptoBulk d + 1
  | (_, d) => uptoBulk d + 1
 end
def uptoSmall : (H : Type) → List (DataW H) → Bool := fun _ ds => decide (uptoBulkAll ds ≤ 1048576)
def OpenSpec.upto (s : _root_.Go.ChangeSpec) : _root_.Go.OpenSpec := { _root_.Go.OpenSpec.ofChange s with cond := some uptoSmall }

/-- 'weirkeeperlaw21.KeeperTells', WHERE WHAT IT READS IS OF BULK AT MOST 1048576: true; the input reads as it did. -/
def keeperTellsUptoRow : OpenClaim := { program := "ytfemlllmglaimaagreat", sum := "3bf4ed2b94e36e776d0962f90c05ac8316757d61beb210455c86a698a46383f8", func := "weirkeeper/weirkeeperlaw21.KeeperTells", spec := "keeperTells", inPlace := ["slices.overlaps[weirkeeper/api.Pair]", "slices.overlaps[weirkeeper/api.Note]", "slices.overlaps[weirkeeper/feed.Sub]"], unfollowed := true, recurses := true, apart := false, narrowed := true }
def KeeperTellsUptoSaid : Prop := keeperTellsUptoRow.holds Tryz.pinned (OpenSpec.upto keeperTellsSpec)

/-- 'weirkeeperlaw21.KeeperStays', WHERE WHAT IT READS IS OF BULK AT MOST 1048576: true; the input reads as it did. -/
def keeperStaysUptoRow : OpenClaim := { program := "ytfemlllmglaimaagreat", sum := "3bf4ed2b94e36e776d0962f90c05ac8316757d61beb210455c86a698a46383f8", func := "weirkeeper/weirkeeperlaw21.KeeperStays", spec := "keeperStays", inPlace := ["slices.overlaps[weirkeeper/api.Pair]", "slices.overlaps[weirkeeper/api.Note]", "slices.overlaps[weirkeeper/feed.Sub]"], unfollowed := true, recurses := true, apart := false, narrowed := true }
def KeeperStaysUptoSaid : Prop := keeperStaysUptoRow.holds Tryz.pinned (OpenSpec.upto keeperStaysSpec)

/-- 'weirkeeperlaw21.KeeperTrims', WHERE WHAT IT READS IS OF BULK AT MOST 1048576: true; the input reads as it did. -/
def keeperTrimsUptoRow : OpenClaim := { program := "ytfemlllmglaimaagreat", sum := "3bf4ed2b94e36e776d0962f90c05ac8316757d61beb210455c86a698a46383f8", func := "weirkeeper/weirkeeperlaw21.KeeperTrims", spec := "keeperTrims", inPlace := ["slices.overlaps[weirkeeper/api.Pair]", "slices.overlaps[weirkeeper/api.Note]", "slices.overlaps[weirkeeper/feed.Sub]"], unfollowed := true, recurses := true, apart := false, narrowed := true }
def KeeperTrimsUptoSaid : Prop := keeperTrimsUptoRow.holds Tryz.pinned (OpenSpec.upto keeperTrimsSpec)

/-- 'weirkeeperlaw21.KeeperWas', WHERE WHAT IT READS IS OF BULK AT MOST 1048576: true; the input reads as it did. -/
def keeperWasUptoRow : OpenClaim := { program := "ytfemlllmglaimaagreat", sum := "3bf4ed2b94e36e776d0962f90c05ac8316757d61beb210455c86a698a46383f8", func := "weirkeeper/weirkeeperlaw21.KeeperWas", spec := "keeperWas", inPlace := ["slices.overlaps[weirkeeper/api.Pair]", "slices.overlaps[weirkeeper/api.Note]", "slices.overlaps[weirkeeper/feed.Sub]"], unfollowed := true, recurses := true, apart := false, narrowed := true }
def KeeperWasUptoSaid : Prop := keeperWasUptoRow.holds Tryz.pinned (OpenSpec.upto keeperWasSpec)

/-- 'weirkeeperlaw21.KeeperGets', WHERE WHAT IT READS IS OF BULK AT MOST 1048576: true; the input reads as it did. -/
def keeperGetsUptoRow : OpenClaim := { program := "ytfemlllmglaimaagreat", sum := "3bf4ed2b94e36e776d0962f90c05ac8316757d61beb210455c86a698a46383f8", func := "weirkeeper/weirkeeperlaw21.KeeperGets", spec := "keeperGets", inPlace := ["slices.overlaps[weirkeeper/api.Pair]", "slices.overlaps[weirkeeper/api.Note]", "slices.overlaps[weirkeeper/feed.Sub]"], unfollowed := true, recurses := true, apart := false, narrowed := true }
def KeeperGetsUptoSaid : Prop := keeperGetsUptoRow.holds Tryz.pinned (OpenSpec.upto keeperGetsSpec)

/-- 'weirkeeperlaw21.KeeperPages', WHERE WHAT IT READS IS OF BULK AT MOST 1048576: true; the input reads as it did. -/
def keeperPagesUptoRow : OpenClaim := { program := "ytfemlllmglaimaagreat", sum := "3bf4ed2b94e36e776d0962f90c05ac8316757d61beb210455c86a698a46383f8", func := "weirkeeper/weirkeeperlaw21.KeeperPages", spec := "keeperPages", inPlace := ["slices.overlaps[weirkeeper/api.Pair]", "slices.overlaps[weirkeeper/api.Note]", "slices.overlaps[weirkeeper/feed.Sub]"], unfollowed := true, recurses := true, apart := false, narrowed := true }
def KeeperPagesUptoSaid : Prop := keeperPagesUptoRow.holds Tryz.pinned (OpenSpec.upto keeperPagesSpec)

/-- 'weirkeeperlaw21.KeeperOf', WHERE WHAT IT READS IS OF BULK AT MOST 1048576: true; the input reads as it did. -/
def keeperOfUptoRow : OpenClaim := { program := "ytfemlllmglaimaagreat", sum := "3bf4ed2b94e36e776d0962f90c05ac8316757d61beb210455c86a698a46383f8", func := "weirkeeper/weirkeeperlaw21.KeeperOf", spec := "keeperOf", inPlace := ["slices.overlaps[weirkeeper/api.Pair]", "slices.overlaps[weirkeeper/api.Note]", "slices.overlaps[weirkeeper/feed.Sub]"], unfollowed := true, recurses := true, apart := false, narrowed := true }
def KeeperOfUptoSaid : Prop := keeperOfUptoRow.holds Tryz.pinned (OpenSpec.upto keeperOfSpec)

/-- 'weirkeeperlaw21.KeeperParts', WHERE WHAT IT READS IS OF BULK AT MOST 1048576: true; the input reads as it did. -/
def keeperPartsUptoRow : OpenClaim := { program := "ytfemlllmglaimaagreat", sum := "3bf4ed2b94e36e776d0962f90c05ac8316757d61beb210455c86a698a46383f8", func := "weirkeeper/weirkeeperlaw21.KeeperParts", spec := "keeperParts", inPlace := ["slices.overlaps[weirkeeper/api.Pair]", "slices.overlaps[weirkeeper/api.Note]", "slices.overlaps[weirkeeper/feed.Sub]"], unfollowed := true, recurses := true, apart := false, narrowed := true }
def KeeperPartsUptoSaid : Prop := keeperPartsUptoRow.holds Tryz.pinned (OpenSpec.upto keeperPartsSpec)

/-- 'weirkeeperlaw21.KeeperFollows', WHERE WHAT IT READS IS OF BULK AT MOST 1048576: true; the input reads as it did. -/
def keeperFollowsUptoRow : OpenClaim := { program := "ytfemlllmglaimaagreat", sum := "3bf4ed2b94e36e776d0962f90c05ac8316757d61beb210455c86a698a46383f8", func := "weirkeeper/weirkeeperlaw21.KeeperFollows", spec := "keeperFollows", inPlace := ["slices.overlaps[weirkeeper/api.Pair]", "slices.overlaps[weirkeeper/api.Note]", "slices.overlaps[weirkeeper/feed.Sub]"], unfollowed := true, recurses := true, apart := false, narrowed := true }
def KeeperFollowsUptoSaid : Prop := keeperFollowsUptoRow.holds Tryz.pinned (OpenSpec.upto keeperFollowsSpec)

end Rows
end Go.Proofs.YtfemlllmglaimaaGreat
