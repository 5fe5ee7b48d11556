/-
  No cell of these rows narrows 'for every input' (looked for: loops, veiled, ifaces, maps, wideKeys, modest, calm, conditions, laid).
  DERIVED. THE GIVEN ROWS OF THIS SEAT. 12 by the template 'for every input the law returns true; each argument reads behind the call as it read before'; 0 by the template 'total and deterministic' (their statements: YtdpodjgggicaoaaTotals.lean).
  GIVEN WITH THE SEED: the statements are not yours to turn. If you find one false, say at which input.
  Laid BY PROGRAM, IN A SANDBOX (cutbox-rows.mjs): the forced cells as the released guide's own fill.sh prints them over the translation e982c38ae6204b57… (all of the seat's roots in one cut). By AI agents, Wed Nov 11 2026. No macro, syntax, notation, axiom, sorry.
-/
import Derived.Test.YtdpodjgggicaoaaChecked
import GoSem.Claim
import GoSem.ClaimJoined
import GoSem.ClaimMapViews
import Derived.JoinedTies
import Derived.KernelRfl
namespace Go.Proofs.Ytdpodjgggicaoaa
/- THE CELL 'sum', in the pinned program and in every row, IS THE sha256 OF THE DUMP (.gsa) THAT YtdpodjgggicaoaaProg.lean LOADS. Nothing in Lean hashes anything: it is a label: what it is worth is what the hold of that sum in a sandbox is worth. -/
noncomputable def Try.pinned : Pinned := { name := "ytdpodjgggicaoaa", sum := "e982c38ae6204b57843bf33ba5750ee0ad6c51d39be92dbe4eaf6750baec1b47", checked := Try.checked }
namespace Rows
def none {H : Type} : Left H := { results := [], args := [] }

/-- 'merkhetlaw04.WireOne': WHATEVER THE INPUT: true; the input reads as it did. -/
def wireOneSpec : ChangeSpec := { name := "wireOne", fn := fun _ => fun
  | [d1, d2] => { results := [.lit (.bool true)], args := [d1, d2] }
  | _ => none }
def wireOneRow : OpenClaim := { program := "ytdpodjgggicaoaa", sum := "e982c38ae6204b57843bf33ba5750ee0ad6c51d39be92dbe4eaf6750baec1b47", func := "merkhet/merkhetlaw04.WireOne", spec := "wireOne", apart := false }
def WireOneSaid : Prop := wireOneRow.holds Try.pinned (OpenSpec.ofChange wireOneSpec)

/-- ITS FALSE NEIGHBOUR: 'it returns false'. Refute it at one input. -/
def wireOneWrong : ChangeSpec := { name := "wireOne", fn := fun _ => fun
  | [d1, d2] => { results := [.lit (.bool false)], args := [d1, d2] }
  | _ => none }
def WireOneWrongFalsely : Prop := wireOneRow.holds Try.pinned (OpenSpec.ofChange wireOneWrong)

/-- 'merkhetlaw06.FramePuts': WHATEVER THE INPUT: true; the input reads as it did. -/
def framePutsSpec : ChangeSpec := { name := "framePuts", fn := fun _ => fun
  | [d1, d2] => { results := [.lit (.bool true)], args := [d1, d2] }
  | _ => none }
def framePutsRow : OpenClaim := { program := "ytdpodjgggicaoaa", sum := "e982c38ae6204b57843bf33ba5750ee0ad6c51d39be92dbe4eaf6750baec1b47", func := "merkhet/merkhetlaw06.FramePuts", spec := "framePuts", apart := false }
def FramePutsSaid : Prop := framePutsRow.holds Try.pinned (OpenSpec.ofChange framePutsSpec)

/-- ITS FALSE NEIGHBOUR: 'it returns false'. Refute it at one input. -/
def framePutsWrong : ChangeSpec := { name := "framePuts", fn := fun _ => fun
  | [d1, d2] => { results := [.lit (.bool false)], args := [d1, d2] }
  | _ => none }
def FramePutsWrongFalsely : Prop := framePutsRow.holds Try.pinned (OpenSpec.ofChange framePutsWrong)

/-- 'merkhetlaw06.FrameTold': WHATEVER THE INPUT: true; the input reads as it did. -/
def frameToldSpec : ChangeSpec := { name := "frameTold", fn := fun _ => fun
  | [d1, d2, d3] => { results := [.lit (.bool true)], args := [d1, d2, d3] }
  | _ => none }
def frameToldRow : OpenClaim := { program := "ytdpodjgggicaoaa", sum := "e982c38ae6204b57843bf33ba5750ee0ad6c51d39be92dbe4eaf6750baec1b47", func := "merkhet/merkhetlaw06.FrameTold", spec := "frameTold", apart := false }
def FrameToldSaid : Prop := frameToldRow.holds Try.pinned (OpenSpec.ofChange frameToldSpec)

/-- ITS FALSE NEIGHBOUR: 'it returns false'. Refute it at one input. -/
def frameToldWrong : ChangeSpec := { name := "frameTold", fn := fun _ => fun
  | [d1, d2, d3] => { results := [.lit (.bool false)], args := [d1, d2, d3] }
  | _ => none }
def FrameToldWrongFalsely : Prop := frameToldRow.holds Try.pinned (OpenSpec.ofChange frameToldWrong)

/-- 'merkhetlaw06.FrameGets': WHATEVER THE INPUT: true; the input reads as it did. -/
def frameGetsSpec : ChangeSpec := { name := "frameGets", fn := fun _ => fun
  | [d1, d2, d3] => { results := [.lit (.bool true)], args := [d1, d2, d3] }
  | _ => none }
def frameGetsRow : OpenClaim := { program := "ytdpodjgggicaoaa", sum := "e982c38ae6204b57843bf33ba5750ee0ad6c51d39be92dbe4eaf6750baec1b47", func := "merkhet/merkhetlaw06.FrameGets", spec := "frameGets", unfollowed := true, recurses := true, apart := false }
def FrameGetsSaid : Prop := frameGetsRow.holds Try.pinned (OpenSpec.ofChange frameGetsSpec)

/-- ITS FALSE NEIGHBOUR: 'it returns false'. Refute it at one input. -/
def frameGetsWrong : ChangeSpec := { name := "frameGets", fn := fun _ => fun
  | [d1, d2, d3] => { results := [.lit (.bool false)], args := [d1, d2, d3] }
  | _ => none }
def FrameGetsWrongFalsely : Prop := frameGetsRow.holds Try.pinned (OpenSpec.ofChange frameGetsWrong)

/-- 'merkhetlaw06.FrameCuts': WHATEVER THE INPUT: true; the input reads as it did. -/
def frameCutsSpec : ChangeSpec := { name := "frameCuts", fn := fun _ => fun
  | [d1, d2] => { results := [.lit (.bool true)], args := [d1, d2] }
  | _ => none }
def frameCutsRow : OpenClaim := { program := "ytdpodjgggicaoaa", sum := "e982c38ae6204b57843bf33ba5750ee0ad6c51d39be92dbe4eaf6750baec1b47", func := "merkhet/merkhetlaw06.FrameCuts", spec := "frameCuts", unfollowed := true, recurses := true, apart := false }
def FrameCutsSaid : Prop := frameCutsRow.holds Try.pinned (OpenSpec.ofChange frameCutsSpec)

/-- ITS FALSE NEIGHBOUR: 'it returns false'. Refute it at one input. -/
def frameCutsWrong : ChangeSpec := { name := "frameCuts", fn := fun _ => fun
  | [d1, d2] => { results := [.lit (.bool false)], args := [d1, d2] }
  | _ => none }
def FrameCutsWrongFalsely : Prop := frameCutsRow.holds Try.pinned (OpenSpec.ofChange frameCutsWrong)

/-- 'merkhetlaw04.WirePuts': WHATEVER THE INPUT: true; the input reads as it did. -/
def wirePutsSpec : ChangeSpec := { name := "wirePuts", fn := fun _ => fun
  | [d] => { results := [.lit (.bool true)], args := [d] }
  | _ => none }
def wirePutsRow : OpenClaim := { program := "ytdpodjgggicaoaa", sum := "e982c38ae6204b57843bf33ba5750ee0ad6c51d39be92dbe4eaf6750baec1b47", func := "merkhet/merkhetlaw04.WirePuts", spec := "wirePuts", unfollowed := true, recurses := true, apart := false }
def WirePutsSaid : Prop := wirePutsRow.holds Try.pinned (OpenSpec.ofChange wirePutsSpec)

/-- ITS FALSE NEIGHBOUR: 'it returns false'. Refute it at one input. -/
def wirePutsWrong : ChangeSpec := { name := "wirePuts", fn := fun _ => fun
  | [d] => { results := [.lit (.bool false)], args := [d] }
  | _ => none }
def WirePutsWrongFalsely : Prop := wirePutsRow.holds Try.pinned (OpenSpec.ofChange wirePutsWrong)

/-- 'merkhetlaw04.WireGets': WHATEVER THE INPUT: true; the input reads as it did. -/
def wireGetsSpec : ChangeSpec := { name := "wireGets", fn := fun _ => fun
  | [d] => { results := [.lit (.bool true)], args := [d] }
  | _ => none }
def wireGetsRow : OpenClaim := { program := "ytdpodjgggicaoaa", sum := "e982c38ae6204b57843bf33ba5750ee0ad6c51d39be92dbe4eaf6750baec1b47", func := "merkhet/merkhetlaw04.WireGets", spec := "wireGets", unfollowed := true, recurses := true, apart := false }
def WireGetsSaid : Prop := wireGetsRow.holds Try.pinned (OpenSpec.ofChange wireGetsSpec)

/-- ITS FALSE NEIGHBOUR: 'it returns false'. Refute it at one input. -/
def wireGetsWrong : ChangeSpec := { name := "wireGets", fn := fun _ => fun
  | [d] => { results := [.lit (.bool false)], args := [d] }
  | _ => none }
def WireGetsWrongFalsely : Prop := wireGetsRow.holds Try.pinned (OpenSpec.ofChange wireGetsWrong)

/-- 'merkhetlaw04.WireCuts': WHATEVER THE INPUT: true; the input reads as it did. -/
def wireCutsSpec : ChangeSpec := { name := "wireCuts", fn := fun _ => fun
  | [d1, d2, d3] => { results := [.lit (.bool true)], args := [d1, d2, d3] }
  | _ => none }
def wireCutsRow : OpenClaim := { program := "ytdpodjgggicaoaa", sum := "e982c38ae6204b57843bf33ba5750ee0ad6c51d39be92dbe4eaf6750baec1b47", func := "merkhet/merkhetlaw04.WireCuts", spec := "wireCuts", unfollowed := true, recurses := true, apart := false }
def WireCutsSaid : Prop := wireCutsRow.holds Try.pinned (OpenSpec.ofChange wireCutsSpec)

/-- ITS FALSE NEIGHBOUR: 'it returns false'. Refute it at one input. -/
def wireCutsWrong : ChangeSpec := { name := "wireCuts", fn := fun _ => fun
  | [d1, d2, d3] => { results := [.lit (.bool false)], args := [d1, d2, d3] }
  | _ => none }
def WireCutsWrongFalsely : Prop := wireCutsRow.holds Try.pinned (OpenSpec.ofChange wireCutsWrong)

/-- 'merkhetlaw07.SegmentHeads': WHATEVER THE INPUT: true; the input reads as it did. -/
def segmentHeadsSpec : ChangeSpec := { name := "segmentHeads", fn := fun _ => fun
  | [d1, d2] => { results := [.lit (.bool true)], args := [d1, d2] }
  | _ => none }
def segmentHeadsRow : OpenClaim := { program := "ytdpodjgggicaoaa", sum := "e982c38ae6204b57843bf33ba5750ee0ad6c51d39be92dbe4eaf6750baec1b47", func := "merkhet/merkhetlaw07.SegmentHeads", spec := "segmentHeads", unfollowed := true, recurses := true, apart := false }
def SegmentHeadsSaid : Prop := segmentHeadsRow.holds Try.pinned (OpenSpec.ofChange segmentHeadsSpec)

/-- ITS FALSE NEIGHBOUR: 'it returns false'. Refute it at one input. -/
def segmentHeadsWrong : ChangeSpec := { name := "segmentHeads", fn := fun _ => fun
  | [d1, d2] => { results := [.lit (.bool false)], args := [d1, d2] }
  | _ => none }
def SegmentHeadsWrongFalsely : Prop := segmentHeadsRow.holds Try.pinned (OpenSpec.ofChange segmentHeadsWrong)

/-- 'merkhetlaw07.SegmentReads': WHATEVER THE INPUT: true; the input reads as it did. -/
def segmentReadsSpec : ChangeSpec := { name := "segmentReads", fn := fun _ => fun
  | [d] => { results := [.lit (.bool true)], args := [d] }
  | _ => none }
def segmentReadsRow : OpenClaim := { program := "ytdpodjgggicaoaa", sum := "e982c38ae6204b57843bf33ba5750ee0ad6c51d39be92dbe4eaf6750baec1b47", func := "merkhet/merkhetlaw07.SegmentReads", spec := "segmentReads", unfollowed := true, recurses := true, apart := false }
def SegmentReadsSaid : Prop := segmentReadsRow.holds Try.pinned (OpenSpec.ofChange segmentReadsSpec)

/-- ITS FALSE NEIGHBOUR: 'it returns false'. Refute it at one input. -/
def segmentReadsWrong : ChangeSpec := { name := "segmentReads", fn := fun _ => fun
  | [d] => { results := [.lit (.bool false)], args := [d] }
  | _ => none }
def SegmentReadsWrongFalsely : Prop := segmentReadsRow.holds Try.pinned (OpenSpec.ofChange segmentReadsWrong)

/-- 'merkhetlaw07.SegmentTold': WHATEVER THE INPUT: true; the input reads as it did. -/
def segmentToldSpec : ChangeSpec := { name := "segmentTold", fn := fun _ => fun
  | [d1, d2, d3] => { results := [.lit (.bool true)], args := [d1, d2, d3] }
  | _ => none }
def segmentToldRow : OpenClaim := { program := "ytdpodjgggicaoaa", sum := "e982c38ae6204b57843bf33ba5750ee0ad6c51d39be92dbe4eaf6750baec1b47", func := "merkhet/merkhetlaw07.SegmentTold", spec := "segmentTold", unfollowed := true, recurses := true, apart := false }
def SegmentToldSaid : Prop := segmentToldRow.holds Try.pinned (OpenSpec.ofChange segmentToldSpec)

/-- ITS FALSE NEIGHBOUR: 'it returns false'. Refute it at one input. -/
def segmentToldWrong : ChangeSpec := { name := "segmentTold", fn := fun _ => fun
  | [d1, d2, d3] => { results := [.lit (.bool false)], args := [d1, d2, d3] }
  | _ => none }
def SegmentToldWrongFalsely : Prop := segmentToldRow.holds Try.pinned (OpenSpec.ofChange segmentToldWrong)

/-- 'merkhetlaw07.SegmentTorn': WHATEVER THE INPUT: true; the input reads as it did. -/
def segmentTornSpec : ChangeSpec := { name := "segmentTorn", fn := fun _ => fun
  | [d1, d2, d3] => { results := [.lit (.bool true)], args := [d1, d2, d3] }
  | _ => none }
def segmentTornRow : OpenClaim := { program := "ytdpodjgggicaoaa", sum := "e982c38ae6204b57843bf33ba5750ee0ad6c51d39be92dbe4eaf6750baec1b47", func := "merkhet/merkhetlaw07.SegmentTorn", spec := "segmentTorn", unfollowed := true, recurses := true, apart := false }
def SegmentTornSaid : Prop := segmentTornRow.holds Try.pinned (OpenSpec.ofChange segmentTornSpec)

/-- ITS FALSE NEIGHBOUR: 'it returns false'. Refute it at one input. -/
def segmentTornWrong : ChangeSpec := { name := "segmentTorn", fn := fun _ => fun
  | [d1, d2, d3] => { results := [.lit (.bool false)], args := [d1, d2, d3] }
  | _ => none }
def SegmentTornWrongFalsely : Prop := segmentTornRow.holds Try.pinned (OpenSpec.ofChange segmentTornWrong)

/- THE SECOND FORM. 'bulk': how many values and letters a reading holds, each counted each time it is reached (what is shared counts as often as it is met; a slice's spare places count too). A statement '..UptoSaid' is the law's where the arguments, and the package variables that the reading takes, are together of bulk at most 1048576: NARROWER than '..Said'. Prove '..Said' where nothing that the law and all that it calls make is longer than what came in: it says more and counts as full. Else prove '..UptoSaid'. A law counts once. -/
mutual
def uptoBulk {H : Type} : DataW H → Nat
  | .lit (.string bytes) => bytes.length + 1
  | .lit _ => 1
  | .nil => 1
  | .ptr d => uptoBulk d + 1
  | .slice elems spare => uptoBulkAll elems + uptoBulkAll spare + 1
  | .agg parts => uptoBulkAll parts + 1
  | .iface _ d => uptoBulk d + 1
  | .map entries => uptoBulkEntries entries + 1
  | .held _ => 1
def uptoBulkAll {H : Type} : List (DataW H) → Nat
  | [] => 0
  | d :: r => uptoBulk d + uptoBulkAll r
def uptoBulkEntries {H : Type} : List (Lit × DataW H) → Nat
  | [] => 0
  | x :: r => uptoBulkEntry x + uptoBulkEntries r
def uptoBulkEntry {H : Type} : Lit × DataW H → Nat
  | (.string bytes, d) => bytes.length + uptoBulk d + 1
  | (_, d) => uptoBulk d + 1
 end
def uptoSmall : (H : Type) → List (DataW H) → Bool := fun _ ds => decide (uptoBulkAll ds ≤ 1048576)
def OpenSpec.upto (s : _root_.Go.ChangeSpec) : _root_.Go.OpenSpec := { _root_.Go.OpenSpec.ofChange s with cond := some uptoSmall }

/-- 'merkhetlaw04.WireOne', WHERE WHAT IT READS IS OF BULK AT MOST 1048576: true; the input reads as it did. -/
def wireOneUptoRow : OpenClaim := { program := "ytdpodjgggicaoaa", sum := "e982c38ae6204b57843bf33ba5750ee0ad6c51d39be92dbe4eaf6750baec1b47", func := "merkhet/merkhetlaw04.WireOne", spec := "wireOne", apart := false, narrowed := true }
def WireOneUptoSaid : Prop := wireOneUptoRow.holds Try.pinned (OpenSpec.upto wireOneSpec)

/-- 'merkhetlaw06.FramePuts', WHERE WHAT IT READS IS OF BULK AT MOST 1048576: true; the input reads as it did. -/
def framePutsUptoRow : OpenClaim := { program := "ytdpodjgggicaoaa", sum := "e982c38ae6204b57843bf33ba5750ee0ad6c51d39be92dbe4eaf6750baec1b47", func := "merkhet/merkhetlaw06.FramePuts", spec := "framePuts", apart := false, narrowed := true }
def FramePutsUptoSaid : Prop := framePutsUptoRow.holds Try.pinned (OpenSpec.upto framePutsSpec)

/-- 'merkhetlaw06.FrameTold', WHERE WHAT IT READS IS OF BULK AT MOST 1048576: true; the input reads as it did. -/
def frameToldUptoRow : OpenClaim := { program := "ytdpodjgggicaoaa", sum := "e982c38ae6204b57843bf33ba5750ee0ad6c51d39be92dbe4eaf6750baec1b47", func := "merkhet/merkhetlaw06.FrameTold", spec := "frameTold", apart := false, narrowed := true }
def FrameToldUptoSaid : Prop := frameToldUptoRow.holds Try.pinned (OpenSpec.upto frameToldSpec)

/-- 'merkhetlaw06.FrameGets', WHERE WHAT IT READS IS OF BULK AT MOST 1048576: true; the input reads as it did. -/
def frameGetsUptoRow : OpenClaim := { program := "ytdpodjgggicaoaa", sum := "e982c38ae6204b57843bf33ba5750ee0ad6c51d39be92dbe4eaf6750baec1b47", func := "merkhet/merkhetlaw06.FrameGets", spec := "frameGets", unfollowed := true, recurses := true, apart := false, narrowed := true }
def FrameGetsUptoSaid : Prop := frameGetsUptoRow.holds Try.pinned (OpenSpec.upto frameGetsSpec)

/-- 'merkhetlaw06.FrameCuts', WHERE WHAT IT READS IS OF BULK AT MOST 1048576: true; the input reads as it did. -/
def frameCutsUptoRow : OpenClaim := { program := "ytdpodjgggicaoaa", sum := "e982c38ae6204b57843bf33ba5750ee0ad6c51d39be92dbe4eaf6750baec1b47", func := "merkhet/merkhetlaw06.FrameCuts", spec := "frameCuts", unfollowed := true, recurses := true, apart := false, narrowed := true }
def FrameCutsUptoSaid : Prop := frameCutsUptoRow.holds Try.pinned (OpenSpec.upto frameCutsSpec)

/-- 'merkhetlaw04.WirePuts', WHERE WHAT IT READS IS OF BULK AT MOST 1048576: true; the input reads as it did. -/
def wirePutsUptoRow : OpenClaim := { program := "ytdpodjgggicaoaa", sum := "e982c38ae6204b57843bf33ba5750ee0ad6c51d39be92dbe4eaf6750baec1b47", func := "merkhet/merkhetlaw04.WirePuts", spec := "wirePuts", unfollowed := true, recurses := true, apart := false, narrowed := true }
def WirePutsUptoSaid : Prop := wirePutsUptoRow.holds Try.pinned (OpenSpec.upto wirePutsSpec)

/-- 'merkhetlaw04.WireGets', WHERE WHAT IT READS IS OF BULK AT MOST 1048576: true; the input reads as it did. -/
def wireGetsUptoRow : OpenClaim := { program := "ytdpodjgggicaoaa", sum := "e982c38ae6204b57843bf33ba5750ee0ad6c51d39be92dbe4eaf6750baec1b47", func := "merkhet/merkhetlaw04.WireGets", spec := "wireGets", unfollowed := true, recurses := true, apart := false, narrowed := true }
def WireGetsUptoSaid : Prop := wireGetsUptoRow.holds Try.pinned (OpenSpec.upto wireGetsSpec)

/-- 'merkhetlaw04.WireCuts', WHERE WHAT IT READS IS OF BULK AT MOST 1048576: true; the input reads as it did. -/
def wireCutsUptoRow : OpenClaim := { program := "ytdpodjgggicaoaa", sum := "e982c38ae6204b57843bf33ba5750ee0ad6c51d39be92dbe4eaf6750baec1b47", func := "merkhet/merkhetlaw04.WireCuts", spec := "wireCuts", unfollowed := true, recurses := true, apart := false, narrowed := true }
def WireCutsUptoSaid : Prop := wireCutsUptoRow.holds Try.pinned (OpenSpec.upto wireCutsSpec)

/-- 'merkhetlaw07.SegmentHeads', WHERE WHAT IT READS IS OF BULK AT MOST 1048576: true; the input reads as it did. -/
def segmentHeadsUptoRow : OpenClaim := { program := "ytdpodjgggicaoaa", sum := "e982c38ae6204b57843bf33ba5750ee0ad6c51d39be92dbe4eaf6750baec1b47", func := "merkhet/merkhetlaw07.SegmentHeads", spec := "segmentHeads", unfollowed := true, recurses := true, apart := false, narrowed := true }
def SegmentHeadsUptoSaid : Prop := segmentHeadsUptoRow.holds Try.pinned (OpenSpec.upto segmentHeadsSpec)

/-- 'merkhetlaw07.SegmentReads', WHERE WHAT IT READS IS OF BULK AT MOST 1048576: true; the input reads as it did. -/
def segmentReadsUptoRow : OpenClaim := { program := "ytdpodjgggicaoaa", sum := "e982c38ae6204b57843bf33ba5750ee0ad6c51d39be92dbe4eaf6750baec1b47", func := "merkhet/merkhetlaw07.SegmentReads", spec := "segmentReads", unfollowed := true, recurses := true, apart := false, narrowed := true }
def SegmentReadsUptoSaid : Prop := segmentReadsUptoRow.holds Try.pinned (OpenSpec.upto segmentReadsSpec)

/-- 'merkhetlaw07.SegmentTold', WHERE WHAT IT READS IS OF BULK AT MOST 1048576: true; the input reads as it did. -/
def segmentToldUptoRow : OpenClaim := { program := "ytdpodjgggicaoaa", sum := "e982c38ae6204b57843bf33ba5750ee0ad6c51d39be92dbe4eaf6750baec1b47", func := "merkhet/merkhetlaw07.SegmentTold", spec := "segmentTold", unfollowed := true, recurses := true, apart := false, narrowed := true }
def SegmentToldUptoSaid : Prop := segmentToldUptoRow.holds Try.pinned (OpenSpec.upto segmentToldSpec)

/-- 'merkhetlaw07.SegmentTorn', WHERE WHAT IT READS IS OF BULK AT MOST 1048576: true; the input reads as it did. -/
def segmentTornUptoRow : OpenClaim := { program := "ytdpodjgggicaoaa", sum := "e982c38ae6204b57843bf33ba5750ee0ad6c51d39be92dbe4eaf6750baec1b47", func := "merkhet/merkhetlaw07.SegmentTorn", spec := "segmentTorn", unfollowed := true, recurses := true, apart := false, narrowed := true }
def SegmentTornUptoSaid : Prop := segmentTornUptoRow.holds Try.pinned (OpenSpec.upto segmentTornSpec)

end Rows
end Go.Proofs.Ytdpodjgggicaoaa
