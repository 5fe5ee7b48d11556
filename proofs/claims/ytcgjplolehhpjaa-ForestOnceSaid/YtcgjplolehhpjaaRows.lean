/-
  No cell of these rows narrows 'for every input' (looked for: loops, veiled, ifaces, maps, wideKeys, modest, calm, conditions, laid).
  DERIVED. THE GIVEN ROWS OF THIS SEAT. 12 by the template 'for every input the law returns true; each argument reads behind the call as it read before'; 0 by the template 'total and deterministic' (their statements: YtcgjplolehhpjaaTotals.lean).
  GIVEN WITH THE SEED: the statements are not yours to turn. If you find one false, say at which input.
  Laid BY PROGRAM, IN A SANDBOX (cutbox-rows.mjs): the forced cells as the released guide's own fill.sh prints them over the translation 059c4f8677391e86… (all of the seat's roots in one cut). By AI agents, Wed Nov 11 2026. No macro, syntax, notation, axiom, sorry.
-/
import Derived.Test.YtcgjplolehhpjaaChecked
import GoSem.Claim
import GoSem.ClaimJoined
import GoSem.ClaimMapViews
import Derived.JoinedTies
import Derived.KernelRfl
namespace Go.Proofs.Ytcgjplolehhpjaa
/- THE CELL 'sum', in the pinned program and in every row, IS THE sha256 OF THE DUMP (.gsa) THAT YtcgjplolehhpjaaProg.lean LOADS. Nothing in Lean hashes anything: it is a label: what it is worth is what the hold of that sum in a sandbox is worth. -/
noncomputable def Try.pinned : Pinned := { name := "ytcgjplolehhpjaa", sum := "059c4f8677391e865710eb6d45190796f6cf2ca25cef282dbc6ac8fda2f492c8", checked := Try.checked }
namespace Rows
def none {H : Type} : Left H := { results := [], args := [] }

/-- 'merkhetlaw10.ParentOf': WHATEVER THE INPUT: true; the input reads as it did. -/
def parentOfSpec : ChangeSpec := { name := "parentOf", fn := fun _ => fun
  | [d] => { results := [.lit (.bool true)], args := [d] }
  | _ => none }
def parentOfRow : OpenClaim := { program := "ytcgjplolehhpjaa", sum := "059c4f8677391e865710eb6d45190796f6cf2ca25cef282dbc6ac8fda2f492c8", func := "merkhet/merkhetlaw10.ParentOf", spec := "parentOf", unfollowed := true, recurses := true, apart := false }
def ParentOfSaid : Prop := parentOfRow.holds Try.pinned (OpenSpec.ofChange parentOfSpec)

/-- ITS FALSE NEIGHBOUR: 'it returns false'. Refute it at one input. -/
def parentOfWrong : ChangeSpec := { name := "parentOf", fn := fun _ => fun
  | [d] => { results := [.lit (.bool false)], args := [d] }
  | _ => none }
def ParentOfWrongFalsely : Prop := parentOfRow.holds Try.pinned (OpenSpec.ofChange parentOfWrong)

/-- 'merkhetlaw10.ParentDepth': WHATEVER THE INPUT: true; the input reads as it did. -/
def parentDepthSpec : ChangeSpec := { name := "parentDepth", fn := fun _ => fun
  | [d] => { results := [.lit (.bool true)], args := [d] }
  | _ => none }
def parentDepthRow : OpenClaim := { program := "ytcgjplolehhpjaa", sum := "059c4f8677391e865710eb6d45190796f6cf2ca25cef282dbc6ac8fda2f492c8", func := "merkhet/merkhetlaw10.ParentDepth", spec := "parentDepth", unfollowed := true, recurses := true, apart := false }
def ParentDepthSaid : Prop := parentDepthRow.holds Try.pinned (OpenSpec.ofChange parentDepthSpec)

/-- ITS FALSE NEIGHBOUR: 'it returns false'. Refute it at one input. -/
def parentDepthWrong : ChangeSpec := { name := "parentDepth", fn := fun _ => fun
  | [d] => { results := [.lit (.bool false)], args := [d] }
  | _ => none }
def ParentDepthWrongFalsely : Prop := parentDepthRow.holds Try.pinned (OpenSpec.ofChange parentDepthWrong)

/-- 'merkhetlaw11.ForestRows': WHATEVER THE INPUT: true; the input reads as it did. -/
def forestRowsSpec : ChangeSpec := { name := "forestRows", fn := fun _ => fun
  | [d] => { results := [.lit (.bool true)], args := [d] }
  | _ => none }
def forestRowsRow : OpenClaim := { program := "ytcgjplolehhpjaa", sum := "059c4f8677391e865710eb6d45190796f6cf2ca25cef282dbc6ac8fda2f492c8", func := "merkhet/merkhetlaw11.ForestRows", spec := "forestRows", unfollowed := true, recurses := true, apart := false }
def ForestRowsSaid : Prop := forestRowsRow.holds Try.pinned (OpenSpec.ofChange forestRowsSpec)

/-- ITS FALSE NEIGHBOUR: 'it returns false'. Refute it at one input. -/
def forestRowsWrong : ChangeSpec := { name := "forestRows", fn := fun _ => fun
  | [d] => { results := [.lit (.bool false)], args := [d] }
  | _ => none }
def ForestRowsWrongFalsely : Prop := forestRowsRow.holds Try.pinned (OpenSpec.ofChange forestRowsWrong)

/-- 'merkhetlaw11.ForestOrder': WHATEVER THE INPUT: true; the input reads as it did. -/
def forestOrderSpec : ChangeSpec := { name := "forestOrder", fn := fun _ => fun
  | [d] => { results := [.lit (.bool true)], args := [d] }
  | _ => none }
def forestOrderRow : OpenClaim := { program := "ytcgjplolehhpjaa", sum := "059c4f8677391e865710eb6d45190796f6cf2ca25cef282dbc6ac8fda2f492c8", func := "merkhet/merkhetlaw11.ForestOrder", spec := "forestOrder", unfollowed := true, recurses := true, apart := false }
def ForestOrderSaid : Prop := forestOrderRow.holds Try.pinned (OpenSpec.ofChange forestOrderSpec)

/-- ITS FALSE NEIGHBOUR: 'it returns false'. Refute it at one input. -/
def forestOrderWrong : ChangeSpec := { name := "forestOrder", fn := fun _ => fun
  | [d] => { results := [.lit (.bool false)], args := [d] }
  | _ => none }
def ForestOrderWrongFalsely : Prop := forestOrderRow.holds Try.pinned (OpenSpec.ofChange forestOrderWrong)

/-- 'merkhetlaw10.ParentRight': WHATEVER THE INPUT: true; the input reads as it did. -/
def parentRightSpec : ChangeSpec := { name := "parentRight", fn := fun _ => fun
  | [d] => { results := [.lit (.bool true)], args := [d] }
  | _ => none }
def parentRightRow : OpenClaim := { program := "ytcgjplolehhpjaa", sum := "059c4f8677391e865710eb6d45190796f6cf2ca25cef282dbc6ac8fda2f492c8", func := "merkhet/merkhetlaw10.ParentRight", spec := "parentRight", unfollowed := true, recurses := true, apart := false }
def ParentRightSaid : Prop := parentRightRow.holds Try.pinned (OpenSpec.ofChange parentRightSpec)

/-- ITS FALSE NEIGHBOUR: 'it returns false'. Refute it at one input. -/
def parentRightWrong : ChangeSpec := { name := "parentRight", fn := fun _ => fun
  | [d] => { results := [.lit (.bool false)], args := [d] }
  | _ => none }
def ParentRightWrongFalsely : Prop := parentRightRow.holds Try.pinned (OpenSpec.ofChange parentRightWrong)

/-- 'merkhetlaw10.ParentForest': WHATEVER THE INPUT: true; the input reads as it did. -/
def parentForestSpec : ChangeSpec := { name := "parentForest", fn := fun _ => fun
  | [d] => { results := [.lit (.bool true)], args := [d] }
  | _ => none }
def parentForestRow : OpenClaim := { program := "ytcgjplolehhpjaa", sum := "059c4f8677391e865710eb6d45190796f6cf2ca25cef282dbc6ac8fda2f492c8", func := "merkhet/merkhetlaw10.ParentForest", spec := "parentForest", unfollowed := true, recurses := true, apart := false }
def ParentForestSaid : Prop := parentForestRow.holds Try.pinned (OpenSpec.ofChange parentForestSpec)

/-- ITS FALSE NEIGHBOUR: 'it returns false'. Refute it at one input. -/
def parentForestWrong : ChangeSpec := { name := "parentForest", fn := fun _ => fun
  | [d] => { results := [.lit (.bool false)], args := [d] }
  | _ => none }
def ParentForestWrongFalsely : Prop := parentForestRow.holds Try.pinned (OpenSpec.ofChange parentForestWrong)

/-- 'merkhetlaw11.ForestKids': WHATEVER THE INPUT: true; the input reads as it did. -/
def forestKidsSpec : ChangeSpec := { name := "forestKids", fn := fun _ => fun
  | [d1, d2] => { results := [.lit (.bool true)], args := [d1, d2] }
  | _ => none }
def forestKidsRow : OpenClaim := { program := "ytcgjplolehhpjaa", sum := "059c4f8677391e865710eb6d45190796f6cf2ca25cef282dbc6ac8fda2f492c8", func := "merkhet/merkhetlaw11.ForestKids", spec := "forestKids", unfollowed := true, recurses := true, apart := false }
def ForestKidsSaid : Prop := forestKidsRow.holds Try.pinned (OpenSpec.ofChange forestKidsSpec)

/-- ITS FALSE NEIGHBOUR: 'it returns false'. Refute it at one input. -/
def forestKidsWrong : ChangeSpec := { name := "forestKids", fn := fun _ => fun
  | [d1, d2] => { results := [.lit (.bool false)], args := [d1, d2] }
  | _ => none }
def ForestKidsWrongFalsely : Prop := forestKidsRow.holds Try.pinned (OpenSpec.ofChange forestKidsWrong)

/-- 'merkhetlaw12.RpcPairs': WHATEVER THE INPUT: true; the input reads as it did. -/
def rpcPairsSpec : ChangeSpec := { name := "rpcPairs", fn := fun _ => fun
  | [d1, d2] => { results := [.lit (.bool true)], args := [d1, d2] }
  | _ => none }
def rpcPairsRow : OpenClaim := { program := "ytcgjplolehhpjaa", sum := "059c4f8677391e865710eb6d45190796f6cf2ca25cef282dbc6ac8fda2f492c8", func := "merkhet/merkhetlaw12.RpcPairs", spec := "rpcPairs", unfollowed := true, recurses := true, apart := false }
def RpcPairsSaid : Prop := rpcPairsRow.holds Try.pinned (OpenSpec.ofChange rpcPairsSpec)

/-- ITS FALSE NEIGHBOUR: 'it returns false'. Refute it at one input. -/
def rpcPairsWrong : ChangeSpec := { name := "rpcPairs", fn := fun _ => fun
  | [d1, d2] => { results := [.lit (.bool false)], args := [d1, d2] }
  | _ => none }
def RpcPairsWrongFalsely : Prop := rpcPairsRow.holds Try.pinned (OpenSpec.ofChange rpcPairsWrong)

/-- 'merkhetlaw12.RpcMoved': WHATEVER THE INPUT: true; the input reads as it did. -/
def rpcMovedSpec : ChangeSpec := { name := "rpcMoved", fn := fun _ => fun
  | [d1, d2, d3] => { results := [.lit (.bool true)], args := [d1, d2, d3] }
  | _ => none }
def rpcMovedRow : OpenClaim := { program := "ytcgjplolehhpjaa", sum := "059c4f8677391e865710eb6d45190796f6cf2ca25cef282dbc6ac8fda2f492c8", func := "merkhet/merkhetlaw12.RpcMoved", spec := "rpcMoved", unfollowed := true, recurses := true, apart := false }
def RpcMovedSaid : Prop := rpcMovedRow.holds Try.pinned (OpenSpec.ofChange rpcMovedSpec)

/-- ITS FALSE NEIGHBOUR: 'it returns false'. Refute it at one input. -/
def rpcMovedWrong : ChangeSpec := { name := "rpcMoved", fn := fun _ => fun
  | [d1, d2, d3] => { results := [.lit (.bool false)], args := [d1, d2, d3] }
  | _ => none }
def RpcMovedWrongFalsely : Prop := rpcMovedRow.holds Try.pinned (OpenSpec.ofChange rpcMovedWrong)

/-- 'merkhetlaw12.RpcGaps': WHATEVER THE INPUT: true; the input reads as it did. -/
def rpcGapsSpec : ChangeSpec := { name := "rpcGaps", fn := fun _ => fun
  | [d1, d2] => { results := [.lit (.bool true)], args := [d1, d2] }
  | _ => none }
def rpcGapsRow : OpenClaim := { program := "ytcgjplolehhpjaa", sum := "059c4f8677391e865710eb6d45190796f6cf2ca25cef282dbc6ac8fda2f492c8", func := "merkhet/merkhetlaw12.RpcGaps", spec := "rpcGaps", unfollowed := true, recurses := true, apart := false }
def RpcGapsSaid : Prop := rpcGapsRow.holds Try.pinned (OpenSpec.ofChange rpcGapsSpec)

/-- ITS FALSE NEIGHBOUR: 'it returns false'. Refute it at one input. -/
def rpcGapsWrong : ChangeSpec := { name := "rpcGaps", fn := fun _ => fun
  | [d1, d2] => { results := [.lit (.bool false)], args := [d1, d2] }
  | _ => none }
def RpcGapsWrongFalsely : Prop := rpcGapsRow.holds Try.pinned (OpenSpec.ofChange rpcGapsWrong)

/-- 'merkhetlaw12.RpcFits': WHATEVER THE INPUT: true; the input reads as it did. -/
def rpcFitsSpec : ChangeSpec := { name := "rpcFits", fn := fun _ => fun
  | [d1, d2] => { results := [.lit (.bool true)], args := [d1, d2] }
  | _ => none }
def rpcFitsRow : OpenClaim := { program := "ytcgjplolehhpjaa", sum := "059c4f8677391e865710eb6d45190796f6cf2ca25cef282dbc6ac8fda2f492c8", func := "merkhet/merkhetlaw12.RpcFits", spec := "rpcFits", unfollowed := true, recurses := true, apart := false }
def RpcFitsSaid : Prop := rpcFitsRow.holds Try.pinned (OpenSpec.ofChange rpcFitsSpec)

/-- ITS FALSE NEIGHBOUR: 'it returns false'. Refute it at one input. -/
def rpcFitsWrong : ChangeSpec := { name := "rpcFits", fn := fun _ => fun
  | [d1, d2] => { results := [.lit (.bool false)], args := [d1, d2] }
  | _ => none }
def RpcFitsWrongFalsely : Prop := rpcFitsRow.holds Try.pinned (OpenSpec.ofChange rpcFitsWrong)

/-- 'merkhetlaw11.ForestOnce': WHATEVER THE INPUT: true; the input reads as it did. -/
def forestOnceSpec : ChangeSpec := { name := "forestOnce", fn := fun _ => fun
  | [d] => { results := [.lit (.bool true)], args := [d] }
  | _ => none }
def forestOnceRow : OpenClaim := { program := "ytcgjplolehhpjaa", sum := "059c4f8677391e865710eb6d45190796f6cf2ca25cef282dbc6ac8fda2f492c8", func := "merkhet/merkhetlaw11.ForestOnce", spec := "forestOnce", unfollowed := true, recurses := true, apart := false }
def ForestOnceSaid : Prop := forestOnceRow.holds Try.pinned (OpenSpec.ofChange forestOnceSpec)

/-- ITS FALSE NEIGHBOUR: 'it returns false'. Refute it at one input. -/
def forestOnceWrong : ChangeSpec := { name := "forestOnce", fn := fun _ => fun
  | [d] => { results := [.lit (.bool false)], args := [d] }
  | _ => none }
def ForestOnceWrongFalsely : Prop := forestOnceRow.holds Try.pinned (OpenSpec.ofChange forestOnceWrong)

/- THE SECOND FORM. 'bulk': how many values and letters a reading holds, each counted each time it is reached (what is shared counts as often as it is met; a slice's spare places count too). A statement '..UptoSaid' is the law's where the arguments, and the package variables that the reading takes, are together of bulk at most 1048576: NARROWER than '..Said'. Prove '..Said' where nothing that the law and all that it calls make is longer than what came in: it says more and counts as full. Else prove '..UptoSaid'. A law counts once. -/
mutual
def uptoBulk {H : Type} : DataW H → Nat
  | .lit (.string bytes) => bytes.length + 1
  | .lit _ => 1
  | .nil => 1
  | .ptr d => uptoBulk d + 1
  | .slice elems spare => uptoBulkAll elems + uptoBulkAll spare + 1
  | .agg parts => uptoBulkAll parts + 1
  | .iface _ d => uptoBulk d + 1
  | .map entries => uptoBulkEntries entries + 1
  | .held _ => 1
def uptoBulkAll {H : Type} : List (DataW H) → Nat
  | [] => 0
  | d :: r => uptoBulk d + uptoBulkAll r
def uptoBulkEntries {H : Type} : List (Lit × DataW H) → Nat
  | [] => 0
  | x :: r => uptoBulkEntry x + uptoBulkEntries r
def uptoBulkEntry {H : Type} : Lit × DataW H → Nat
  | (.string bytes, d) => bytes.length + uptoBulk d + 1
  | (_, d) => uptoBulk d + 1
 end
def uptoSmall : (H : Type) → List (DataW H) → Bool := fun _ ds => decide (uptoBulkAll ds ≤ 1048576)
def OpenSpec.upto (s : _root_.Go.ChangeSpec) : _root_.Go.OpenSpec := { _root_.Go.OpenSpec.ofChange s with cond := some uptoSmall }

/-- 'merkhetlaw10.ParentOf', WHERE WHAT IT READS IS OF BULK AT MOST 1048576: true; the input reads as it did. -/
def parentOfUptoRow : OpenClaim := { program := "ytcgjplolehhpjaa", sum := "059c4f8677391e865710eb6d45190796f6cf2ca25cef282dbc6ac8fda2f492c8", func := "merkhet/merkhetlaw10.ParentOf", spec := "parentOf", unfollowed := true, recurses := true, apart := false, narrowed := true }
def ParentOfUptoSaid : Prop := parentOfUptoRow.holds Try.pinned (OpenSpec.upto parentOfSpec)

/-- 'merkhetlaw10.ParentDepth', WHERE WHAT IT READS IS OF BULK AT MOST 1048576: true; the input reads as it did. -/
def parentDepthUptoRow : OpenClaim := { program := "ytcgjplolehhpjaa", sum := "059c4f8677391e865710eb6d45190796f6cf2ca25cef282dbc6ac8fda2f492c8", func := "merkhet/merkhetlaw10.ParentDepth", spec := "parentDepth", unfollowed := true, recurses := true, apart := false, narrowed := true }
def ParentDepthUptoSaid : Prop := parentDepthUptoRow.holds Try.pinned (OpenSpec.upto parentDepthSpec)

/-- 'merkhetlaw11.ForestRows', WHERE WHAT IT READS IS OF BULK AT MOST 1048576: true; the input reads as it did. -/
def forestRowsUptoRow : OpenClaim := { program := "ytcgjplolehhpjaa", sum := "059c4f8677391e865710eb6d45190796f6cf2ca25cef282dbc6ac8fda2f492c8", func := "merkhet/merkhetlaw11.ForestRows", spec := "forestRows", unfollowed := true, recurses := true, apart := false, narrowed := true }
def ForestRowsUptoSaid : Prop := forestRowsUptoRow.holds Try.pinned (OpenSpec.upto forestRowsSpec)

/-- 'merkhetlaw11.ForestOrder', WHERE WHAT IT READS IS OF BULK AT MOST 1048576: true; the input reads as it did. -/
def forestOrderUptoRow : OpenClaim := { program := "ytcgjplolehhpjaa", sum := "059c4f8677391e865710eb6d45190796f6cf2ca25cef282dbc6ac8fda2f492c8", func := "merkhet/merkhetlaw11.ForestOrder", spec := "forestOrder", unfollowed := true, recurses := true, apart := false, narrowed := true }
def ForestOrderUptoSaid : Prop := forestOrderUptoRow.holds Try.pinned (OpenSpec.upto forestOrderSpec)

/-- 'merkhetlaw10.ParentRight', WHERE WHAT IT READS IS OF BULK AT MOST 1048576: true; the input reads as it did. -/
def parentRightUptoRow : OpenClaim := { program := "ytcgjplolehhpjaa", sum := "059c4f8677391e865710eb6d45190796f6cf2ca25cef282dbc6ac8fda2f492c8", func := "merkhet/merkhetlaw10.ParentRight", spec := "parentRight", unfollowed := true, recurses := true, apart := false, narrowed := true }
def ParentRightUptoSaid : Prop := parentRightUptoRow.holds Try.pinned (OpenSpec.upto parentRightSpec)

/-- 'merkhetlaw10.ParentForest', WHERE WHAT IT READS IS OF BULK AT MOST 1048576: true; the input reads as it did. -/
def parentForestUptoRow : OpenClaim := { program := "ytcgjplolehhpjaa", sum := "059c4f8677391e865710eb6d45190796f6cf2ca25cef282dbc6ac8fda2f492c8", func := "merkhet/merkhetlaw10.ParentForest", spec := "parentForest", unfollowed := true, recurses := true, apart := false, narrowed := true }
def ParentForestUptoSaid : Prop := parentForestUptoRow.holds Try.pinned (OpenSpec.upto parentForestSpec)

/-- 'merkhetlaw11.ForestKids', WHERE WHAT IT READS IS OF BULK AT MOST 1048576: true; the input reads as it did. -/
def forestKidsUptoRow : OpenClaim := { program := "ytcgjplolehhpjaa", sum := "059c4f8677391e865710eb6d45190796f6cf2ca25cef282dbc6ac8fda2f492c8", func := "merkhet/merkhetlaw11.ForestKids", spec := "forestKids", unfollowed := true, recurses := true, apart := false, narrowed := true }
def ForestKidsUptoSaid : Prop := forestKidsUptoRow.holds Try.pinned (OpenSpec.upto forestKidsSpec)

/-- 'merkhetlaw12.RpcPairs', WHERE WHAT IT READS IS OF BULK AT MOST 1048576: true; the input reads as it did. -/
def rpcPairsUptoRow : OpenClaim := { program := "ytcgjplolehhpjaa", sum := "059c4f8677391e865710eb6d45190796f6cf2ca25cef282dbc6ac8fda2f492c8", func := "merkhet/merkhetlaw12.RpcPairs", spec := "rpcPairs", unfollowed := true, recurses := true, apart := false, narrowed := true }
def RpcPairsUptoSaid : Prop := rpcPairsUptoRow.holds Try.pinned (OpenSpec.upto rpcPairsSpec)

/-- 'merkhetlaw12.RpcMoved', WHERE WHAT IT READS IS OF BULK AT MOST 1048576: true; the input reads as it did. -/
def rpcMovedUptoRow : OpenClaim := { program := "ytcgjplolehhpjaa", sum := "059c4f8677391e865710eb6d45190796f6cf2ca25cef282dbc6ac8fda2f492c8", func := "merkhet/merkhetlaw12.RpcMoved", spec := "rpcMoved", unfollowed := true, recurses := true, apart := false, narrowed := true }
def RpcMovedUptoSaid : Prop := rpcMovedUptoRow.holds Try.pinned (OpenSpec.upto rpcMovedSpec)

/-- 'merkhetlaw12.RpcGaps', WHERE WHAT IT READS IS OF BULK AT MOST 1048576: true; the input reads as it did. -/
def rpcGapsUptoRow : OpenClaim := { program := "ytcgjplolehhpjaa", sum := "059c4f8677391e865710eb6d45190796f6cf2ca25cef282dbc6ac8fda2f492c8", func := "merkhet/merkhetlaw12.RpcGaps", spec := "rpcGaps", unfollowed := true, recurses := true, apart := false, narrowed := true }
def RpcGapsUptoSaid : Prop := rpcGapsUptoRow.holds Try.pinned (OpenSpec.upto rpcGapsSpec)

/-- 'merkhetlaw12.RpcFits', WHERE WHAT IT READS IS OF BULK AT MOST 1048576: true; the input reads as it did. -/
def rpcFitsUptoRow : OpenClaim := { program := "ytcgjplolehhpjaa", sum := "059c4f8677391e865710eb6d45190796f6cf2ca25cef282dbc6ac8fda2f492c8", func := "merkhet/merkhetlaw12.RpcFits", spec := "rpcFits", unfollowed := true, recurses := true, apart := false, narrowed := true }
def RpcFitsUptoSaid : Prop := rpcFitsUptoRow.holds Try.pinned (OpenSpec.upto rpcFitsSpec)

/-- 'merkhetlaw11.ForestOnce', WHERE WHAT IT READS IS OF BULK AT MOST 1048576: true; the input reads as it did. -/
def forestOnceUptoRow : OpenClaim := { program := "ytcgjplolehhpjaa", sum := "059c4f8677391e865710eb6d45190796f6cf2ca25cef282dbc6ac8fda2f492c8", func := "merkhet/merkhetlaw11.ForestOnce", spec := "forestOnce", unfollowed := true, recurses := true, apart := false, narrowed := true }
def ForestOnceUptoSaid : Prop := forestOnceUptoRow.holds Try.pinned (OpenSpec.upto forestOnceSpec)

end Rows
end Go.Proofs.Ytcgjplolehhpjaa
