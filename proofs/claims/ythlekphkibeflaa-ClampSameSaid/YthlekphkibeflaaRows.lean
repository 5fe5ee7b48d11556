/-
  No cell of these rows narrows 'for every input' (looked for: loops, veiled, ifaces, maps, wideKeys, modest, calm, conditions, laid).
  DERIVED. THE GIVEN ROWS OF THIS SEAT. 5 by the template 'for every input the law returns true; each argument reads behind the call as it read before'; 0 by the template 'total and deterministic' (their statements: YthlekphkibeflaaTotals.lean).
  GIVEN WITH THE SEED: the statements are not yours to turn. If you find one false, say at which input.
  Laid BY PROGRAM, IN A SANDBOX (cutbox-rows.mjs): the forced cells as the released guide's own fill.sh prints them over the translation c24b50dfa68dbe90… (all of the seat's roots in one cut). By AI agents, Wed Nov 11 2026. No macro, syntax, notation, axiom, sorry.
-/
import Derived.Test.YthlekphkibeflaaChecked
import GoSem.Claim
import GoSem.ClaimJoined
import GoSem.ClaimMapViews
import Derived.JoinedTies
import Derived.KernelRfl
namespace Go.Proofs.Ythlekphkibeflaa
/- THE CELL 'sum', in the pinned program and in every row, IS THE sha256 OF THE DUMP (.gsa) THAT YthlekphkibeflaaProg.lean LOADS. Nothing in Lean hashes anything: it is a label: what it is worth is what the hold of that sum in a sandbox is worth. -/
noncomputable def Try.pinned : Pinned := { name := "ythlekphkibeflaa", sum := "c24b50dfa68dbe906868fb15b9ad61b7fb05aad009c5902fa1d939c5ad19c1eb", checked := Try.checked }
namespace Rows
def none {H : Type} : Left H := { results := [], args := [] }

/-- 'merkhetlaw19.ClampStarts': WHATEVER THE INPUT: true; the input reads as it did. -/
def clampStartsSpec : ChangeSpec := { name := "clampStarts", fn := fun _ => fun
  | [d1, d2] => { results := [.lit (.bool true)], args := [d1, d2] }
  | _ => none }
def clampStartsRow : OpenClaim := { program := "ythlekphkibeflaa", sum := "c24b50dfa68dbe906868fb15b9ad61b7fb05aad009c5902fa1d939c5ad19c1eb", func := "merkhet/merkhetlaw19.ClampStarts", spec := "clampStarts", unfollowed := true, recurses := true, apart := false }
def ClampStartsSaid : Prop := clampStartsRow.holds Try.pinned (OpenSpec.ofChange clampStartsSpec)

/-- ITS FALSE NEIGHBOUR: 'it returns false'. Refute it at one input. -/
def clampStartsWrong : ChangeSpec := { name := "clampStarts", fn := fun _ => fun
  | [d1, d2] => { results := [.lit (.bool false)], args := [d1, d2] }
  | _ => none }
def ClampStartsWrongFalsely : Prop := clampStartsRow.holds Try.pinned (OpenSpec.ofChange clampStartsWrong)

/-- 'merkhetlaw19.ClampNearest': WHATEVER THE INPUT: true; the input reads as it did. -/
def clampNearestSpec : ChangeSpec := { name := "clampNearest", fn := fun _ => fun
  | [d1, d2, d3] => { results := [.lit (.bool true)], args := [d1, d2, d3] }
  | _ => none }
def clampNearestRow : OpenClaim := { program := "ythlekphkibeflaa", sum := "c24b50dfa68dbe906868fb15b9ad61b7fb05aad009c5902fa1d939c5ad19c1eb", func := "merkhet/merkhetlaw19.ClampNearest", spec := "clampNearest", unfollowed := true, recurses := true, apart := false }
def ClampNearestSaid : Prop := clampNearestRow.holds Try.pinned (OpenSpec.ofChange clampNearestSpec)

/-- ITS FALSE NEIGHBOUR: 'it returns false'. Refute it at one input. -/
def clampNearestWrong : ChangeSpec := { name := "clampNearest", fn := fun _ => fun
  | [d1, d2, d3] => { results := [.lit (.bool false)], args := [d1, d2, d3] }
  | _ => none }
def ClampNearestWrongFalsely : Prop := clampNearestRow.holds Try.pinned (OpenSpec.ofChange clampNearestWrong)

/-- 'merkhetlaw19.ClampSame': WHATEVER THE INPUT: true; the input reads as it did. -/
def clampSameSpec : ChangeSpec := { name := "clampSame", fn := fun _ => fun
  | [d] => { results := [.lit (.bool true)], args := [d] }
  | _ => none }
def clampSameRow : OpenClaim := { program := "ythlekphkibeflaa", sum := "c24b50dfa68dbe906868fb15b9ad61b7fb05aad009c5902fa1d939c5ad19c1eb", func := "merkhet/merkhetlaw19.ClampSame", spec := "clampSame", unfollowed := true, recurses := true, apart := false }
def ClampSameSaid : Prop := clampSameRow.holds Try.pinned (OpenSpec.ofChange clampSameSpec)

/-- ITS FALSE NEIGHBOUR: 'it returns false'. Refute it at one input. -/
def clampSameWrong : ChangeSpec := { name := "clampSame", fn := fun _ => fun
  | [d] => { results := [.lit (.bool false)], args := [d] }
  | _ => none }
def ClampSameWrongFalsely : Prop := clampSameRow.holds Try.pinned (OpenSpec.ofChange clampSameWrong)

/-- 'merkhetlaw19.ClampBounds': WHATEVER THE INPUT: true; the input reads as it did. -/
def clampBoundsSpec : ChangeSpec := { name := "clampBounds", fn := fun _ => fun
  | [d] => { results := [.lit (.bool true)], args := [d] }
  | _ => none }
def clampBoundsRow : OpenClaim := { program := "ythlekphkibeflaa", sum := "c24b50dfa68dbe906868fb15b9ad61b7fb05aad009c5902fa1d939c5ad19c1eb", func := "merkhet/merkhetlaw19.ClampBounds", spec := "clampBounds", unfollowed := true, recurses := true, apart := false }
def ClampBoundsSaid : Prop := clampBoundsRow.holds Try.pinned (OpenSpec.ofChange clampBoundsSpec)

/-- ITS FALSE NEIGHBOUR: 'it returns false'. Refute it at one input. -/
def clampBoundsWrong : ChangeSpec := { name := "clampBounds", fn := fun _ => fun
  | [d] => { results := [.lit (.bool false)], args := [d] }
  | _ => none }
def ClampBoundsWrongFalsely : Prop := clampBoundsRow.holds Try.pinned (OpenSpec.ofChange clampBoundsWrong)

/-- 'merkhetlaw19.ClampFits': WHATEVER THE INPUT: true; the input reads as it did. -/
def clampFitsSpec : ChangeSpec := { name := "clampFits", fn := fun _ => fun
  | [d1, d2, d3] => { results := [.lit (.bool true)], args := [d1, d2, d3] }
  | _ => none }
def clampFitsRow : OpenClaim := { program := "ythlekphkibeflaa", sum := "c24b50dfa68dbe906868fb15b9ad61b7fb05aad009c5902fa1d939c5ad19c1eb", func := "merkhet/merkhetlaw19.ClampFits", spec := "clampFits", unfollowed := true, recurses := true, apart := false }
def ClampFitsSaid : Prop := clampFitsRow.holds Try.pinned (OpenSpec.ofChange clampFitsSpec)

/-- ITS FALSE NEIGHBOUR: 'it returns false'. Refute it at one input. -/
def clampFitsWrong : ChangeSpec := { name := "clampFits", fn := fun _ => fun
  | [d1, d2, d3] => { results := [.lit (.bool false)], args := [d1, d2, d3] }
  | _ => none }
def ClampFitsWrongFalsely : Prop := clampFitsRow.holds Try.pinned (OpenSpec.ofChange clampFitsWrong)

/- THE SECOND FORM. 'bulk': how many values and letters a reading holds, each counted each time it is reached (what is shared counts as often as it is met; a slice's spare places count too). A statement '..UptoSaid' is the law's where the arguments, and the package variables that the reading takes, are together of bulk at most 1048576: NARROWER than '..Said'. Prove '..Said' where nothing that the law and all that it calls make is longer than what came in: it says more and counts as full. Else prove '..UptoSaid'. A law counts once. -/
mutual
def uptoBulk {H : Type} : DataW H → Nat
  | .lit (.string bytes) => bytes.length + 1
  | .lit _ => 1
  | .nil => 1
  | .ptr d => uptoBulk d + 1
  | .slice elems spare => uptoBulkAll elems + uptoBulkAll spare + 1
  | .agg parts => uptoBulkAll parts + 1
  | .iface _ d => uptoBulk d + 1
  | .map entries => uptoBulkEntries entries + 1
  | .held _ => 1
def uptoBulkAll {H : Type} : List (DataW H) → Nat
  | [] => 0
  | d :: r => uptoBulk d + uptoBulkAll r
def uptoBulkEntries {H : Type} : List (Lit × DataW H) → Nat
  | [] => 0
  | x :: r => uptoBulkEntry x + uptoBulkEntries r
def uptoBulkEntry {H : Type} : Lit × DataW H → Nat
  | (.string bytes, d) => bytes.length + uptoBulk d + 1
  | (_, d) => uptoBulk d + 1
 end
def uptoSmall : (H : Type) → List (DataW H) → Bool := fun _ ds => decide (uptoBulkAll ds ≤ 1048576)
def OpenSpec.upto (s : _root_.Go.ChangeSpec) : _root_.Go.OpenSpec := { _root_.Go.OpenSpec.ofChange s with cond := some uptoSmall }

/-- 'merkhetlaw19.ClampStarts', WHERE WHAT IT READS IS OF BULK AT MOST 1048576: true; the input reads as it did. -/
def clampStartsUptoRow : OpenClaim := { program := "ythlekphkibeflaa", sum := "c24b50dfa68dbe906868fb15b9ad61b7fb05aad009c5902fa1d939c5ad19c1eb", func := "merkhet/merkhetlaw19.ClampStarts", spec := "clampStarts", unfollowed := true, recurses := true, apart := false, narrowed := true }
def ClampStartsUptoSaid : Prop := clampStartsUptoRow.holds Try.pinned (OpenSpec.upto clampStartsSpec)

/-- 'merkhetlaw19.ClampNearest', WHERE WHAT IT READS IS OF BULK AT MOST 1048576: true; the input reads as it did. -/
def clampNearestUptoRow : OpenClaim := { program := "ythlekphkibeflaa", sum := "c24b50dfa68dbe906868fb15b9ad61b7fb05aad009c5902fa1d939c5ad19c1eb", func := "merkhet/merkhetlaw19.ClampNearest", spec := "clampNearest", unfollowed := true, recurses := true, apart := false, narrowed := true }
def ClampNearestUptoSaid : Prop := clampNearestUptoRow.holds Try.pinned (OpenSpec.upto clampNearestSpec)

/-- 'merkhetlaw19.ClampSame', WHERE WHAT IT READS IS OF BULK AT MOST 1048576: true; the input reads as it did. -/
def clampSameUptoRow : OpenClaim := { program := "ythlekphkibeflaa", sum := "c24b50dfa68dbe906868fb15b9ad61b7fb05aad009c5902fa1d939c5ad19c1eb", func := "merkhet/merkhetlaw19.ClampSame", spec := "clampSame", unfollowed := true, recurses := true, apart := false, narrowed := true }
def ClampSameUptoSaid : Prop := clampSameUptoRow.holds Try.pinned (OpenSpec.upto clampSameSpec)

/-- 'merkhetlaw19.ClampBounds', WHERE WHAT IT READS IS OF BULK AT MOST 1048576: true; the input reads as it did. -/
def clampBoundsUptoRow : OpenClaim := { program := "ythlekphkibeflaa", sum := "c24b50dfa68dbe906868fb15b9ad61b7fb05aad009c5902fa1d939c5ad19c1eb", func := "merkhet/merkhetlaw19.ClampBounds", spec := "clampBounds", unfollowed := true, recurses := true, apart := false, narrowed := true }
def ClampBoundsUptoSaid : Prop := clampBoundsUptoRow.holds Try.pinned (OpenSpec.upto clampBoundsSpec)

/-- 'merkhetlaw19.ClampFits', WHERE WHAT IT READS IS OF BULK AT MOST 1048576: true; the input reads as it did. -/
def clampFitsUptoRow : OpenClaim := { program := "ythlekphkibeflaa", sum := "c24b50dfa68dbe906868fb15b9ad61b7fb05aad009c5902fa1d939c5ad19c1eb", func := "merkhet/merkhetlaw19.ClampFits", spec := "clampFits", unfollowed := true, recurses := true, apart := false, narrowed := true }
def ClampFitsUptoSaid : Prop := clampFitsUptoRow.holds Try.pinned (OpenSpec.upto clampFitsSpec)

end Rows
end Go.Proofs.Ythlekphkibeflaa
