/-
  No cell of these rows narrows 'for every input' (looked for: loops, veiled, ifaces, maps, wideKeys, modest, calm, conditions, laid).
  DERIVED. THE GIVEN ROWS OF THIS SEAT. 11 by the template 'for every input the law returns true; each argument reads behind the call as it read before'; 0 by the template 'total and deterministic' (their statements: YtknigpdglbknhaaTotals.lean).
  GIVEN WITH THE SEED: the statements are not yours to turn. If you find one false, say at which input.
  Laid BY PROGRAM, IN A SANDBOX (cutbox-rows.mjs): the forced cells as the released guide's own fill.sh prints them over the translation 26b545bed76635eb… (all of the seat's roots in one cut). By AI agents, Wed Nov 11 2026. No macro, syntax, notation, axiom, sorry.
-/
import Derived.Test.YtknigpdglbknhaaChecked
import GoSem.Claim
import GoSem.ClaimJoined
import GoSem.ClaimMapViews
import Derived.JoinedTies
import Derived.KernelRfl
namespace Go.Proofs.Ytknigpdglbknhaa
/- THE CELL 'sum', in the pinned program and in every row, IS THE sha256 OF THE DUMP (.gsa) THAT YtknigpdglbknhaaProg.lean LOADS. Nothing in Lean hashes anything: it is a label: what it is worth is what the hold of that sum in a sandbox is worth. -/
noncomputable def Try.pinned : Pinned := { name := "ytknigpdglbknhaa", sum := "26b545bed76635eb5a45bdb6d3ebac6f000337ffd2cbcb5f917ccae39bf4ee84", checked := Try.checked }
namespace Rows
def none {H : Type} : Left H := { results := [], args := [] }

/-- 'merkhetlaw03.CheckSums': WHATEVER THE INPUT: true; the input reads as it did. -/
def checkSumsSpec : ChangeSpec := { name := "checkSums", fn := fun _ => fun
  | [d1, d2] => { results := [.lit (.bool true)], args := [d1, d2] }
  | _ => none }
def checkSumsRow : OpenClaim := { program := "ytknigpdglbknhaa", sum := "26b545bed76635eb5a45bdb6d3ebac6f000337ffd2cbcb5f917ccae39bf4ee84", func := "merkhet/merkhetlaw03.CheckSums", spec := "checkSums", apart := false }
def CheckSumsSaid : Prop := checkSumsRow.holds Try.pinned (OpenSpec.ofChange checkSumsSpec)

/-- ITS FALSE NEIGHBOUR: 'it returns false'. Refute it at one input. -/
def checkSumsWrong : ChangeSpec := { name := "checkSums", fn := fun _ => fun
  | [d1, d2] => { results := [.lit (.bool false)], args := [d1, d2] }
  | _ => none }
def CheckSumsWrongFalsely : Prop := checkSumsRow.holds Try.pinned (OpenSpec.ofChange checkSumsWrong)

/-- 'merkhetlaw03.CheckParts': WHATEVER THE INPUT: true; the input reads as it did. -/
def checkPartsSpec : ChangeSpec := { name := "checkParts", fn := fun _ => fun
  | [d1, d2] => { results := [.lit (.bool true)], args := [d1, d2] }
  | _ => none }
def checkPartsRow : OpenClaim := { program := "ytknigpdglbknhaa", sum := "26b545bed76635eb5a45bdb6d3ebac6f000337ffd2cbcb5f917ccae39bf4ee84", func := "merkhet/merkhetlaw03.CheckParts", spec := "checkParts", apart := false }
def CheckPartsSaid : Prop := checkPartsRow.holds Try.pinned (OpenSpec.ofChange checkPartsSpec)

/-- ITS FALSE NEIGHBOUR: 'it returns false'. Refute it at one input. -/
def checkPartsWrong : ChangeSpec := { name := "checkParts", fn := fun _ => fun
  | [d1, d2] => { results := [.lit (.bool false)], args := [d1, d2] }
  | _ => none }
def CheckPartsWrongFalsely : Prop := checkPartsRow.holds Try.pinned (OpenSpec.ofChange checkPartsWrong)

/-- 'merkhetlaw03.CheckTold': WHATEVER THE INPUT: true; the input reads as it did. -/
def checkToldSpec : ChangeSpec := { name := "checkTold", fn := fun _ => fun
  | [d1, d2, d3] => { results := [.lit (.bool true)], args := [d1, d2, d3] }
  | _ => none }
def checkToldRow : OpenClaim := { program := "ytknigpdglbknhaa", sum := "26b545bed76635eb5a45bdb6d3ebac6f000337ffd2cbcb5f917ccae39bf4ee84", func := "merkhet/merkhetlaw03.CheckTold", spec := "checkTold", apart := false }
def CheckToldSaid : Prop := checkToldRow.holds Try.pinned (OpenSpec.ofChange checkToldSpec)

/-- ITS FALSE NEIGHBOUR: 'it returns false'. Refute it at one input. -/
def checkToldWrong : ChangeSpec := { name := "checkTold", fn := fun _ => fun
  | [d1, d2, d3] => { results := [.lit (.bool false)], args := [d1, d2, d3] }
  | _ => none }
def CheckToldWrongFalsely : Prop := checkToldRow.holds Try.pinned (OpenSpec.ofChange checkToldWrong)

/-- 'merkhetlaw03.CheckLine': WHATEVER THE INPUT: true; the input reads as it did. -/
def checkLineSpec : ChangeSpec := { name := "checkLine", fn := fun _ => fun
  | [d1, d2, d3] => { results := [.lit (.bool true)], args := [d1, d2, d3] }
  | _ => none }
def checkLineRow : OpenClaim := { program := "ytknigpdglbknhaa", sum := "26b545bed76635eb5a45bdb6d3ebac6f000337ffd2cbcb5f917ccae39bf4ee84", func := "merkhet/merkhetlaw03.CheckLine", spec := "checkLine", apart := false }
def CheckLineSaid : Prop := checkLineRow.holds Try.pinned (OpenSpec.ofChange checkLineSpec)

/-- ITS FALSE NEIGHBOUR: 'it returns false'. Refute it at one input. -/
def checkLineWrong : ChangeSpec := { name := "checkLine", fn := fun _ => fun
  | [d1, d2, d3] => { results := [.lit (.bool false)], args := [d1, d2, d3] }
  | _ => none }
def CheckLineWrongFalsely : Prop := checkLineRow.holds Try.pinned (OpenSpec.ofChange checkLineWrong)

/-- 'merkhetlaw02.PackNumbers': WHATEVER THE INPUT: true; the input reads as it did. -/
def packNumbersSpec : ChangeSpec := { name := "packNumbers", fn := fun _ => fun
  | [d1, d2, d3] => { results := [.lit (.bool true)], args := [d1, d2, d3] }
  | _ => none }
def packNumbersRow : OpenClaim := { program := "ytknigpdglbknhaa", sum := "26b545bed76635eb5a45bdb6d3ebac6f000337ffd2cbcb5f917ccae39bf4ee84", func := "merkhet/merkhetlaw02.PackNumbers", spec := "packNumbers", apart := false }
def PackNumbersSaid : Prop := packNumbersRow.holds Try.pinned (OpenSpec.ofChange packNumbersSpec)

/-- ITS FALSE NEIGHBOUR: 'it returns false'. Refute it at one input. -/
def packNumbersWrong : ChangeSpec := { name := "packNumbers", fn := fun _ => fun
  | [d1, d2, d3] => { results := [.lit (.bool false)], args := [d1, d2, d3] }
  | _ => none }
def PackNumbersWrongFalsely : Prop := packNumbersRow.holds Try.pinned (OpenSpec.ofChange packNumbersWrong)

/-- 'merkhetlaw02.PackParts': WHATEVER THE INPUT: true; the input reads as it did. -/
def packPartsSpec : ChangeSpec := { name := "packParts", fn := fun _ => fun
  | [d1, d2] => { results := [.lit (.bool true)], args := [d1, d2] }
  | _ => none }
def packPartsRow : OpenClaim := { program := "ytknigpdglbknhaa", sum := "26b545bed76635eb5a45bdb6d3ebac6f000337ffd2cbcb5f917ccae39bf4ee84", func := "merkhet/merkhetlaw02.PackParts", spec := "packParts", unfollowed := true, recurses := true, apart := false }
def PackPartsSaid : Prop := packPartsRow.holds Try.pinned (OpenSpec.ofChange packPartsSpec)

/-- ITS FALSE NEIGHBOUR: 'it returns false'. Refute it at one input. -/
def packPartsWrong : ChangeSpec := { name := "packParts", fn := fun _ => fun
  | [d1, d2] => { results := [.lit (.bool false)], args := [d1, d2] }
  | _ => none }
def PackPartsWrongFalsely : Prop := packPartsRow.holds Try.pinned (OpenSpec.ofChange packPartsWrong)

/-- 'merkhetlaw02.PackTexts': WHATEVER THE INPUT: true; the input reads as it did. -/
def packTextsSpec : ChangeSpec := { name := "packTexts", fn := fun _ => fun
  | [d1, d2] => { results := [.lit (.bool true)], args := [d1, d2] }
  | _ => none }
def packTextsRow : OpenClaim := { program := "ytknigpdglbknhaa", sum := "26b545bed76635eb5a45bdb6d3ebac6f000337ffd2cbcb5f917ccae39bf4ee84", func := "merkhet/merkhetlaw02.PackTexts", spec := "packTexts", unfollowed := true, recurses := true, apart := false }
def PackTextsSaid : Prop := packTextsRow.holds Try.pinned (OpenSpec.ofChange packTextsSpec)

/-- ITS FALSE NEIGHBOUR: 'it returns false'. Refute it at one input. -/
def packTextsWrong : ChangeSpec := { name := "packTexts", fn := fun _ => fun
  | [d1, d2] => { results := [.lit (.bool false)], args := [d1, d2] }
  | _ => none }
def PackTextsWrongFalsely : Prop := packTextsRow.holds Try.pinned (OpenSpec.ofChange packTextsWrong)

/-- 'merkhetlaw02.PackReads': WHATEVER THE INPUT: true; the input reads as it did. -/
def packReadsSpec : ChangeSpec := { name := "packReads", fn := fun _ => fun
  | [d1, d2] => { results := [.lit (.bool true)], args := [d1, d2] }
  | _ => none }
def packReadsRow : OpenClaim := { program := "ytknigpdglbknhaa", sum := "26b545bed76635eb5a45bdb6d3ebac6f000337ffd2cbcb5f917ccae39bf4ee84", func := "merkhet/merkhetlaw02.PackReads", spec := "packReads", unfollowed := true, recurses := true, apart := false }
def PackReadsSaid : Prop := packReadsRow.holds Try.pinned (OpenSpec.ofChange packReadsSpec)

/-- ITS FALSE NEIGHBOUR: 'it returns false'. Refute it at one input. -/
def packReadsWrong : ChangeSpec := { name := "packReads", fn := fun _ => fun
  | [d1, d2] => { results := [.lit (.bool false)], args := [d1, d2] }
  | _ => none }
def PackReadsWrongFalsely : Prop := packReadsRow.holds Try.pinned (OpenSpec.ofChange packReadsWrong)

/-- 'merkhetlaw23.RequestPuts': WHATEVER THE INPUT: true; the input reads as it did. -/
def requestPutsSpec : ChangeSpec := { name := "requestPuts", fn := fun _ => fun
  | [d] => { results := [.lit (.bool true)], args := [d] }
  | _ => none }
def requestPutsRow : OpenClaim := { program := "ytknigpdglbknhaa", sum := "26b545bed76635eb5a45bdb6d3ebac6f000337ffd2cbcb5f917ccae39bf4ee84", func := "merkhet/merkhetlaw23.RequestPuts", spec := "requestPuts", apart := false }
def RequestPutsSaid : Prop := requestPutsRow.holds Try.pinned (OpenSpec.ofChange requestPutsSpec)

/-- ITS FALSE NEIGHBOUR: 'it returns false'. Refute it at one input. -/
def requestPutsWrong : ChangeSpec := { name := "requestPuts", fn := fun _ => fun
  | [d] => { results := [.lit (.bool false)], args := [d] }
  | _ => none }
def RequestPutsWrongFalsely : Prop := requestPutsRow.holds Try.pinned (OpenSpec.ofChange requestPutsWrong)

/-- 'merkhetlaw23.RequestGets': WHATEVER THE INPUT: true; the input reads as it did. -/
def requestGetsSpec : ChangeSpec := { name := "requestGets", fn := fun _ => fun
  | [d] => { results := [.lit (.bool true)], args := [d] }
  | _ => none }
def requestGetsRow : OpenClaim := { program := "ytknigpdglbknhaa", sum := "26b545bed76635eb5a45bdb6d3ebac6f000337ffd2cbcb5f917ccae39bf4ee84", func := "merkhet/merkhetlaw23.RequestGets", spec := "requestGets", apart := false }
def RequestGetsSaid : Prop := requestGetsRow.holds Try.pinned (OpenSpec.ofChange requestGetsSpec)

/-- ITS FALSE NEIGHBOUR: 'it returns false'. Refute it at one input. -/
def requestGetsWrong : ChangeSpec := { name := "requestGets", fn := fun _ => fun
  | [d] => { results := [.lit (.bool false)], args := [d] }
  | _ => none }
def RequestGetsWrongFalsely : Prop := requestGetsRow.holds Try.pinned (OpenSpec.ofChange requestGetsWrong)

/-- 'merkhetlaw23.RequestBodies': WHATEVER THE INPUT: true; the input reads as it did. -/
def requestBodiesSpec : ChangeSpec := { name := "requestBodies", fn := fun _ => fun
  | [d1, d2] => { results := [.lit (.bool true)], args := [d1, d2] }
  | _ => none }
def requestBodiesRow : OpenClaim := { program := "ytknigpdglbknhaa", sum := "26b545bed76635eb5a45bdb6d3ebac6f000337ffd2cbcb5f917ccae39bf4ee84", func := "merkhet/merkhetlaw23.RequestBodies", spec := "requestBodies", apart := false }
def RequestBodiesSaid : Prop := requestBodiesRow.holds Try.pinned (OpenSpec.ofChange requestBodiesSpec)

/-- ITS FALSE NEIGHBOUR: 'it returns false'. Refute it at one input. -/
def requestBodiesWrong : ChangeSpec := { name := "requestBodies", fn := fun _ => fun
  | [d1, d2] => { results := [.lit (.bool false)], args := [d1, d2] }
  | _ => none }
def RequestBodiesWrongFalsely : Prop := requestBodiesRow.holds Try.pinned (OpenSpec.ofChange requestBodiesWrong)

/- THE SECOND FORM. 'bulk': how many values and letters a reading holds, each counted each time it is reached (what is shared counts as often as it is met; a slice's spare places count too). A statement '..UptoSaid' is the law's where the arguments, and the package variables that the reading takes, are together of bulk at most 1048576: NARROWER than '..Said'. Prove '..Said' where nothing that the law and all that it calls make is longer than what came in: it says more and counts as full. Else prove '..UptoSaid'. A law counts once. -/
mutual
def uptoBulk {H : Type} : DataW H → Nat
  | .lit (.string bytes) => bytes.length + 1
  | .lit _ => 1
  | .nil => 1
  | .ptr d => uptoBulk d + 1
  | .slice elems spare => uptoBulkAll elems + uptoBulkAll spare + 1
  | .agg parts => uptoBulkAll parts + 1
  | .iface _ d => uptoBulk d + 1
  | .map entries => uptoBulkEntries entries + 1
  | .held _ => 1
def uptoBulkAll {H : Type} : List (DataW H) → Nat
  | [] => 0
  | d :: r => uptoBulk d + uptoBulkAll r
def uptoBulkEntries {H : Type} : List (Lit × DataW H) → Nat
  | [] => 0
  | x :: r => uptoBulkEntry x + uptoBulkEntries r
def uptoBulkEntry {H : Type} : Lit × DataW H → Nat
  | (.string bytes, d) => bytes.length + uptoBulk d + 1
  | (_, d) => uptoBulk d + 1
 end
def uptoSmall : (H : Type) → List (DataW H) → Bool := fun _ ds => decide (uptoBulkAll ds ≤ 1048576)
def OpenSpec.upto (s : _root_.Go.ChangeSpec) : _root_.Go.OpenSpec := { _root_.Go.OpenSpec.ofChange s with cond := some uptoSmall }

/-- 'merkhetlaw03.CheckSums', WHERE WHAT IT READS IS OF BULK AT MOST 1048576: true; the input reads as it did. -/
def checkSumsUptoRow : OpenClaim := { program := "ytknigpdglbknhaa", sum := "26b545bed76635eb5a45bdb6d3ebac6f000337ffd2cbcb5f917ccae39bf4ee84", func := "merkhet/merkhetlaw03.CheckSums", spec := "checkSums", apart := false, narrowed := true }
def CheckSumsUptoSaid : Prop := checkSumsUptoRow.holds Try.pinned (OpenSpec.upto checkSumsSpec)

/-- 'merkhetlaw03.CheckParts', WHERE WHAT IT READS IS OF BULK AT MOST 1048576: true; the input reads as it did. -/
def checkPartsUptoRow : OpenClaim := { program := "ytknigpdglbknhaa", sum := "26b545bed76635eb5a45bdb6d3ebac6f000337ffd2cbcb5f917ccae39bf4ee84", func := "merkhet/merkhetlaw03.CheckParts", spec := "checkParts", apart := false, narrowed := true }
def CheckPartsUptoSaid : Prop := checkPartsUptoRow.holds Try.pinned (OpenSpec.upto checkPartsSpec)

/-- 'merkhetlaw03.CheckTold', WHERE WHAT IT READS IS OF BULK AT MOST 1048576: true; the input reads as it did. -/
def checkToldUptoRow : OpenClaim := { program := "ytknigpdglbknhaa", sum := "26b545bed76635eb5a45bdb6d3ebac6f000337ffd2cbcb5f917ccae39bf4ee84", func := "merkhet/merkhetlaw03.CheckTold", spec := "checkTold", apart := false, narrowed := true }
def CheckToldUptoSaid : Prop := checkToldUptoRow.holds Try.pinned (OpenSpec.upto checkToldSpec)

/-- 'merkhetlaw03.CheckLine', WHERE WHAT IT READS IS OF BULK AT MOST 1048576: true; the input reads as it did. -/
def checkLineUptoRow : OpenClaim := { program := "ytknigpdglbknhaa", sum := "26b545bed76635eb5a45bdb6d3ebac6f000337ffd2cbcb5f917ccae39bf4ee84", func := "merkhet/merkhetlaw03.CheckLine", spec := "checkLine", apart := false, narrowed := true }
def CheckLineUptoSaid : Prop := checkLineUptoRow.holds Try.pinned (OpenSpec.upto checkLineSpec)

/-- 'merkhetlaw02.PackNumbers', WHERE WHAT IT READS IS OF BULK AT MOST 1048576: true; the input reads as it did. -/
def packNumbersUptoRow : OpenClaim := { program := "ytknigpdglbknhaa", sum := "26b545bed76635eb5a45bdb6d3ebac6f000337ffd2cbcb5f917ccae39bf4ee84", func := "merkhet/merkhetlaw02.PackNumbers", spec := "packNumbers", apart := false, narrowed := true }
def PackNumbersUptoSaid : Prop := packNumbersUptoRow.holds Try.pinned (OpenSpec.upto packNumbersSpec)

/-- 'merkhetlaw02.PackParts', WHERE WHAT IT READS IS OF BULK AT MOST 1048576: true; the input reads as it did. -/
def packPartsUptoRow : OpenClaim := { program := "ytknigpdglbknhaa", sum := "26b545bed76635eb5a45bdb6d3ebac6f000337ffd2cbcb5f917ccae39bf4ee84", func := "merkhet/merkhetlaw02.PackParts", spec := "packParts", unfollowed := true, recurses := true, apart := false, narrowed := true }
def PackPartsUptoSaid : Prop := packPartsUptoRow.holds Try.pinned (OpenSpec.upto packPartsSpec)

/-- 'merkhetlaw02.PackTexts', WHERE WHAT IT READS IS OF BULK AT MOST 1048576: true; the input reads as it did. -/
def packTextsUptoRow : OpenClaim := { program := "ytknigpdglbknhaa", sum := "26b545bed76635eb5a45bdb6d3ebac6f000337ffd2cbcb5f917ccae39bf4ee84", func := "merkhet/merkhetlaw02.PackTexts", spec := "packTexts", unfollowed := true, recurses := true, apart := false, narrowed := true }
def PackTextsUptoSaid : Prop := packTextsUptoRow.holds Try.pinned (OpenSpec.upto packTextsSpec)

/-- 'merkhetlaw02.PackReads', WHERE WHAT IT READS IS OF BULK AT MOST 1048576: true; the input reads as it did. -/
def packReadsUptoRow : OpenClaim := { program := "ytknigpdglbknhaa", sum := "26b545bed76635eb5a45bdb6d3ebac6f000337ffd2cbcb5f917ccae39bf4ee84", func := "merkhet/merkhetlaw02.PackReads", spec := "packReads", unfollowed := true, recurses := true, apart := false, narrowed := true }
def PackReadsUptoSaid : Prop := packReadsUptoRow.holds Try.pinned (OpenSpec.upto packReadsSpec)

/-- 'merkhetlaw23.RequestPuts', WHERE WHAT IT READS IS OF BULK AT MOST 1048576: true; the input reads as it did. -/
def requestPutsUptoRow : OpenClaim := { program := "ytknigpdglbknhaa", sum := "26b545bed76635eb5a45bdb6d3ebac6f000337ffd2cbcb5f917ccae39bf4ee84", func := "merkhet/merkhetlaw23.RequestPuts", spec := "requestPuts", apart := false, narrowed := true }
def RequestPutsUptoSaid : Prop := requestPutsUptoRow.holds Try.pinned (OpenSpec.upto requestPutsSpec)

/-- 'merkhetlaw23.RequestGets', WHERE WHAT IT READS IS OF BULK AT MOST 1048576: true; the input reads as it did. -/
def requestGetsUptoRow : OpenClaim := { program := "ytknigpdglbknhaa", sum := "26b545bed76635eb5a45bdb6d3ebac6f000337ffd2cbcb5f917ccae39bf4ee84", func := "merkhet/merkhetlaw23.RequestGets", spec := "requestGets", apart := false, narrowed := true }
def RequestGetsUptoSaid : Prop := requestGetsUptoRow.holds Try.pinned (OpenSpec.upto requestGetsSpec)

/-- 'merkhetlaw23.RequestBodies', WHERE WHAT IT READS IS OF BULK AT MOST 1048576: true; the input reads as it did. -/
def requestBodiesUptoRow : OpenClaim := { program := "ytknigpdglbknhaa", sum := "26b545bed76635eb5a45bdb6d3ebac6f000337ffd2cbcb5f917ccae39bf4ee84", func := "merkhet/merkhetlaw23.RequestBodies", spec := "requestBodies", apart := false, narrowed := true }
def RequestBodiesUptoSaid : Prop := requestBodiesUptoRow.holds Try.pinned (OpenSpec.upto requestBodiesSpec)

end Rows
end Go.Proofs.Ytknigpdglbknhaa
