/-
  No cell of these rows narrows 'for every input' (looked for: loops, veiled, ifaces, maps, wideKeys, modest, calm, conditions, laid).
  DERIVED. THE GIVEN ROWS OF THIS SEAT. 12 by the template 'for every input the law returns true; each argument reads behind the call as it read before'; 0 by the template 'total and deterministic' (their statements: YtacjlaiddnfpdaaTotals.lean).
  GIVEN WITH THE SEED: the statements are not yours to turn. If you find one false, say at which input.
  Laid BY PROGRAM, IN A SANDBOX (cutbox-rows.mjs): the forced cells as the released guide's own fill.sh prints them over the translation b0d82fa751d68708… (all of the seat's roots in one cut). By AI agents, Wed Nov 11 2026. No macro, syntax, notation, axiom, sorry.
-/
import Derived.Test.YtacjlaiddnfpdaaChecked
import GoSem.Claim
import GoSem.ClaimJoined
import GoSem.ClaimMapViews
import Derived.JoinedTies
import Derived.KernelRfl
namespace Go.Proofs.Ytacjlaiddnfpdaa
/- THE CELL 'sum', in the pinned program and in every row, IS THE sha256 OF THE DUMP (.gsa) THAT YtacjlaiddnfpdaaProg.lean LOADS. Nothing in Lean hashes anything: it is a label: what it is worth is what the hold of that sum in a sandbox is worth. -/
noncomputable def Try.pinned : Pinned := { name := "ytacjlaiddnfpdaa", sum := "b0d82fa751d68708d4d0416920ecdc1e10e15c13076aa046a87f592877ff2629", checked := Try.checked }
namespace Rows
def none {H : Type} : Left H := { results := [], args := [] }

/-- 'merkhetlaw17.CertTaken': WHATEVER THE INPUT: true; the input reads as it did. -/
def certTakenSpec : ChangeSpec := { name := "certTaken", fn := fun _ => fun
  | [d1, d2, d3] => { results := [.lit (.bool true)], args := [d1, d2, d3] }
  | _ => none }
def certTakenRow : OpenClaim := { program := "ytacjlaiddnfpdaa", sum := "b0d82fa751d68708d4d0416920ecdc1e10e15c13076aa046a87f592877ff2629", func := "merkhet/merkhetlaw17.CertTaken", spec := "certTaken", inPlace := ["math/bits.Add64"], unfollowed := true, recurses := true, apart := false }
def CertTakenSaid : Prop := certTakenRow.holds Try.pinned (OpenSpec.ofChange certTakenSpec)

/-- ITS FALSE NEIGHBOUR: 'it returns false'. Refute it at one input. -/
def certTakenWrong : ChangeSpec := { name := "certTaken", fn := fun _ => fun
  | [d1, d2, d3] => { results := [.lit (.bool false)], args := [d1, d2, d3] }
  | _ => none }
def CertTakenWrongFalsely : Prop := certTakenRow.holds Try.pinned (OpenSpec.ofChange certTakenWrong)

/-- 'merkhetlaw15.RelaxLayers': WHATEVER THE INPUT: true; the input reads as it did. -/
def relaxLayersSpec : ChangeSpec := { name := "relaxLayers", fn := fun _ => fun
  | [d1, d2] => { results := [.lit (.bool true)], args := [d1, d2] }
  | _ => none }
def relaxLayersRow : OpenClaim := { program := "ytacjlaiddnfpdaa", sum := "b0d82fa751d68708d4d0416920ecdc1e10e15c13076aa046a87f592877ff2629", func := "merkhet/merkhetlaw15.RelaxLayers", spec := "relaxLayers", unfollowed := true, recurses := true, apart := false }
def RelaxLayersSaid : Prop := relaxLayersRow.holds Try.pinned (OpenSpec.ofChange relaxLayersSpec)

/-- ITS FALSE NEIGHBOUR: 'it returns false'. Refute it at one input. -/
def relaxLayersWrong : ChangeSpec := { name := "relaxLayers", fn := fun _ => fun
  | [d1, d2] => { results := [.lit (.bool false)], args := [d1, d2] }
  | _ => none }
def RelaxLayersWrongFalsely : Prop := relaxLayersRow.holds Try.pinned (OpenSpec.ofChange relaxLayersWrong)

/-- 'merkhetlaw15.RelaxHolds': WHATEVER THE INPUT: true; the input reads as it did. -/
def relaxHoldsSpec : ChangeSpec := { name := "relaxHolds", fn := fun _ => fun
  | [d1, d2] => { results := [.lit (.bool true)], args := [d1, d2] }
  | _ => none }
def relaxHoldsRow : OpenClaim := { program := "ytacjlaiddnfpdaa", sum := "b0d82fa751d68708d4d0416920ecdc1e10e15c13076aa046a87f592877ff2629", func := "merkhet/merkhetlaw15.RelaxHolds", spec := "relaxHolds", unfollowed := true, recurses := true, apart := false }
def RelaxHoldsSaid : Prop := relaxHoldsRow.holds Try.pinned (OpenSpec.ofChange relaxHoldsSpec)

/-- ITS FALSE NEIGHBOUR: 'it returns false'. Refute it at one input. -/
def relaxHoldsWrong : ChangeSpec := { name := "relaxHolds", fn := fun _ => fun
  | [d1, d2] => { results := [.lit (.bool false)], args := [d1, d2] }
  | _ => none }
def RelaxHoldsWrongFalsely : Prop := relaxHoldsRow.holds Try.pinned (OpenSpec.ofChange relaxHoldsWrong)

/-- 'merkhetlaw15.RelaxGreatest': WHATEVER THE INPUT: true; the input reads as it did. -/
def relaxGreatestSpec : ChangeSpec := { name := "relaxGreatest", fn := fun _ => fun
  | [d1, d2, d3] => { results := [.lit (.bool true)], args := [d1, d2, d3] }
  | _ => none }
def relaxGreatestRow : OpenClaim := { program := "ytacjlaiddnfpdaa", sum := "b0d82fa751d68708d4d0416920ecdc1e10e15c13076aa046a87f592877ff2629", func := "merkhet/merkhetlaw15.RelaxGreatest", spec := "relaxGreatest", unfollowed := true, recurses := true, apart := false }
def RelaxGreatestSaid : Prop := relaxGreatestRow.holds Try.pinned (OpenSpec.ofChange relaxGreatestSpec)

/-- ITS FALSE NEIGHBOUR: 'it returns false'. Refute it at one input. -/
def relaxGreatestWrong : ChangeSpec := { name := "relaxGreatest", fn := fun _ => fun
  | [d1, d2, d3] => { results := [.lit (.bool false)], args := [d1, d2, d3] }
  | _ => none }
def RelaxGreatestWrongFalsely : Prop := relaxGreatestRow.holds Try.pinned (OpenSpec.ofChange relaxGreatestWrong)

/-- 'merkhetlaw15.RelaxSure': WHATEVER THE INPUT: true; the input reads as it did. -/
def relaxSureSpec : ChangeSpec := { name := "relaxSure", fn := fun _ => fun
  | [d1, d2, d3] => { results := [.lit (.bool true)], args := [d1, d2, d3] }
  | _ => none }
def relaxSureRow : OpenClaim := { program := "ytacjlaiddnfpdaa", sum := "b0d82fa751d68708d4d0416920ecdc1e10e15c13076aa046a87f592877ff2629", func := "merkhet/merkhetlaw15.RelaxSure", spec := "relaxSure", unfollowed := true, recurses := true, apart := false }
def RelaxSureSaid : Prop := relaxSureRow.holds Try.pinned (OpenSpec.ofChange relaxSureSpec)

/-- ITS FALSE NEIGHBOUR: 'it returns false'. Refute it at one input. -/
def relaxSureWrong : ChangeSpec := { name := "relaxSure", fn := fun _ => fun
  | [d1, d2, d3] => { results := [.lit (.bool false)], args := [d1, d2, d3] }
  | _ => none }
def RelaxSureWrongFalsely : Prop := relaxSureRow.holds Try.pinned (OpenSpec.ofChange relaxSureWrong)

/-- 'merkhetlaw15.RelaxTight': WHATEVER THE INPUT: true; the input reads as it did. -/
def relaxTightSpec : ChangeSpec := { name := "relaxTight", fn := fun _ => fun
  | [d1, d2] => { results := [.lit (.bool true)], args := [d1, d2] }
  | _ => none }
def relaxTightRow : OpenClaim := { program := "ytacjlaiddnfpdaa", sum := "b0d82fa751d68708d4d0416920ecdc1e10e15c13076aa046a87f592877ff2629", func := "merkhet/merkhetlaw15.RelaxTight", spec := "relaxTight", unfollowed := true, recurses := true, apart := false }
def RelaxTightSaid : Prop := relaxTightRow.holds Try.pinned (OpenSpec.ofChange relaxTightSpec)

/-- ITS FALSE NEIGHBOUR: 'it returns false'. Refute it at one input. -/
def relaxTightWrong : ChangeSpec := { name := "relaxTight", fn := fun _ => fun
  | [d1, d2] => { results := [.lit (.bool false)], args := [d1, d2] }
  | _ => none }
def RelaxTightWrongFalsely : Prop := relaxTightRow.holds Try.pinned (OpenSpec.ofChange relaxTightWrong)

/-- 'merkhetlaw17.CertOne': WHATEVER THE INPUT: true; the input reads as it did. -/
def certOneSpec : ChangeSpec := { name := "certOne", fn := fun _ => fun
  | [d1, d2, d3] => { results := [.lit (.bool true)], args := [d1, d2, d3] }
  | _ => none }
def certOneRow : OpenClaim := { program := "ytacjlaiddnfpdaa", sum := "b0d82fa751d68708d4d0416920ecdc1e10e15c13076aa046a87f592877ff2629", func := "merkhet/merkhetlaw17.CertOne", spec := "certOne", inPlace := ["math/bits.Add64"], unfollowed := true, recurses := true, apart := false }
def CertOneSaid : Prop := certOneRow.holds Try.pinned (OpenSpec.ofChange certOneSpec)

/-- ITS FALSE NEIGHBOUR: 'it returns false'. Refute it at one input. -/
def certOneWrong : ChangeSpec := { name := "certOne", fn := fun _ => fun
  | [d1, d2, d3] => { results := [.lit (.bool false)], args := [d1, d2, d3] }
  | _ => none }
def CertOneWrongFalsely : Prop := certOneRow.holds Try.pinned (OpenSpec.ofChange certOneWrong)

/-- 'merkhetlaw16.LoopOf': WHATEVER THE INPUT: true; the input reads as it did. -/
def loopOfSpec : ChangeSpec := { name := "loopOf", fn := fun _ => fun
  | [d1, d2] => { results := [.lit (.bool true)], args := [d1, d2] }
  | _ => none }
def loopOfRow : OpenClaim := { program := "ytacjlaiddnfpdaa", sum := "b0d82fa751d68708d4d0416920ecdc1e10e15c13076aa046a87f592877ff2629", func := "merkhet/merkhetlaw16.LoopOf", spec := "loopOf", unfollowed := true, recurses := true, apart := false }
def LoopOfSaid : Prop := loopOfRow.holds Try.pinned (OpenSpec.ofChange loopOfSpec)

/-- ITS FALSE NEIGHBOUR: 'it returns false'. Refute it at one input. -/
def loopOfWrong : ChangeSpec := { name := "loopOf", fn := fun _ => fun
  | [d1, d2] => { results := [.lit (.bool false)], args := [d1, d2] }
  | _ => none }
def LoopOfWrongFalsely : Prop := loopOfRow.holds Try.pinned (OpenSpec.ofChange loopOfWrong)

/-- 'merkhetlaw16.LoopWitness': WHATEVER THE INPUT: true; the input reads as it did. -/
def loopWitnessSpec : ChangeSpec := { name := "loopWitness", fn := fun _ => fun
  | [d1, d2] => { results := [.lit (.bool true)], args := [d1, d2] }
  | _ => none }
def loopWitnessRow : OpenClaim := { program := "ytacjlaiddnfpdaa", sum := "b0d82fa751d68708d4d0416920ecdc1e10e15c13076aa046a87f592877ff2629", func := "merkhet/merkhetlaw16.LoopWitness", spec := "loopWitness", unfollowed := true, recurses := true, apart := false }
def LoopWitnessSaid : Prop := loopWitnessRow.holds Try.pinned (OpenSpec.ofChange loopWitnessSpec)

/-- ITS FALSE NEIGHBOUR: 'it returns false'. Refute it at one input. -/
def loopWitnessWrong : ChangeSpec := { name := "loopWitness", fn := fun _ => fun
  | [d1, d2] => { results := [.lit (.bool false)], args := [d1, d2] }
  | _ => none }
def LoopWitnessWrongFalsely : Prop := loopWitnessRow.holds Try.pinned (OpenSpec.ofChange loopWitnessWrong)

/-- 'merkhetlaw16.LoopNo': WHATEVER THE INPUT: true; the input reads as it did. -/
def loopNoSpec : ChangeSpec := { name := "loopNo", fn := fun _ => fun
  | [d1, d2, d3] => { results := [.lit (.bool true)], args := [d1, d2, d3] }
  | _ => none }
def loopNoRow : OpenClaim := { program := "ytacjlaiddnfpdaa", sum := "b0d82fa751d68708d4d0416920ecdc1e10e15c13076aa046a87f592877ff2629", func := "merkhet/merkhetlaw16.LoopNo", spec := "loopNo", unfollowed := true, recurses := true, apart := false }
def LoopNoSaid : Prop := loopNoRow.holds Try.pinned (OpenSpec.ofChange loopNoSpec)

/-- ITS FALSE NEIGHBOUR: 'it returns false'. Refute it at one input. -/
def loopNoWrong : ChangeSpec := { name := "loopNo", fn := fun _ => fun
  | [d1, d2, d3] => { results := [.lit (.bool false)], args := [d1, d2, d3] }
  | _ => none }
def LoopNoWrongFalsely : Prop := loopNoRow.holds Try.pinned (OpenSpec.ofChange loopNoWrong)

/-- 'merkhetlaw17.CertTurned': WHATEVER THE INPUT: true; the input reads as it did. -/
def certTurnedSpec : ChangeSpec := { name := "certTurned", fn := fun _ => fun
  | [d1, d2, d3] => { results := [.lit (.bool true)], args := [d1, d2, d3] }
  | _ => none }
def certTurnedRow : OpenClaim := { program := "ytacjlaiddnfpdaa", sum := "b0d82fa751d68708d4d0416920ecdc1e10e15c13076aa046a87f592877ff2629", func := "merkhet/merkhetlaw17.CertTurned", spec := "certTurned", inPlace := ["math/bits.Add64"], unfollowed := true, recurses := true, apart := false }
def CertTurnedSaid : Prop := certTurnedRow.holds Try.pinned (OpenSpec.ofChange certTurnedSpec)

/-- ITS FALSE NEIGHBOUR: 'it returns false'. Refute it at one input. -/
def certTurnedWrong : ChangeSpec := { name := "certTurned", fn := fun _ => fun
  | [d1, d2, d3] => { results := [.lit (.bool false)], args := [d1, d2, d3] }
  | _ => none }
def CertTurnedWrongFalsely : Prop := certTurnedRow.holds Try.pinned (OpenSpec.ofChange certTurnedWrong)

/-- 'merkhetlaw17.CertEither': WHATEVER THE INPUT: true; the input reads as it did. -/
def certEitherSpec : ChangeSpec := { name := "certEither", fn := fun _ => fun
  | [d1, d2] => { results := [.lit (.bool true)], args := [d1, d2] }
  | _ => none }
def certEitherRow : OpenClaim := { program := "ytacjlaiddnfpdaa", sum := "b0d82fa751d68708d4d0416920ecdc1e10e15c13076aa046a87f592877ff2629", func := "merkhet/merkhetlaw17.CertEither", spec := "certEither", inPlace := ["math/bits.Add64"], unfollowed := true, recurses := true, apart := false }
def CertEitherSaid : Prop := certEitherRow.holds Try.pinned (OpenSpec.ofChange certEitherSpec)

/-- ITS FALSE NEIGHBOUR: 'it returns false'. Refute it at one input. -/
def certEitherWrong : ChangeSpec := { name := "certEither", fn := fun _ => fun
  | [d1, d2] => { results := [.lit (.bool false)], args := [d1, d2] }
  | _ => none }
def CertEitherWrongFalsely : Prop := certEitherRow.holds Try.pinned (OpenSpec.ofChange certEitherWrong)

/- THE SECOND FORM. 'bulk': how many values and letters a reading holds, each counted each time it is reached (what is shared counts as often as it is met; a slice's spare places count too). A statement '..UptoSaid' is the law's where the arguments, and the package variables that the reading takes, are together of bulk at most 1048576: NARROWER than '..Said'. Prove '..Said' where nothing that the law and all that it calls make is longer than what came in: it says more and counts as full. Else prove '..UptoSaid'. A law counts once. -/
mutual
def uptoBulk {H : Type} : DataW H → Nat
  | .lit (.string bytes) => bytes.length + 1
  | .lit _ => 1
  | .nil => 1
  | .ptr d => uptoBulk d + 1
  | .slice elems spare => uptoBulkAll elems + uptoBulkAll spare + 1
  | .agg parts => uptoBulkAll parts + 1
  | .iface _ d => uptoBulk d + 1
  | .map entries => uptoBulkEntries entries + 1
  | .held _ => 1
def uptoBulkAll {H : Type} : List (DataW H) → Nat
  | [] => 0
  | d :: r => uptoBulk d + uptoBulkAll r
def uptoBulkEntries {H : Type} : List (Lit × DataW H) → Nat
  | [] => 0
  | x :: r => uptoBulkEntry x + uptoBulkEntries r
def uptoBulkEntry {H : Type} : Lit × DataW H → Nat
  | (.string bytes, d) => bytes.length + uptoBulk d + 1
  | (_, d) => uptoBulk d + 1
 end
def uptoSmall : (H : Type) → List (DataW H) → Bool := fun _ ds => decide (uptoBulkAll ds ≤ 1048576)
def OpenSpec.upto (s : _root_.Go.ChangeSpec) : _root_.Go.OpenSpec := { _root_.Go.OpenSpec.ofChange s with cond := some uptoSmall }

/-- 'merkhetlaw17.CertTaken', WHERE WHAT IT READS IS OF BULK AT MOST 1048576: true; the input reads as it did. -/
def certTakenUptoRow : OpenClaim := { program := "ytacjlaiddnfpdaa", sum := "b0d82fa751d68708d4d0416920ecdc1e10e15c13076aa046a87f592877ff2629", func := "merkhet/merkhetlaw17.CertTaken", spec := "certTaken", inPlace := ["math/bits.Add64"], unfollowed := true, recurses := true, apart := false, narrowed := true }
def CertTakenUptoSaid : Prop := certTakenUptoRow.holds Try.pinned (OpenSpec.upto certTakenSpec)

/-- 'merkhetlaw15.RelaxLayers', WHERE WHAT IT READS IS OF BULK AT MOST 1048576: true; the input reads as it did. -/
def relaxLayersUptoRow : OpenClaim := { program := "ytacjlaiddnfpdaa", sum := "b0d82fa751d68708d4d0416920ecdc1e10e15c13076aa046a87f592877ff2629", func := "merkhet/merkhetlaw15.RelaxLayers", spec := "relaxLayers", unfollowed := true, recurses := true, apart := false, narrowed := true }
def RelaxLayersUptoSaid : Prop := relaxLayersUptoRow.holds Try.pinned (OpenSpec.upto relaxLayersSpec)

/-- 'merkhetlaw15.RelaxHolds', WHERE WHAT IT READS IS OF BULK AT MOST 1048576: true; the input reads as it did. -/
def relaxHoldsUptoRow : OpenClaim := { program := "ytacjlaiddnfpdaa", sum := "b0d82fa751d68708d4d0416920ecdc1e10e15c13076aa046a87f592877ff2629", func := "merkhet/merkhetlaw15.RelaxHolds", spec := "relaxHolds", unfollowed := true, recurses := true, apart := false, narrowed := true }
def RelaxHoldsUptoSaid : Prop := relaxHoldsUptoRow.holds Try.pinned (OpenSpec.upto relaxHoldsSpec)

/-- 'merkhetlaw15.RelaxGreatest', WHERE WHAT IT READS IS OF BULK AT MOST 1048576: true; the input reads as it did. -/
def relaxGreatestUptoRow : OpenClaim := { program := "ytacjlaiddnfpdaa", sum := "b0d82fa751d68708d4d0416920ecdc1e10e15c13076aa046a87f592877ff2629", func := "merkhet/merkhetlaw15.RelaxGreatest", spec := "relaxGreatest", unfollowed := true, recurses := true, apart := false, narrowed := true }
def RelaxGreatestUptoSaid : Prop := relaxGreatestUptoRow.holds Try.pinned (OpenSpec.upto relaxGreatestSpec)

/-- 'merkhetlaw15.RelaxSure', WHERE WHAT IT READS IS OF BULK AT MOST 1048576: true; the input reads as it did. -/
def relaxSureUptoRow : OpenClaim := { program := "ytacjlaiddnfpdaa", sum := "b0d82fa751d68708d4d0416920ecdc1e10e15c13076aa046a87f592877ff2629", func := "merkhet/merkhetlaw15.RelaxSure", spec := "relaxSure", unfollowed := true, recurses := true, apart := false, narrowed := true }
def RelaxSureUptoSaid : Prop := relaxSureUptoRow.holds Try.pinned (OpenSpec.upto relaxSureSpec)

/-- 'merkhetlaw15.RelaxTight', WHERE WHAT IT READS IS OF BULK AT MOST 1048576: true; the input reads as it did. -/
def relaxTightUptoRow : OpenClaim := { program := "ytacjlaiddnfpdaa", sum := "b0d82fa751d68708d4d0416920ecdc1e10e15c13076aa046a87f592877ff2629", func := "merkhet/merkhetlaw15.RelaxTight", spec := "relaxTight", unfollowed := true, recurses := true, apart := false, narrowed := true }
def RelaxTightUptoSaid : Prop := relaxTightUptoRow.holds Try.pinned (OpenSpec.upto relaxTightSpec)

/-- 'merkhetlaw17.CertOne', WHERE WHAT IT READS IS OF BULK AT MOST 1048576: true; the input reads as it did. -/
def certOneUptoRow : OpenClaim := { program := "ytacjlaiddnfpdaa", sum := "b0d82fa751d68708d4d0416920ecdc1e10e15c13076aa046a87f592877ff2629", func := "merkhet/merkhetlaw17.CertOne", spec := "certOne", inPlace := ["math/bits.Add64"], unfollowed := true, recurses := true, apart := false, narrowed := true }
def CertOneUptoSaid : Prop := certOneUptoRow.holds Try.pinned (OpenSpec.upto certOneSpec)

/-- 'merkhetlaw16.LoopOf', WHERE WHAT IT READS IS OF BULK AT MOST 1048576: true; the input reads as it did. -/
def loopOfUptoRow : OpenClaim := { program := "ytacjlaiddnfpdaa", sum := "b0d82fa751d68708d4d0416920ecdc1e10e15c13076aa046a87f592877ff2629", func := "merkhet/merkhetlaw16.LoopOf", spec := "loopOf", unfollowed := true, recurses := true, apart := false, narrowed := true }
def LoopOfUptoSaid : Prop := loopOfUptoRow.holds Try.pinned (OpenSpec.upto loopOfSpec)

/-- 'merkhetlaw16.LoopWitness', WHERE WHAT IT READS IS OF BULK AT MOST 1048576: true; the input reads as it did. -/
def loopWitnessUptoRow : OpenClaim := { program := "ytacjlaiddnfpdaa", sum := "b0d82fa751d68708d4d0416920ecdc1e10e15c13076aa046a87f592877ff2629", func := "merkhet/merkhetlaw16.LoopWitness", spec := "loopWitness", unfollowed := true, recurses := true, apart := false, narrowed := true }
def LoopWitnessUptoSaid : Prop := loopWitnessUptoRow.holds Try.pinned (OpenSpec.upto loopWitnessSpec)

/-- 'merkhetlaw16.LoopNo', WHERE WHAT IT READS IS OF BULK AT MOST 1048576: true; the input reads as it did. -/
def loopNoUptoRow : OpenClaim := { program := "ytacjlaiddnfpdaa", sum := "b0d82fa751d68708d4d0416920ecdc1e10e15c13076aa046a87f592877ff2629", func := "merkhet/merkhetlaw16.LoopNo", spec := "loopNo", unfollowed := true, recurses := true, apart := false, narrowed := true }
def LoopNoUptoSaid : Prop := loopNoUptoRow.holds Try.pinned (OpenSpec.upto loopNoSpec)

/-- 'merkhetlaw17.CertTurned', WHERE WHAT IT READS IS OF BULK AT MOST 1048576: true; the input reads as it did. -/
def certTurnedUptoRow : OpenClaim := { program := "ytacjlaiddnfpdaa", sum := "b0d82fa751d68708d4d0416920ecdc1e10e15c13076aa046a87f592877ff2629", func := "merkhet/merkhetlaw17.CertTurned", spec := "certTurned", inPlace := ["math/bits.Add64"], unfollowed := true, recurses := true, apart := false, narrowed := true }
def CertTurnedUptoSaid : Prop := certTurnedUptoRow.holds Try.pinned (OpenSpec.upto certTurnedSpec)

/-- 'merkhetlaw17.CertEither', WHERE WHAT IT READS IS OF BULK AT MOST 1048576: true; the input reads as it did. -/
def certEitherUptoRow : OpenClaim := { program := "ytacjlaiddnfpdaa", sum := "b0d82fa751d68708d4d0416920ecdc1e10e15c13076aa046a87f592877ff2629", func := "merkhet/merkhetlaw17.CertEither", spec := "certEither", inPlace := ["math/bits.Add64"], unfollowed := true, recurses := true, apart := false, narrowed := true }
def CertEitherUptoSaid : Prop := certEitherUptoRow.holds Try.pinned (OpenSpec.upto certEitherSpec)

end Rows
end Go.Proofs.Ytacjlaiddnfpdaa
