/- A row that is only read, and that stays so without a block, does not lie there. -/
import Derived.Test.YtacjlaiddnfpdaaWMore
import Derived.Test.YtacjlaiddnfpdaaWFootNe
set_option linter.unusedVariables false
namespace Go.Proofs.Ytacjlaiddnfpdaa.H
open Go.RowKit Go.Proofs.YtacjlaiddnfpdaaW.PrintWords Go.Proofs.YtacjlaiddnfpdaaW.PrintLast Go.Proofs.YtacjlaiddnfpdaaW.PrintMore
theorem V_blk {α : Type} {d : Kd α} {e base g n c : Nat} {W : World} {ok : Nat → Prop} {ad : Addr} {xs : List α} (h : Kd.V d e W base (fun k => ok k ∧ k ≠ g) (.slice (some ad) n c) xs) (hs : 0 < d.sz) (hn : 0 < xs.length) : ad.block ≠ g :=
  Kd.foot_ne (fun W_ hk_ => (Kd.V_reads' (Kd.V_keep h hk_ (fun _ hj_ => hj_.2))).2.2) (by have := (Kd.V_reads' h).1; omega) hs
end Go.Proofs.Ytacjlaiddnfpdaa.H
