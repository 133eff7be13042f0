-- Written by wip/xprint.py of this repo, over the kit's print.py: out of the translation; the oracles in it are by hand. Not trusted: Lean checks it.
import Derived.Test.YtpdcpekjafcohaaXWearx38
namespace Go.Proofs.Ytpdcpekjafcohaa.XWear
open Go.RowKit Go.Proofs.Ytpdcpekjafcohaa.XWear Go.Proofs.YtpdcpekjafcohaaW.PrintWords Go.Proofs.YtpdcpekjafcohaaW.PrintLast Go.Proofs.YtpdcpekjafcohaaW.PrintMore
/-- THE ONE PURE STATEMENT of dropperlaw07_WearDue. -/
def dropperlaw07_WearDue.Pure : Prop := ∀ (l0 : List Int) (a1_0 : Int) (a1_1 : Int), (l0.length ≤ 9223372036854775807 ∧ ∀ y0 ∈ l0, (Lit.int .i64 y0).wf = true) → ((Lit.int .u16 a1_0).wf = true) → ((Lit.int .u16 a1_1).wf = true) → ∃ k, dropperlaw07_WearDue.f k l0 a1_0 a1_1 = some true
end Go.Proofs.Ytpdcpekjafcohaa.XWear
