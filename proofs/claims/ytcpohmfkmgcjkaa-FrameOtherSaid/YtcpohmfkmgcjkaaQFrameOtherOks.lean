/- What is known of the structs that come in. Printed by a program of this session. -/
import Derived.Test.YtcpohmfkmgcjkaaQFrameOtherPx0
namespace Go.Proofs.Ytcpohmfkmgcjkaa.P
open Go.RowKit Go.Proofs.YtcpohmfkmgcjkaaW.PrintWords Go.Proofs.YtcpohmfkmgcjkaaW.PrintLast Go.Proofs.YtcpohmfkmgcjkaaW.PrintMore
def ok24 (x : S24) : Prop := ((Lit.int .i64 x.f0).wf = true) ∧ ((Lit.int .i64 x.f1).wf = true) ∧ ((Lit.int .i64 x.f2).wf = true) ∧ ((Lit.int .i64 x.f3).wf = true) ∧ ((Lit.int .i64 x.f4).wf = true) ∧ (x.f5.length ≤ maxLen ∧ ∀ y_ ∈ x.f5, (Lit.int .i64 y_).wf = true)
def ok26 (x : S26) : Prop := ((Lit.int .i64 x.f0).wf = true) ∧ ((Lit.int .i64 x.f1).wf = true)
def ok29 (x : S29) : Prop := ((Lit.int .i64 x.f0).wf = true) ∧ ((Lit.int .i64 x.f1).wf = true) ∧ ((Lit.int .i64 x.f2).wf = true) ∧ (ok26 x.f3) ∧ (x.f4.length ≤ maxLen ∧ ∀ y_ ∈ x.f4, ok26 y_)
end Go.Proofs.Ytcpohmfkmgcjkaa.P
