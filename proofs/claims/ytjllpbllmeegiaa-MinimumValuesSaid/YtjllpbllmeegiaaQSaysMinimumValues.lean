/- What is left to prove of the law MinimumValues: a statement over numbers and lists. No condition. -/
import Derived.Test.YtjllpbllmeegiaaQx19
import Derived.Test.YtjllpbllmeegiaaQOpn
namespace Go.Proofs.Ytjllpbllmeegiaa.Q
open Go.RowKit Go.Proofs.YtjllpbllmeegiaaW.PrintWords
def plenumlaw14_MinimumValues.Pure : Prop := ∀ (x0 : S26) (x1 : S28) (x2 : S32), (V26 x0) → (V28 x1) → (V32 x2) → ∃ k, plenumlaw14_MinimumValues.f k x0.f0 x0.f1 x0.f2 x0.f3 x0.f4 x0.f5 x0.f6 x0.f7 x0.f8.f0 x0.f8.f1 x0.f9 x0.f10 x1.f0.f0 x1.f0.f1 x1.f1 x2.f0 x2.f1.f0 x2.f1.f1.f0 x2.f1.f1.f1 = some true
end Go.Proofs.Ytjllpbllmeegiaa.Q
