/- The law MinimumUrgent, over numbers and lists. No condition. -/
import Derived.Test.YtjllpbllmeegiaaQSaysMinimumUrgent
import Derived.Test.YtjllpbllmeegiaaBase
namespace Go.Proofs.Ytjllpbllmeegiaa.Pure
open Go.RowKit Go.Proofs.Ytjllpbllmeegiaa.Q Go.Proofs.YtjllpbllmeegiaaW.PrintWords Go.Proofs.YtjllpbllmeegiaaW.PrintLast Go.Proofs.YtjllpbllmeegiaaW.PrintMore

theorem MinimumUrgent : plenumlaw14_MinimumUrgent.Pure := by
  intro p o a _ _ _
  refine ⟨0 + 3, ?_⟩
  unfold plenumlaw14_MinimumUrgent.f
  rw [awake_eq]
  obtain ⟨b, hb⟩ := fits1 0 p.f0 p.f1 p.f2 p.f3 p.f4 p.f5 p.f6 p.f7 p.f8.f0 p.f8.f1 p.f9 p.f10 o.f0.f0 o.f0.f1 o.f1 (⟨a.f0, (⟨a.f1.f0, (⟨a.f1.f1.f0, a.f1.f1.f1⟩ : S24)⟩ : S30)⟩ : S32)
  rw [hb, value_eq, held_eq]
  cases b
  · simp
  simp only [Option.bind_some, if_true]
  unfold valv
  by_cases h1 : (isv p.f1 o.f0.f0 o.f0.f1 && isv p.f1 a.f1.f1.f0 a.f1.f1.f1) = false
  · simp [h1]
  by_cases h2 : a.f1.f0 < 1 ∨ a.f1.f0 > 17
  · simp [h1, h2]
  by_cases h3 : a.f0 < o.f1
  · simp [h1, h2, h3]
  by_cases h4 : a.f1.f0 > 5 <;> by_cases h5 : wrap64 (a.f0 - o.f1) < tm p.f1 p.f2 p.f9 p.f10 o.f0.f0 o.f0.f1
  · have : ¬ a.f1.f0 ≤ 5 := by omega
    simp [h1, h2, h3, h4, h5, this]
  · have : ¬ a.f1.f0 ≤ 5 := by omega
    simp [h1, h2, h3, h4, h5, this]
  · have : a.f1.f0 ≤ 5 := by omega
    simp [h1, h2, h3, h4, this]
  · have : a.f1.f0 ≤ 5 := by omega
    simp [h1, h2, h3, h4, this]

end Go.Proofs.Ytjllpbllmeegiaa.Pure
