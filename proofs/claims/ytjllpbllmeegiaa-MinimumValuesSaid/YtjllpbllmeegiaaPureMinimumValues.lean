/- The law MinimumValues, over numbers and lists. No condition. -/
import Derived.Test.YtjllpbllmeegiaaQSaysMinimumValues
import Derived.Test.YtjllpbllmeegiaaBaseRef
namespace Go.Proofs.Ytjllpbllmeegiaa.Pure
open Go.RowKit Go.Proofs.Ytjllpbllmeegiaa.Q Go.Proofs.YtjllpbllmeegiaaW.PrintWords Go.Proofs.YtjllpbllmeegiaaW.PrintLast Go.Proofs.YtjllpbllmeegiaaW.PrintMore

theorem MinimumValues : plenumlaw14_MinimumValues.Pure := by
  intro p o a _ _ _
  refine ⟨0 + 3, ?_⟩
  unfold plenumlaw14_MinimumValues.f
  rw [awake_eq]
  obtain ⟨b, hb⟩ := fits1 0 p.f0 p.f1 p.f2 p.f3 p.f4 p.f5 p.f6 p.f7 p.f8.f0 p.f8.f1 p.f9 p.f10 o.f0.f0 o.f0.f1 o.f1 (⟨a.f0, (⟨a.f1.f0, (⟨a.f1.f1.f0, a.f1.f1.f1⟩ : S24)⟩ : S30)⟩ : S32)
  rw [hb, value_eq, next_eq, rnext_eq]
  cases b
  · simp
  simp only [Option.bind_some, if_true]
  generalize hv : valv p.f1 p.f2 p.f9 p.f10 o.f0.f0 o.f0.f1 o.f1 a.f1.f0 a.f1.f1.f0 a.f1.f1.f1 a.f0 = v
  have hn : nextv p.f1 p.f2 p.f9 p.f10 o.f0.f0 o.f0.f1 o.f1 a.f1.f0 a.f1.f1.f0 a.f1.f1.f1 a.f0 = if v.2.2 = 0 then (if v.1 = o.f0.f0 ∧ v.2.1 = o.f0.f1 then (o.f0.f0, o.f0.f1, o.f1, 0) else (v.1, v.2.1, a.f0, 0)) else (0, 0, 0, v.2.2) := by
    unfold nextv
    rw [hv]
  have he : v.2.2 ≠ 0 → v.1 = 0 ∧ v.2.1 = 0 := by
    rw [← hv]
    unfold valv
    by_cases h1 : (isv p.f1 o.f0.f0 o.f0.f1 && isv p.f1 a.f1.f1.f0 a.f1.f1.f1) = false
    · simp [h1]
    by_cases h2 : a.f1.f0 < 1 ∨ a.f1.f0 > 17
    · simp [h1, h2]
    by_cases h3 : a.f0 < o.f1
    · simp [h1, h2, h3]
    by_cases h4 : a.f1.f0 > 5 ∧ wrap64 (a.f0 - o.f1) < tm p.f1 p.f2 p.f9 p.f10 o.f0.f0 o.f0.f1 <;> simp [h1, h2, h3, h4]
  rw [hn]
  by_cases h0 : v.2.2 = 0
  · by_cases h1 : v.1 = o.f0.f0 ∧ v.2.1 = o.f0.f1
    · simp [h0, h1]
    · simp [h0, h1]
  · obtain ⟨h1, h2⟩ := he h0
    simp [h0, h1, h2]

end Go.Proofs.Ytjllpbllmeegiaa.Pure
