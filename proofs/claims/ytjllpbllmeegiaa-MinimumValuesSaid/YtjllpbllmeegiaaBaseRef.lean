/- The reference's functions of chapter 14 in short, as numbers tell them. No condition. -/
import Derived.Test.YtjllpbllmeegiaaBase
import Derived.Test.YtjllpbllmeegiaaQx18
namespace Go.Proofs.Ytjllpbllmeegiaa.Pure
open Go.RowKit Go.Proofs.Ytjllpbllmeegiaa.Q Go.Proofs.YtjllpbllmeegiaaW.PrintWords Go.Proofs.YtjllpbllmeegiaaW.PrintLast Go.Proofs.YtjllpbllmeegiaaW.PrintMore

section
variable (k : Nat) (p0 : ByteArray) (p1 p2 : Int) (p3 : ByteArray) (p4 p5 p6 : Int) (l : List ByteArray) (p8 p9 p10 p11 o0 o1 o2 q0 q1 q2 t : Int)
theorem time_eq : plenumref14_Time.f (k + 1) p0 p1 p2 p3 p4 p5 p6 l p8 p9 p10 p11 o0 o1 o2 = some (tm p1 p2 p10 p11 o0 o1) := by
  unfold plenumref14_Time.f plenumref14_binary.f
  by_cases h2 : p2 = 2 <;> by_cases h1 : p1 = 2 <;> by_cases h0 : o0 = 2 <;> by_cases hn : o1 = 1 <;> by_cases hz : o1 = 0 <;> simp_all [plenumref14_Time.j0, tm]
theorem is_eq : plenumref14_Is.f p0 p1 p2 p3 p4 p5 p6 l p8 p9 p10 p11 o0 o1 = some (isv p1 o0 o1) := by
  unfold plenumref14_Is.f isv
  by_cases h1 : o0 = p1 <;> by_cases h2 : o0 = 2 <;> by_cases h3 : o1 = 0 <;> simp_all
theorem rheld_eq : plenumref14_Held.f (k + 1) p0 p1 p2 p3 p4 p5 p6 l p8 p9 p10 p11 o0 o1 o2 t = some (decide (wrap64 (t - o2) < tm p1 p2 p10 p11 o0 o1)) := by
  unfold plenumref14_Held.f
  rw [time_eq]
  rfl
theorem rnext_eq : plenumref14_Next.f (k + 3) p0 p1 p2 p3 p4 p5 p6 l p8 p9 p10 p11 o0 o1 o2 q0 q1 q2 t = some (nextv p1 p2 p10 p11 o0 o1 o2 q0 q1 q2 t) := by
  unfold plenumref14_Next.f nextv valv
  rw [is_eq, is_eq]
  simp only [Option.bind_some]
  cases h1 : isv p1 o0 o1 <;> cases h2 : isv p1 q1 q2 <;> simp [plenumref14_Next.j0, plenumref14_Next.j1]
  by_cases h3 : q0 < 1
  · simp [h3]
  by_cases h4 : q0 > 17
  · simp [h3, h4]
  by_cases h5 : t < o2
  · simp [h3, h4, h5]
  by_cases h7 : wrap64 (t - o2) < tm p1 p2 p10 p11 o0 o1
  · by_cases h6 : q0 > 5 <;> by_cases h8 : q1 = o0 <;> by_cases h9 : q2 = o1 <;> simp [h3, h4, h5, h6, h7, h8, h9, rheld_eq]
  · by_cases h8 : q1 = o0 <;> by_cases h9 : q2 = o1 <;> simp [h3, h4, h5, h7, h8, h9, rheld_eq]
end
end Go.Proofs.Ytjllpbllmeegiaa.Pure
