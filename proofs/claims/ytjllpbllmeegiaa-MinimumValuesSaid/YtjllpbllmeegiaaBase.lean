/- The functions of chapter 14 in short, as numbers tell them. No condition. -/
import Derived.Test.YtjllpbllmeegiaaQx11
import Derived.Test.YtjllpbllmeegiaaQx13
namespace Go.Proofs.Ytjllpbllmeegiaa.Pure
open Go.RowKit Go.Proofs.Ytjllpbllmeegiaa.Q Go.Proofs.YtjllpbllmeegiaaW.PrintWords Go.Proofs.YtjllpbllmeegiaaW.PrintLast Go.Proofs.YtjllpbllmeegiaaW.PrintMore

/-- The minimum time of a state. -/
def tm (kind role on off vk vn : Int) : Int := if role = 2 ∧ kind = 2 ∧ vk = 2 then (if vn = 1 then on else if vn = 0 then off else 0) else 0
/-- Is this a value of the point's kind? -/
def isv (kind vk vn : Int) : Bool := vk == kind && (!(vk == 2) || vn == 0 || vn == 1)

section
variable (k : Nat) (p0 : ByteArray) (p1 p2 : Int) (p3 : ByteArray) (p4 p5 p6 : Int) (l : List ByteArray) (p8 p9 p10 p11 o0 o1 o2 q0 q1 q2 t : Int)
theorem least_eq : minimum_least.f (k + 1) p0 p1 p2 p3 p4 p5 p6 l p8 p9 p10 p11 o0 o1 o2 = some (tm p1 p2 p10 p11 o0 o1) := by
  unfold minimum_least.f minimum_output.f
  by_cases h2 : p2 = 2 <;> by_cases h1 : p1 = 2 <;> by_cases h0 : o0 = 2 <;> by_cases hn : o1 = 1 <;> by_cases hz : o1 = 0 <;> simp_all [minimum_least.j0, tm]
theorem fits_eq : minimum_fits.f p0 p1 p2 p3 p4 p5 p6 l p8 p9 p10 p11 o0 o1 = some (isv p1 o0 o1) := by
  unfold minimum_fits.f isv
  by_cases h1 : o0 = p1 <;> by_cases h2 : o0 = 2 <;> by_cases h3 : o1 = 0 <;> simp_all
theorem held_eq : minimum_Held.f (k + 1) p0 p1 p2 p3 p4 p5 p6 l p8 p9 p10 p11 o0 o1 o2 t = some (decide (wrap64 (t - o2) < tm p1 p2 p10 p11 o0 o1)) := by
  unfold minimum_Held.f
  rw [least_eq]
  rfl
/-- What Value answers. -/
def valv (kind role on off o0 o1 o2 q0 q1 q2 t : Int) : Int × Int × Int :=
  if (isv kind o0 o1 && isv kind q1 q2) = false then (0, 0, 11) else if q0 < 1 ∨ q0 > 17 then (0, 0, 6) else if t < o2 then (0, 0, 8) else
  if q0 > 5 ∧ wrap64 (t - o2) < tm kind role on off o0 o1 then (o0, o1, 0) else (q1, q2, 0)
/-- What Next answers. -/
def nextv (kind role on off o0 o1 o2 q0 q1 q2 t : Int) : Int × Int × Int × Int :=
  let v := valv kind role on off o0 o1 o2 q0 q1 q2 t
  if v.2.2 = 0 then (if v.1 = o0 ∧ v.2.1 = o1 then (o0, o1, o2, 0) else (v.1, v.2.1, t, 0)) else (0, 0, 0, v.2.2)
theorem value_eq : minimum_Value.f (k + 3) p0 p1 p2 p3 p4 p5 p6 l p8 p9 p10 p11 o0 o1 o2 q0 q1 q2 t = some (valv p1 p2 p10 p11 o0 o1 o2 q0 q1 q2 t) := by
  unfold minimum_Value.f valv
  rw [fits_eq, fits_eq]
  simp only [Option.bind_some]
  cases h1 : isv p1 o0 o1 <;> cases h2 : isv p1 q1 q2 <;> simp [minimum_Value.j0, minimum_Value.j1]
  by_cases h3 : q0 < 1
  · simp [h3]
  by_cases h4 : q0 > 17
  · simp [h3, h4]
  by_cases h5 : t < o2
  · simp [h3, h4, h5]
  by_cases h6 : q0 > 5
  · by_cases h7 : wrap64 (t - o2) < tm p1 p2 p10 p11 o0 o1 <;> simp [h3, h4, h5, h6, h7, held_eq]
  · simp [h3, h4, h5, h6]
theorem next_eq : minimum_Next.f (k + 3) p0 p1 p2 p3 p4 p5 p6 l p8 p9 p10 p11 o0 o1 o2 q0 q1 q2 t = some (nextv p1 p2 p10 p11 o0 o1 o2 q0 q1 q2 t) := by
  unfold minimum_Next.f nextv
  rw [value_eq]
  simp only [Option.bind_some]
  by_cases h1 : (valv p1 p2 p10 p11 o0 o1 o2 q0 q1 q2 t).2.2 = 0
  · by_cases h2 : (valv p1 p2 p10 p11 o0 o1 o2 q0 q1 q2 t).1 = o0 <;> by_cases h3 : (valv p1 p2 p10 p11 o0 o1 o2 q0 q1 q2 t).2.1 = o1 <;> simp [h1, h2, h3]
  · simp [h1]
theorem until_eq : minimum_Until.f (k + 1) p0 p1 p2 p3 p4 p5 p6 l p8 p9 p10 p11 o0 o1 o2 = some (wrap64 (o2 + tm p1 p2 p10 p11 o0 o1)) := by
  unfold minimum_Until.f
  rw [least_eq]
  rfl
end
theorem awake_eq (k : Nat) : plenumlaw14_awake.f (k + 3) = some true := by
  unfold plenumlaw14_awake.f plenumlaw14_on.f
  simp only [Option.bind_some, next_eq, value_eq, until_eq, held_eq]
  decide +kernel
/-- Fits, for lists of one element. -/
theorem inst_some (n : Int) : ∃ b, plenumref14_instant.f n = some b := by unfold plenumref14_instant.f; split <;> exact ⟨_, rfl⟩
theorem fits1 (k : Nat) (p0 : ByteArray) (p1 p2 : Int) (p3 : ByteArray) (p4 p5 p6 : Int) (l : List ByteArray) (p8 p9 p10 p11 o0 o1 o2 : Int) (x : S32) : ∃ b, plenumref14_Fits.f (k + 3) p0 p1 p2 p3 p4 p5 p6 l p8 p9 p10 p11 o0 o1 o2 [x] = some b := by
  unfold plenumref14_Fits.f
  obtain ⟨b1, h1⟩ := inst_some p10
  obtain ⟨b2, h2⟩ := inst_some p11
  obtain ⟨b3, h3⟩ := inst_some o2
  obtain ⟨b4, h4⟩ := inst_some x.f0
  have hw : wrap64 1 = 1 := by unfold wrap64; omega
  rw [h1, h2, h3]
  cases b1 <;> cases b2 <;> cases b3 <;> cases b4 <;> simp [plenumref14_Fits.j0, plenumref14_Fits.l0, rd_T32, h4, hw]
end Go.Proofs.Ytjllpbllmeegiaa.Pure
