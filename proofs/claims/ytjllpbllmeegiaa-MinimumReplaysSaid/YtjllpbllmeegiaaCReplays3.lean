/- MinimumReplays: one part of the proof that the law answers true for every input, and that its arguments read afterwards as before. No condition. -/
import Derived.Test.YtjllpbllmeegiaaCReplays2
section
namespace Go.Proofs.Ytjllpbllmeegiaa.R
open Go.RowKit Go.Proofs.YtjllpbllmeegiaaW.PrintWords Go.Proofs.YtjllpbllmeegiaaW.PrintLast Go.Proofs.YtjllpbllmeegiaaW.PrintMore
attribute [local go_sem] max2_int min2_int max_two min_two max_three min_three max_four min_four
set_option linter.unusedVariables false
set_option linter.unusedSimpArgs false
attribute [local go_sem high] eqA24 eqA28
def plenumlaw14_awake.f (k : Nat)  : Option (Bool) := (plenumlaw14_on.f 1).bind fun bt132 => ((plenumlaw14_on.f 0).bind fun bt135 => ((minimum_Next.f k (⟨#[102, 97, 110]⟩ : ByteArray) 2 2 (⟨#[]⟩ : ByteArray) 0 0 0 ([] : List ByteArray) 0 0 60 30 bt132.1 bt132.2 100 8 bt135.1 bt135.2 159).bind fun bt137 => ((plenumlaw14_on.f 0).bind fun bt142 => ((minimum_Next.f k (⟨#[102, 97, 110]⟩ : ByteArray) 2 2 (⟨#[]⟩ : ByteArray) 0 0 0 ([] : List ByteArray) 0 0 60 30 bt132.1 bt132.2 100 8 bt142.1 bt142.2 160).bind fun bt144 => ((plenumlaw14_on.f 0).bind fun bt149 => ((minimum_Value.f k (⟨#[102, 97, 110]⟩ : ByteArray) 2 2 (⟨#[]⟩ : ByteArray) 0 0 0 ([] : List ByteArray) 0 0 60 30 bt132.1 bt132.2 100 3 bt149.1 bt149.2 101).bind fun bt151 => (if bt137.2.2.2 = 0 then (if ((bt137.1 == bt132.1 && (bt137.2.1 == bt132.2)) && (bt137.2.2.1 == 100)) = true then (if bt144.2.2.2 = 0 then ((plenumlaw14_on.f 0).bind fun bt155 => (if ((bt144.1 == bt155.1 && (bt144.2.1 == bt155.2)) && (bt144.2.2.1 == 160)) = true then (if bt151.2.2 = 0 then ((plenumlaw14_on.f 0).bind fun bt157 => (if (bt151.1 == bt157.1 && (bt151.2.1 == bt157.2)) = true then ((minimum_Until.f k (⟨#[102, 97, 110]⟩ : ByteArray) 2 2 (⟨#[]⟩ : ByteArray) 0 0 0 ([] : List ByteArray) 0 0 60 30 bt132.1 bt132.2 100).bind fun t159 => (if t159 = 160 then ((minimum_Held.f k (⟨#[102, 97, 110]⟩ : ByteArray) 2 2 (⟨#[]⟩ : ByteArray) 0 0 0 ([] : List ByteArray) 0 0 60 30 bt132.1 bt132.2 100 159).bind fun t160 => (some t160)) else (none))) else (none))) else (none)) else (none))) else (none)) else (none)) else (none))))))))
def plenumlaw14_awake.T3 : Bool × List (List Nat × List Nat) := (true, [([], []), ([], []), ([], []), ([2], [2]), ([0, 1, 3, 2], [0, 1, 3]), ([4], [4]), ([5], [5]), ([5], [5]), ([], []), ([8, 6, 4, 0, 1, 2, 3, 4, 5, 6, 8], [6, 8]), ([7, 9, 0, 1, 2, 3, 4, 5, 6, 7, 8, 9], [7])])
def plenumlaw14_awake.B3 : List Nat := [0, 0, 0, 4, 15, 31, 63, 63, 0, 383, 1023]
theorem plenumlaw14_awake.tab3 : rtab .any (opsOf Try.f7 3) = plenumlaw14_awake.T3 := by kernel_rfl
theorem plenumlaw14_awake.bits3 : waitsOk plenumlaw14_awake.T3.2 plenumlaw14_awake.B3 = true := by kernel_rfl
def plenumlaw14_awake.T4 : Bool × List (List Nat × List Nat) := (true, [([], []), ([], []), ([], []), ([2], [2]), ([0, 1, 3, 2], [0, 1, 3]), ([4], [4]), ([5], [5]), ([5], [5]), ([], []), ([8, 6, 4, 0, 1, 2, 3, 4, 5, 6, 8], [6, 8]), ([7, 9, 0, 1, 2, 3, 4, 5, 6, 7, 8, 9], [7])])
def plenumlaw14_awake.B4 : List Nat := [0, 0, 0, 4, 15, 31, 63, 63, 0, 383, 1023]
theorem plenumlaw14_awake.tab4 : rtab .any (opsOf Try.f7 4) = plenumlaw14_awake.T4 := by kernel_rfl
theorem plenumlaw14_awake.bits4 : waitsOk plenumlaw14_awake.T4.2 plenumlaw14_awake.B4 = true := by kernel_rfl
def plenumlaw14_awake.T5 : Bool × List (List Nat × List Nat) := (true, [([], []), ([], []), ([], []), ([2], [2]), ([0, 1, 3, 2], [0, 1, 3]), ([4], [4]), ([5], [5]), ([5], [5]), ([], []), ([8, 6, 4, 0, 1, 2, 3, 4, 5, 6, 8], [6, 8]), ([7, 9, 0, 1, 2, 3, 4, 5, 6, 7, 8, 9], [7])])
def plenumlaw14_awake.B5 : List Nat := [0, 0, 0, 4, 15, 31, 63, 63, 0, 383, 1023]
theorem plenumlaw14_awake.tab5 : rtab .any (opsOf Try.f7 5) = plenumlaw14_awake.T5 := by kernel_rfl
theorem plenumlaw14_awake.bits5 : waitsOk plenumlaw14_awake.T5.2 plenumlaw14_awake.B5 = true := by kernel_rfl
def plenumlaw14_awake.T6 : Bool × List (List Nat × List Nat) := (true, [([], []), ([0], [0]), ([1], [1]), ([2], [2]), ([2], [2]), ([3, 4, 2], [2, 3, 4]), ([2, 5], [2, 5]), ([6, 2], [6]), ([7], [7]), ([8, 7], [7, 8]), ([7, 9], [7, 9]), ([10, 7], [10]), ([11], [11]), ([11, 11], [11]), ([13, 11], [11, 13]), ([12, 14, 11], [11, 12, 14]), ([11, 15], [11, 15]), ([16, 13], [16]), ([17], [17]), ([18, 17], [17, 18]), ([17, 19], [17, 19]), ([20, 17], [20]), ([21], [21]), ([21, 21], [21]), ([22, 23, 21], [21, 22, 23]), ([21, 24], [21, 24]), ([25, 23], [25]), ([26], [26]), ([26], [26]), ([27, 28, 26, 26], [26, 27, 28]), ([29, 26], [26, 29]), ([26, 30], [26, 30]), ([31, 29], [31]), ([32], [32]), ([32], [32]), ([33, 34, 32, 32], [32, 33, 34]), ([32, 35], [32, 35]), ([36, 35, 0, 1, 2, 3, 4, 5, 6, 7, 8, 9, 10, 11, 12, 13, 14, 15, 16, 17, 18, 19, 20, 21, 22, 23, 24, 25, 26, 27, 28, 29, 30, 31, 32, 33, 34, 35, 36], [36])])
def plenumlaw14_awake.B6 : List Nat := [0, 1, 3, 7, 7, 31, 63, 127, 255, 511, 1023, 2047, 4095, 4095, 12287, 32767, 65535, 131071, 262143, 524287, 1048575, 2097151, 4194303, 4194303, 16777215, 33554431, 67108863, 134217727, 134217727, 536870911, 1073741823, 2147483647, 4294967295, 8589934591, 8589934591, 34359738367, 68719476735, 137438953471]
theorem plenumlaw14_awake.tab6 : rtab .any (opsOf Try.f7 6) = plenumlaw14_awake.T6 := by kernel_rfl
theorem plenumlaw14_awake.bits6 : waitsOk plenumlaw14_awake.T6.2 plenumlaw14_awake.B6 = true := by kernel_rfl
set_option maxHeartbeats 8000000 in
set_option maxRecDepth 100000 in
theorem plenumlaw14_awake.calls (k : Nat)  (r : Bool) (w : World) (h : plenumlaw14_awake.f k  = some r) :
    Calls Try.prog 7 #[] w fun e w' => e = .returned (.bool r) ∧ Below w.heap.size w w' := by
  have hu26 := Try.underlying26
  have hu28 := Try.underlying28
  have hu30 := Try.underlying30
  have hu24 := Try.underlying24
  have HB := Aside0.mk (Below.refl w.heap.size w)
  have H : ((plenumlaw14_on.f 1).bind fun bt132 => ((plenumlaw14_on.f 0).bind fun bt135 => ((minimum_Next.f k (⟨#[102, 97, 110]⟩ : ByteArray) 2 2 (⟨#[]⟩ : ByteArray) 0 0 0 ([] : List ByteArray) 0 0 60 30 bt132.1 bt132.2 100 8 bt135.1 bt135.2 159).bind fun bt137 => ((plenumlaw14_on.f 0).bind fun bt142 => ((minimum_Next.f k (⟨#[102, 97, 110]⟩ : ByteArray) 2 2 (⟨#[]⟩ : ByteArray) 0 0 0 ([] : List ByteArray) 0 0 60 30 bt132.1 bt132.2 100 8 bt142.1 bt142.2 160).bind fun bt144 => ((plenumlaw14_on.f 0).bind fun bt149 => ((minimum_Value.f k (⟨#[102, 97, 110]⟩ : ByteArray) 2 2 (⟨#[]⟩ : ByteArray) 0 0 0 ([] : List ByteArray) 0 0 60 30 bt132.1 bt132.2 100 3 bt149.1 bt149.2 101).bind fun bt151 => (if bt137.2.2.2 = 0 then (if ((bt137.1 == bt132.1 && (bt137.2.1 == bt132.2)) && (bt137.2.2.1 == 100)) = true then (if bt144.2.2.2 = 0 then ((plenumlaw14_on.f 0).bind fun bt155 => (if ((bt144.1 == bt155.1 && (bt144.2.1 == bt155.2)) && (bt144.2.2.1 == 160)) = true then (if bt151.2.2 = 0 then ((plenumlaw14_on.f 0).bind fun bt157 => (if (bt151.1 == bt157.1 && (bt151.2.1 == bt157.2)) = true then ((minimum_Until.f k (⟨#[102, 97, 110]⟩ : ByteArray) 2 2 (⟨#[]⟩ : ByteArray) 0 0 0 ([] : List ByteArray) 0 0 60 30 bt132.1 bt132.2 100).bind fun t159 => (if t159 = 160 then ((minimum_Held.f k (⟨#[102, 97, 110]⟩ : ByteArray) 2 2 (⟨#[]⟩ : ByteArray) 0 0 0 ([] : List ByteArray) 0 0 60 30 bt132.1 bt132.2 100 159).bind fun t160 => (some t160)) else (none))) else (none))) else (none)) else (none))) else (none)) else (none)) else (none))))))))) = some r := h
  clear h
  replace H := Option.bind_eq_some_iff.mp H
  obtain ⟨⟨t132, t133⟩, A10, H⟩ := H
  replace H : ((plenumlaw14_on.f 0).bind fun bt135 => ((minimum_Next.f k (⟨#[102, 97, 110]⟩ : ByteArray) 2 2 (⟨#[]⟩ : ByteArray) 0 0 0 ([] : List ByteArray) 0 0 60 30 t132 t133 100 8 bt135.1 bt135.2 159).bind fun bt137 => ((plenumlaw14_on.f 0).bind fun bt142 => ((minimum_Next.f k (⟨#[102, 97, 110]⟩ : ByteArray) 2 2 (⟨#[]⟩ : ByteArray) 0 0 0 ([] : List ByteArray) 0 0 60 30 t132 t133 100 8 bt142.1 bt142.2 160).bind fun bt144 => ((plenumlaw14_on.f 0).bind fun bt149 => ((minimum_Value.f k (⟨#[102, 97, 110]⟩ : ByteArray) 2 2 (⟨#[]⟩ : ByteArray) 0 0 0 ([] : List ByteArray) 0 0 60 30 t132 t133 100 3 bt149.1 bt149.2 101).bind fun bt151 => (if bt137.2.2.2 = 0 then (if ((bt137.1 == t132 && (bt137.2.1 == t133)) && (bt137.2.2.1 == 100)) = true then (if bt144.2.2.2 = 0 then ((plenumlaw14_on.f 0).bind fun bt155 => (if ((bt144.1 == bt155.1 && (bt144.2.1 == bt155.2)) && (bt144.2.2.1 == 160)) = true then (if bt151.2.2 = 0 then ((plenumlaw14_on.f 0).bind fun bt157 => (if (bt151.1 == bt157.1 && (bt151.2.1 == bt157.2)) = true then ((minimum_Until.f k (⟨#[102, 97, 110]⟩ : ByteArray) 2 2 (⟨#[]⟩ : ByteArray) 0 0 0 ([] : List ByteArray) 0 0 60 30 t132 t133 100).bind fun t159 => (if t159 = 160 then ((minimum_Held.f k (⟨#[102, 97, 110]⟩ : ByteArray) 2 2 (⟨#[]⟩ : ByteArray) 0 0 0 ([] : List ByteArray) 0 0 60 30 t132 t133 100 159).bind fun t160 => (some t160)) else (none))) else (none))) else (none)) else (none))) else (none)) else (none)) else (none)))))))) = some r := H
  have A1 := Aside0.mk A10
  clear A10
  replace H := Option.bind_eq_some_iff.mp H
  obtain ⟨⟨t135, t136⟩, A20, H⟩ := H
  replace H : ((minimum_Next.f k (⟨#[102, 97, 110]⟩ : ByteArray) 2 2 (⟨#[]⟩ : ByteArray) 0 0 0 ([] : List ByteArray) 0 0 60 30 t132 t133 100 8 t135 t136 159).bind fun bt137 => ((plenumlaw14_on.f 0).bind fun bt142 => ((minimum_Next.f k (⟨#[102, 97, 110]⟩ : ByteArray) 2 2 (⟨#[]⟩ : ByteArray) 0 0 0 ([] : List ByteArray) 0 0 60 30 t132 t133 100 8 bt142.1 bt142.2 160).bind fun bt144 => ((plenumlaw14_on.f 0).bind fun bt149 => ((minimum_Value.f k (⟨#[102, 97, 110]⟩ : ByteArray) 2 2 (⟨#[]⟩ : ByteArray) 0 0 0 ([] : List ByteArray) 0 0 60 30 t132 t133 100 3 bt149.1 bt149.2 101).bind fun bt151 => (if bt137.2.2.2 = 0 then (if ((bt137.1 == t132 && (bt137.2.1 == t133)) && (bt137.2.2.1 == 100)) = true then (if bt144.2.2.2 = 0 then ((plenumlaw14_on.f 0).bind fun bt155 => (if ((bt144.1 == bt155.1 && (bt144.2.1 == bt155.2)) && (bt144.2.2.1 == 160)) = true then (if bt151.2.2 = 0 then ((plenumlaw14_on.f 0).bind fun bt157 => (if (bt151.1 == bt157.1 && (bt151.2.1 == bt157.2)) = true then ((minimum_Until.f k (⟨#[102, 97, 110]⟩ : ByteArray) 2 2 (⟨#[]⟩ : ByteArray) 0 0 0 ([] : List ByteArray) 0 0 60 30 t132 t133 100).bind fun t159 => (if t159 = 160 then ((minimum_Held.f k (⟨#[102, 97, 110]⟩ : ByteArray) 2 2 (⟨#[]⟩ : ByteArray) 0 0 0 ([] : List ByteArray) 0 0 60 30 t132 t133 100 159).bind fun t160 => (some t160)) else (none))) else (none))) else (none)) else (none))) else (none)) else (none)) else (none))))))) = some r := H
  have A2 := Aside0.mk A20
  clear A20
  replace H := Option.bind_eq_some_iff.mp H
  obtain ⟨⟨t137, t138, t139, t140⟩, A30, H⟩ := H
  replace H : ((plenumlaw14_on.f 0).bind fun bt142 => ((minimum_Next.f k (⟨#[102, 97, 110]⟩ : ByteArray) 2 2 (⟨#[]⟩ : ByteArray) 0 0 0 ([] : List ByteArray) 0 0 60 30 t132 t133 100 8 bt142.1 bt142.2 160).bind fun bt144 => ((plenumlaw14_on.f 0).bind fun bt149 => ((minimum_Value.f k (⟨#[102, 97, 110]⟩ : ByteArray) 2 2 (⟨#[]⟩ : ByteArray) 0 0 0 ([] : List ByteArray) 0 0 60 30 t132 t133 100 3 bt149.1 bt149.2 101).bind fun bt151 => (if t140 = 0 then (if ((t137 == t132 && (t138 == t133)) && (t139 == 100)) = true then (if bt144.2.2.2 = 0 then ((plenumlaw14_on.f 0).bind fun bt155 => (if ((bt144.1 == bt155.1 && (bt144.2.1 == bt155.2)) && (bt144.2.2.1 == 160)) = true then (if bt151.2.2 = 0 then ((plenumlaw14_on.f 0).bind fun bt157 => (if (bt151.1 == bt157.1 && (bt151.2.1 == bt157.2)) = true then ((minimum_Until.f k (⟨#[102, 97, 110]⟩ : ByteArray) 2 2 (⟨#[]⟩ : ByteArray) 0 0 0 ([] : List ByteArray) 0 0 60 30 t132 t133 100).bind fun t159 => (if t159 = 160 then ((minimum_Held.f k (⟨#[102, 97, 110]⟩ : ByteArray) 2 2 (⟨#[]⟩ : ByteArray) 0 0 0 ([] : List ByteArray) 0 0 60 30 t132 t133 100 159).bind fun t160 => (some t160)) else (none))) else (none))) else (none)) else (none))) else (none)) else (none)) else (none)))))) = some r := H
  have A3 := Aside0.mk A30
  clear A30
  replace H := Option.bind_eq_some_iff.mp H
  obtain ⟨⟨t142, t143⟩, A40, H⟩ := H
  replace H : ((minimum_Next.f k (⟨#[102, 97, 110]⟩ : ByteArray) 2 2 (⟨#[]⟩ : ByteArray) 0 0 0 ([] : List ByteArray) 0 0 60 30 t132 t133 100 8 t142 t143 160).bind fun bt144 => ((plenumlaw14_on.f 0).bind fun bt149 => ((minimum_Value.f k (⟨#[102, 97, 110]⟩ : ByteArray) 2 2 (⟨#[]⟩ : ByteArray) 0 0 0 ([] : List ByteArray) 0 0 60 30 t132 t133 100 3 bt149.1 bt149.2 101).bind fun bt151 => (if t140 = 0 then (if ((t137 == t132 && (t138 == t133)) && (t139 == 100)) = true then (if bt144.2.2.2 = 0 then ((plenumlaw14_on.f 0).bind fun bt155 => (if ((bt144.1 == bt155.1 && (bt144.2.1 == bt155.2)) && (bt144.2.2.1 == 160)) = true then (if bt151.2.2 = 0 then ((plenumlaw14_on.f 0).bind fun bt157 => (if (bt151.1 == bt157.1 && (bt151.2.1 == bt157.2)) = true then ((minimum_Until.f k (⟨#[102, 97, 110]⟩ : ByteArray) 2 2 (⟨#[]⟩ : ByteArray) 0 0 0 ([] : List ByteArray) 0 0 60 30 t132 t133 100).bind fun t159 => (if t159 = 160 then ((minimum_Held.f k (⟨#[102, 97, 110]⟩ : ByteArray) 2 2 (⟨#[]⟩ : ByteArray) 0 0 0 ([] : List ByteArray) 0 0 60 30 t132 t133 100 159).bind fun t160 => (some t160)) else (none))) else (none))) else (none)) else (none))) else (none)) else (none)) else (none))))) = some r := H
  have A4 := Aside0.mk A40
  clear A40
  replace H := Option.bind_eq_some_iff.mp H
  obtain ⟨⟨t144, t145, t146, t147⟩, A50, H⟩ := H
  replace H : ((plenumlaw14_on.f 0).bind fun bt149 => ((minimum_Value.f k (⟨#[102, 97, 110]⟩ : ByteArray) 2 2 (⟨#[]⟩ : ByteArray) 0 0 0 ([] : List ByteArray) 0 0 60 30 t132 t133 100 3 bt149.1 bt149.2 101).bind fun bt151 => (if t140 = 0 then (if ((t137 == t132 && (t138 == t133)) && (t139 == 100)) = true then (if t147 = 0 then ((plenumlaw14_on.f 0).bind fun bt155 => (if ((t144 == bt155.1 && (t145 == bt155.2)) && (t146 == 160)) = true then (if bt151.2.2 = 0 then ((plenumlaw14_on.f 0).bind fun bt157 => (if (bt151.1 == bt157.1 && (bt151.2.1 == bt157.2)) = true then ((minimum_Until.f k (⟨#[102, 97, 110]⟩ : ByteArray) 2 2 (⟨#[]⟩ : ByteArray) 0 0 0 ([] : List ByteArray) 0 0 60 30 t132 t133 100).bind fun t159 => (if t159 = 160 then ((minimum_Held.f k (⟨#[102, 97, 110]⟩ : ByteArray) 2 2 (⟨#[]⟩ : ByteArray) 0 0 0 ([] : List ByteArray) 0 0 60 30 t132 t133 100 159).bind fun t160 => (some t160)) else (none))) else (none))) else (none)) else (none))) else (none)) else (none)) else (none)))) = some r := H
  have A5 := Aside0.mk A50
  clear A50
  replace H := Option.bind_eq_some_iff.mp H
  obtain ⟨⟨t149, t150⟩, A60, H⟩ := H
  replace H : ((minimum_Value.f k (⟨#[102, 97, 110]⟩ : ByteArray) 2 2 (⟨#[]⟩ : ByteArray) 0 0 0 ([] : List ByteArray) 0 0 60 30 t132 t133 100 3 t149 t150 101).bind fun bt151 => (if t140 = 0 then (if ((t137 == t132 && (t138 == t133)) && (t139 == 100)) = true then (if t147 = 0 then ((plenumlaw14_on.f 0).bind fun bt155 => (if ((t144 == bt155.1 && (t145 == bt155.2)) && (t146 == 160)) = true then (if bt151.2.2 = 0 then ((plenumlaw14_on.f 0).bind fun bt157 => (if (bt151.1 == bt157.1 && (bt151.2.1 == bt157.2)) = true then ((minimum_Until.f k (⟨#[102, 97, 110]⟩ : ByteArray) 2 2 (⟨#[]⟩ : ByteArray) 0 0 0 ([] : List ByteArray) 0 0 60 30 t132 t133 100).bind fun t159 => (if t159 = 160 then ((minimum_Held.f k (⟨#[102, 97, 110]⟩ : ByteArray) 2 2 (⟨#[]⟩ : ByteArray) 0 0 0 ([] : List ByteArray) 0 0 60 30 t132 t133 100 159).bind fun t160 => (some t160)) else (none))) else (none))) else (none)) else (none))) else (none)) else (none)) else (none))) = some r := H
  have A6 := Aside0.mk A60
  clear A60
  replace H := Option.bind_eq_some_iff.mp H
  obtain ⟨⟨t151, t152, t153⟩, A70, H⟩ := H
  replace H : (if t140 = 0 then (if ((t137 == t132 && (t138 == t133)) && (t139 == 100)) = true then (if t147 = 0 then ((plenumlaw14_on.f 0).bind fun bt155 => (if ((t144 == bt155.1 && (t145 == bt155.2)) && (t146 == 160)) = true then (if t153 = 0 then ((plenumlaw14_on.f 0).bind fun bt157 => (if (t151 == bt157.1 && (t152 == bt157.2)) = true then ((minimum_Until.f k (⟨#[102, 97, 110]⟩ : ByteArray) 2 2 (⟨#[]⟩ : ByteArray) 0 0 0 ([] : List ByteArray) 0 0 60 30 t132 t133 100).bind fun t159 => (if t159 = 160 then ((minimum_Held.f k (⟨#[102, 97, 110]⟩ : ByteArray) 2 2 (⟨#[]⟩ : ByteArray) 0 0 0 ([] : List ByteArray) 0 0 60 30 t132 t133 100 159).bind fun t160 => (some t160)) else (none))) else (none))) else (none)) else (none))) else (none)) else (none)) else (none)) = some r := H
  have A7 := Aside0.mk A70
  clear A70
  by_cases c8 : t140 = 0
  · rw [if_pos c8] at H
    have c8b0 : (t140 == 0) = true := beq_iff_eq.mpr c8
    have c8b1 : (t140 != 0) = false := bne_eq_false_iff_eq.mpr c8
    clear c8
    by_cases c9 : ((t137 == t132 && (t138 == t133)) && (t139 == 100)) = true
    · rw [if_pos c9] at H
      have c9b0 : ((t137 == t132 && (t138 == t133)) && (t139 == 100)) = true := c9
      clear c9
      by_cases c10 : t147 = 0
      · rw [if_pos c10] at H
        have c10b0 : (t147 == 0) = true := beq_iff_eq.mpr c10
        have c10b1 : (t147 != 0) = false := bne_eq_false_iff_eq.mpr c10
        clear c10
        replace H := Option.bind_eq_some_iff.mp H
        obtain ⟨⟨t155, t156⟩, A110, H⟩ := H
        replace H : (if ((t144 == t155 && (t145 == t156)) && (t146 == 160)) = true then (if t153 = 0 then ((plenumlaw14_on.f 0).bind fun bt157 => (if (t151 == bt157.1 && (t152 == bt157.2)) = true then ((minimum_Until.f k (⟨#[102, 97, 110]⟩ : ByteArray) 2 2 (⟨#[]⟩ : ByteArray) 0 0 0 ([] : List ByteArray) 0 0 60 30 t132 t133 100).bind fun t159 => (if t159 = 160 then ((minimum_Held.f k (⟨#[102, 97, 110]⟩ : ByteArray) 2 2 (⟨#[]⟩ : ByteArray) 0 0 0 ([] : List ByteArray) 0 0 60 30 t132 t133 100 159).bind fun t160 => (some t160)) else (none))) else (none))) else (none)) else (none)) = some r := H
        have A11 := Aside0.mk A110
        clear A110
        by_cases c12 : ((t144 == t155 && (t145 == t156)) && (t146 == 160)) = true
        · rw [if_pos c12] at H
          have c12b0 : ((t144 == t155 && (t145 == t156)) && (t146 == 160)) = true := c12
          clear c12
          by_cases c13 : t153 = 0
          · rw [if_pos c13] at H
            have c13b0 : (t153 == 0) = true := beq_iff_eq.mpr c13
            have c13b1 : (t153 != 0) = false := bne_eq_false_iff_eq.mpr c13
            clear c13
            replace H := Option.bind_eq_some_iff.mp H
            obtain ⟨⟨t157, t158⟩, A140, H⟩ := H
            replace H : (if (t151 == t157 && (t152 == t158)) = true then ((minimum_Until.f k (⟨#[102, 97, 110]⟩ : ByteArray) 2 2 (⟨#[]⟩ : ByteArray) 0 0 0 ([] : List ByteArray) 0 0 60 30 t132 t133 100).bind fun t159 => (if t159 = 160 then ((minimum_Held.f k (⟨#[102, 97, 110]⟩ : ByteArray) 2 2 (⟨#[]⟩ : ByteArray) 0 0 0 ([] : List ByteArray) 0 0 60 30 t132 t133 100 159).bind fun t160 => (some t160)) else (none))) else (none)) = some r := H
            have A14 := Aside0.mk A140
            clear A140
            by_cases c15 : (t151 == t157 && (t152 == t158)) = true
            · rw [if_pos c15] at H
              have c15b0 : (t151 == t157 && (t152 == t158)) = true := c15
              (try (have c15b1 : decide (t151 = t157 && (t152 == t158)) = true := by simpa using c15))
              (try (have c15b2 : (t151 == t157 && (t152 == t158)) = true := by simpa using c15))
              clear c15
              replace H := Option.bind_eq_some_iff.mp H
              obtain ⟨t159, A160, H⟩ := H
              replace H : (if t159 = 160 then ((minimum_Held.f k (⟨#[102, 97, 110]⟩ : ByteArray) 2 2 (⟨#[]⟩ : ByteArray) 0 0 0 ([] : List ByteArray) 0 0 60 30 t132 t133 100 159).bind fun t160 => (some t160)) else (none)) = some r := H
              have A16 := Aside0.mk A160
              clear A160
              by_cases c17 : t159 = 160
              · rw [if_pos c17] at H
                have c17b0 : (t159 == 160) = true := beq_iff_eq.mpr c17
                have c17b1 : (t159 != 160) = false := bne_eq_false_iff_eq.mpr c17
                clear c17
                replace H := Option.bind_eq_some_iff.mp H
                obtain ⟨t160, A180, H⟩ := H
                replace H : (some t160) = some r := H
                have A18 := Aside0.mk A180
                clear A180
                obtain rfl := Option.some.inj H
                go_enter Try.func7, Try.ntmps7
                try go_wp2_with (first | ((with_reducible refine gate_dst (N := 1) rfl ?_); refine box_event ?hg (N := 1) ?hd (cs := #[.string (⟨#[]⟩ : ByteArray), .int .i64 0, .int .i64 0, .string (⟨#[]⟩ : ByteArray), .int .i64 0, .int .i64 0, .int .i64 0, .slice none 0 0, .int .i64 0, .int .i64 0, .int .i64 0, .int .i64 0]) (t := 26) ?hr ?_; (case hd => rfl); (case hg => rfl); (case hr => first | (go_simp; done) | (go_simp; rfl)); intro gb131 hg w19 hbox hb; have n0_ := Aside0.mk (below_step (by repeat (first | (with_reducible first | exact HB.out | apply below_alloc | apply pw_below_drewN | apply below_drew1) | exact HB.out)) hb); have n1_ := Aside0.mk (hbox); have n2_ := Aside0.mk ((by rw [hg]; exact (below_size (by repeat (first | (with_reducible first | exact HB.out | apply below_alloc | apply pw_below_drewN | apply below_drew1) | exact HB.out))) : w.heap.size ≤ gb131)); have n3_ := Aside0.mk ((by rw [hg]; exact (below_size (by repeat (first | (with_reducible first | exact HB.out | apply below_alloc | apply pw_below_drewN | apply below_drew1) | exact HB.out))) : w.heap.size ≤ gb131)); clear HB; have HB := n0_; have BK131 := n1_; have GW131 := n2_; have GE131 := n3_; clear n0_ n1_ n2_ n3_; clear hb hbox hg; have hcz20_0 : w19.cell? ⟨gb131, 0, none⟩ = some (.string (⟨#[]⟩ : ByteArray)) := (blk_cell BK131.out 0).trans rfl; have hcz20_1 : w19.cell? ⟨gb131, 1, none⟩ = some (.int .i64 0) := (blk_cell BK131.out 1).trans rfl; have hcz20_2 : w19.cell? ⟨gb131, 2, none⟩ = some (.int .i64 0) := (blk_cell BK131.out 2).trans rfl; have hcz20_3 : w19.cell? ⟨gb131, 3, none⟩ = some (.string (⟨#[]⟩ : ByteArray)) := (blk_cell BK131.out 3).trans rfl; have hcz20_4 : w19.cell? ⟨gb131, 4, none⟩ = some (.int .i64 0) := (blk_cell BK131.out 4).trans rfl; have hcz20_5 : w19.cell? ⟨gb131, 5, none⟩ = some (.int .i64 0) := (blk_cell BK131.out 5).trans rfl; have hcz20_6 : w19.cell? ⟨gb131, 6, none⟩ = some (.int .i64 0) := (blk_cell BK131.out 6).trans rfl; have hcz20_7 : w19.cell? ⟨gb131, 7, none⟩ = some (.slice none 0 0) := (blk_cell BK131.out 7).trans rfl; have hcz20_8 : w19.cell? ⟨gb131, 8, none⟩ = some (.int .i64 0) := (blk_cell BK131.out 8).trans rfl; have hcz20_9 : w19.cell? ⟨gb131, 9, none⟩ = some (.int .i64 0) := (blk_cell BK131.out 9).trans rfl; have hcz20_10 : w19.cell? ⟨gb131, 10, none⟩ = some (.int .i64 0) := (blk_cell BK131.out 10).trans rfl; have hcz20_11 : w19.cell? ⟨gb131, 11, none⟩ = some (.int .i64 0) := (blk_cell BK131.out 11).trans rfl; have hfz20_0 := blk_frozen BK131.out 0; have hfz20_1 := blk_frozen BK131.out 1; have hfz20_2 := blk_frozen BK131.out 2; have hfz20_3 := blk_frozen BK131.out 3; have hfz20_4 := blk_frozen BK131.out 4; have hfz20_5 := blk_frozen BK131.out 5; have hfz20_6 := blk_frozen BK131.out 6; have hfz20_7 := blk_frozen BK131.out 7; have hfz20_8 := blk_frozen BK131.out 8; have hfz20_9 := blk_frozen BK131.out 9; have hfz20_10 := blk_frozen BK131.out 10; have hfz20_11 := blk_frozen BK131.out 11) | ((with_reducible refine gate_callee (f := 18) rfl ?_); refine goesL_ (some 10) rfl rfl Try.func18 (by kernel_rfl) rfl #[.int .i64 1] rfl (by (try simp only [List.map_toArray, List.map_cons, List.map_nil]); first | done | rfl | (simp only [List.length_drop, List.length_take]; rfl)) ?_; (with_reducible refine (plenumlaw14_on.calls 1 t132 t133 _ A1.out).mono ?_); rintro e w21 ⟨rfl, hb⟩; refine ⟨_, rfl, ?_⟩; have n0_ := Aside0.mk (blk_below (g := gb131) (o := .cells #[.string (⟨#[102, 97, 110]⟩ : ByteArray), .int .i64 2, .int .i64 2, .string (⟨#[]⟩ : ByteArray), .int .i64 0, .int .i64 0, .int .i64 0, .slice none 0 0, .int .i64 0, .int .i64 0, .int .i64 60, .int .i64 30] 26 (0, 0)) (by (with_reducible repeat (first | refine blk_drewN ?_ _ | refine blk_drew ?_ | refine blk_alloc ?_ _)); refine blk_put (cs := #[.string (⟨#[102, 97, 110]⟩ : ByteArray), .int .i64 2, .int .i64 2, .string (⟨#[]⟩ : ByteArray), .int .i64 0, .int .i64 0, .int .i64 0, .slice none 0 0, .int .i64 0, .int .i64 0, .int .i64 60, .int .i64 0]) ?_ 11 _ rfl; (with_reducible repeat (first | refine blk_drewN ?_ _ | refine blk_drew ?_ | refine blk_alloc ?_ _)); refine blk_put (cs := #[.string (⟨#[102, 97, 110]⟩ : ByteArray), .int .i64 2, .int .i64 2, .string (⟨#[]⟩ : ByteArray), .int .i64 0, .int .i64 0, .int .i64 0, .slice none 0 0, .int .i64 0, .int .i64 0, .int .i64 0, .int .i64 0]) ?_ 10 _ rfl; (with_reducible repeat (first | refine blk_drewN ?_ _ | refine blk_drew ?_ | refine blk_alloc ?_ _)); refine blk_put (cs := #[.string (⟨#[102, 97, 110]⟩ : ByteArray), .int .i64 2, .int .i64 2, .string (⟨#[]⟩ : ByteArray), .int .i64 0, .int .i64 0, .int .i64 0, .slice none 0 0, .int .i64 0, .int .i64 0, .int .i64 0, .int .i64 0]) ?_ 9 _ rfl; (with_reducible repeat (first | refine blk_drewN ?_ _ | refine blk_drew ?_ | refine blk_alloc ?_ _)); refine blk_put (cs := #[.string (⟨#[102, 97, 110]⟩ : ByteArray), .int .i64 2, .int .i64 2, .string (⟨#[]⟩ : ByteArray), .int .i64 0, .int .i64 0, .int .i64 0, .slice none 0 0, .int .i64 0, .int .i64 0, .int .i64 0, .int .i64 0]) ?_ 8 _ rfl; (with_reducible repeat (first | refine blk_drewN ?_ _ | refine blk_drew ?_ | refine blk_alloc ?_ _)); refine blk_put (cs := #[.string (⟨#[102, 97, 110]⟩ : ByteArray), .int .i64 2, .int .i64 2, .string (⟨#[]⟩ : ByteArray), .int .i64 0, .int .i64 0, .int .i64 0, .slice none 0 0, .int .i64 0, .int .i64 0, .int .i64 0, .int .i64 0]) ?_ 7 _ rfl; (with_reducible repeat (first | refine blk_drewN ?_ _ | refine blk_drew ?_ | refine blk_alloc ?_ _)); refine blk_put (cs := #[.string (⟨#[102, 97, 110]⟩ : ByteArray), .int .i64 2, .int .i64 2, .string (⟨#[]⟩ : ByteArray), .int .i64 0, .int .i64 0, .int .i64 0, .slice none 0 0, .int .i64 0, .int .i64 0, .int .i64 0, .int .i64 0]) ?_ 6 _ rfl; (with_reducible repeat (first | refine blk_drewN ?_ _ | refine blk_drew ?_ | refine blk_alloc ?_ _)); refine blk_put (cs := #[.string (⟨#[102, 97, 110]⟩ : ByteArray), .int .i64 2, .int .i64 2, .string (⟨#[]⟩ : ByteArray), .int .i64 0, .int .i64 0, .int .i64 0, .slice none 0 0, .int .i64 0, .int .i64 0, .int .i64 0, .int .i64 0]) ?_ 5 _ rfl; (with_reducible repeat (first | refine blk_drewN ?_ _ | refine blk_drew ?_ | refine blk_alloc ?_ _)); refine blk_put (cs := #[.string (⟨#[102, 97, 110]⟩ : ByteArray), .int .i64 2, .int .i64 2, .string (⟨#[]⟩ : ByteArray), .int .i64 0, .int .i64 0, .int .i64 0, .slice none 0 0, .int .i64 0, .int .i64 0, .int .i64 0, .int .i64 0]) ?_ 4 _ rfl; (with_reducible repeat (first | refine blk_drewN ?_ _ | refine blk_drew ?_ | refine blk_alloc ?_ _)); refine blk_put (cs := #[.string (⟨#[102, 97, 110]⟩ : ByteArray), .int .i64 2, .int .i64 2, .string (⟨#[]⟩ : ByteArray), .int .i64 0, .int .i64 0, .int .i64 0, .slice none 0 0, .int .i64 0, .int .i64 0, .int .i64 0, .int .i64 0]) ?_ 3 _ rfl; (with_reducible repeat (first | refine blk_drewN ?_ _ | refine blk_drew ?_ | refine blk_alloc ?_ _)); refine blk_put (cs := #[.string (⟨#[102, 97, 110]⟩ : ByteArray), .int .i64 2, .int .i64 0, .string (⟨#[]⟩ : ByteArray), .int .i64 0, .int .i64 0, .int .i64 0, .slice none 0 0, .int .i64 0, .int .i64 0, .int .i64 0, .int .i64 0]) ?_ 2 _ rfl; (with_reducible repeat (first | refine blk_drewN ?_ _ | refine blk_drew ?_ | refine blk_alloc ?_ _)); refine blk_put (cs := #[.string (⟨#[102, 97, 110]⟩ : ByteArray), .int .i64 0, .int .i64 0, .string (⟨#[]⟩ : ByteArray), .int .i64 0, .int .i64 0, .int .i64 0, .slice none 0 0, .int .i64 0, .int .i64 0, .int .i64 0, .int .i64 0]) ?_ 1 _ rfl; (with_reducible repeat (first | refine blk_drewN ?_ _ | refine blk_drew ?_ | refine blk_alloc ?_ _)); refine blk_put (cs := #[.string (⟨#[]⟩ : ByteArray), .int .i64 0, .int .i64 0, .string (⟨#[]⟩ : ByteArray), .int .i64 0, .int .i64 0, .int .i64 0, .slice none 0 0, .int .i64 0, .int .i64 0, .int .i64 0, .int .i64 0]) ?_ 0 _ rfl; (with_reducible repeat (first | refine blk_drewN ?_ _ | refine blk_drew ?_ | refine blk_alloc ?_ _)); exact BK131.out) hb); have n1_ := Aside0.mk (below_step (by repeat (first | (with_reducible first | exact HB.out | apply below_alloc | apply pw_below_drewN | apply below_drew1 | refine below_set ?_ GE131.out) | exact HB.out)) hb); clear BK131; clear HB; have BK131 := n0_; have HB := n1_; clear n0_ n1_; (try clear hb); (try clear hb2); (try clear hk); (try clear hi)) | ((with_reducible refine gate_dst (N := 2) rfl ?_); refine box_event ?hg (N := 2) ?hd (cs := #[.int .i64 0, .int .i64 0, .int .i64 0]) (t := 28) ?hr ?_; (case hd => rfl); (case hg => rfl); (case hr => first | (go_simp; done) | (go_simp; rfl)); intro gb134 hg w22 hbox hb; have n0_ := Aside0.mk (blk_below (g := gb131) (o := .cells #[.string (⟨#[102, 97, 110]⟩ : ByteArray), .int .i64 2, .int .i64 2, .string (⟨#[]⟩ : ByteArray), .int .i64 0, .int .i64 0, .int .i64 0, .slice none 0 0, .int .i64 0, .int .i64 0, .int .i64 60, .int .i64 30] 26 (0, 0)) (by (with_reducible repeat (first | refine blk_drewN ?_ _ | refine blk_drew ?_ | refine blk_alloc ?_ _)); exact BK131.out) hb); have n1_ := Aside0.mk (below_step (by repeat (first | (with_reducible first | exact HB.out | apply below_alloc | apply pw_below_drewN | apply below_drew1 | refine below_set ?_ GE131.out) | exact HB.out)) hb); have n2_ := Aside0.mk (hbox); have n3_ := Aside0.mk ((by rw [hg]; exact (below_size (by repeat (first | (with_reducible first | exact HB.out | apply below_alloc | apply pw_below_drewN | apply below_drew1 | refine below_set ?_ GE131.out) | exact HB.out))) : w.heap.size ≤ gb134)); have n4_ := Aside0.mk ((by rw [hg]; exact (below_size (by repeat (first | (with_reducible first | exact HB.out | apply below_alloc | apply pw_below_drewN | apply below_drew1 | refine below_set ?_ GE131.out) | exact HB.out))) : w.heap.size ≤ gb134)); have n5_ := Aside0.mk ((by rw [hg]; exact Nat.ne_of_lt (blk_lt (g := gb131) (o := .cells #[.string (⟨#[102, 97, 110]⟩ : ByteArray), .int .i64 2, .int .i64 2, .string (⟨#[]⟩ : ByteArray), .int .i64 0, .int .i64 0, .int .i64 0, .slice none 0 0, .int .i64 0, .int .i64 0, .int .i64 60, .int .i64 30] 26 (0, 0)) (by (with_reducible repeat (first | refine blk_drewN ?_ _ | refine blk_drew ?_ | refine blk_alloc ?_ _)); exact BK131.out)) : gb131 ≠ gb134)); have n6_ := Aside0.mk ((by rw [hg]; exact Nat.ne_of_gt (blk_lt (g := gb131) (o := .cells #[.string (⟨#[102, 97, 110]⟩ : ByteArray), .int .i64 2, .int .i64 2, .string (⟨#[]⟩ : ByteArray), .int .i64 0, .int .i64 0, .int .i64 0, .slice none 0 0, .int .i64 0, .int .i64 0, .int .i64 60, .int .i64 30] 26 (0, 0)) (by (with_reducible repeat (first | refine blk_drewN ?_ _ | refine blk_drew ?_ | refine blk_alloc ?_ _)); exact BK131.out)) : gb134 ≠ gb131)); clear BK131; clear HB; have BK131 := n0_; have HB := n1_; have BK134 := n2_; have GW134 := n3_; have GE134 := n4_; have NB131_134 := n5_; have NB134_131 := n6_; clear n0_ n1_ n2_ n3_ n4_ n5_ n6_; clear hb hbox hg; have hnb23 := NB134_131.out; have hnc23 := NB131_134.out; have hcz24_0 : w22.cell? ⟨gb134, 0, none⟩ = some (.int .i64 0) := (blk_cell BK134.out 0).trans rfl; have hcz24_1 : w22.cell? ⟨gb134, 1, none⟩ = some (.int .i64 0) := (blk_cell BK134.out 1).trans rfl; have hcz24_2 : w22.cell? ⟨gb134, 2, none⟩ = some (.int .i64 0) := (blk_cell BK134.out 2).trans rfl; have hfz24_0 := blk_frozen BK134.out 0; have hfz24_1 := blk_frozen BK134.out 1; have hfz24_2 := blk_frozen BK134.out 2))
                have n0_ : Aside0 ((((w22.setCell ⟨gb134, 0, none⟩ (.int .i64 t132)).setCell ⟨gb134, 1, none⟩ (.int .i64 t133)).setCell ⟨gb134, 2, none⟩ (.int .i64 100)).heap[gb131]? = some (.cells #[.string (⟨#[102, 97, 110]⟩ : ByteArray), .int .i64 2, .int .i64 2, .string (⟨#[]⟩ : ByteArray), .int .i64 0, .int .i64 0, .int .i64 0, .slice none 0 0, .int .i64 0, .int .i64 0, .int .i64 60, .int .i64 30] 26 (0, 0))) := ⟨by (with_reducible repeat (first | refine blk_drewN ?_ _ | refine blk_drew ?_ | refine blk_alloc ?_ _)); refine blk_far ?_ NB131_134.out _; (with_reducible repeat (first | refine blk_drewN ?_ _ | refine blk_drew ?_ | refine blk_alloc ?_ _)); refine blk_far ?_ NB131_134.out _; (with_reducible repeat (first | refine blk_drewN ?_ _ | refine blk_drew ?_ | refine blk_alloc ?_ _)); refine blk_far ?_ NB131_134.out _; (with_reducible repeat (first | refine blk_drewN ?_ _ | refine blk_drew ?_ | refine blk_alloc ?_ _)); exact BK131.out⟩
                have n1_ : Aside0 ((((w22.setCell ⟨gb134, 0, none⟩ (.int .i64 t132)).setCell ⟨gb134, 1, none⟩ (.int .i64 t133)).setCell ⟨gb134, 2, none⟩ (.int .i64 100)).heap[gb134]? = some (.cells #[.int .i64 t132, .int .i64 t133, .int .i64 100] 28 (0, 0))) := ⟨by (with_reducible repeat (first | refine blk_drewN ?_ _ | refine blk_drew ?_ | refine blk_alloc ?_ _)); refine blk_put (cs := #[.int .i64 t132, .int .i64 t133, .int .i64 0]) ?_ 2 _ rfl; (with_reducible repeat (first | refine blk_drewN ?_ _ | refine blk_drew ?_ | refine blk_alloc ?_ _)); refine blk_put (cs := #[.int .i64 t132, .int .i64 0, .int .i64 0]) ?_ 1 _ rfl; (with_reducible repeat (first | refine blk_drewN ?_ _ | refine blk_drew ?_ | refine blk_alloc ?_ _)); refine blk_put (cs := #[.int .i64 0, .int .i64 0, .int .i64 0]) ?_ 0 _ rfl; (with_reducible repeat (first | refine blk_drewN ?_ _ | refine blk_drew ?_ | refine blk_alloc ?_ _)); exact BK134.out⟩
                have n2_ : Aside0 (Below w.heap.size w (((w22.setCell ⟨gb134, 0, none⟩ (.int .i64 t132)).setCell ⟨gb134, 1, none⟩ (.int .i64 t133)).setCell ⟨gb134, 2, none⟩ (.int .i64 100))) := ⟨by repeat (first | (with_reducible first | exact HB.out | apply below_alloc | apply pw_below_drewN | apply below_drew1 | refine below_set ?_ GE131.out | refine below_set ?_ GE134.out) | exact HB.out)⟩
                (try clear BK131)
                (try clear BK134)
                (try clear HB)
                generalize (((w22.setCell ⟨gb134, 0, none⟩ (.int .i64 t132)).setCell ⟨gb134, 1, none⟩ (.int .i64 t133)).setCell ⟨gb134, 2, none⟩ (.int .i64 100)) = w25 at n0_ n1_ n2_ ⊢
                have BK131 := n0_
                have BK134 := n1_
                have HB := n2_
                clear n0_ n1_ n2_
                have n0_ := Aside0.mk (blk_drew BK131.out)
                have n1_ := Aside0.mk (blk_drew BK134.out)
                have n2_ := Aside0.mk (below_drew1 HB.out)
                clear BK131
                clear BK134
                clear HB
                have BK131 := n0_
                have BK134 := n1_
                have HB := n2_
                clear n0_ n1_ n2_
                refine start_ (n := 11) (S := fun w' => w'.cell? ⟨gb131, 0, none⟩ = some (.string (⟨#[102, 97, 110]⟩ : ByteArray)) ∧ w'.cell? ⟨gb131, 1, none⟩ = some (.int .i64 2) ∧ w'.cell? ⟨gb131, 2, none⟩ = some (.int .i64 2) ∧ w'.cell? ⟨gb131, 3, none⟩ = some (.string (⟨#[]⟩ : ByteArray)) ∧ w'.cell? ⟨gb131, 4, none⟩ = some (.int .i64 0) ∧ w'.cell? ⟨gb131, 5, none⟩ = some (.int .i64 0) ∧ w'.cell? ⟨gb131, 6, none⟩ = some (.int .i64 0) ∧ w'.cell? ⟨gb131, 7, none⟩ = some (.slice none 0 0) ∧ w'.cell? ⟨gb131, 8, none⟩ = some (.int .i64 0) ∧ w'.cell? ⟨gb131, 9, none⟩ = some (.int .i64 0) ∧ w'.cell? ⟨gb131, 10, none⟩ = some (.int .i64 60) ∧ w'.cell? ⟨gb131, 11, none⟩ = some (.int .i64 30) ∧ w'.cell? ⟨gb134, 0, none⟩ = some (.int .i64 t132) ∧ w'.cell? ⟨gb134, 1, none⟩ = some (.int .i64 t133) ∧ w'.cell? ⟨gb134, 2, none⟩ = some (.int .i64 100)) (ds := []) #[false, false, false, false, false, false, false, false, false, false, false] (by kernel_rfl) rfl rfl ⟨(blk_cell BK131.out 0).trans rfl, (blk_cell BK131.out 1).trans rfl, (blk_cell BK131.out 2).trans rfl, (blk_cell BK131.out 3).trans rfl, (blk_cell BK131.out 4).trans rfl, (blk_cell BK131.out 5).trans rfl, (blk_cell BK131.out 6).trans rfl, (blk_cell BK131.out 7).trans rfl, (blk_cell BK131.out 8).trans rfl, (blk_cell BK131.out 9).trans rfl, (blk_cell BK131.out 10).trans rfl, (blk_cell BK131.out 11).trans rfl, (blk_cell BK134.out 0).trans rfl, (blk_cell BK134.out 1).trans rfl, (blk_cell BK134.out 2).trans rfl⟩ (fun hHeld => ?_); refine with_tabW plenumlaw14_awake.tab3 plenumlaw14_awake.bits3 (fun HT_ HW_ => ?_)
                generalize w25.drew = w26 at BK131 BK134 HB hHeld ⊢
                refine take_ (i := 0) (N := some 13) (v := ?_) (a' := ?_) #[true, false, false, false, false, false, false, false, false, false, false] rfl rfl (take_ofW HT_.out HW_.out (by kernel_rfl)) (fun _ _ _ h => h) (Or.inl ⟨by rfl, ?_⟩) hHeld ?_ ?_
                rotate_left
                · rintro w' ⟨s0, s1, s2, s3, s4, s5, s6, s7, s8, s9, s10, s11, s12, s13, s14⟩
                  go_simp
                  with_reducible rfl
                rotate_left
                · simp only [Act.put, List.setIfInBounds_toArray, List.set_cons_zero, List.set_cons_succ, i64_w, i32_w]
                  rfl
                refine take_ (i := 1) (N := some 14) (v := ?_) (a' := ?_) #[true, true, false, false, false, false, false, false, false, false, false] rfl rfl (take_ofW HT_.out HW_.out (by kernel_rfl)) (fun _ _ _ h => h) (Or.inl ⟨by rfl, ?_⟩) hHeld ?_ ?_
                rotate_left
                · rintro w' ⟨s0, s1, s2, s3, s4, s5, s6, s7, s8, s9, s10, s11, s12, s13, s14⟩
                  go_simp
                  with_reducible rfl
                rotate_left
                · simp only [Act.put, List.setIfInBounds_toArray, List.set_cons_zero, List.set_cons_succ, i64_w, i32_w]
                  rfl
                refine join_ (σ := Nat) 2 #[true, true, true, true, true, true, true, true, true, false, false] (fun s_ => [(15, .agg #[.int .i64 t135, .int .i64 t136]), (17, .tuple #[.agg #[.int .i64 t137, .int .i64 t138, .int .i64 t139], .int .i64 t140]), (3, .pointer (some ⟨s_, 0, none⟩)), (16, .agg #[.int .i64 8, .int .i64 t135, .int .i64 t136]), (12, .tuple #[.agg #[.int .i64 t137, .int .i64 t138, .int .i64 t139], .int .i64 t140]), (18, .agg #[.int .i64 t137, .int .i64 t138, .int .i64 t139]), (19, .int .i64 t140)]) (fun s_ w' => (w'.cell? ⟨gb131, 0, none⟩ = some (.string (⟨#[102, 97, 110]⟩ : ByteArray)) ∧ w'.cell? ⟨gb131, 1, none⟩ = some (.int .i64 2) ∧ w'.cell? ⟨gb131, 2, none⟩ = some (.int .i64 2) ∧ w'.cell? ⟨gb131, 3, none⟩ = some (.string (⟨#[]⟩ : ByteArray)) ∧ w'.cell? ⟨gb131, 4, none⟩ = some (.int .i64 0) ∧ w'.cell? ⟨gb131, 5, none⟩ = some (.int .i64 0) ∧ w'.cell? ⟨gb131, 6, none⟩ = some (.int .i64 0) ∧ w'.cell? ⟨gb131, 7, none⟩ = some (.slice none 0 0) ∧ w'.cell? ⟨gb131, 8, none⟩ = some (.int .i64 0) ∧ w'.cell? ⟨gb131, 9, none⟩ = some (.int .i64 0) ∧ w'.cell? ⟨gb131, 10, none⟩ = some (.int .i64 60) ∧ w'.cell? ⟨gb131, 11, none⟩ = some (.int .i64 30) ∧ w'.cell? ⟨gb134, 0, none⟩ = some (.int .i64 t132) ∧ w'.cell? ⟨gb134, 1, none⟩ = some (.int .i64 t133) ∧ w'.cell? ⟨gb134, 2, none⟩ = some (.int .i64 100)) ∧ (w'.heap[gb131]? = some (.cells #[.string (⟨#[102, 97, 110]⟩ : ByteArray), .int .i64 2, .int .i64 2, .string (⟨#[]⟩ : ByteArray), .int .i64 0, .int .i64 0, .int .i64 0, .slice none 0 0, .int .i64 0, .int .i64 0, .int .i64 60, .int .i64 30] 26 (0, 0))) ∧ (w'.heap[gb134]? = some (.cells #[.int .i64 t132, .int .i64 t133, .int .i64 100] 28 (0, 0))) ∧ (w'.heap[s_]? = some (.cells #[.int .i64 0, .int .i64 0, .int .i64 0] 28 (0, 0))) ∧ (w.heap.size ≤ s_) ∧ (w.heap.size ≤ s_) ∧ (gb131 ≠ s_) ∧ (s_ ≠ gb131) ∧ (gb134 ≠ s_) ∧ (s_ ≠ gb134) ∧ (Below w.heap.size w w')) ?_ ?_
                rotate_left
                · intro hCont
                  refine two_ (i := 2) (j := 8) (Ni := some 15) (Nj := some 3) #[true, true, true, false, false, false, false, false, false, false, false] #[true, true, false, false, false, false, false, false, true, false, false] rfl rfl rfl rfl (two_of HT_.out (by kernel_rfl)) (by decide) (by decide) (fun K hK => ?_) (fun K hK => ?_)
                  · skip
                    refine goes_ Try.func18 (by kernel_rfl) rfl #[.int .i64 0] (by rfl) rfl rfl (by (try simp only [List.map_toArray, List.map_cons, List.map_nil]); first | done | rfl | (simp only [List.length_drop, List.length_take]; rfl)) ?_
                    with_reducible refine (plenumlaw14_on.calls 0 t135 t136 _ A2.out).mono ?_
                    rintro e w27 ⟨rfl, hb⟩
                    refine ⟨_, rfl, ?_⟩
                    have n0_ := Aside0.mk (blk_below (g := gb131) (o := .cells #[.string (⟨#[102, 97, 110]⟩ : ByteArray), .int .i64 2, .int .i64 2, .string (⟨#[]⟩ : ByteArray), .int .i64 0, .int .i64 0, .int .i64 0, .slice none 0 0, .int .i64 0, .int .i64 0, .int .i64 60, .int .i64 30] 26 (0, 0)) (by (with_reducible repeat (first | refine blk_drewN ?_ _ | refine blk_drew ?_ | refine blk_alloc ?_ _)); exact BK131.out) hb)
                    have n1_ := Aside0.mk (blk_below (g := gb134) (o := .cells #[.int .i64 t132, .int .i64 t133, .int .i64 100] 28 (0, 0)) (by (with_reducible repeat (first | refine blk_drewN ?_ _ | refine blk_drew ?_ | refine blk_alloc ?_ _)); exact BK134.out) hb)
                    have n2_ := Aside0.mk (below_step (by repeat (first | (with_reducible first | exact HB.out | apply below_alloc | apply pw_below_drewN | apply below_drew1 | refine below_set ?_ GE131.out | refine below_set ?_ GE134.out) | exact HB.out)) hb)
                    clear BK131
                    clear BK134
                    clear HB
                    have BK131 := n0_
                    have BK134 := n1_
                    have HB := n2_
                    clear n0_ n1_ n2_
                    (try clear hb)
                    (try clear hb2)
                    (try clear hk)
                    (try clear hi)
                    refine hK.out _ _ ⟨(blk_cell BK131.out 0).trans rfl, (blk_cell BK131.out 1).trans rfl, (blk_cell BK131.out 2).trans rfl, (blk_cell BK131.out 3).trans rfl, (blk_cell BK131.out 4).trans rfl, (blk_cell BK131.out 5).trans rfl, (blk_cell BK131.out 6).trans rfl, (blk_cell BK131.out 7).trans rfl, (blk_cell BK131.out 8).trans rfl, (blk_cell BK131.out 9).trans rfl, (blk_cell BK131.out 10).trans rfl, (blk_cell BK131.out 11).trans rfl, (blk_cell BK134.out 0).trans rfl, (blk_cell BK134.out 1).trans rfl, (blk_cell BK134.out 2).trans rfl⟩ (fun hHeld => ?_)
                    clear hK K
                    refine norm_ (a' := ?_) ?_ ?_
                    rotate_left
                    · show Act.put _ (some 15) _ = _
                      simp only [Act.put, List.setIfInBounds_toArray, List.set_cons_zero, List.set_cons_succ, i64_w, i32_w]
                      rfl
                    refine pure_ (i := 3) (N := some 16) (v := ?_) (a' := ?_) #[true, true, true, true, false, false, false, false, false, false, false] rfl rfl (any_of HT_.out (by kernel_rfl)) (fun _ _ _ h => h) (Or.inl ⟨by rfl, ?_⟩) ?_ ?_
                    rotate_left
                    · intro w'
                      go_simp
                      with_reducible rfl
                    rotate_left
                    · simp only [Act.put, List.setIfInBounds_toArray, List.set_cons_zero, List.set_cons_succ, i64_w, i32_w]
                      rfl
                    refine two_ (i := 4) (j := 8) (Ni := some 17) (Nj := some 3) #[true, true, true, true, true, false, false, false, false, false, false] #[true, true, true, true, false, false, false, false, true, false, false] rfl rfl rfl rfl (two_of HT_.out (by kernel_rfl)) (by decide) (by decide) (fun K hK => ?_) (fun K hK => ?_)
                    · skip
                      refine goes_ Try.func10 (by kernel_rfl) rfl #[.agg #[.string (⟨#[102, 97, 110]⟩ : ByteArray), .int .i64 2, .int .i64 2, .string (⟨#[]⟩ : ByteArray), .int .i64 0, .int .i64 0, .int .i64 0, .slice none 0 0, .int .i64 0, .int .i64 0, .int .i64 60, .int .i64 30], .agg #[.int .i64 t132, .int .i64 t133, .int .i64 100], .agg #[.int .i64 8, .int .i64 t135, .int .i64 t136], .int .i64 159] (by rfl) rfl rfl (by (try simp only [List.map_toArray, List.map_cons, List.map_nil]); first | done | rfl | (simp only [List.length_drop, List.length_take]; rfl)) ?_
                      refine (minimum_Next.calls k (⟨#[102, 97, 110]⟩ : ByteArray) 2 2 (⟨#[]⟩ : ByteArray) 0 0 0 _ _ ([] : List ByteArray) 0 0 60 30 t132 t133 100 8 t135 t136 159 t137 t138 t139 t140 _ ?side1 ?side2 A3.out).mono ?_
                      (case side1 => exact Kd.C_nil _ _)
                      (case side2 => exact Nat.le_refl _)
                      rintro e w28 ⟨rfl, hb⟩
                      refine ⟨_, rfl, ?_⟩
                      have n0_ := Aside0.mk (blk_below (g := gb131) (o := .cells #[.string (⟨#[102, 97, 110]⟩ : ByteArray), .int .i64 2, .int .i64 2, .string (⟨#[]⟩ : ByteArray), .int .i64 0, .int .i64 0, .int .i64 0, .slice none 0 0, .int .i64 0, .int .i64 0, .int .i64 60, .int .i64 30] 26 (0, 0)) (by (with_reducible repeat (first | refine blk_drewN ?_ _ | refine blk_drew ?_ | refine blk_alloc ?_ _)); exact BK131.out) hb)
                      have n1_ := Aside0.mk (blk_below (g := gb134) (o := .cells #[.int .i64 t132, .int .i64 t133, .int .i64 100] 28 (0, 0)) (by (with_reducible repeat (first | refine blk_drewN ?_ _ | refine blk_drew ?_ | refine blk_alloc ?_ _)); exact BK134.out) hb)
                      have n2_ := Aside0.mk (below_step (by repeat (first | (with_reducible first | exact HB.out | apply below_alloc | apply pw_below_drewN | apply below_drew1 | refine below_set ?_ GE131.out | refine below_set ?_ GE134.out) | exact HB.out)) hb)
                      clear BK131
                      clear BK134
                      clear HB
                      have BK131 := n0_
                      have BK134 := n1_
                      have HB := n2_
                      clear n0_ n1_ n2_
                      (try clear hb)
                      (try clear hb2)
                      (try clear hk)
                      (try clear hi)
                      refine hK.out _ _ ⟨(blk_cell BK131.out 0).trans rfl, (blk_cell BK131.out 1).trans rfl, (blk_cell BK131.out 2).trans rfl, (blk_cell BK131.out 3).trans rfl, (blk_cell BK131.out 4).trans rfl, (blk_cell BK131.out 5).trans rfl, (blk_cell BK131.out 6).trans rfl, (blk_cell BK131.out 7).trans rfl, (blk_cell BK131.out 8).trans rfl, (blk_cell BK131.out 9).trans rfl, (blk_cell BK131.out 10).trans rfl, (blk_cell BK131.out 11).trans rfl, (blk_cell BK134.out 0).trans rfl, (blk_cell BK134.out 1).trans rfl, (blk_cell BK134.out 2).trans rfl⟩ (fun hHeld => ?_)
                      clear hK K
                      refine norm_ (a' := ?_) ?_ ?_
                      rotate_left
                      · show Act.put _ (some 17) _ = _
                        simp only [Act.put, List.setIfInBounds_toArray, List.set_cons_zero, List.set_cons_succ, i64_w, i32_w]
                        rfl
                      refine pure_ (i := 5) (N := some 12) (v := ?_) (a' := ?_) #[true, true, true, true, true, true, false, false, false, false, false] rfl rfl (any_of HT_.out (by kernel_rfl)) (fun _ _ _ h => h) (Or.inl ⟨by rfl, ?_⟩) ?_ ?_
                      rotate_left
                      · intro w'
                        go_simp
                        with_reducible rfl
                      rotate_left
                      · simp only [Act.put, List.setIfInBounds_toArray, List.set_cons_zero, List.set_cons_succ, i64_w, i32_w]
                        rfl
                      refine pure_ (i := 6) (N := some 18) (v := ?_) (a' := ?_) #[true, true, true, true, true, true, true, false, false, false, false] rfl rfl (any_of HT_.out (by kernel_rfl)) (fun _ _ _ h => h) (Or.inl ⟨by rfl, ?_⟩) ?_ ?_
                      rotate_left
                      · intro w'
                        go_simp
                        with_reducible rfl
                      rotate_left
                      · simp only [Act.put, List.setIfInBounds_toArray, List.set_cons_zero, List.set_cons_succ, i64_w, i32_w]
                        rfl
                      refine pure_ (i := 7) (N := some 19) (v := ?_) (a' := ?_) #[true, true, true, true, true, true, true, true, false, false, false] rfl rfl (any_of HT_.out (by kernel_rfl)) (fun _ _ _ h => h) (Or.inl ⟨by rfl, ?_⟩) ?_ ?_
                      rotate_left
                      · intro w'
                        go_simp
                        with_reducible rfl
                      rotate_left
                      · simp only [Act.put, List.setIfInBounds_toArray, List.set_cons_zero, List.set_cons_succ, i64_w, i32_w]
                        rfl
                      refine one_ (i := 8) (N := some 3) #[true, true, true, true, true, true, true, true, true, false, false] rfl rfl (one_of HT_.out (by kernel_rfl)) (by decide) (fun K hK => ?_)
                      refine box_step ?hg (N := 3) ?hd (cs := #[.int .i64 0, .int .i64 0, .int .i64 0]) (t := 28) ?hr ?_; (case hd => rfl); (case hg => rfl); (case hr => first | (go_simp; done) | (go_simp; rfl))
                      intro gb141 hg w29 hbox hb
                      have n0_ := Aside0.mk (blk_below (g := gb131) (o := .cells #[.string (⟨#[102, 97, 110]⟩ : ByteArray), .int .i64 2, .int .i64 2, .string (⟨#[]⟩ : ByteArray), .int .i64 0, .int .i64 0, .int .i64 0, .slice none 0 0, .int .i64 0, .int .i64 0, .int .i64 60, .int .i64 30] 26 (0, 0)) (by (with_reducible repeat (first | refine blk_drewN ?_ _ | refine blk_drew ?_ | refine blk_alloc ?_ _)); exact BK131.out) hb)
                      have n1_ := Aside0.mk (blk_below (g := gb134) (o := .cells #[.int .i64 t132, .int .i64 t133, .int .i64 100] 28 (0, 0)) (by (with_reducible repeat (first | refine blk_drewN ?_ _ | refine blk_drew ?_ | refine blk_alloc ?_ _)); exact BK134.out) hb)
                      have n2_ := Aside0.mk (below_step (by repeat (first | (with_reducible first | exact HB.out | apply below_alloc | apply pw_below_drewN | apply below_drew1 | refine below_set ?_ GE131.out | refine below_set ?_ GE134.out) | exact HB.out)) hb)
                      have n3_ := Aside0.mk (hbox)
                      have n4_ := Aside0.mk ((by rw [hg]; exact (below_size (by repeat (first | (with_reducible first | exact HB.out | apply below_alloc | apply pw_below_drewN | apply below_drew1 | refine below_set ?_ GE131.out | refine below_set ?_ GE134.out) | exact HB.out))) : w.heap.size ≤ gb141))
                      have n5_ := Aside0.mk ((by rw [hg]; exact (below_size (by repeat (first | (with_reducible first | exact HB.out | apply below_alloc | apply pw_below_drewN | apply below_drew1 | refine below_set ?_ GE131.out | refine below_set ?_ GE134.out) | exact HB.out))) : w.heap.size ≤ gb141))
                      have n6_ := Aside0.mk ((by rw [hg]; exact Nat.ne_of_lt (blk_lt (g := gb131) (o := .cells #[.string (⟨#[102, 97, 110]⟩ : ByteArray), .int .i64 2, .int .i64 2, .string (⟨#[]⟩ : ByteArray), .int .i64 0, .int .i64 0, .int .i64 0, .slice none 0 0, .int .i64 0, .int .i64 0, .int .i64 60, .int .i64 30] 26 (0, 0)) (by (with_reducible repeat (first | refine blk_drewN ?_ _ | refine blk_drew ?_ | refine blk_alloc ?_ _)); exact BK131.out)) : gb131 ≠ gb141))
                      have n7_ := Aside0.mk ((by rw [hg]; exact Nat.ne_of_gt (blk_lt (g := gb131) (o := .cells #[.string (⟨#[102, 97, 110]⟩ : ByteArray), .int .i64 2, .int .i64 2, .string (⟨#[]⟩ : ByteArray), .int .i64 0, .int .i64 0, .int .i64 0, .slice none 0 0, .int .i64 0, .int .i64 0, .int .i64 60, .int .i64 30] 26 (0, 0)) (by (with_reducible repeat (first | refine blk_drewN ?_ _ | refine blk_drew ?_ | refine blk_alloc ?_ _)); exact BK131.out)) : gb141 ≠ gb131))
                      have n8_ := Aside0.mk ((by rw [hg]; exact Nat.ne_of_lt (blk_lt (g := gb134) (o := .cells #[.int .i64 t132, .int .i64 t133, .int .i64 100] 28 (0, 0)) (by (with_reducible repeat (first | refine blk_drewN ?_ _ | refine blk_drew ?_ | refine blk_alloc ?_ _)); exact BK134.out)) : gb134 ≠ gb141))
                      have n9_ := Aside0.mk ((by rw [hg]; exact Nat.ne_of_gt (blk_lt (g := gb134) (o := .cells #[.int .i64 t132, .int .i64 t133, .int .i64 100] 28 (0, 0)) (by (with_reducible repeat (first | refine blk_drewN ?_ _ | refine blk_drew ?_ | refine blk_alloc ?_ _)); exact BK134.out)) : gb141 ≠ gb134))
                      clear BK131
                      clear BK134
                      clear HB
                      have BK131 := n0_
                      have BK134 := n1_
                      have HB := n2_
                      have BK141 := n3_
                      have GW141 := n4_
                      have GE141 := n5_
                      have NB131_141 := n6_
                      have NB141_131 := n7_
                      have NB134_141 := n8_
                      have NB141_134 := n9_
                      clear n0_ n1_ n2_ n3_ n4_ n5_ n6_ n7_ n8_ n9_
                      clear hb hbox hg
                      refine hK.out _ _ ⟨(blk_cell BK131.out 0).trans rfl, (blk_cell BK131.out 1).trans rfl, (blk_cell BK131.out 2).trans rfl, (blk_cell BK131.out 3).trans rfl, (blk_cell BK131.out 4).trans rfl, (blk_cell BK131.out 5).trans rfl, (blk_cell BK131.out 6).trans rfl, (blk_cell BK131.out 7).trans rfl, (blk_cell BK131.out 8).trans rfl, (blk_cell BK131.out 9).trans rfl, (blk_cell BK131.out 10).trans rfl, (blk_cell BK131.out 11).trans rfl, (blk_cell BK134.out 0).trans rfl, (blk_cell BK134.out 1).trans rfl, (blk_cell BK134.out 2).trans rfl⟩ (fun hHeld => ?_)
                      clear hK K
                      refine norm_ (a' := ?_) ?_ ?_
                      rotate_left
                      · show Act.put _ (some 3) _ = _
                        simp only [Act.put, List.setIfInBounds_toArray, List.set_cons_zero, List.set_cons_succ, i64_w, i32_w]
                        rfl
                      exact norm_ (by simp only [putAll, Act.put, List.setIfInBounds_toArray, List.set_cons_zero, List.set_cons_succ]) (hCont (gb141) _ ⟨hHeld, (by (with_reducible repeat (first | refine blk_drewN ?_ _ | refine blk_drew ?_ | refine blk_alloc ?_ _)); exact BK131.out), (by (with_reducible repeat (first | refine blk_drewN ?_ _ | refine blk_drew ?_ | refine blk_alloc ?_ _)); exact BK134.out), (by (with_reducible repeat (first | refine blk_drewN ?_ _ | refine blk_drew ?_ | refine blk_alloc ?_ _)); exact BK141.out), GW141.out, GE141.out, NB131_141.out, NB141_131.out, NB134_141.out, NB141_134.out, (by repeat (first | (with_reducible first | exact HB.out | apply below_alloc | apply pw_below_drewN | apply below_drew1 | refine below_set ?_ GE131.out | refine below_set ?_ GE134.out | refine below_set ?_ GE141.out) | exact HB.out))⟩)
                    · skip
                      refine box_step ?hg (N := 3) ?hd (cs := #[.int .i64 0, .int .i64 0, .int .i64 0]) (t := 28) ?hr ?_; (case hd => rfl); (case hg => rfl); (case hr => first | (go_simp; done) | (go_simp; rfl))
                      intro gb141 hg w28 hbox hb
                      have n0_ := Aside0.mk (blk_below (g := gb131) (o := .cells #[.string (⟨#[102, 97, 110]⟩ : ByteArray), .int .i64 2, .int .i64 2, .string (⟨#[]⟩ : ByteArray), .int .i64 0, .int .i64 0, .int .i64 0, .slice none 0 0, .int .i64 0, .int .i64 0, .int .i64 60, .int .i64 30] 26 (0, 0)) (by (with_reducible repeat (first | refine blk_drewN ?_ _ | refine blk_drew ?_ | refine blk_alloc ?_ _)); exact BK131.out) hb)
                      have n1_ := Aside0.mk (blk_below (g := gb134) (o := .cells #[.int .i64 t132, .int .i64 t133, .int .i64 100] 28 (0, 0)) (by (with_reducible repeat (first | refine blk_drewN ?_ _ | refine blk_drew ?_ | refine blk_alloc ?_ _)); exact BK134.out) hb)
                      have n2_ := Aside0.mk (below_step (by repeat (first | (with_reducible first | exact HB.out | apply below_alloc | apply pw_below_drewN | apply below_drew1 | refine below_set ?_ GE131.out | refine below_set ?_ GE134.out) | exact HB.out)) hb)
                      have n3_ := Aside0.mk (hbox)
                      have n4_ := Aside0.mk ((by rw [hg]; exact (below_size (by repeat (first | (with_reducible first | exact HB.out | apply below_alloc | apply pw_below_drewN | apply below_drew1 | refine below_set ?_ GE131.out | refine below_set ?_ GE134.out) | exact HB.out))) : w.heap.size ≤ gb141))
                      have n5_ := Aside0.mk ((by rw [hg]; exact (below_size (by repeat (first | (with_reducible first | exact HB.out | apply below_alloc | apply pw_below_drewN | apply below_drew1 | refine below_set ?_ GE131.out | refine below_set ?_ GE134.out) | exact HB.out))) : w.heap.size ≤ gb141))
                      have n6_ := Aside0.mk ((by rw [hg]; exact Nat.ne_of_lt (blk_lt (g := gb131) (o := .cells #[.string (⟨#[102, 97, 110]⟩ : ByteArray), .int .i64 2, .int .i64 2, .string (⟨#[]⟩ : ByteArray), .int .i64 0, .int .i64 0, .int .i64 0, .slice none 0 0, .int .i64 0, .int .i64 0, .int .i64 60, .int .i64 30] 26 (0, 0)) (by (with_reducible repeat (first | refine blk_drewN ?_ _ | refine blk_drew ?_ | refine blk_alloc ?_ _)); exact BK131.out)) : gb131 ≠ gb141))
                      have n7_ := Aside0.mk ((by rw [hg]; exact Nat.ne_of_gt (blk_lt (g := gb131) (o := .cells #[.string (⟨#[102, 97, 110]⟩ : ByteArray), .int .i64 2, .int .i64 2, .string (⟨#[]⟩ : ByteArray), .int .i64 0, .int .i64 0, .int .i64 0, .slice none 0 0, .int .i64 0, .int .i64 0, .int .i64 60, .int .i64 30] 26 (0, 0)) (by (with_reducible repeat (first | refine blk_drewN ?_ _ | refine blk_drew ?_ | refine blk_alloc ?_ _)); exact BK131.out)) : gb141 ≠ gb131))
                      have n8_ := Aside0.mk ((by rw [hg]; exact Nat.ne_of_lt (blk_lt (g := gb134) (o := .cells #[.int .i64 t132, .int .i64 t133, .int .i64 100] 28 (0, 0)) (by (with_reducible repeat (first | refine blk_drewN ?_ _ | refine blk_drew ?_ | refine blk_alloc ?_ _)); exact BK134.out)) : gb134 ≠ gb141))
                      have n9_ := Aside0.mk ((by rw [hg]; exact Nat.ne_of_gt (blk_lt (g := gb134) (o := .cells #[.int .i64 t132, .int .i64 t133, .int .i64 100] 28 (0, 0)) (by (with_reducible repeat (first | refine blk_drewN ?_ _ | refine blk_drew ?_ | refine blk_alloc ?_ _)); exact BK134.out)) : gb141 ≠ gb134))
                      clear BK131
                      clear BK134
                      clear HB
                      have BK131 := n0_
                      have BK134 := n1_
                      have HB := n2_
                      have BK141 := n3_
                      have GW141 := n4_
                      have GE141 := n5_
                      have NB131_141 := n6_
                      have NB141_131 := n7_
                      have NB134_141 := n8_
                      have NB141_134 := n9_
                      clear n0_ n1_ n2_ n3_ n4_ n5_ n6_ n7_ n8_ n9_
                      clear hb hbox hg
                      refine hK.out _ _ ⟨(blk_cell BK131.out 0).trans rfl, (blk_cell BK131.out 1).trans rfl, (blk_cell BK131.out 2).trans rfl, (blk_cell BK131.out 3).trans rfl, (blk_cell BK131.out 4).trans rfl, (blk_cell BK131.out 5).trans rfl, (blk_cell BK131.out 6).trans rfl, (blk_cell BK131.out 7).trans rfl, (blk_cell BK131.out 8).trans rfl, (blk_cell BK131.out 9).trans rfl, (blk_cell BK131.out 10).trans rfl, (blk_cell BK131.out 11).trans rfl, (blk_cell BK134.out 0).trans rfl, (blk_cell BK134.out 1).trans rfl, (blk_cell BK134.out 2).trans rfl⟩ (fun hHeld => ?_)
                      clear hK K
                      refine norm_ (a' := ?_) ?_ ?_
                      rotate_left
                      · show Act.put _ (some 3) _ = _
                        simp only [Act.put, List.setIfInBounds_toArray, List.set_cons_zero, List.set_cons_succ, i64_w, i32_w]
                        rfl
                      refine one_ (i := 4) (N := some 17) #[true, true, true, true, true, false, false, false, true, false, false] rfl rfl (one_of HT_.out (by kernel_rfl)) (by decide) (fun K hK => ?_)
                      refine goes_ Try.func10 (by kernel_rfl) rfl #[.agg #[.string (⟨#[102, 97, 110]⟩ : ByteArray), .int .i64 2, .int .i64 2, .string (⟨#[]⟩ : ByteArray), .int .i64 0, .int .i64 0, .int .i64 0, .slice none 0 0, .int .i64 0, .int .i64 0, .int .i64 60, .int .i64 30], .agg #[.int .i64 t132, .int .i64 t133, .int .i64 100], .agg #[.int .i64 8, .int .i64 t135, .int .i64 t136], .int .i64 159] (by rfl) rfl rfl (by (try simp only [List.map_toArray, List.map_cons, List.map_nil]); first | done | rfl | (simp only [List.length_drop, List.length_take]; rfl)) ?_
                      refine (minimum_Next.calls k (⟨#[102, 97, 110]⟩ : ByteArray) 2 2 (⟨#[]⟩ : ByteArray) 0 0 0 _ _ ([] : List ByteArray) 0 0 60 30 t132 t133 100 8 t135 t136 159 t137 t138 t139 t140 _ ?side1 ?side2 A3.out).mono ?_
                      (case side1 => exact Kd.C_nil _ _)
                      (case side2 => exact Nat.le_refl _)
                      rintro e w29 ⟨rfl, hb⟩
                      refine ⟨_, rfl, ?_⟩
                      have n0_ := Aside0.mk (blk_below (g := gb131) (o := .cells #[.string (⟨#[102, 97, 110]⟩ : ByteArray), .int .i64 2, .int .i64 2, .string (⟨#[]⟩ : ByteArray), .int .i64 0, .int .i64 0, .int .i64 0, .slice none 0 0, .int .i64 0, .int .i64 0, .int .i64 60, .int .i64 30] 26 (0, 0)) (by (with_reducible repeat (first | refine blk_drewN ?_ _ | refine blk_drew ?_ | refine blk_alloc ?_ _)); exact BK131.out) hb)
                      have n1_ := Aside0.mk (blk_below (g := gb134) (o := .cells #[.int .i64 t132, .int .i64 t133, .int .i64 100] 28 (0, 0)) (by (with_reducible repeat (first | refine blk_drewN ?_ _ | refine blk_drew ?_ | refine blk_alloc ?_ _)); exact BK134.out) hb)
                      have n2_ := Aside0.mk (blk_below (g := gb141) (o := .cells #[.int .i64 0, .int .i64 0, .int .i64 0] 28 (0, 0)) (by (with_reducible repeat (first | refine blk_drewN ?_ _ | refine blk_drew ?_ | refine blk_alloc ?_ _)); exact BK141.out) hb)
                      have n3_ := Aside0.mk (below_step (by repeat (first | (with_reducible first | exact HB.out | apply below_alloc | apply pw_below_drewN | apply below_drew1 | refine below_set ?_ GE131.out | refine below_set ?_ GE134.out | refine below_set ?_ GE141.out) | exact HB.out)) hb)
                      clear BK131
                      clear BK134
                      clear BK141
                      clear HB
                      have BK131 := n0_
                      have BK134 := n1_
                      have BK141 := n2_
                      have HB := n3_
                      clear n0_ n1_ n2_ n3_
                      (try clear hb)
                      (try clear hb2)
                      (try clear hk)
                      (try clear hi)
                      refine hK.out _ _ ⟨(blk_cell BK131.out 0).trans rfl, (blk_cell BK131.out 1).trans rfl, (blk_cell BK131.out 2).trans rfl, (blk_cell BK131.out 3).trans rfl, (blk_cell BK131.out 4).trans rfl, (blk_cell BK131.out 5).trans rfl, (blk_cell BK131.out 6).trans rfl, (blk_cell BK131.out 7).trans rfl, (blk_cell BK131.out 8).trans rfl, (blk_cell BK131.out 9).trans rfl, (blk_cell BK131.out 10).trans rfl, (blk_cell BK131.out 11).trans rfl, (blk_cell BK134.out 0).trans rfl, (blk_cell BK134.out 1).trans rfl, (blk_cell BK134.out 2).trans rfl⟩ (fun hHeld => ?_)
                      clear hK K
                      refine norm_ (a' := ?_) ?_ ?_
                      rotate_left
                      · show Act.put _ (some 17) _ = _
                        simp only [Act.put, List.setIfInBounds_toArray, List.set_cons_zero, List.set_cons_succ, i64_w, i32_w]
                        rfl
                      refine pure_ (i := 5) (N := some 12) (v := ?_) (a' := ?_) #[true, true, true, true, true, true, false, false, true, false, false] rfl rfl (any_of HT_.out (by kernel_rfl)) (fun _ _ _ h => h) (Or.inl ⟨by rfl, ?_⟩) ?_ ?_
                      rotate_left
                      · intro w'
                        go_simp
                        with_reducible rfl
                      rotate_left
                      · simp only [Act.put, List.setIfInBounds_toArray, List.set_cons_zero, List.set_cons_succ, i64_w, i32_w]
                        rfl
                      refine pure_ (i := 6) (N := some 18) (v := ?_) (a' := ?_) #[true, true, true, true, true, true, true, false, true, false, false] rfl rfl (any_of HT_.out (by kernel_rfl)) (fun _ _ _ h => h) (Or.inl ⟨by rfl, ?_⟩) ?_ ?_
                      rotate_left
                      · intro w'
                        go_simp
                        with_reducible rfl
                      rotate_left
                      · simp only [Act.put, List.setIfInBounds_toArray, List.set_cons_zero, List.set_cons_succ, i64_w, i32_w]
                        rfl
                      refine pure_ (i := 7) (N := some 19) (v := ?_) (a' := ?_) #[true, true, true, true, true, true, true, true, true, false, false] rfl rfl (any_of HT_.out (by kernel_rfl)) (fun _ _ _ h => h) (Or.inl ⟨by rfl, ?_⟩) ?_ ?_
                      rotate_left
                      · intro w'
                        go_simp
                        with_reducible rfl
                      rotate_left
                      · simp only [Act.put, List.setIfInBounds_toArray, List.set_cons_zero, List.set_cons_succ, i64_w, i32_w]
                        rfl
                      exact norm_ (by simp only [putAll, Act.put, List.setIfInBounds_toArray, List.set_cons_zero, List.set_cons_succ]) (hCont (gb141) _ ⟨hHeld, (by (with_reducible repeat (first | refine blk_drewN ?_ _ | refine blk_drew ?_ | refine blk_alloc ?_ _)); exact BK131.out), (by (with_reducible repeat (first | refine blk_drewN ?_ _ | refine blk_drew ?_ | refine blk_alloc ?_ _)); exact BK134.out), (by (with_reducible repeat (first | refine blk_drewN ?_ _ | refine blk_drew ?_ | refine blk_alloc ?_ _)); exact BK141.out), GW141.out, GE141.out, NB131_141.out, NB141_131.out, NB134_141.out, NB141_134.out, (by repeat (first | (with_reducible first | exact HB.out | apply below_alloc | apply pw_below_drewN | apply below_drew1 | refine below_set ?_ GE131.out | refine below_set ?_ GE134.out | refine below_set ?_ GE141.out) | exact HB.out))⟩)
                  · skip
                    refine box_step ?hg (N := 3) ?hd (cs := #[.int .i64 0, .int .i64 0, .int .i64 0]) (t := 28) ?hr ?_; (case hd => rfl); (case hg => rfl); (case hr => first | (go_simp; done) | (go_simp; rfl))
                    intro gb141 hg w27 hbox hb
                    have n0_ := Aside0.mk (blk_below (g := gb131) (o := .cells #[.string (⟨#[102, 97, 110]⟩ : ByteArray), .int .i64 2, .int .i64 2, .string (⟨#[]⟩ : ByteArray), .int .i64 0, .int .i64 0, .int .i64 0, .slice none 0 0, .int .i64 0, .int .i64 0, .int .i64 60, .int .i64 30] 26 (0, 0)) (by (with_reducible repeat (first | refine blk_drewN ?_ _ | refine blk_drew ?_ | refine blk_alloc ?_ _)); exact BK131.out) hb)
                    have n1_ := Aside0.mk (blk_below (g := gb134) (o := .cells #[.int .i64 t132, .int .i64 t133, .int .i64 100] 28 (0, 0)) (by (with_reducible repeat (first | refine blk_drewN ?_ _ | refine blk_drew ?_ | refine blk_alloc ?_ _)); exact BK134.out) hb)
                    have n2_ := Aside0.mk (below_step (by repeat (first | (with_reducible first | exact HB.out | apply below_alloc | apply pw_below_drewN | apply below_drew1 | refine below_set ?_ GE131.out | refine below_set ?_ GE134.out) | exact HB.out)) hb)
                    have n3_ := Aside0.mk (hbox)
                    have n4_ := Aside0.mk ((by rw [hg]; exact (below_size (by repeat (first | (with_reducible first | exact HB.out | apply below_alloc | apply pw_below_drewN | apply below_drew1 | refine below_set ?_ GE131.out | refine below_set ?_ GE134.out) | exact HB.out))) : w.heap.size ≤ gb141))
                    have n5_ := Aside0.mk ((by rw [hg]; exact (below_size (by repeat (first | (with_reducible first | exact HB.out | apply below_alloc | apply pw_below_drewN | apply below_drew1 | refine below_set ?_ GE131.out | refine below_set ?_ GE134.out) | exact HB.out))) : w.heap.size ≤ gb141))
                    have n6_ := Aside0.mk ((by rw [hg]; exact Nat.ne_of_lt (blk_lt (g := gb131) (o := .cells #[.string (⟨#[102, 97, 110]⟩ : ByteArray), .int .i64 2, .int .i64 2, .string (⟨#[]⟩ : ByteArray), .int .i64 0, .int .i64 0, .int .i64 0, .slice none 0 0, .int .i64 0, .int .i64 0, .int .i64 60, .int .i64 30] 26 (0, 0)) (by (with_reducible repeat (first | refine blk_drewN ?_ _ | refine blk_drew ?_ | refine blk_alloc ?_ _)); exact BK131.out)) : gb131 ≠ gb141))
                    have n7_ := Aside0.mk ((by rw [hg]; exact Nat.ne_of_gt (blk_lt (g := gb131) (o := .cells #[.string (⟨#[102, 97, 110]⟩ : ByteArray), .int .i64 2, .int .i64 2, .string (⟨#[]⟩ : ByteArray), .int .i64 0, .int .i64 0, .int .i64 0, .slice none 0 0, .int .i64 0, .int .i64 0, .int .i64 60, .int .i64 30] 26 (0, 0)) (by (with_reducible repeat (first | refine blk_drewN ?_ _ | refine blk_drew ?_ | refine blk_alloc ?_ _)); exact BK131.out)) : gb141 ≠ gb131))
                    have n8_ := Aside0.mk ((by rw [hg]; exact Nat.ne_of_lt (blk_lt (g := gb134) (o := .cells #[.int .i64 t132, .int .i64 t133, .int .i64 100] 28 (0, 0)) (by (with_reducible repeat (first | refine blk_drewN ?_ _ | refine blk_drew ?_ | refine blk_alloc ?_ _)); exact BK134.out)) : gb134 ≠ gb141))
                    have n9_ := Aside0.mk ((by rw [hg]; exact Nat.ne_of_gt (blk_lt (g := gb134) (o := .cells #[.int .i64 t132, .int .i64 t133, .int .i64 100] 28 (0, 0)) (by (with_reducible repeat (first | refine blk_drewN ?_ _ | refine blk_drew ?_ | refine blk_alloc ?_ _)); exact BK134.out)) : gb141 ≠ gb134))
                    clear BK131
                    clear BK134
                    clear HB
                    have BK131 := n0_
                    have BK134 := n1_
                    have HB := n2_
                    have BK141 := n3_
                    have GW141 := n4_
                    have GE141 := n5_
                    have NB131_141 := n6_
                    have NB141_131 := n7_
                    have NB134_141 := n8_
                    have NB141_134 := n9_
                    clear n0_ n1_ n2_ n3_ n4_ n5_ n6_ n7_ n8_ n9_
                    clear hb hbox hg
                    refine hK.out _ _ ⟨(blk_cell BK131.out 0).trans rfl, (blk_cell BK131.out 1).trans rfl, (blk_cell BK131.out 2).trans rfl, (blk_cell BK131.out 3).trans rfl, (blk_cell BK131.out 4).trans rfl, (blk_cell BK131.out 5).trans rfl, (blk_cell BK131.out 6).trans rfl, (blk_cell BK131.out 7).trans rfl, (blk_cell BK131.out 8).trans rfl, (blk_cell BK131.out 9).trans rfl, (blk_cell BK131.out 10).trans rfl, (blk_cell BK131.out 11).trans rfl, (blk_cell BK134.out 0).trans rfl, (blk_cell BK134.out 1).trans rfl, (blk_cell BK134.out 2).trans rfl⟩ (fun hHeld => ?_)
                    clear hK K
                    refine norm_ (a' := ?_) ?_ ?_
                    rotate_left
                    · show Act.put _ (some 3) _ = _
                      simp only [Act.put, List.setIfInBounds_toArray, List.set_cons_zero, List.set_cons_succ, i64_w, i32_w]
                      rfl
                    refine one_ (i := 2) (N := some 15) #[true, true, true, false, false, false, false, false, true, false, false] rfl rfl (one_of HT_.out (by kernel_rfl)) (by decide) (fun K hK => ?_)
                    refine goes_ Try.func18 (by kernel_rfl) rfl #[.int .i64 0] (by rfl) rfl rfl (by (try simp only [List.map_toArray, List.map_cons, List.map_nil]); first | done | rfl | (simp only [List.length_drop, List.length_take]; rfl)) ?_
                    with_reducible refine (plenumlaw14_on.calls 0 t135 t136 _ A2.out).mono ?_
                    rintro e w28 ⟨rfl, hb⟩
                    refine ⟨_, rfl, ?_⟩
                    have n0_ := Aside0.mk (blk_below (g := gb131) (o := .cells #[.string (⟨#[102, 97, 110]⟩ : ByteArray), .int .i64 2, .int .i64 2, .string (⟨#[]⟩ : ByteArray), .int .i64 0, .int .i64 0, .int .i64 0, .slice none 0 0, .int .i64 0, .int .i64 0, .int .i64 60, .int .i64 30] 26 (0, 0)) (by (with_reducible repeat (first | refine blk_drewN ?_ _ | refine blk_drew ?_ | refine blk_alloc ?_ _)); exact BK131.out) hb)
                    have n1_ := Aside0.mk (blk_below (g := gb134) (o := .cells #[.int .i64 t132, .int .i64 t133, .int .i64 100] 28 (0, 0)) (by (with_reducible repeat (first | refine blk_drewN ?_ _ | refine blk_drew ?_ | refine blk_alloc ?_ _)); exact BK134.out) hb)
                    have n2_ := Aside0.mk (blk_below (g := gb141) (o := .cells #[.int .i64 0, .int .i64 0, .int .i64 0] 28 (0, 0)) (by (with_reducible repeat (first | refine blk_drewN ?_ _ | refine blk_drew ?_ | refine blk_alloc ?_ _)); exact BK141.out) hb)
                    have n3_ := Aside0.mk (below_step (by repeat (first | (with_reducible first | exact HB.out | apply below_alloc | apply pw_below_drewN | apply below_drew1 | refine below_set ?_ GE131.out | refine below_set ?_ GE134.out | refine below_set ?_ GE141.out) | exact HB.out)) hb)
                    clear BK131
                    clear BK134
                    clear BK141
                    clear HB
                    have BK131 := n0_
                    have BK134 := n1_
                    have BK141 := n2_
                    have HB := n3_
                    clear n0_ n1_ n2_ n3_
                    (try clear hb)
                    (try clear hb2)
                    (try clear hk)
                    (try clear hi)
                    refine hK.out _ _ ⟨(blk_cell BK131.out 0).trans rfl, (blk_cell BK131.out 1).trans rfl, (blk_cell BK131.out 2).trans rfl, (blk_cell BK131.out 3).trans rfl, (blk_cell BK131.out 4).trans rfl, (blk_cell BK131.out 5).trans rfl, (blk_cell BK131.out 6).trans rfl, (blk_cell BK131.out 7).trans rfl, (blk_cell BK131.out 8).trans rfl, (blk_cell BK131.out 9).trans rfl, (blk_cell BK131.out 10).trans rfl, (blk_cell BK131.out 11).trans rfl, (blk_cell BK134.out 0).trans rfl, (blk_cell BK134.out 1).trans rfl, (blk_cell BK134.out 2).trans rfl⟩ (fun hHeld => ?_)
                    clear hK K
                    refine norm_ (a' := ?_) ?_ ?_
                    rotate_left
                    · show Act.put _ (some 15) _ = _
                      simp only [Act.put, List.setIfInBounds_toArray, List.set_cons_zero, List.set_cons_succ, i64_w, i32_w]
                      rfl
                    refine pure_ (i := 3) (N := some 16) (v := ?_) (a' := ?_) #[true, true, true, true, false, false, false, false, true, false, false] rfl rfl (any_of HT_.out (by kernel_rfl)) (fun _ _ _ h => h) (Or.inl ⟨by rfl, ?_⟩) ?_ ?_
                    rotate_left
                    · intro w'
                      go_simp
                      with_reducible rfl
                    rotate_left
                    · simp only [Act.put, List.setIfInBounds_toArray, List.set_cons_zero, List.set_cons_succ, i64_w, i32_w]
                      rfl
                    refine one_ (i := 4) (N := some 17) #[true, true, true, true, true, false, false, false, true, false, false] rfl rfl (one_of HT_.out (by kernel_rfl)) (by decide) (fun K hK => ?_)
                    refine goes_ Try.func10 (by kernel_rfl) rfl #[.agg #[.string (⟨#[102, 97, 110]⟩ : ByteArray), .int .i64 2, .int .i64 2, .string (⟨#[]⟩ : ByteArray), .int .i64 0, .int .i64 0, .int .i64 0, .slice none 0 0, .int .i64 0, .int .i64 0, .int .i64 60, .int .i64 30], .agg #[.int .i64 t132, .int .i64 t133, .int .i64 100], .agg #[.int .i64 8, .int .i64 t135, .int .i64 t136], .int .i64 159] (by rfl) rfl rfl (by (try simp only [List.map_toArray, List.map_cons, List.map_nil]); first | done | rfl | (simp only [List.length_drop, List.length_take]; rfl)) ?_
                    refine (minimum_Next.calls k (⟨#[102, 97, 110]⟩ : ByteArray) 2 2 (⟨#[]⟩ : ByteArray) 0 0 0 _ _ ([] : List ByteArray) 0 0 60 30 t132 t133 100 8 t135 t136 159 t137 t138 t139 t140 _ ?side1 ?side2 A3.out).mono ?_
                    (case side1 => exact Kd.C_nil _ _)
                    (case side2 => exact Nat.le_refl _)
                    rintro e w29 ⟨rfl, hb⟩
                    refine ⟨_, rfl, ?_⟩
                    have n0_ := Aside0.mk (blk_below (g := gb131) (o := .cells #[.string (⟨#[102, 97, 110]⟩ : ByteArray), .int .i64 2, .int .i64 2, .string (⟨#[]⟩ : ByteArray), .int .i64 0, .int .i64 0, .int .i64 0, .slice none 0 0, .int .i64 0, .int .i64 0, .int .i64 60, .int .i64 30] 26 (0, 0)) (by (with_reducible repeat (first | refine blk_drewN ?_ _ | refine blk_drew ?_ | refine blk_alloc ?_ _)); exact BK131.out) hb)
                    have n1_ := Aside0.mk (blk_below (g := gb134) (o := .cells #[.int .i64 t132, .int .i64 t133, .int .i64 100] 28 (0, 0)) (by (with_reducible repeat (first | refine blk_drewN ?_ _ | refine blk_drew ?_ | refine blk_alloc ?_ _)); exact BK134.out) hb)
                    have n2_ := Aside0.mk (blk_below (g := gb141) (o := .cells #[.int .i64 0, .int .i64 0, .int .i64 0] 28 (0, 0)) (by (with_reducible repeat (first | refine blk_drewN ?_ _ | refine blk_drew ?_ | refine blk_alloc ?_ _)); exact BK141.out) hb)
                    have n3_ := Aside0.mk (below_step (by repeat (first | (with_reducible first | exact HB.out | apply below_alloc | apply pw_below_drewN | apply below_drew1 | refine below_set ?_ GE131.out | refine below_set ?_ GE134.out | refine below_set ?_ GE141.out) | exact HB.out)) hb)
                    clear BK131
                    clear BK134
                    clear BK141
                    clear HB
                    have BK131 := n0_
                    have BK134 := n1_
                    have BK141 := n2_
                    have HB := n3_
                    clear n0_ n1_ n2_ n3_
                    (try clear hb)
                    (try clear hb2)
                    (try clear hk)
                    (try clear hi)
                    refine hK.out _ _ ⟨(blk_cell BK131.out 0).trans rfl, (blk_cell BK131.out 1).trans rfl, (blk_cell BK131.out 2).trans rfl, (blk_cell BK131.out 3).trans rfl, (blk_cell BK131.out 4).trans rfl, (blk_cell BK131.out 5).trans rfl, (blk_cell BK131.out 6).trans rfl, (blk_cell BK131.out 7).trans rfl, (blk_cell BK131.out 8).trans rfl, (blk_cell BK131.out 9).trans rfl, (blk_cell BK131.out 10).trans rfl, (blk_cell BK131.out 11).trans rfl, (blk_cell BK134.out 0).trans rfl, (blk_cell BK134.out 1).trans rfl, (blk_cell BK134.out 2).trans rfl⟩ (fun hHeld => ?_)
                    clear hK K
                    refine norm_ (a' := ?_) ?_ ?_
                    rotate_left
                    · show Act.put _ (some 17) _ = _
                      simp only [Act.put, List.setIfInBounds_toArray, List.set_cons_zero, List.set_cons_succ, i64_w, i32_w]
                      rfl
                    refine pure_ (i := 5) (N := some 12) (v := ?_) (a' := ?_) #[true, true, true, true, true, true, false, false, true, false, false] rfl rfl (any_of HT_.out (by kernel_rfl)) (fun _ _ _ h => h) (Or.inl ⟨by rfl, ?_⟩) ?_ ?_
                    rotate_left
                    · intro w'
                      go_simp
                      with_reducible rfl
                    rotate_left
                    · simp only [Act.put, List.setIfInBounds_toArray, List.set_cons_zero, List.set_cons_succ, i64_w, i32_w]
                      rfl
                    refine pure_ (i := 6) (N := some 18) (v := ?_) (a' := ?_) #[true, true, true, true, true, true, true, false, true, false, false] rfl rfl (any_of HT_.out (by kernel_rfl)) (fun _ _ _ h => h) (Or.inl ⟨by rfl, ?_⟩) ?_ ?_
                    rotate_left
                    · intro w'
                      go_simp
                      with_reducible rfl
                    rotate_left
                    · simp only [Act.put, List.setIfInBounds_toArray, List.set_cons_zero, List.set_cons_succ, i64_w, i32_w]
                      rfl
                    refine pure_ (i := 7) (N := some 19) (v := ?_) (a' := ?_) #[true, true, true, true, true, true, true, true, true, false, false] rfl rfl (any_of HT_.out (by kernel_rfl)) (fun _ _ _ h => h) (Or.inl ⟨by rfl, ?_⟩) ?_ ?_
                    rotate_left
                    · intro w'
                      go_simp
                      with_reducible rfl
                    rotate_left
                    · simp only [Act.put, List.setIfInBounds_toArray, List.set_cons_zero, List.set_cons_succ, i64_w, i32_w]
                      rfl
                    exact norm_ (by simp only [putAll, Act.put, List.setIfInBounds_toArray, List.set_cons_zero, List.set_cons_succ]) (hCont (gb141) _ ⟨hHeld, (by (with_reducible repeat (first | refine blk_drewN ?_ _ | refine blk_drew ?_ | refine blk_alloc ?_ _)); exact BK131.out), (by (with_reducible repeat (first | refine blk_drewN ?_ _ | refine blk_drew ?_ | refine blk_alloc ?_ _)); exact BK134.out), (by (with_reducible repeat (first | refine blk_drewN ?_ _ | refine blk_drew ?_ | refine blk_alloc ?_ _)); exact BK141.out), GW141.out, GE141.out, NB131_141.out, NB141_131.out, NB134_141.out, NB141_134.out, (by repeat (first | (with_reducible first | exact HB.out | apply below_alloc | apply pw_below_drewN | apply below_drew1 | refine below_set ?_ GE131.out | refine below_set ?_ GE134.out | refine below_set ?_ GE141.out) | exact HB.out))⟩)
                rintro gb141 w30 ⟨hS_, h0_, h1_, h2_, h3_, h4_, h5_, h6_, h7_, h8_, h9_⟩
                have n0_ : Aside0 (w30.heap[gb131]? = some (.cells #[.string (⟨#[102, 97, 110]⟩ : ByteArray), .int .i64 2, .int .i64 2, .string (⟨#[]⟩ : ByteArray), .int .i64 0, .int .i64 0, .int .i64 0, .slice none 0 0, .int .i64 0, .int .i64 0, .int .i64 60, .int .i64 30] 26 (0, 0))) := ⟨h0_⟩
                have n1_ : Aside0 (w30.heap[gb134]? = some (.cells #[.int .i64 t132, .int .i64 t133, .int .i64 100] 28 (0, 0))) := ⟨h1_⟩
                have n2_ : Aside0 (w30.heap[gb141]? = some (.cells #[.int .i64 0, .int .i64 0, .int .i64 0] 28 (0, 0))) := ⟨h2_⟩
                have n3_ : Aside0 (w.heap.size ≤ gb141) := ⟨h3_⟩
                have n4_ : Aside0 (w.heap.size ≤ gb141) := ⟨h4_⟩
                have n5_ : Aside0 (gb131 ≠ gb141) := ⟨h5_⟩
                have n6_ : Aside0 (gb141 ≠ gb131) := ⟨h6_⟩
                have n7_ : Aside0 (gb134 ≠ gb141) := ⟨h7_⟩
                have n8_ : Aside0 (gb141 ≠ gb134) := ⟨h8_⟩
                have n9_ : Aside0 (Below w.heap.size w w30) := ⟨h9_⟩
                clear BK131
                clear BK134
                clear HB
                clear h0_ h1_ h2_ h3_ h4_ h5_ h6_ h7_ h8_ h9_
                have BK131 := n0_
                have BK134 := n1_
                have BK141 := n2_
                have GW141 := n3_
                have GE141 := n4_
                have NB131_141 := n5_
                have NB141_131 := n6_
                have NB134_141 := n7_
                have NB141_134 := n8_
                have HB := n9_
                clear n0_ n1_ n2_ n3_ n4_ n5_ n6_ n7_ n8_ n9_
                have hHeld : w30.cell? ⟨gb131, 0, none⟩ = some (.string (⟨#[102, 97, 110]⟩ : ByteArray)) ∧ w30.cell? ⟨gb131, 1, none⟩ = some (.int .i64 2) ∧ w30.cell? ⟨gb131, 2, none⟩ = some (.int .i64 2) ∧ w30.cell? ⟨gb131, 3, none⟩ = some (.string (⟨#[]⟩ : ByteArray)) ∧ w30.cell? ⟨gb131, 4, none⟩ = some (.int .i64 0) ∧ w30.cell? ⟨gb131, 5, none⟩ = some (.int .i64 0) ∧ w30.cell? ⟨gb131, 6, none⟩ = some (.int .i64 0) ∧ w30.cell? ⟨gb131, 7, none⟩ = some (.slice none 0 0) ∧ w30.cell? ⟨gb131, 8, none⟩ = some (.int .i64 0) ∧ w30.cell? ⟨gb131, 9, none⟩ = some (.int .i64 0) ∧ w30.cell? ⟨gb131, 10, none⟩ = some (.int .i64 60) ∧ w30.cell? ⟨gb131, 11, none⟩ = some (.int .i64 30) ∧ w30.cell? ⟨gb134, 0, none⟩ = some (.int .i64 t132) ∧ w30.cell? ⟨gb134, 1, none⟩ = some (.int .i64 t133) ∧ w30.cell? ⟨gb134, 2, none⟩ = some (.int .i64 100) := hS_
                refine norm_ (a' := ?_) ?_ ?_
                rotate_left
                · simp only [putAll, Act.put, List.setIfInBounds_toArray, List.set_cons_zero, List.set_cons_succ]
                  rfl
                refine one_ (i := 9) (N := none) #[true, true, true, true, true, true, true, true, true, true, false] rfl rfl (one_of HT_.out (by kernel_rfl)) (by decide) (fun K hK => ?_)
                have hs31 : w30.cell? ⟨gb141, 0, none⟩ = some (.int .i64 0) := (blk_cell BK141.out 0).trans rfl
                have hfs31 := blk_frozen BK141.out 0
                have hns31_0 := NB131_141.out
                have hns31_1 := NB134_141.out
                have hms31_0 := NB141_131.out
                have hms31_1 := NB141_134.out
                have hs32 : w30.cell? ⟨gb141, 1, none⟩ = some (.int .i64 0) := (blk_cell BK141.out 1).trans rfl
                have hfs32 := blk_frozen BK141.out 1
                have hns32_0 := NB131_141.out
                have hns32_1 := NB134_141.out
                have hms32_0 := NB141_131.out
                have hms32_1 := NB141_134.out
                have hs33 : w30.cell? ⟨gb141, 2, none⟩ = some (.int .i64 0) := (blk_cell BK141.out 2).trans rfl
                have hfs33 := blk_frozen BK141.out 2
                have hns33_0 := NB131_141.out
                have hns33_1 := NB134_141.out
                have hms33_0 := NB141_131.out
                have hms33_1 := NB141_134.out
                refine skip_ (w1 := ?_) (by rfl) rfl ?_ ?_
                rotate_left
                · go_simp
                  rfl
                refine hK.out _ _ ⟨((cell_far (p := ⟨gb141, _, none⟩) NB131_141.out _).trans (((cell_far (p := ⟨gb141, _, none⟩) NB131_141.out _).trans (((cell_far (p := ⟨gb141, _, none⟩) NB131_141.out _).trans (hHeld.1)))))), ((cell_far (p := ⟨gb141, _, none⟩) NB131_141.out _).trans (((cell_far (p := ⟨gb141, _, none⟩) NB131_141.out _).trans (((cell_far (p := ⟨gb141, _, none⟩) NB131_141.out _).trans (hHeld.2.1)))))), ((cell_far (p := ⟨gb141, _, none⟩) NB131_141.out _).trans (((cell_far (p := ⟨gb141, _, none⟩) NB131_141.out _).trans (((cell_far (p := ⟨gb141, _, none⟩) NB131_141.out _).trans (hHeld.2.2.1)))))), ((cell_far (p := ⟨gb141, _, none⟩) NB131_141.out _).trans (((cell_far (p := ⟨gb141, _, none⟩) NB131_141.out _).trans (((cell_far (p := ⟨gb141, _, none⟩) NB131_141.out _).trans (hHeld.2.2.2.1)))))), ((cell_far (p := ⟨gb141, _, none⟩) NB131_141.out _).trans (((cell_far (p := ⟨gb141, _, none⟩) NB131_141.out _).trans (((cell_far (p := ⟨gb141, _, none⟩) NB131_141.out _).trans (hHeld.2.2.2.2.1)))))), ((cell_far (p := ⟨gb141, _, none⟩) NB131_141.out _).trans (((cell_far (p := ⟨gb141, _, none⟩) NB131_141.out _).trans (((cell_far (p := ⟨gb141, _, none⟩) NB131_141.out _).trans (hHeld.2.2.2.2.2.1)))))), ((cell_far (p := ⟨gb141, _, none⟩) NB131_141.out _).trans (((cell_far (p := ⟨gb141, _, none⟩) NB131_141.out _).trans (((cell_far (p := ⟨gb141, _, none⟩) NB131_141.out _).trans (hHeld.2.2.2.2.2.2.1)))))), ((cell_far (p := ⟨gb141, _, none⟩) NB131_141.out _).trans (((cell_far (p := ⟨gb141, _, none⟩) NB131_141.out _).trans (((cell_far (p := ⟨gb141, _, none⟩) NB131_141.out _).trans (hHeld.2.2.2.2.2.2.2.1)))))), ((cell_far (p := ⟨gb141, _, none⟩) NB131_141.out _).trans (((cell_far (p := ⟨gb141, _, none⟩) NB131_141.out _).trans (((cell_far (p := ⟨gb141, _, none⟩) NB131_141.out _).trans (hHeld.2.2.2.2.2.2.2.2.1)))))), ((cell_far (p := ⟨gb141, _, none⟩) NB131_141.out _).trans (((cell_far (p := ⟨gb141, _, none⟩) NB131_141.out _).trans (((cell_far (p := ⟨gb141, _, none⟩) NB131_141.out _).trans (hHeld.2.2.2.2.2.2.2.2.2.1)))))), ((cell_far (p := ⟨gb141, _, none⟩) NB131_141.out _).trans (((cell_far (p := ⟨gb141, _, none⟩) NB131_141.out _).trans (((cell_far (p := ⟨gb141, _, none⟩) NB131_141.out _).trans (hHeld.2.2.2.2.2.2.2.2.2.2.1)))))), ((cell_far (p := ⟨gb141, _, none⟩) NB131_141.out _).trans (((cell_far (p := ⟨gb141, _, none⟩) NB131_141.out _).trans (((cell_far (p := ⟨gb141, _, none⟩) NB131_141.out _).trans (hHeld.2.2.2.2.2.2.2.2.2.2.2.1)))))), ((cell_far (p := ⟨gb141, _, none⟩) NB134_141.out _).trans (((cell_far (p := ⟨gb141, _, none⟩) NB134_141.out _).trans (((cell_far (p := ⟨gb141, _, none⟩) NB134_141.out _).trans (hHeld.2.2.2.2.2.2.2.2.2.2.2.2.1)))))), ((cell_far (p := ⟨gb141, _, none⟩) NB134_141.out _).trans (((cell_far (p := ⟨gb141, _, none⟩) NB134_141.out _).trans (((cell_far (p := ⟨gb141, _, none⟩) NB134_141.out _).trans (hHeld.2.2.2.2.2.2.2.2.2.2.2.2.2.1)))))), ((cell_far (p := ⟨gb141, _, none⟩) NB134_141.out _).trans (((cell_far (p := ⟨gb141, _, none⟩) NB134_141.out _).trans (((cell_far (p := ⟨gb141, _, none⟩) NB134_141.out _).trans (hHeld.2.2.2.2.2.2.2.2.2.2.2.2.2.2))))))⟩ (fun hHeld => ?_)
                clear hK K
                refine pure_ (i := 10) (N := some 4) (v := ?_) (a' := ?_) #[true, true, true, true, true, true, true, true, true, true, true] rfl rfl (any_of HT_.out (by kernel_rfl)) (fun _ _ _ h => h) (Or.inl ⟨by rfl, ?_⟩) ?_ ?_
                rotate_left
                · intro w'
                  go_simp
                  with_reducible rfl
                rotate_left
                · simp only [Act.put, List.setIfInBounds_toArray, List.set_cons_zero, List.set_cons_succ, i64_w, i32_w]
                  rfl
                refine done_ (done_of HT_.out (by kernel_rfl)) ?_
                try go_wp2
                have n0_ : Aside0 ((((w30.setCell ⟨gb141, 0, none⟩ (.int .i64 t137)).setCell ⟨gb141, 1, none⟩ (.int .i64 t138)).setCell ⟨gb141, 2, none⟩ (.int .i64 t139)).heap[gb131]? = some (.cells #[.string (⟨#[102, 97, 110]⟩ : ByteArray), .int .i64 2, .int .i64 2, .string (⟨#[]⟩ : ByteArray), .int .i64 0, .int .i64 0, .int .i64 0, .slice none 0 0, .int .i64 0, .int .i64 0, .int .i64 60, .int .i64 30] 26 (0, 0))) := ⟨by (with_reducible repeat (first | refine blk_drewN ?_ _ | refine blk_drew ?_ | refine blk_alloc ?_ _)); refine blk_far ?_ NB131_141.out _; (with_reducible repeat (first | refine blk_drewN ?_ _ | refine blk_drew ?_ | refine blk_alloc ?_ _)); refine blk_far ?_ NB131_141.out _; (with_reducible repeat (first | refine blk_drewN ?_ _ | refine blk_drew ?_ | refine blk_alloc ?_ _)); refine blk_far ?_ NB131_141.out _; (with_reducible repeat (first | refine blk_drewN ?_ _ | refine blk_drew ?_ | refine blk_alloc ?_ _)); exact BK131.out⟩
                have n1_ : Aside0 ((((w30.setCell ⟨gb141, 0, none⟩ (.int .i64 t137)).setCell ⟨gb141, 1, none⟩ (.int .i64 t138)).setCell ⟨gb141, 2, none⟩ (.int .i64 t139)).heap[gb134]? = some (.cells #[.int .i64 t132, .int .i64 t133, .int .i64 100] 28 (0, 0))) := ⟨by (with_reducible repeat (first | refine blk_drewN ?_ _ | refine blk_drew ?_ | refine blk_alloc ?_ _)); refine blk_far ?_ NB134_141.out _; (with_reducible repeat (first | refine blk_drewN ?_ _ | refine blk_drew ?_ | refine blk_alloc ?_ _)); refine blk_far ?_ NB134_141.out _; (with_reducible repeat (first | refine blk_drewN ?_ _ | refine blk_drew ?_ | refine blk_alloc ?_ _)); refine blk_far ?_ NB134_141.out _; (with_reducible repeat (first | refine blk_drewN ?_ _ | refine blk_drew ?_ | refine blk_alloc ?_ _)); exact BK134.out⟩
                have n2_ : Aside0 ((((w30.setCell ⟨gb141, 0, none⟩ (.int .i64 t137)).setCell ⟨gb141, 1, none⟩ (.int .i64 t138)).setCell ⟨gb141, 2, none⟩ (.int .i64 t139)).heap[gb141]? = some (.cells #[.int .i64 t137, .int .i64 t138, .int .i64 t139] 28 (0, 0))) := ⟨by (with_reducible repeat (first | refine blk_drewN ?_ _ | refine blk_drew ?_ | refine blk_alloc ?_ _)); refine blk_put (cs := #[.int .i64 t137, .int .i64 t138, .int .i64 0]) ?_ 2 _ rfl; (with_reducible repeat (first | refine blk_drewN ?_ _ | refine blk_drew ?_ | refine blk_alloc ?_ _)); refine blk_put (cs := #[.int .i64 t137, .int .i64 0, .int .i64 0]) ?_ 1 _ rfl; (with_reducible repeat (first | refine blk_drewN ?_ _ | refine blk_drew ?_ | refine blk_alloc ?_ _)); refine blk_put (cs := #[.int .i64 0, .int .i64 0, .int .i64 0]) ?_ 0 _ rfl; (with_reducible repeat (first | refine blk_drewN ?_ _ | refine blk_drew ?_ | refine blk_alloc ?_ _)); exact BK141.out⟩
                have n3_ : Aside0 (Below w.heap.size w (((w30.setCell ⟨gb141, 0, none⟩ (.int .i64 t137)).setCell ⟨gb141, 1, none⟩ (.int .i64 t138)).setCell ⟨gb141, 2, none⟩ (.int .i64 t139))) := ⟨by repeat (first | (with_reducible first | exact HB.out | apply below_alloc | apply pw_below_drewN | apply below_drew1 | refine below_set ?_ GE131.out | refine below_set ?_ GE134.out | refine below_set ?_ GE141.out) | exact HB.out)⟩
                (try clear BK131)
                (try clear BK134)
                (try clear BK141)
                (try clear HB)
                generalize (((w30.setCell ⟨gb141, 0, none⟩ (.int .i64 t137)).setCell ⟨gb141, 1, none⟩ (.int .i64 t138)).setCell ⟨gb141, 2, none⟩ (.int .i64 t139)) = w34 at n0_ n1_ n2_ n3_ ⊢
                have BK131 := n0_
                have BK134 := n1_
                have BK141 := n2_
                have HB := n3_
                clear n0_ n1_ n2_ n3_
                have n0_ := Aside0.mk (blk_drew BK131.out)
                have n1_ := Aside0.mk (blk_drew BK134.out)
                have n2_ := Aside0.mk (blk_drew BK141.out)
                have n3_ := Aside0.mk (below_drew1 HB.out)
                clear BK131
                clear BK134
                clear BK141
                clear HB
                have BK131 := n0_
                have BK134 := n1_
                have BK141 := n2_
                have HB := n3_
                clear n0_ n1_ n2_ n3_
                refine start_ (n := 11) (S := fun w' => w'.cell? ⟨gb131, 0, none⟩ = some (.string (⟨#[102, 97, 110]⟩ : ByteArray)) ∧ w'.cell? ⟨gb131, 1, none⟩ = some (.int .i64 2) ∧ w'.cell? ⟨gb131, 2, none⟩ = some (.int .i64 2) ∧ w'.cell? ⟨gb131, 3, none⟩ = some (.string (⟨#[]⟩ : ByteArray)) ∧ w'.cell? ⟨gb131, 4, none⟩ = some (.int .i64 0) ∧ w'.cell? ⟨gb131, 5, none⟩ = some (.int .i64 0) ∧ w'.cell? ⟨gb131, 6, none⟩ = some (.int .i64 0) ∧ w'.cell? ⟨gb131, 7, none⟩ = some (.slice none 0 0) ∧ w'.cell? ⟨gb131, 8, none⟩ = some (.int .i64 0) ∧ w'.cell? ⟨gb131, 9, none⟩ = some (.int .i64 0) ∧ w'.cell? ⟨gb131, 10, none⟩ = some (.int .i64 60) ∧ w'.cell? ⟨gb131, 11, none⟩ = some (.int .i64 30) ∧ w'.cell? ⟨gb134, 0, none⟩ = some (.int .i64 t132) ∧ w'.cell? ⟨gb134, 1, none⟩ = some (.int .i64 t133) ∧ w'.cell? ⟨gb134, 2, none⟩ = some (.int .i64 100)) (ds := []) #[false, false, false, false, false, false, false, false, false, false, false] (by kernel_rfl) rfl rfl ⟨(blk_cell BK131.out 0).trans rfl, (blk_cell BK131.out 1).trans rfl, (blk_cell BK131.out 2).trans rfl, (blk_cell BK131.out 3).trans rfl, (blk_cell BK131.out 4).trans rfl, (blk_cell BK131.out 5).trans rfl, (blk_cell BK131.out 6).trans rfl, (blk_cell BK131.out 7).trans rfl, (blk_cell BK131.out 8).trans rfl, (blk_cell BK131.out 9).trans rfl, (blk_cell BK131.out 10).trans rfl, (blk_cell BK131.out 11).trans rfl, (blk_cell BK134.out 0).trans rfl, (blk_cell BK134.out 1).trans rfl, (blk_cell BK134.out 2).trans rfl⟩ (fun hHeld => ?_); refine with_tabW plenumlaw14_awake.tab4 plenumlaw14_awake.bits4 (fun HT_ HW_ => ?_)
                generalize w34.drew = w35 at BK131 BK134 BK141 HB hHeld ⊢
                refine take_ (i := 0) (N := some 21) (v := ?_) (a' := ?_) #[true, false, false, false, false, false, false, false, false, false, false] rfl rfl (take_ofW HT_.out HW_.out (by kernel_rfl)) (fun _ _ _ h => h) (Or.inl ⟨by rfl, ?_⟩) hHeld ?_ ?_
                rotate_left
                · rintro w' ⟨s0, s1, s2, s3, s4, s5, s6, s7, s8, s9, s10, s11, s12, s13, s14⟩
                  go_simp
                  with_reducible rfl
                rotate_left
                · simp only [Act.put, List.setIfInBounds_toArray, List.set_cons_zero, List.set_cons_succ, i64_w, i32_w]
                  rfl
                refine take_ (i := 1) (N := some 22) (v := ?_) (a' := ?_) #[true, true, false, false, false, false, false, false, false, false, false] rfl rfl (take_ofW HT_.out HW_.out (by kernel_rfl)) (fun _ _ _ h => h) (Or.inl ⟨by rfl, ?_⟩) hHeld ?_ ?_
                rotate_left
                · rintro w' ⟨s0, s1, s2, s3, s4, s5, s6, s7, s8, s9, s10, s11, s12, s13, s14⟩
                  go_simp
                  with_reducible rfl
                rotate_left
                · simp only [Act.put, List.setIfInBounds_toArray, List.set_cons_zero, List.set_cons_succ, i64_w, i32_w]
                  rfl
                refine join_ (σ := Nat) 2 #[true, true, true, true, true, true, true, true, true, false, false] (fun s_ => [(23, .agg #[.int .i64 t142, .int .i64 t143]), (25, .tuple #[.agg #[.int .i64 t144, .int .i64 t145, .int .i64 t146], .int .i64 t147]), (5, .pointer (some ⟨s_, 0, none⟩)), (24, .agg #[.int .i64 8, .int .i64 t142, .int .i64 t143]), (20, .tuple #[.agg #[.int .i64 t144, .int .i64 t145, .int .i64 t146], .int .i64 t147]), (26, .agg #[.int .i64 t144, .int .i64 t145, .int .i64 t146]), (27, .int .i64 t147)]) (fun s_ w' => (w'.cell? ⟨gb131, 0, none⟩ = some (.string (⟨#[102, 97, 110]⟩ : ByteArray)) ∧ w'.cell? ⟨gb131, 1, none⟩ = some (.int .i64 2) ∧ w'.cell? ⟨gb131, 2, none⟩ = some (.int .i64 2) ∧ w'.cell? ⟨gb131, 3, none⟩ = some (.string (⟨#[]⟩ : ByteArray)) ∧ w'.cell? ⟨gb131, 4, none⟩ = some (.int .i64 0) ∧ w'.cell? ⟨gb131, 5, none⟩ = some (.int .i64 0) ∧ w'.cell? ⟨gb131, 6, none⟩ = some (.int .i64 0) ∧ w'.cell? ⟨gb131, 7, none⟩ = some (.slice none 0 0) ∧ w'.cell? ⟨gb131, 8, none⟩ = some (.int .i64 0) ∧ w'.cell? ⟨gb131, 9, none⟩ = some (.int .i64 0) ∧ w'.cell? ⟨gb131, 10, none⟩ = some (.int .i64 60) ∧ w'.cell? ⟨gb131, 11, none⟩ = some (.int .i64 30) ∧ w'.cell? ⟨gb134, 0, none⟩ = some (.int .i64 t132) ∧ w'.cell? ⟨gb134, 1, none⟩ = some (.int .i64 t133) ∧ w'.cell? ⟨gb134, 2, none⟩ = some (.int .i64 100)) ∧ (w'.heap[gb131]? = some (.cells #[.string (⟨#[102, 97, 110]⟩ : ByteArray), .int .i64 2, .int .i64 2, .string (⟨#[]⟩ : ByteArray), .int .i64 0, .int .i64 0, .int .i64 0, .slice none 0 0, .int .i64 0, .int .i64 0, .int .i64 60, .int .i64 30] 26 (0, 0))) ∧ (w'.heap[gb134]? = some (.cells #[.int .i64 t132, .int .i64 t133, .int .i64 100] 28 (0, 0))) ∧ (w'.heap[gb141]? = some (.cells #[.int .i64 t137, .int .i64 t138, .int .i64 t139] 28 (0, 0))) ∧ (w'.heap[s_]? = some (.cells #[.int .i64 0, .int .i64 0, .int .i64 0] 28 (0, 0))) ∧ (w.heap.size ≤ s_) ∧ (w.heap.size ≤ s_) ∧ (gb131 ≠ s_) ∧ (s_ ≠ gb131) ∧ (gb134 ≠ s_) ∧ (s_ ≠ gb134) ∧ (gb141 ≠ s_) ∧ (s_ ≠ gb141) ∧ (Below w.heap.size w w')) ?_ ?_
                rotate_left
                · intro hCont
                  refine two_ (i := 2) (j := 8) (Ni := some 23) (Nj := some 5) #[true, true, true, false, false, false, false, false, false, false, false] #[true, true, false, false, false, false, false, false, true, false, false] rfl rfl rfl rfl (two_of HT_.out (by kernel_rfl)) (by decide) (by decide) (fun K hK => ?_) (fun K hK => ?_)
                  · skip
                    refine goes_ Try.func18 (by kernel_rfl) rfl #[.int .i64 0] (by rfl) rfl rfl (by (try simp only [List.map_toArray, List.map_cons, List.map_nil]); first | done | rfl | (simp only [List.length_drop, List.length_take]; rfl)) ?_
                    with_reducible refine (plenumlaw14_on.calls 0 t142 t143 _ A4.out).mono ?_
                    rintro e w36 ⟨rfl, hb⟩
                    refine ⟨_, rfl, ?_⟩
                    have n0_ := Aside0.mk (blk_below (g := gb131) (o := .cells #[.string (⟨#[102, 97, 110]⟩ : ByteArray), .int .i64 2, .int .i64 2, .string (⟨#[]⟩ : ByteArray), .int .i64 0, .int .i64 0, .int .i64 0, .slice none 0 0, .int .i64 0, .int .i64 0, .int .i64 60, .int .i64 30] 26 (0, 0)) (by (with_reducible repeat (first | refine blk_drewN ?_ _ | refine blk_drew ?_ | refine blk_alloc ?_ _)); exact BK131.out) hb)
                    have n1_ := Aside0.mk (blk_below (g := gb134) (o := .cells #[.int .i64 t132, .int .i64 t133, .int .i64 100] 28 (0, 0)) (by (with_reducible repeat (first | refine blk_drewN ?_ _ | refine blk_drew ?_ | refine blk_alloc ?_ _)); exact BK134.out) hb)
                    have n2_ := Aside0.mk (blk_below (g := gb141) (o := .cells #[.int .i64 t137, .int .i64 t138, .int .i64 t139] 28 (0, 0)) (by (with_reducible repeat (first | refine blk_drewN ?_ _ | refine blk_drew ?_ | refine blk_alloc ?_ _)); exact BK141.out) hb)
                    have n3_ := Aside0.mk (below_step (by repeat (first | (with_reducible first | exact HB.out | apply below_alloc | apply pw_below_drewN | apply below_drew1 | refine below_set ?_ GE131.out | refine below_set ?_ GE134.out | refine below_set ?_ GE141.out) | exact HB.out)) hb)
                    clear BK131
                    clear BK134
                    clear BK141
                    clear HB
                    have BK131 := n0_
                    have BK134 := n1_
                    have BK141 := n2_
                    have HB := n3_
                    clear n0_ n1_ n2_ n3_
                    (try clear hb)
                    (try clear hb2)
                    (try clear hk)
                    (try clear hi)
                    refine hK.out _ _ ⟨(blk_cell BK131.out 0).trans rfl, (blk_cell BK131.out 1).trans rfl, (blk_cell BK131.out 2).trans rfl, (blk_cell BK131.out 3).trans rfl, (blk_cell BK131.out 4).trans rfl, (blk_cell BK131.out 5).trans rfl, (blk_cell BK131.out 6).trans rfl, (blk_cell BK131.out 7).trans rfl, (blk_cell BK131.out 8).trans rfl, (blk_cell BK131.out 9).trans rfl, (blk_cell BK131.out 10).trans rfl, (blk_cell BK131.out 11).trans rfl, (blk_cell BK134.out 0).trans rfl, (blk_cell BK134.out 1).trans rfl, (blk_cell BK134.out 2).trans rfl⟩ (fun hHeld => ?_)
                    clear hK K
                    refine norm_ (a' := ?_) ?_ ?_
                    rotate_left
                    · show Act.put _ (some 23) _ = _
                      simp only [Act.put, List.setIfInBounds_toArray, List.set_cons_zero, List.set_cons_succ, i64_w, i32_w]
                      rfl
                    refine pure_ (i := 3) (N := some 24) (v := ?_) (a' := ?_) #[true, true, true, true, false, false, false, false, false, false, false] rfl rfl (any_of HT_.out (by kernel_rfl)) (fun _ _ _ h => h) (Or.inl ⟨by rfl, ?_⟩) ?_ ?_
                    rotate_left
                    · intro w'
                      go_simp
                      with_reducible rfl
                    rotate_left
                    · simp only [Act.put, List.setIfInBounds_toArray, List.set_cons_zero, List.set_cons_succ, i64_w, i32_w]
                      rfl
                    refine two_ (i := 4) (j := 8) (Ni := some 25) (Nj := some 5) #[true, true, true, true, true, false, false, false, false, false, false] #[true, true, true, true, false, false, false, false, true, false, false] rfl rfl rfl rfl (two_of HT_.out (by kernel_rfl)) (by decide) (by decide) (fun K hK => ?_) (fun K hK => ?_)
                    · skip
                      refine goes_ Try.func10 (by kernel_rfl) rfl #[.agg #[.string (⟨#[102, 97, 110]⟩ : ByteArray), .int .i64 2, .int .i64 2, .string (⟨#[]⟩ : ByteArray), .int .i64 0, .int .i64 0, .int .i64 0, .slice none 0 0, .int .i64 0, .int .i64 0, .int .i64 60, .int .i64 30], .agg #[.int .i64 t132, .int .i64 t133, .int .i64 100], .agg #[.int .i64 8, .int .i64 t142, .int .i64 t143], .int .i64 160] (by rfl) rfl rfl (by (try simp only [List.map_toArray, List.map_cons, List.map_nil]); first | done | rfl | (simp only [List.length_drop, List.length_take]; rfl)) ?_
                      refine (minimum_Next.calls k (⟨#[102, 97, 110]⟩ : ByteArray) 2 2 (⟨#[]⟩ : ByteArray) 0 0 0 _ _ ([] : List ByteArray) 0 0 60 30 t132 t133 100 8 t142 t143 160 t144 t145 t146 t147 _ ?side1 ?side2 A5.out).mono ?_
                      (case side1 => exact Kd.C_nil _ _)
                      (case side2 => exact Nat.le_refl _)
                      rintro e w37 ⟨rfl, hb⟩
                      refine ⟨_, rfl, ?_⟩
                      have n0_ := Aside0.mk (blk_below (g := gb131) (o := .cells #[.string (⟨#[102, 97, 110]⟩ : ByteArray), .int .i64 2, .int .i64 2, .string (⟨#[]⟩ : ByteArray), .int .i64 0, .int .i64 0, .int .i64 0, .slice none 0 0, .int .i64 0, .int .i64 0, .int .i64 60, .int .i64 30] 26 (0, 0)) (by (with_reducible repeat (first | refine blk_drewN ?_ _ | refine blk_drew ?_ | refine blk_alloc ?_ _)); exact BK131.out) hb)
                      have n1_ := Aside0.mk (blk_below (g := gb134) (o := .cells #[.int .i64 t132, .int .i64 t133, .int .i64 100] 28 (0, 0)) (by (with_reducible repeat (first | refine blk_drewN ?_ _ | refine blk_drew ?_ | refine blk_alloc ?_ _)); exact BK134.out) hb)
                      have n2_ := Aside0.mk (blk_below (g := gb141) (o := .cells #[.int .i64 t137, .int .i64 t138, .int .i64 t139] 28 (0, 0)) (by (with_reducible repeat (first | refine blk_drewN ?_ _ | refine blk_drew ?_ | refine blk_alloc ?_ _)); exact BK141.out) hb)
                      have n3_ := Aside0.mk (below_step (by repeat (first | (with_reducible first | exact HB.out | apply below_alloc | apply pw_below_drewN | apply below_drew1 | refine below_set ?_ GE131.out | refine below_set ?_ GE134.out | refine below_set ?_ GE141.out) | exact HB.out)) hb)
                      clear BK131
                      clear BK134
                      clear BK141
                      clear HB
                      have BK131 := n0_
                      have BK134 := n1_
                      have BK141 := n2_
                      have HB := n3_
                      clear n0_ n1_ n2_ n3_
                      (try clear hb)
                      (try clear hb2)
                      (try clear hk)
                      (try clear hi)
                      refine hK.out _ _ ⟨(blk_cell BK131.out 0).trans rfl, (blk_cell BK131.out 1).trans rfl, (blk_cell BK131.out 2).trans rfl, (blk_cell BK131.out 3).trans rfl, (blk_cell BK131.out 4).trans rfl, (blk_cell BK131.out 5).trans rfl, (blk_cell BK131.out 6).trans rfl, (blk_cell BK131.out 7).trans rfl, (blk_cell BK131.out 8).trans rfl, (blk_cell BK131.out 9).trans rfl, (blk_cell BK131.out 10).trans rfl, (blk_cell BK131.out 11).trans rfl, (blk_cell BK134.out 0).trans rfl, (blk_cell BK134.out 1).trans rfl, (blk_cell BK134.out 2).trans rfl⟩ (fun hHeld => ?_)
                      clear hK K
                      refine norm_ (a' := ?_) ?_ ?_
                      rotate_left
                      · show Act.put _ (some 25) _ = _
                        simp only [Act.put, List.setIfInBounds_toArray, List.set_cons_zero, List.set_cons_succ, i64_w, i32_w]
                        rfl
                      refine pure_ (i := 5) (N := some 20) (v := ?_) (a' := ?_) #[true, true, true, true, true, true, false, false, false, false, false] rfl rfl (any_of HT_.out (by kernel_rfl)) (fun _ _ _ h => h) (Or.inl ⟨by rfl, ?_⟩) ?_ ?_
                      rotate_left
                      · intro w'
                        go_simp
                        with_reducible rfl
                      rotate_left
                      · simp only [Act.put, List.setIfInBounds_toArray, List.set_cons_zero, List.set_cons_succ, i64_w, i32_w]
                        rfl
                      refine pure_ (i := 6) (N := some 26) (v := ?_) (a' := ?_) #[true, true, true, true, true, true, true, false, false, false, false] rfl rfl (any_of HT_.out (by kernel_rfl)) (fun _ _ _ h => h) (Or.inl ⟨by rfl, ?_⟩) ?_ ?_
                      rotate_left
                      · intro w'
                        go_simp
                        with_reducible rfl
                      rotate_left
                      · simp only [Act.put, List.setIfInBounds_toArray, List.set_cons_zero, List.set_cons_succ, i64_w, i32_w]
                        rfl
                      refine pure_ (i := 7) (N := some 27) (v := ?_) (a' := ?_) #[true, true, true, true, true, true, true, true, false, false, false] rfl rfl (any_of HT_.out (by kernel_rfl)) (fun _ _ _ h => h) (Or.inl ⟨by rfl, ?_⟩) ?_ ?_
                      rotate_left
                      · intro w'
                        go_simp
                        with_reducible rfl
                      rotate_left
                      · simp only [Act.put, List.setIfInBounds_toArray, List.set_cons_zero, List.set_cons_succ, i64_w, i32_w]
                        rfl
                      refine one_ (i := 8) (N := some 5) #[true, true, true, true, true, true, true, true, true, false, false] rfl rfl (one_of HT_.out (by kernel_rfl)) (by decide) (fun K hK => ?_)
                      refine box_step ?hg (N := 5) ?hd (cs := #[.int .i64 0, .int .i64 0, .int .i64 0]) (t := 28) ?hr ?_; (case hd => rfl); (case hg => rfl); (case hr => first | (go_simp; done) | (go_simp; rfl))
                      intro gb148 hg w38 hbox hb
                      have n0_ := Aside0.mk (blk_below (g := gb131) (o := .cells #[.string (⟨#[102, 97, 110]⟩ : ByteArray), .int .i64 2, .int .i64 2, .string (⟨#[]⟩ : ByteArray), .int .i64 0, .int .i64 0, .int .i64 0, .slice none 0 0, .int .i64 0, .int .i64 0, .int .i64 60, .int .i64 30] 26 (0, 0)) (by (with_reducible repeat (first | refine blk_drewN ?_ _ | refine blk_drew ?_ | refine blk_alloc ?_ _)); exact BK131.out) hb)
                      have n1_ := Aside0.mk (blk_below (g := gb134) (o := .cells #[.int .i64 t132, .int .i64 t133, .int .i64 100] 28 (0, 0)) (by (with_reducible repeat (first | refine blk_drewN ?_ _ | refine blk_drew ?_ | refine blk_alloc ?_ _)); exact BK134.out) hb)
                      have n2_ := Aside0.mk (blk_below (g := gb141) (o := .cells #[.int .i64 t137, .int .i64 t138, .int .i64 t139] 28 (0, 0)) (by (with_reducible repeat (first | refine blk_drewN ?_ _ | refine blk_drew ?_ | refine blk_alloc ?_ _)); exact BK141.out) hb)
                      have n3_ := Aside0.mk (below_step (by repeat (first | (with_reducible first | exact HB.out | apply below_alloc | apply pw_below_drewN | apply below_drew1 | refine below_set ?_ GE131.out | refine below_set ?_ GE134.out | refine below_set ?_ GE141.out) | exact HB.out)) hb)
                      have n4_ := Aside0.mk (hbox)
                      have n5_ := Aside0.mk ((by rw [hg]; exact (below_size (by repeat (first | (with_reducible first | exact HB.out | apply below_alloc | apply pw_below_drewN | apply below_drew1 | refine below_set ?_ GE131.out | refine below_set ?_ GE134.out | refine below_set ?_ GE141.out) | exact HB.out))) : w.heap.size ≤ gb148))
                      have n6_ := Aside0.mk ((by rw [hg]; exact (below_size (by repeat (first | (with_reducible first | exact HB.out | apply below_alloc | apply pw_below_drewN | apply below_drew1 | refine below_set ?_ GE131.out | refine below_set ?_ GE134.out | refine below_set ?_ GE141.out) | exact HB.out))) : w.heap.size ≤ gb148))
                      have n7_ := Aside0.mk ((by rw [hg]; exact Nat.ne_of_lt (blk_lt (g := gb131) (o := .cells #[.string (⟨#[102, 97, 110]⟩ : ByteArray), .int .i64 2, .int .i64 2, .string (⟨#[]⟩ : ByteArray), .int .i64 0, .int .i64 0, .int .i64 0, .slice none 0 0, .int .i64 0, .int .i64 0, .int .i64 60, .int .i64 30] 26 (0, 0)) (by (with_reducible repeat (first | refine blk_drewN ?_ _ | refine blk_drew ?_ | refine blk_alloc ?_ _)); exact BK131.out)) : gb131 ≠ gb148))
                      have n8_ := Aside0.mk ((by rw [hg]; exact Nat.ne_of_gt (blk_lt (g := gb131) (o := .cells #[.string (⟨#[102, 97, 110]⟩ : ByteArray), .int .i64 2, .int .i64 2, .string (⟨#[]⟩ : ByteArray), .int .i64 0, .int .i64 0, .int .i64 0, .slice none 0 0, .int .i64 0, .int .i64 0, .int .i64 60, .int .i64 30] 26 (0, 0)) (by (with_reducible repeat (first | refine blk_drewN ?_ _ | refine blk_drew ?_ | refine blk_alloc ?_ _)); exact BK131.out)) : gb148 ≠ gb131))
                      have n9_ := Aside0.mk ((by rw [hg]; exact Nat.ne_of_lt (blk_lt (g := gb134) (o := .cells #[.int .i64 t132, .int .i64 t133, .int .i64 100] 28 (0, 0)) (by (with_reducible repeat (first | refine blk_drewN ?_ _ | refine blk_drew ?_ | refine blk_alloc ?_ _)); exact BK134.out)) : gb134 ≠ gb148))
                      have n10_ := Aside0.mk ((by rw [hg]; exact Nat.ne_of_gt (blk_lt (g := gb134) (o := .cells #[.int .i64 t132, .int .i64 t133, .int .i64 100] 28 (0, 0)) (by (with_reducible repeat (first | refine blk_drewN ?_ _ | refine blk_drew ?_ | refine blk_alloc ?_ _)); exact BK134.out)) : gb148 ≠ gb134))
                      have n11_ := Aside0.mk ((by rw [hg]; exact Nat.ne_of_lt (blk_lt (g := gb141) (o := .cells #[.int .i64 t137, .int .i64 t138, .int .i64 t139] 28 (0, 0)) (by (with_reducible repeat (first | refine blk_drewN ?_ _ | refine blk_drew ?_ | refine blk_alloc ?_ _)); exact BK141.out)) : gb141 ≠ gb148))
                      have n12_ := Aside0.mk ((by rw [hg]; exact Nat.ne_of_gt (blk_lt (g := gb141) (o := .cells #[.int .i64 t137, .int .i64 t138, .int .i64 t139] 28 (0, 0)) (by (with_reducible repeat (first | refine blk_drewN ?_ _ | refine blk_drew ?_ | refine blk_alloc ?_ _)); exact BK141.out)) : gb148 ≠ gb141))
                      clear BK131
                      clear BK134
                      clear BK141
                      clear HB
                      have BK131 := n0_
                      have BK134 := n1_
                      have BK141 := n2_
                      have HB := n3_
                      have BK148 := n4_
                      have GW148 := n5_
                      have GE148 := n6_
                      have NB131_148 := n7_
                      have NB148_131 := n8_
                      have NB134_148 := n9_
                      have NB148_134 := n10_
                      have NB141_148 := n11_
                      have NB148_141 := n12_
                      clear n0_ n1_ n2_ n3_ n4_ n5_ n6_ n7_ n8_ n9_ n10_ n11_ n12_
                      clear hb hbox hg
                      refine hK.out _ _ ⟨(blk_cell BK131.out 0).trans rfl, (blk_cell BK131.out 1).trans rfl, (blk_cell BK131.out 2).trans rfl, (blk_cell BK131.out 3).trans rfl, (blk_cell BK131.out 4).trans rfl, (blk_cell BK131.out 5).trans rfl, (blk_cell BK131.out 6).trans rfl, (blk_cell BK131.out 7).trans rfl, (blk_cell BK131.out 8).trans rfl, (blk_cell BK131.out 9).trans rfl, (blk_cell BK131.out 10).trans rfl, (blk_cell BK131.out 11).trans rfl, (blk_cell BK134.out 0).trans rfl, (blk_cell BK134.out 1).trans rfl, (blk_cell BK134.out 2).trans rfl⟩ (fun hHeld => ?_)
                      clear hK K
                      refine norm_ (a' := ?_) ?_ ?_
                      rotate_left
                      · show Act.put _ (some 5) _ = _
                        simp only [Act.put, List.setIfInBounds_toArray, List.set_cons_zero, List.set_cons_succ, i64_w, i32_w]
                        rfl
                      exact norm_ (by simp only [putAll, Act.put, List.setIfInBounds_toArray, List.set_cons_zero, List.set_cons_succ]) (hCont (gb148) _ ⟨hHeld, (by (with_reducible repeat (first | refine blk_drewN ?_ _ | refine blk_drew ?_ | refine blk_alloc ?_ _)); exact BK131.out), (by (with_reducible repeat (first | refine blk_drewN ?_ _ | refine blk_drew ?_ | refine blk_alloc ?_ _)); exact BK134.out), (by (with_reducible repeat (first | refine blk_drewN ?_ _ | refine blk_drew ?_ | refine blk_alloc ?_ _)); exact BK141.out), (by (with_reducible repeat (first | refine blk_drewN ?_ _ | refine blk_drew ?_ | refine blk_alloc ?_ _)); exact BK148.out), GW148.out, GE148.out, NB131_148.out, NB148_131.out, NB134_148.out, NB148_134.out, NB141_148.out, NB148_141.out, (by repeat (first | (with_reducible first | exact HB.out | apply below_alloc | apply pw_below_drewN | apply below_drew1 | refine below_set ?_ GE131.out | refine below_set ?_ GE134.out | refine below_set ?_ GE141.out | refine below_set ?_ GE148.out) | exact HB.out))⟩)
                    · skip
                      refine box_step ?hg (N := 5) ?hd (cs := #[.int .i64 0, .int .i64 0, .int .i64 0]) (t := 28) ?hr ?_; (case hd => rfl); (case hg => rfl); (case hr => first | (go_simp; done) | (go_simp; rfl))
                      intro gb148 hg w37 hbox hb
                      have n0_ := Aside0.mk (blk_below (g := gb131) (o := .cells #[.string (⟨#[102, 97, 110]⟩ : ByteArray), .int .i64 2, .int .i64 2, .string (⟨#[]⟩ : ByteArray), .int .i64 0, .int .i64 0, .int .i64 0, .slice none 0 0, .int .i64 0, .int .i64 0, .int .i64 60, .int .i64 30] 26 (0, 0)) (by (with_reducible repeat (first | refine blk_drewN ?_ _ | refine blk_drew ?_ | refine blk_alloc ?_ _)); exact BK131.out) hb)
                      have n1_ := Aside0.mk (blk_below (g := gb134) (o := .cells #[.int .i64 t132, .int .i64 t133, .int .i64 100] 28 (0, 0)) (by (with_reducible repeat (first | refine blk_drewN ?_ _ | refine blk_drew ?_ | refine blk_alloc ?_ _)); exact BK134.out) hb)
                      have n2_ := Aside0.mk (blk_below (g := gb141) (o := .cells #[.int .i64 t137, .int .i64 t138, .int .i64 t139] 28 (0, 0)) (by (with_reducible repeat (first | refine blk_drewN ?_ _ | refine blk_drew ?_ | refine blk_alloc ?_ _)); exact BK141.out) hb)
                      have n3_ := Aside0.mk (below_step (by repeat (first | (with_reducible first | exact HB.out | apply below_alloc | apply pw_below_drewN | apply below_drew1 | refine below_set ?_ GE131.out | refine below_set ?_ GE134.out | refine below_set ?_ GE141.out) | exact HB.out)) hb)
                      have n4_ := Aside0.mk (hbox)
                      have n5_ := Aside0.mk ((by rw [hg]; exact (below_size (by repeat (first | (with_reducible first | exact HB.out | apply below_alloc | apply pw_below_drewN | apply below_drew1 | refine below_set ?_ GE131.out | refine below_set ?_ GE134.out | refine below_set ?_ GE141.out) | exact HB.out))) : w.heap.size ≤ gb148))
                      have n6_ := Aside0.mk ((by rw [hg]; exact (below_size (by repeat (first | (with_reducible first | exact HB.out | apply below_alloc | apply pw_below_drewN | apply below_drew1 | refine below_set ?_ GE131.out | refine below_set ?_ GE134.out | refine below_set ?_ GE141.out) | exact HB.out))) : w.heap.size ≤ gb148))
                      have n7_ := Aside0.mk ((by rw [hg]; exact Nat.ne_of_lt (blk_lt (g := gb131) (o := .cells #[.string (⟨#[102, 97, 110]⟩ : ByteArray), .int .i64 2, .int .i64 2, .string (⟨#[]⟩ : ByteArray), .int .i64 0, .int .i64 0, .int .i64 0, .slice none 0 0, .int .i64 0, .int .i64 0, .int .i64 60, .int .i64 30] 26 (0, 0)) (by (with_reducible repeat (first | refine blk_drewN ?_ _ | refine blk_drew ?_ | refine blk_alloc ?_ _)); exact BK131.out)) : gb131 ≠ gb148))
                      have n8_ := Aside0.mk ((by rw [hg]; exact Nat.ne_of_gt (blk_lt (g := gb131) (o := .cells #[.string (⟨#[102, 97, 110]⟩ : ByteArray), .int .i64 2, .int .i64 2, .string (⟨#[]⟩ : ByteArray), .int .i64 0, .int .i64 0, .int .i64 0, .slice none 0 0, .int .i64 0, .int .i64 0, .int .i64 60, .int .i64 30] 26 (0, 0)) (by (with_reducible repeat (first | refine blk_drewN ?_ _ | refine blk_drew ?_ | refine blk_alloc ?_ _)); exact BK131.out)) : gb148 ≠ gb131))
                      have n9_ := Aside0.mk ((by rw [hg]; exact Nat.ne_of_lt (blk_lt (g := gb134) (o := .cells #[.int .i64 t132, .int .i64 t133, .int .i64 100] 28 (0, 0)) (by (with_reducible repeat (first | refine blk_drewN ?_ _ | refine blk_drew ?_ | refine blk_alloc ?_ _)); exact BK134.out)) : gb134 ≠ gb148))
                      have n10_ := Aside0.mk ((by rw [hg]; exact Nat.ne_of_gt (blk_lt (g := gb134) (o := .cells #[.int .i64 t132, .int .i64 t133, .int .i64 100] 28 (0, 0)) (by (with_reducible repeat (first | refine blk_drewN ?_ _ | refine blk_drew ?_ | refine blk_alloc ?_ _)); exact BK134.out)) : gb148 ≠ gb134))
                      have n11_ := Aside0.mk ((by rw [hg]; exact Nat.ne_of_lt (blk_lt (g := gb141) (o := .cells #[.int .i64 t137, .int .i64 t138, .int .i64 t139] 28 (0, 0)) (by (with_reducible repeat (first | refine blk_drewN ?_ _ | refine blk_drew ?_ | refine blk_alloc ?_ _)); exact BK141.out)) : gb141 ≠ gb148))
                      have n12_ := Aside0.mk ((by rw [hg]; exact Nat.ne_of_gt (blk_lt (g := gb141) (o := .cells #[.int .i64 t137, .int .i64 t138, .int .i64 t139] 28 (0, 0)) (by (with_reducible repeat (first | refine blk_drewN ?_ _ | refine blk_drew ?_ | refine blk_alloc ?_ _)); exact BK141.out)) : gb148 ≠ gb141))
                      clear BK131
                      clear BK134
                      clear BK141
                      clear HB
                      have BK131 := n0_
                      have BK134 := n1_
                      have BK141 := n2_
                      have HB := n3_
                      have BK148 := n4_
                      have GW148 := n5_
                      have GE148 := n6_
                      have NB131_148 := n7_
                      have NB148_131 := n8_
                      have NB134_148 := n9_
                      have NB148_134 := n10_
                      have NB141_148 := n11_
                      have NB148_141 := n12_
                      clear n0_ n1_ n2_ n3_ n4_ n5_ n6_ n7_ n8_ n9_ n10_ n11_ n12_
                      clear hb hbox hg
                      refine hK.out _ _ ⟨(blk_cell BK131.out 0).trans rfl, (blk_cell BK131.out 1).trans rfl, (blk_cell BK131.out 2).trans rfl, (blk_cell BK131.out 3).trans rfl, (blk_cell BK131.out 4).trans rfl, (blk_cell BK131.out 5).trans rfl, (blk_cell BK131.out 6).trans rfl, (blk_cell BK131.out 7).trans rfl, (blk_cell BK131.out 8).trans rfl, (blk_cell BK131.out 9).trans rfl, (blk_cell BK131.out 10).trans rfl, (blk_cell BK131.out 11).trans rfl, (blk_cell BK134.out 0).trans rfl, (blk_cell BK134.out 1).trans rfl, (blk_cell BK134.out 2).trans rfl⟩ (fun hHeld => ?_)
                      clear hK K
                      refine norm_ (a' := ?_) ?_ ?_
                      rotate_left
                      · show Act.put _ (some 5) _ = _
                        simp only [Act.put, List.setIfInBounds_toArray, List.set_cons_zero, List.set_cons_succ, i64_w, i32_w]
                        rfl
                      refine one_ (i := 4) (N := some 25) #[true, true, true, true, true, false, false, false, true, false, false] rfl rfl (one_of HT_.out (by kernel_rfl)) (by decide) (fun K hK => ?_)
                      refine goes_ Try.func10 (by kernel_rfl) rfl #[.agg #[.string (⟨#[102, 97, 110]⟩ : ByteArray), .int .i64 2, .int .i64 2, .string (⟨#[]⟩ : ByteArray), .int .i64 0, .int .i64 0, .int .i64 0, .slice none 0 0, .int .i64 0, .int .i64 0, .int .i64 60, .int .i64 30], .agg #[.int .i64 t132, .int .i64 t133, .int .i64 100], .agg #[.int .i64 8, .int .i64 t142, .int .i64 t143], .int .i64 160] (by rfl) rfl rfl (by (try simp only [List.map_toArray, List.map_cons, List.map_nil]); first | done | rfl | (simp only [List.length_drop, List.length_take]; rfl)) ?_
                      refine (minimum_Next.calls k (⟨#[102, 97, 110]⟩ : ByteArray) 2 2 (⟨#[]⟩ : ByteArray) 0 0 0 _ _ ([] : List ByteArray) 0 0 60 30 t132 t133 100 8 t142 t143 160 t144 t145 t146 t147 _ ?side1 ?side2 A5.out).mono ?_
                      (case side1 => exact Kd.C_nil _ _)
                      (case side2 => exact Nat.le_refl _)
                      rintro e w38 ⟨rfl, hb⟩
                      refine ⟨_, rfl, ?_⟩
                      have n0_ := Aside0.mk (blk_below (g := gb131) (o := .cells #[.string (⟨#[102, 97, 110]⟩ : ByteArray), .int .i64 2, .int .i64 2, .string (⟨#[]⟩ : ByteArray), .int .i64 0, .int .i64 0, .int .i64 0, .slice none 0 0, .int .i64 0, .int .i64 0, .int .i64 60, .int .i64 30] 26 (0, 0)) (by (with_reducible repeat (first | refine blk_drewN ?_ _ | refine blk_drew ?_ | refine blk_alloc ?_ _)); exact BK131.out) hb)
                      have n1_ := Aside0.mk (blk_below (g := gb134) (o := .cells #[.int .i64 t132, .int .i64 t133, .int .i64 100] 28 (0, 0)) (by (with_reducible repeat (first | refine blk_drewN ?_ _ | refine blk_drew ?_ | refine blk_alloc ?_ _)); exact BK134.out) hb)
                      have n2_ := Aside0.mk (blk_below (g := gb141) (o := .cells #[.int .i64 t137, .int .i64 t138, .int .i64 t139] 28 (0, 0)) (by (with_reducible repeat (first | refine blk_drewN ?_ _ | refine blk_drew ?_ | refine blk_alloc ?_ _)); exact BK141.out) hb)
                      have n3_ := Aside0.mk (blk_below (g := gb148) (o := .cells #[.int .i64 0, .int .i64 0, .int .i64 0] 28 (0, 0)) (by (with_reducible repeat (first | refine blk_drewN ?_ _ | refine blk_drew ?_ | refine blk_alloc ?_ _)); exact BK148.out) hb)
                      have n4_ := Aside0.mk (below_step (by repeat (first | (with_reducible first | exact HB.out | apply below_alloc | apply pw_below_drewN | apply below_drew1 | refine below_set ?_ GE131.out | refine below_set ?_ GE134.out | refine below_set ?_ GE141.out | refine below_set ?_ GE148.out) | exact HB.out)) hb)
                      clear BK131
                      clear BK134
                      clear BK141
                      clear BK148
                      clear HB
                      have BK131 := n0_
                      have BK134 := n1_
                      have BK141 := n2_
                      have BK148 := n3_
                      have HB := n4_
                      clear n0_ n1_ n2_ n3_ n4_
                      (try clear hb)
                      (try clear hb2)
                      (try clear hk)
                      (try clear hi)
                      refine hK.out _ _ ⟨(blk_cell BK131.out 0).trans rfl, (blk_cell BK131.out 1).trans rfl, (blk_cell BK131.out 2).trans rfl, (blk_cell BK131.out 3).trans rfl, (blk_cell BK131.out 4).trans rfl, (blk_cell BK131.out 5).trans rfl, (blk_cell BK131.out 6).trans rfl, (blk_cell BK131.out 7).trans rfl, (blk_cell BK131.out 8).trans rfl, (blk_cell BK131.out 9).trans rfl, (blk_cell BK131.out 10).trans rfl, (blk_cell BK131.out 11).trans rfl, (blk_cell BK134.out 0).trans rfl, (blk_cell BK134.out 1).trans rfl, (blk_cell BK134.out 2).trans rfl⟩ (fun hHeld => ?_)
                      clear hK K
                      refine norm_ (a' := ?_) ?_ ?_
                      rotate_left
                      · show Act.put _ (some 25) _ = _
                        simp only [Act.put, List.setIfInBounds_toArray, List.set_cons_zero, List.set_cons_succ, i64_w, i32_w]
                        rfl
                      refine pure_ (i := 5) (N := some 20) (v := ?_) (a' := ?_) #[true, true, true, true, true, true, false, false, true, false, false] rfl rfl (any_of HT_.out (by kernel_rfl)) (fun _ _ _ h => h) (Or.inl ⟨by rfl, ?_⟩) ?_ ?_
                      rotate_left
                      · intro w'
                        go_simp
                        with_reducible rfl
                      rotate_left
                      · simp only [Act.put, List.setIfInBounds_toArray, List.set_cons_zero, List.set_cons_succ, i64_w, i32_w]
                        rfl
                      refine pure_ (i := 6) (N := some 26) (v := ?_) (a' := ?_) #[true, true, true, true, true, true, true, false, true, false, false] rfl rfl (any_of HT_.out (by kernel_rfl)) (fun _ _ _ h => h) (Or.inl ⟨by rfl, ?_⟩) ?_ ?_
                      rotate_left
                      · intro w'
                        go_simp
                        with_reducible rfl
                      rotate_left
                      · simp only [Act.put, List.setIfInBounds_toArray, List.set_cons_zero, List.set_cons_succ, i64_w, i32_w]
                        rfl
                      refine pure_ (i := 7) (N := some 27) (v := ?_) (a' := ?_) #[true, true, true, true, true, true, true, true, true, false, false] rfl rfl (any_of HT_.out (by kernel_rfl)) (fun _ _ _ h => h) (Or.inl ⟨by rfl, ?_⟩) ?_ ?_
                      rotate_left
                      · intro w'
                        go_simp
                        with_reducible rfl
                      rotate_left
                      · simp only [Act.put, List.setIfInBounds_toArray, List.set_cons_zero, List.set_cons_succ, i64_w, i32_w]
                        rfl
                      exact norm_ (by simp only [putAll, Act.put, List.setIfInBounds_toArray, List.set_cons_zero, List.set_cons_succ]) (hCont (gb148) _ ⟨hHeld, (by (with_reducible repeat (first | refine blk_drewN ?_ _ | refine blk_drew ?_ | refine blk_alloc ?_ _)); exact BK131.out), (by (with_reducible repeat (first | refine blk_drewN ?_ _ | refine blk_drew ?_ | refine blk_alloc ?_ _)); exact BK134.out), (by (with_reducible repeat (first | refine blk_drewN ?_ _ | refine blk_drew ?_ | refine blk_alloc ?_ _)); exact BK141.out), (by (with_reducible repeat (first | refine blk_drewN ?_ _ | refine blk_drew ?_ | refine blk_alloc ?_ _)); exact BK148.out), GW148.out, GE148.out, NB131_148.out, NB148_131.out, NB134_148.out, NB148_134.out, NB141_148.out, NB148_141.out, (by repeat (first | (with_reducible first | exact HB.out | apply below_alloc | apply pw_below_drewN | apply below_drew1 | refine below_set ?_ GE131.out | refine below_set ?_ GE134.out | refine below_set ?_ GE141.out | refine below_set ?_ GE148.out) | exact HB.out))⟩)
                  · skip
                    refine box_step ?hg (N := 5) ?hd (cs := #[.int .i64 0, .int .i64 0, .int .i64 0]) (t := 28) ?hr ?_; (case hd => rfl); (case hg => rfl); (case hr => first | (go_simp; done) | (go_simp; rfl))
                    intro gb148 hg w36 hbox hb
                    have n0_ := Aside0.mk (blk_below (g := gb131) (o := .cells #[.string (⟨#[102, 97, 110]⟩ : ByteArray), .int .i64 2, .int .i64 2, .string (⟨#[]⟩ : ByteArray), .int .i64 0, .int .i64 0, .int .i64 0, .slice none 0 0, .int .i64 0, .int .i64 0, .int .i64 60, .int .i64 30] 26 (0, 0)) (by (with_reducible repeat (first | refine blk_drewN ?_ _ | refine blk_drew ?_ | refine blk_alloc ?_ _)); exact BK131.out) hb)
                    have n1_ := Aside0.mk (blk_below (g := gb134) (o := .cells #[.int .i64 t132, .int .i64 t133, .int .i64 100] 28 (0, 0)) (by (with_reducible repeat (first | refine blk_drewN ?_ _ | refine blk_drew ?_ | refine blk_alloc ?_ _)); exact BK134.out) hb)
                    have n2_ := Aside0.mk (blk_below (g := gb141) (o := .cells #[.int .i64 t137, .int .i64 t138, .int .i64 t139] 28 (0, 0)) (by (with_reducible repeat (first | refine blk_drewN ?_ _ | refine blk_drew ?_ | refine blk_alloc ?_ _)); exact BK141.out) hb)
                    have n3_ := Aside0.mk (below_step (by repeat (first | (with_reducible first | exact HB.out | apply below_alloc | apply pw_below_drewN | apply below_drew1 | refine below_set ?_ GE131.out | refine below_set ?_ GE134.out | refine below_set ?_ GE141.out) | exact HB.out)) hb)
                    have n4_ := Aside0.mk (hbox)
                    have n5_ := Aside0.mk ((by rw [hg]; exact (below_size (by repeat (first | (with_reducible first | exact HB.out | apply below_alloc | apply pw_below_drewN | apply below_drew1 | refine below_set ?_ GE131.out | refine below_set ?_ GE134.out | refine below_set ?_ GE141.out) | exact HB.out))) : w.heap.size ≤ gb148))
                    have n6_ := Aside0.mk ((by rw [hg]; exact (below_size (by repeat (first | (with_reducible first | exact HB.out | apply below_alloc | apply pw_below_drewN | apply below_drew1 | refine below_set ?_ GE131.out | refine below_set ?_ GE134.out | refine below_set ?_ GE141.out) | exact HB.out))) : w.heap.size ≤ gb148))
                    have n7_ := Aside0.mk ((by rw [hg]; exact Nat.ne_of_lt (blk_lt (g := gb131) (o := .cells #[.string (⟨#[102, 97, 110]⟩ : ByteArray), .int .i64 2, .int .i64 2, .string (⟨#[]⟩ : ByteArray), .int .i64 0, .int .i64 0, .int .i64 0, .slice none 0 0, .int .i64 0, .int .i64 0, .int .i64 60, .int .i64 30] 26 (0, 0)) (by (with_reducible repeat (first | refine blk_drewN ?_ _ | refine blk_drew ?_ | refine blk_alloc ?_ _)); exact BK131.out)) : gb131 ≠ gb148))
                    have n8_ := Aside0.mk ((by rw [hg]; exact Nat.ne_of_gt (blk_lt (g := gb131) (o := .cells #[.string (⟨#[102, 97, 110]⟩ : ByteArray), .int .i64 2, .int .i64 2, .string (⟨#[]⟩ : ByteArray), .int .i64 0, .int .i64 0, .int .i64 0, .slice none 0 0, .int .i64 0, .int .i64 0, .int .i64 60, .int .i64 30] 26 (0, 0)) (by (with_reducible repeat (first | refine blk_drewN ?_ _ | refine blk_drew ?_ | refine blk_alloc ?_ _)); exact BK131.out)) : gb148 ≠ gb131))
                    have n9_ := Aside0.mk ((by rw [hg]; exact Nat.ne_of_lt (blk_lt (g := gb134) (o := .cells #[.int .i64 t132, .int .i64 t133, .int .i64 100] 28 (0, 0)) (by (with_reducible repeat (first | refine blk_drewN ?_ _ | refine blk_drew ?_ | refine blk_alloc ?_ _)); exact BK134.out)) : gb134 ≠ gb148))
                    have n10_ := Aside0.mk ((by rw [hg]; exact Nat.ne_of_gt (blk_lt (g := gb134) (o := .cells #[.int .i64 t132, .int .i64 t133, .int .i64 100] 28 (0, 0)) (by (with_reducible repeat (first | refine blk_drewN ?_ _ | refine blk_drew ?_ | refine blk_alloc ?_ _)); exact BK134.out)) : gb148 ≠ gb134))
                    have n11_ := Aside0.mk ((by rw [hg]; exact Nat.ne_of_lt (blk_lt (g := gb141) (o := .cells #[.int .i64 t137, .int .i64 t138, .int .i64 t139] 28 (0, 0)) (by (with_reducible repeat (first | refine blk_drewN ?_ _ | refine blk_drew ?_ | refine blk_alloc ?_ _)); exact BK141.out)) : gb141 ≠ gb148))
                    have n12_ := Aside0.mk ((by rw [hg]; exact Nat.ne_of_gt (blk_lt (g := gb141) (o := .cells #[.int .i64 t137, .int .i64 t138, .int .i64 t139] 28 (0, 0)) (by (with_reducible repeat (first | refine blk_drewN ?_ _ | refine blk_drew ?_ | refine blk_alloc ?_ _)); exact BK141.out)) : gb148 ≠ gb141))
                    clear BK131
                    clear BK134
                    clear BK141
                    clear HB
                    have BK131 := n0_
                    have BK134 := n1_
                    have BK141 := n2_
                    have HB := n3_
                    have BK148 := n4_
                    have GW148 := n5_
                    have GE148 := n6_
                    have NB131_148 := n7_
                    have NB148_131 := n8_
                    have NB134_148 := n9_
                    have NB148_134 := n10_
                    have NB141_148 := n11_
                    have NB148_141 := n12_
                    clear n0_ n1_ n2_ n3_ n4_ n5_ n6_ n7_ n8_ n9_ n10_ n11_ n12_
                    clear hb hbox hg
                    refine hK.out _ _ ⟨(blk_cell BK131.out 0).trans rfl, (blk_cell BK131.out 1).trans rfl, (blk_cell BK131.out 2).trans rfl, (blk_cell BK131.out 3).trans rfl, (blk_cell BK131.out 4).trans rfl, (blk_cell BK131.out 5).trans rfl, (blk_cell BK131.out 6).trans rfl, (blk_cell BK131.out 7).trans rfl, (blk_cell BK131.out 8).trans rfl, (blk_cell BK131.out 9).trans rfl, (blk_cell BK131.out 10).trans rfl, (blk_cell BK131.out 11).trans rfl, (blk_cell BK134.out 0).trans rfl, (blk_cell BK134.out 1).trans rfl, (blk_cell BK134.out 2).trans rfl⟩ (fun hHeld => ?_)
                    clear hK K
                    refine norm_ (a' := ?_) ?_ ?_
                    rotate_left
                    · show Act.put _ (some 5) _ = _
                      simp only [Act.put, List.setIfInBounds_toArray, List.set_cons_zero, List.set_cons_succ, i64_w, i32_w]
                      rfl
                    refine one_ (i := 2) (N := some 23) #[true, true, true, false, false, false, false, false, true, false, false] rfl rfl (one_of HT_.out (by kernel_rfl)) (by decide) (fun K hK => ?_)
                    refine goes_ Try.func18 (by kernel_rfl) rfl #[.int .i64 0] (by rfl) rfl rfl (by (try simp only [List.map_toArray, List.map_cons, List.map_nil]); first | done | rfl | (simp only [List.length_drop, List.length_take]; rfl)) ?_
                    with_reducible refine (plenumlaw14_on.calls 0 t142 t143 _ A4.out).mono ?_
                    rintro e w37 ⟨rfl, hb⟩
                    refine ⟨_, rfl, ?_⟩
                    have n0_ := Aside0.mk (blk_below (g := gb131) (o := .cells #[.string (⟨#[102, 97, 110]⟩ : ByteArray), .int .i64 2, .int .i64 2, .string (⟨#[]⟩ : ByteArray), .int .i64 0, .int .i64 0, .int .i64 0, .slice none 0 0, .int .i64 0, .int .i64 0, .int .i64 60, .int .i64 30] 26 (0, 0)) (by (with_reducible repeat (first | refine blk_drewN ?_ _ | refine blk_drew ?_ | refine blk_alloc ?_ _)); exact BK131.out) hb)
                    have n1_ := Aside0.mk (blk_below (g := gb134) (o := .cells #[.int .i64 t132, .int .i64 t133, .int .i64 100] 28 (0, 0)) (by (with_reducible repeat (first | refine blk_drewN ?_ _ | refine blk_drew ?_ | refine blk_alloc ?_ _)); exact BK134.out) hb)
                    have n2_ := Aside0.mk (blk_below (g := gb141) (o := .cells #[.int .i64 t137, .int .i64 t138, .int .i64 t139] 28 (0, 0)) (by (with_reducible repeat (first | refine blk_drewN ?_ _ | refine blk_drew ?_ | refine blk_alloc ?_ _)); exact BK141.out) hb)
                    have n3_ := Aside0.mk (blk_below (g := gb148) (o := .cells #[.int .i64 0, .int .i64 0, .int .i64 0] 28 (0, 0)) (by (with_reducible repeat (first | refine blk_drewN ?_ _ | refine blk_drew ?_ | refine blk_alloc ?_ _)); exact BK148.out) hb)
                    have n4_ := Aside0.mk (below_step (by repeat (first | (with_reducible first | exact HB.out | apply below_alloc | apply pw_below_drewN | apply below_drew1 | refine below_set ?_ GE131.out | refine below_set ?_ GE134.out | refine below_set ?_ GE141.out | refine below_set ?_ GE148.out) | exact HB.out)) hb)
                    clear BK131
                    clear BK134
                    clear BK141
                    clear BK148
                    clear HB
                    have BK131 := n0_
                    have BK134 := n1_
                    have BK141 := n2_
                    have BK148 := n3_
                    have HB := n4_
                    clear n0_ n1_ n2_ n3_ n4_
                    (try clear hb)
                    (try clear hb2)
                    (try clear hk)
                    (try clear hi)
                    refine hK.out _ _ ⟨(blk_cell BK131.out 0).trans rfl, (blk_cell BK131.out 1).trans rfl, (blk_cell BK131.out 2).trans rfl, (blk_cell BK131.out 3).trans rfl, (blk_cell BK131.out 4).trans rfl, (blk_cell BK131.out 5).trans rfl, (blk_cell BK131.out 6).trans rfl, (blk_cell BK131.out 7).trans rfl, (blk_cell BK131.out 8).trans rfl, (blk_cell BK131.out 9).trans rfl, (blk_cell BK131.out 10).trans rfl, (blk_cell BK131.out 11).trans rfl, (blk_cell BK134.out 0).trans rfl, (blk_cell BK134.out 1).trans rfl, (blk_cell BK134.out 2).trans rfl⟩ (fun hHeld => ?_)
                    clear hK K
                    refine norm_ (a' := ?_) ?_ ?_
                    rotate_left
                    · show Act.put _ (some 23) _ = _
                      simp only [Act.put, List.setIfInBounds_toArray, List.set_cons_zero, List.set_cons_succ, i64_w, i32_w]
                      rfl
                    refine pure_ (i := 3) (N := some 24) (v := ?_) (a' := ?_) #[true, true, true, true, false, false, false, false, true, false, false] rfl rfl (any_of HT_.out (by kernel_rfl)) (fun _ _ _ h => h) (Or.inl ⟨by rfl, ?_⟩) ?_ ?_
                    rotate_left
                    · intro w'
                      go_simp
                      with_reducible rfl
                    rotate_left
                    · simp only [Act.put, List.setIfInBounds_toArray, List.set_cons_zero, List.set_cons_succ, i64_w, i32_w]
                      rfl
                    refine one_ (i := 4) (N := some 25) #[true, true, true, true, true, false, false, false, true, false, false] rfl rfl (one_of HT_.out (by kernel_rfl)) (by decide) (fun K hK => ?_)
                    refine goes_ Try.func10 (by kernel_rfl) rfl #[.agg #[.string (⟨#[102, 97, 110]⟩ : ByteArray), .int .i64 2, .int .i64 2, .string (⟨#[]⟩ : ByteArray), .int .i64 0, .int .i64 0, .int .i64 0, .slice none 0 0, .int .i64 0, .int .i64 0, .int .i64 60, .int .i64 30], .agg #[.int .i64 t132, .int .i64 t133, .int .i64 100], .agg #[.int .i64 8, .int .i64 t142, .int .i64 t143], .int .i64 160] (by rfl) rfl rfl (by (try simp only [List.map_toArray, List.map_cons, List.map_nil]); first | done | rfl | (simp only [List.length_drop, List.length_take]; rfl)) ?_
                    refine (minimum_Next.calls k (⟨#[102, 97, 110]⟩ : ByteArray) 2 2 (⟨#[]⟩ : ByteArray) 0 0 0 _ _ ([] : List ByteArray) 0 0 60 30 t132 t133 100 8 t142 t143 160 t144 t145 t146 t147 _ ?side1 ?side2 A5.out).mono ?_
                    (case side1 => exact Kd.C_nil _ _)
                    (case side2 => exact Nat.le_refl _)
                    rintro e w38 ⟨rfl, hb⟩
                    refine ⟨_, rfl, ?_⟩
                    have n0_ := Aside0.mk (blk_below (g := gb131) (o := .cells #[.string (⟨#[102, 97, 110]⟩ : ByteArray), .int .i64 2, .int .i64 2, .string (⟨#[]⟩ : ByteArray), .int .i64 0, .int .i64 0, .int .i64 0, .slice none 0 0, .int .i64 0, .int .i64 0, .int .i64 60, .int .i64 30] 26 (0, 0)) (by (with_reducible repeat (first | refine blk_drewN ?_ _ | refine blk_drew ?_ | refine blk_alloc ?_ _)); exact BK131.out) hb)
                    have n1_ := Aside0.mk (blk_below (g := gb134) (o := .cells #[.int .i64 t132, .int .i64 t133, .int .i64 100] 28 (0, 0)) (by (with_reducible repeat (first | refine blk_drewN ?_ _ | refine blk_drew ?_ | refine blk_alloc ?_ _)); exact BK134.out) hb)
                    have n2_ := Aside0.mk (blk_below (g := gb141) (o := .cells #[.int .i64 t137, .int .i64 t138, .int .i64 t139] 28 (0, 0)) (by (with_reducible repeat (first | refine blk_drewN ?_ _ | refine blk_drew ?_ | refine blk_alloc ?_ _)); exact BK141.out) hb)
                    have n3_ := Aside0.mk (blk_below (g := gb148) (o := .cells #[.int .i64 0, .int .i64 0, .int .i64 0] 28 (0, 0)) (by (with_reducible repeat (first | refine blk_drewN ?_ _ | refine blk_drew ?_ | refine blk_alloc ?_ _)); exact BK148.out) hb)
                    have n4_ := Aside0.mk (below_step (by repeat (first | (with_reducible first | exact HB.out | apply below_alloc | apply pw_below_drewN | apply below_drew1 | refine below_set ?_ GE131.out | refine below_set ?_ GE134.out | refine below_set ?_ GE141.out | refine below_set ?_ GE148.out) | exact HB.out)) hb)
                    clear BK131
                    clear BK134
                    clear BK141
                    clear BK148
                    clear HB
                    have BK131 := n0_
                    have BK134 := n1_
                    have BK141 := n2_
                    have BK148 := n3_
                    have HB := n4_
                    clear n0_ n1_ n2_ n3_ n4_
                    (try clear hb)
                    (try clear hb2)
                    (try clear hk)
                    (try clear hi)
                    refine hK.out _ _ ⟨(blk_cell BK131.out 0).trans rfl, (blk_cell BK131.out 1).trans rfl, (blk_cell BK131.out 2).trans rfl, (blk_cell BK131.out 3).trans rfl, (blk_cell BK131.out 4).trans rfl, (blk_cell BK131.out 5).trans rfl, (blk_cell BK131.out 6).trans rfl, (blk_cell BK131.out 7).trans rfl, (blk_cell BK131.out 8).trans rfl, (blk_cell BK131.out 9).trans rfl, (blk_cell BK131.out 10).trans rfl, (blk_cell BK131.out 11).trans rfl, (blk_cell BK134.out 0).trans rfl, (blk_cell BK134.out 1).trans rfl, (blk_cell BK134.out 2).trans rfl⟩ (fun hHeld => ?_)
                    clear hK K
                    refine norm_ (a' := ?_) ?_ ?_
                    rotate_left
                    · show Act.put _ (some 25) _ = _
                      simp only [Act.put, List.setIfInBounds_toArray, List.set_cons_zero, List.set_cons_succ, i64_w, i32_w]
                      rfl
                    refine pure_ (i := 5) (N := some 20) (v := ?_) (a' := ?_) #[true, true, true, true, true, true, false, false, true, false, false] rfl rfl (any_of HT_.out (by kernel_rfl)) (fun _ _ _ h => h) (Or.inl ⟨by rfl, ?_⟩) ?_ ?_
                    rotate_left
                    · intro w'
                      go_simp
                      with_reducible rfl
                    rotate_left
                    · simp only [Act.put, List.setIfInBounds_toArray, List.set_cons_zero, List.set_cons_succ, i64_w, i32_w]
                      rfl
                    refine pure_ (i := 6) (N := some 26) (v := ?_) (a' := ?_) #[true, true, true, true, true, true, true, false, true, false, false] rfl rfl (any_of HT_.out (by kernel_rfl)) (fun _ _ _ h => h) (Or.inl ⟨by rfl, ?_⟩) ?_ ?_
                    rotate_left
                    · intro w'
                      go_simp
                      with_reducible rfl
                    rotate_left
                    · simp only [Act.put, List.setIfInBounds_toArray, List.set_cons_zero, List.set_cons_succ, i64_w, i32_w]
                      rfl
                    refine pure_ (i := 7) (N := some 27) (v := ?_) (a' := ?_) #[true, true, true, true, true, true, true, true, true, false, false] rfl rfl (any_of HT_.out (by kernel_rfl)) (fun _ _ _ h => h) (Or.inl ⟨by rfl, ?_⟩) ?_ ?_
                    rotate_left
                    · intro w'
                      go_simp
                      with_reducible rfl
                    rotate_left
                    · simp only [Act.put, List.setIfInBounds_toArray, List.set_cons_zero, List.set_cons_succ, i64_w, i32_w]
                      rfl
                    exact norm_ (by simp only [putAll, Act.put, List.setIfInBounds_toArray, List.set_cons_zero, List.set_cons_succ]) (hCont (gb148) _ ⟨hHeld, (by (with_reducible repeat (first | refine blk_drewN ?_ _ | refine blk_drew ?_ | refine blk_alloc ?_ _)); exact BK131.out), (by (with_reducible repeat (first | refine blk_drewN ?_ _ | refine blk_drew ?_ | refine blk_alloc ?_ _)); exact BK134.out), (by (with_reducible repeat (first | refine blk_drewN ?_ _ | refine blk_drew ?_ | refine blk_alloc ?_ _)); exact BK141.out), (by (with_reducible repeat (first | refine blk_drewN ?_ _ | refine blk_drew ?_ | refine blk_alloc ?_ _)); exact BK148.out), GW148.out, GE148.out, NB131_148.out, NB148_131.out, NB134_148.out, NB148_134.out, NB141_148.out, NB148_141.out, (by repeat (first | (with_reducible first | exact HB.out | apply below_alloc | apply pw_below_drewN | apply below_drew1 | refine below_set ?_ GE131.out | refine below_set ?_ GE134.out | refine below_set ?_ GE141.out | refine below_set ?_ GE148.out) | exact HB.out))⟩)
                rintro gb148 w39 ⟨hS_, h0_, h1_, h2_, h3_, h4_, h5_, h6_, h7_, h8_, h9_, h10_, h11_, h12_⟩
                have n0_ : Aside0 (w39.heap[gb131]? = some (.cells #[.string (⟨#[102, 97, 110]⟩ : ByteArray), .int .i64 2, .int .i64 2, .string (⟨#[]⟩ : ByteArray), .int .i64 0, .int .i64 0, .int .i64 0, .slice none 0 0, .int .i64 0, .int .i64 0, .int .i64 60, .int .i64 30] 26 (0, 0))) := ⟨h0_⟩
                have n1_ : Aside0 (w39.heap[gb134]? = some (.cells #[.int .i64 t132, .int .i64 t133, .int .i64 100] 28 (0, 0))) := ⟨h1_⟩
                have n2_ : Aside0 (w39.heap[gb141]? = some (.cells #[.int .i64 t137, .int .i64 t138, .int .i64 t139] 28 (0, 0))) := ⟨h2_⟩
                have n3_ : Aside0 (w39.heap[gb148]? = some (.cells #[.int .i64 0, .int .i64 0, .int .i64 0] 28 (0, 0))) := ⟨h3_⟩
                have n4_ : Aside0 (w.heap.size ≤ gb148) := ⟨h4_⟩
                have n5_ : Aside0 (w.heap.size ≤ gb148) := ⟨h5_⟩
                have n6_ : Aside0 (gb131 ≠ gb148) := ⟨h6_⟩
                have n7_ : Aside0 (gb148 ≠ gb131) := ⟨h7_⟩
                have n8_ : Aside0 (gb134 ≠ gb148) := ⟨h8_⟩
                have n9_ : Aside0 (gb148 ≠ gb134) := ⟨h9_⟩
                have n10_ : Aside0 (gb141 ≠ gb148) := ⟨h10_⟩
                have n11_ : Aside0 (gb148 ≠ gb141) := ⟨h11_⟩
                have n12_ : Aside0 (Below w.heap.size w w39) := ⟨h12_⟩
                clear BK131
                clear BK134
                clear BK141
                clear HB
                clear h0_ h1_ h2_ h3_ h4_ h5_ h6_ h7_ h8_ h9_ h10_ h11_ h12_
                have BK131 := n0_
                have BK134 := n1_
                have BK141 := n2_
                have BK148 := n3_
                have GW148 := n4_
                have GE148 := n5_
                have NB131_148 := n6_
                have NB148_131 := n7_
                have NB134_148 := n8_
                have NB148_134 := n9_
                have NB141_148 := n10_
                have NB148_141 := n11_
                have HB := n12_
                clear n0_ n1_ n2_ n3_ n4_ n5_ n6_ n7_ n8_ n9_ n10_ n11_ n12_
                have hHeld : w39.cell? ⟨gb131, 0, none⟩ = some (.string (⟨#[102, 97, 110]⟩ : ByteArray)) ∧ w39.cell? ⟨gb131, 1, none⟩ = some (.int .i64 2) ∧ w39.cell? ⟨gb131, 2, none⟩ = some (.int .i64 2) ∧ w39.cell? ⟨gb131, 3, none⟩ = some (.string (⟨#[]⟩ : ByteArray)) ∧ w39.cell? ⟨gb131, 4, none⟩ = some (.int .i64 0) ∧ w39.cell? ⟨gb131, 5, none⟩ = some (.int .i64 0) ∧ w39.cell? ⟨gb131, 6, none⟩ = some (.int .i64 0) ∧ w39.cell? ⟨gb131, 7, none⟩ = some (.slice none 0 0) ∧ w39.cell? ⟨gb131, 8, none⟩ = some (.int .i64 0) ∧ w39.cell? ⟨gb131, 9, none⟩ = some (.int .i64 0) ∧ w39.cell? ⟨gb131, 10, none⟩ = some (.int .i64 60) ∧ w39.cell? ⟨gb131, 11, none⟩ = some (.int .i64 30) ∧ w39.cell? ⟨gb134, 0, none⟩ = some (.int .i64 t132) ∧ w39.cell? ⟨gb134, 1, none⟩ = some (.int .i64 t133) ∧ w39.cell? ⟨gb134, 2, none⟩ = some (.int .i64 100) := hS_
                refine norm_ (a' := ?_) ?_ ?_
                rotate_left
                · simp only [putAll, Act.put, List.setIfInBounds_toArray, List.set_cons_zero, List.set_cons_succ]
                  rfl
                refine one_ (i := 9) (N := none) #[true, true, true, true, true, true, true, true, true, true, false] rfl rfl (one_of HT_.out (by kernel_rfl)) (by decide) (fun K hK => ?_)
                have hs40 : w39.cell? ⟨gb148, 0, none⟩ = some (.int .i64 0) := (blk_cell BK148.out 0).trans rfl
                have hfs40 := blk_frozen BK148.out 0
                have hns40_0 := NB131_148.out
                have hns40_1 := NB134_148.out
                have hns40_2 := NB141_148.out
                have hms40_0 := NB148_131.out
                have hms40_1 := NB148_134.out
                have hms40_2 := NB148_141.out
                have hs41 : w39.cell? ⟨gb148, 1, none⟩ = some (.int .i64 0) := (blk_cell BK148.out 1).trans rfl
                have hfs41 := blk_frozen BK148.out 1
                have hns41_0 := NB131_148.out
                have hns41_1 := NB134_148.out
                have hns41_2 := NB141_148.out
                have hms41_0 := NB148_131.out
                have hms41_1 := NB148_134.out
                have hms41_2 := NB148_141.out
                have hs42 : w39.cell? ⟨gb148, 2, none⟩ = some (.int .i64 0) := (blk_cell BK148.out 2).trans rfl
                have hfs42 := blk_frozen BK148.out 2
                have hns42_0 := NB131_148.out
                have hns42_1 := NB134_148.out
                have hns42_2 := NB141_148.out
                have hms42_0 := NB148_131.out
                have hms42_1 := NB148_134.out
                have hms42_2 := NB148_141.out
                refine skip_ (w1 := ?_) (by rfl) rfl ?_ ?_
                rotate_left
                · go_simp
                  rfl
                refine hK.out _ _ ⟨((cell_far (p := ⟨gb148, _, none⟩) NB131_148.out _).trans (((cell_far (p := ⟨gb148, _, none⟩) NB131_148.out _).trans (((cell_far (p := ⟨gb148, _, none⟩) NB131_148.out _).trans (hHeld.1)))))), ((cell_far (p := ⟨gb148, _, none⟩) NB131_148.out _).trans (((cell_far (p := ⟨gb148, _, none⟩) NB131_148.out _).trans (((cell_far (p := ⟨gb148, _, none⟩) NB131_148.out _).trans (hHeld.2.1)))))), ((cell_far (p := ⟨gb148, _, none⟩) NB131_148.out _).trans (((cell_far (p := ⟨gb148, _, none⟩) NB131_148.out _).trans (((cell_far (p := ⟨gb148, _, none⟩) NB131_148.out _).trans (hHeld.2.2.1)))))), ((cell_far (p := ⟨gb148, _, none⟩) NB131_148.out _).trans (((cell_far (p := ⟨gb148, _, none⟩) NB131_148.out _).trans (((cell_far (p := ⟨gb148, _, none⟩) NB131_148.out _).trans (hHeld.2.2.2.1)))))), ((cell_far (p := ⟨gb148, _, none⟩) NB131_148.out _).trans (((cell_far (p := ⟨gb148, _, none⟩) NB131_148.out _).trans (((cell_far (p := ⟨gb148, _, none⟩) NB131_148.out _).trans (hHeld.2.2.2.2.1)))))), ((cell_far (p := ⟨gb148, _, none⟩) NB131_148.out _).trans (((cell_far (p := ⟨gb148, _, none⟩) NB131_148.out _).trans (((cell_far (p := ⟨gb148, _, none⟩) NB131_148.out _).trans (hHeld.2.2.2.2.2.1)))))), ((cell_far (p := ⟨gb148, _, none⟩) NB131_148.out _).trans (((cell_far (p := ⟨gb148, _, none⟩) NB131_148.out _).trans (((cell_far (p := ⟨gb148, _, none⟩) NB131_148.out _).trans (hHeld.2.2.2.2.2.2.1)))))), ((cell_far (p := ⟨gb148, _, none⟩) NB131_148.out _).trans (((cell_far (p := ⟨gb148, _, none⟩) NB131_148.out _).trans (((cell_far (p := ⟨gb148, _, none⟩) NB131_148.out _).trans (hHeld.2.2.2.2.2.2.2.1)))))), ((cell_far (p := ⟨gb148, _, none⟩) NB131_148.out _).trans (((cell_far (p := ⟨gb148, _, none⟩) NB131_148.out _).trans (((cell_far (p := ⟨gb148, _, none⟩) NB131_148.out _).trans (hHeld.2.2.2.2.2.2.2.2.1)))))), ((cell_far (p := ⟨gb148, _, none⟩) NB131_148.out _).trans (((cell_far (p := ⟨gb148, _, none⟩) NB131_148.out _).trans (((cell_far (p := ⟨gb148, _, none⟩) NB131_148.out _).trans (hHeld.2.2.2.2.2.2.2.2.2.1)))))), ((cell_far (p := ⟨gb148, _, none⟩) NB131_148.out _).trans (((cell_far (p := ⟨gb148, _, none⟩) NB131_148.out _).trans (((cell_far (p := ⟨gb148, _, none⟩) NB131_148.out _).trans (hHeld.2.2.2.2.2.2.2.2.2.2.1)))))), ((cell_far (p := ⟨gb148, _, none⟩) NB131_148.out _).trans (((cell_far (p := ⟨gb148, _, none⟩) NB131_148.out _).trans (((cell_far (p := ⟨gb148, _, none⟩) NB131_148.out _).trans (hHeld.2.2.2.2.2.2.2.2.2.2.2.1)))))), ((cell_far (p := ⟨gb148, _, none⟩) NB134_148.out _).trans (((cell_far (p := ⟨gb148, _, none⟩) NB134_148.out _).trans (((cell_far (p := ⟨gb148, _, none⟩) NB134_148.out _).trans (hHeld.2.2.2.2.2.2.2.2.2.2.2.2.1)))))), ((cell_far (p := ⟨gb148, _, none⟩) NB134_148.out _).trans (((cell_far (p := ⟨gb148, _, none⟩) NB134_148.out _).trans (((cell_far (p := ⟨gb148, _, none⟩) NB134_148.out _).trans (hHeld.2.2.2.2.2.2.2.2.2.2.2.2.2.1)))))), ((cell_far (p := ⟨gb148, _, none⟩) NB134_148.out _).trans (((cell_far (p := ⟨gb148, _, none⟩) NB134_148.out _).trans (((cell_far (p := ⟨gb148, _, none⟩) NB134_148.out _).trans (hHeld.2.2.2.2.2.2.2.2.2.2.2.2.2.2))))))⟩ (fun hHeld => ?_)
                clear hK K
                refine pure_ (i := 10) (N := some 6) (v := ?_) (a' := ?_) #[true, true, true, true, true, true, true, true, true, true, true] rfl rfl (any_of HT_.out (by kernel_rfl)) (fun _ _ _ h => h) (Or.inl ⟨by rfl, ?_⟩) ?_ ?_
                rotate_left
                · intro w'
                  go_simp
                  with_reducible rfl
                rotate_left
                · simp only [Act.put, List.setIfInBounds_toArray, List.set_cons_zero, List.set_cons_succ, i64_w, i32_w]
                  rfl
                refine done_ (done_of HT_.out (by kernel_rfl)) ?_
                try go_wp2
                have n0_ : Aside0 ((((w39.setCell ⟨gb148, 0, none⟩ (.int .i64 t144)).setCell ⟨gb148, 1, none⟩ (.int .i64 t145)).setCell ⟨gb148, 2, none⟩ (.int .i64 t146)).heap[gb131]? = some (.cells #[.string (⟨#[102, 97, 110]⟩ : ByteArray), .int .i64 2, .int .i64 2, .string (⟨#[]⟩ : ByteArray), .int .i64 0, .int .i64 0, .int .i64 0, .slice none 0 0, .int .i64 0, .int .i64 0, .int .i64 60, .int .i64 30] 26 (0, 0))) := ⟨by (with_reducible repeat (first | refine blk_drewN ?_ _ | refine blk_drew ?_ | refine blk_alloc ?_ _)); refine blk_far ?_ NB131_148.out _; (with_reducible repeat (first | refine blk_drewN ?_ _ | refine blk_drew ?_ | refine blk_alloc ?_ _)); refine blk_far ?_ NB131_148.out _; (with_reducible repeat (first | refine blk_drewN ?_ _ | refine blk_drew ?_ | refine blk_alloc ?_ _)); refine blk_far ?_ NB131_148.out _; (with_reducible repeat (first | refine blk_drewN ?_ _ | refine blk_drew ?_ | refine blk_alloc ?_ _)); exact BK131.out⟩
                have n1_ : Aside0 ((((w39.setCell ⟨gb148, 0, none⟩ (.int .i64 t144)).setCell ⟨gb148, 1, none⟩ (.int .i64 t145)).setCell ⟨gb148, 2, none⟩ (.int .i64 t146)).heap[gb134]? = some (.cells #[.int .i64 t132, .int .i64 t133, .int .i64 100] 28 (0, 0))) := ⟨by (with_reducible repeat (first | refine blk_drewN ?_ _ | refine blk_drew ?_ | refine blk_alloc ?_ _)); refine blk_far ?_ NB134_148.out _; (with_reducible repeat (first | refine blk_drewN ?_ _ | refine blk_drew ?_ | refine blk_alloc ?_ _)); refine blk_far ?_ NB134_148.out _; (with_reducible repeat (first | refine blk_drewN ?_ _ | refine blk_drew ?_ | refine blk_alloc ?_ _)); refine blk_far ?_ NB134_148.out _; (with_reducible repeat (first | refine blk_drewN ?_ _ | refine blk_drew ?_ | refine blk_alloc ?_ _)); exact BK134.out⟩
                have n2_ : Aside0 ((((w39.setCell ⟨gb148, 0, none⟩ (.int .i64 t144)).setCell ⟨gb148, 1, none⟩ (.int .i64 t145)).setCell ⟨gb148, 2, none⟩ (.int .i64 t146)).heap[gb141]? = some (.cells #[.int .i64 t137, .int .i64 t138, .int .i64 t139] 28 (0, 0))) := ⟨by (with_reducible repeat (first | refine blk_drewN ?_ _ | refine blk_drew ?_ | refine blk_alloc ?_ _)); refine blk_far ?_ NB141_148.out _; (with_reducible repeat (first | refine blk_drewN ?_ _ | refine blk_drew ?_ | refine blk_alloc ?_ _)); refine blk_far ?_ NB141_148.out _; (with_reducible repeat (first | refine blk_drewN ?_ _ | refine blk_drew ?_ | refine blk_alloc ?_ _)); refine blk_far ?_ NB141_148.out _; (with_reducible repeat (first | refine blk_drewN ?_ _ | refine blk_drew ?_ | refine blk_alloc ?_ _)); exact BK141.out⟩
                have n3_ : Aside0 ((((w39.setCell ⟨gb148, 0, none⟩ (.int .i64 t144)).setCell ⟨gb148, 1, none⟩ (.int .i64 t145)).setCell ⟨gb148, 2, none⟩ (.int .i64 t146)).heap[gb148]? = some (.cells #[.int .i64 t144, .int .i64 t145, .int .i64 t146] 28 (0, 0))) := ⟨by (with_reducible repeat (first | refine blk_drewN ?_ _ | refine blk_drew ?_ | refine blk_alloc ?_ _)); refine blk_put (cs := #[.int .i64 t144, .int .i64 t145, .int .i64 0]) ?_ 2 _ rfl; (with_reducible repeat (first | refine blk_drewN ?_ _ | refine blk_drew ?_ | refine blk_alloc ?_ _)); refine blk_put (cs := #[.int .i64 t144, .int .i64 0, .int .i64 0]) ?_ 1 _ rfl; (with_reducible repeat (first | refine blk_drewN ?_ _ | refine blk_drew ?_ | refine blk_alloc ?_ _)); refine blk_put (cs := #[.int .i64 0, .int .i64 0, .int .i64 0]) ?_ 0 _ rfl; (with_reducible repeat (first | refine blk_drewN ?_ _ | refine blk_drew ?_ | refine blk_alloc ?_ _)); exact BK148.out⟩
                have n4_ : Aside0 (Below w.heap.size w (((w39.setCell ⟨gb148, 0, none⟩ (.int .i64 t144)).setCell ⟨gb148, 1, none⟩ (.int .i64 t145)).setCell ⟨gb148, 2, none⟩ (.int .i64 t146))) := ⟨by repeat (first | (with_reducible first | exact HB.out | apply below_alloc | apply pw_below_drewN | apply below_drew1 | refine below_set ?_ GE131.out | refine below_set ?_ GE134.out | refine below_set ?_ GE141.out | refine below_set ?_ GE148.out) | exact HB.out)⟩
                (try clear BK131)
                (try clear BK134)
                (try clear BK141)
                (try clear BK148)
                (try clear HB)
                generalize (((w39.setCell ⟨gb148, 0, none⟩ (.int .i64 t144)).setCell ⟨gb148, 1, none⟩ (.int .i64 t145)).setCell ⟨gb148, 2, none⟩ (.int .i64 t146)) = w43 at n0_ n1_ n2_ n3_ n4_ ⊢
                have BK131 := n0_
                have BK134 := n1_
                have BK141 := n2_
                have BK148 := n3_
                have HB := n4_
                clear n0_ n1_ n2_ n3_ n4_
                have n0_ := Aside0.mk (blk_drew BK131.out)
                have n1_ := Aside0.mk (blk_drew BK134.out)
                have n2_ := Aside0.mk (blk_drew BK141.out)
                have n3_ := Aside0.mk (blk_drew BK148.out)
                have n4_ := Aside0.mk (below_drew1 HB.out)
                clear BK131
                clear BK134
                clear BK141
                clear BK148
                clear HB
                have BK131 := n0_
                have BK134 := n1_
                have BK141 := n2_
                have BK148 := n3_
                have HB := n4_
                clear n0_ n1_ n2_ n3_ n4_
                refine start_ (n := 11) (S := fun w' => w'.cell? ⟨gb131, 0, none⟩ = some (.string (⟨#[102, 97, 110]⟩ : ByteArray)) ∧ w'.cell? ⟨gb131, 1, none⟩ = some (.int .i64 2) ∧ w'.cell? ⟨gb131, 2, none⟩ = some (.int .i64 2) ∧ w'.cell? ⟨gb131, 3, none⟩ = some (.string (⟨#[]⟩ : ByteArray)) ∧ w'.cell? ⟨gb131, 4, none⟩ = some (.int .i64 0) ∧ w'.cell? ⟨gb131, 5, none⟩ = some (.int .i64 0) ∧ w'.cell? ⟨gb131, 6, none⟩ = some (.int .i64 0) ∧ w'.cell? ⟨gb131, 7, none⟩ = some (.slice none 0 0) ∧ w'.cell? ⟨gb131, 8, none⟩ = some (.int .i64 0) ∧ w'.cell? ⟨gb131, 9, none⟩ = some (.int .i64 0) ∧ w'.cell? ⟨gb131, 10, none⟩ = some (.int .i64 60) ∧ w'.cell? ⟨gb131, 11, none⟩ = some (.int .i64 30) ∧ w'.cell? ⟨gb134, 0, none⟩ = some (.int .i64 t132) ∧ w'.cell? ⟨gb134, 1, none⟩ = some (.int .i64 t133) ∧ w'.cell? ⟨gb134, 2, none⟩ = some (.int .i64 100)) (ds := []) #[false, false, false, false, false, false, false, false, false, false, false] (by kernel_rfl) rfl rfl ⟨(blk_cell BK131.out 0).trans rfl, (blk_cell BK131.out 1).trans rfl, (blk_cell BK131.out 2).trans rfl, (blk_cell BK131.out 3).trans rfl, (blk_cell BK131.out 4).trans rfl, (blk_cell BK131.out 5).trans rfl, (blk_cell BK131.out 6).trans rfl, (blk_cell BK131.out 7).trans rfl, (blk_cell BK131.out 8).trans rfl, (blk_cell BK131.out 9).trans rfl, (blk_cell BK131.out 10).trans rfl, (blk_cell BK131.out 11).trans rfl, (blk_cell BK134.out 0).trans rfl, (blk_cell BK134.out 1).trans rfl, (blk_cell BK134.out 2).trans rfl⟩ (fun hHeld => ?_); refine with_tabW plenumlaw14_awake.tab5 plenumlaw14_awake.bits5 (fun HT_ HW_ => ?_)
                generalize w43.drew = w44 at BK131 BK134 BK141 BK148 HB hHeld ⊢
                refine take_ (i := 0) (N := some 29) (v := ?_) (a' := ?_) #[true, false, false, false, false, false, false, false, false, false, false] rfl rfl (take_ofW HT_.out HW_.out (by kernel_rfl)) (fun _ _ _ h => h) (Or.inl ⟨by rfl, ?_⟩) hHeld ?_ ?_
                rotate_left
                · rintro w' ⟨s0, s1, s2, s3, s4, s5, s6, s7, s8, s9, s10, s11, s12, s13, s14⟩
                  go_simp
                  with_reducible rfl
                rotate_left
                · simp only [Act.put, List.setIfInBounds_toArray, List.set_cons_zero, List.set_cons_succ, i64_w, i32_w]
                  rfl
                refine take_ (i := 1) (N := some 30) (v := ?_) (a' := ?_) #[true, true, false, false, false, false, false, false, false, false, false] rfl rfl (take_ofW HT_.out HW_.out (by kernel_rfl)) (fun _ _ _ h => h) (Or.inl ⟨by rfl, ?_⟩) hHeld ?_ ?_
                rotate_left
                · rintro w' ⟨s0, s1, s2, s3, s4, s5, s6, s7, s8, s9, s10, s11, s12, s13, s14⟩
                  go_simp
                  with_reducible rfl
                rotate_left
                · simp only [Act.put, List.setIfInBounds_toArray, List.set_cons_zero, List.set_cons_succ, i64_w, i32_w]
                  rfl
                refine join_ (σ := Nat) 2 #[true, true, true, true, true, true, true, true, true, false, false] (fun s_ => [(31, .agg #[.int .i64 t149, .int .i64 t150]), (33, .tuple #[.agg #[.int .i64 t151, .int .i64 t152], .int .i64 t153]), (7, .pointer (some ⟨s_, 0, none⟩)), (32, .agg #[.int .i64 3, .int .i64 t149, .int .i64 t150]), (28, .tuple #[.agg #[.int .i64 t151, .int .i64 t152], .int .i64 t153]), (34, .agg #[.int .i64 t151, .int .i64 t152]), (35, .int .i64 t153)]) (fun s_ w' => (w'.cell? ⟨gb131, 0, none⟩ = some (.string (⟨#[102, 97, 110]⟩ : ByteArray)) ∧ w'.cell? ⟨gb131, 1, none⟩ = some (.int .i64 2) ∧ w'.cell? ⟨gb131, 2, none⟩ = some (.int .i64 2) ∧ w'.cell? ⟨gb131, 3, none⟩ = some (.string (⟨#[]⟩ : ByteArray)) ∧ w'.cell? ⟨gb131, 4, none⟩ = some (.int .i64 0) ∧ w'.cell? ⟨gb131, 5, none⟩ = some (.int .i64 0) ∧ w'.cell? ⟨gb131, 6, none⟩ = some (.int .i64 0) ∧ w'.cell? ⟨gb131, 7, none⟩ = some (.slice none 0 0) ∧ w'.cell? ⟨gb131, 8, none⟩ = some (.int .i64 0) ∧ w'.cell? ⟨gb131, 9, none⟩ = some (.int .i64 0) ∧ w'.cell? ⟨gb131, 10, none⟩ = some (.int .i64 60) ∧ w'.cell? ⟨gb131, 11, none⟩ = some (.int .i64 30) ∧ w'.cell? ⟨gb134, 0, none⟩ = some (.int .i64 t132) ∧ w'.cell? ⟨gb134, 1, none⟩ = some (.int .i64 t133) ∧ w'.cell? ⟨gb134, 2, none⟩ = some (.int .i64 100)) ∧ (w'.heap[gb131]? = some (.cells #[.string (⟨#[102, 97, 110]⟩ : ByteArray), .int .i64 2, .int .i64 2, .string (⟨#[]⟩ : ByteArray), .int .i64 0, .int .i64 0, .int .i64 0, .slice none 0 0, .int .i64 0, .int .i64 0, .int .i64 60, .int .i64 30] 26 (0, 0))) ∧ (w'.heap[gb134]? = some (.cells #[.int .i64 t132, .int .i64 t133, .int .i64 100] 28 (0, 0))) ∧ (w'.heap[gb141]? = some (.cells #[.int .i64 t137, .int .i64 t138, .int .i64 t139] 28 (0, 0))) ∧ (w'.heap[gb148]? = some (.cells #[.int .i64 t144, .int .i64 t145, .int .i64 t146] 28 (0, 0))) ∧ (w'.heap[s_]? = some (.cells #[.int .i64 0, .int .i64 0] 24 (0, 0))) ∧ (w.heap.size ≤ s_) ∧ (w.heap.size ≤ s_) ∧ (gb131 ≠ s_) ∧ (s_ ≠ gb131) ∧ (gb134 ≠ s_) ∧ (s_ ≠ gb134) ∧ (gb141 ≠ s_) ∧ (s_ ≠ gb141) ∧ (gb148 ≠ s_) ∧ (s_ ≠ gb148) ∧ (Below w.heap.size w w')) ?_ ?_
                rotate_left
                · intro hCont
                  refine two_ (i := 2) (j := 8) (Ni := some 31) (Nj := some 7) #[true, true, true, false, false, false, false, false, false, false, false] #[true, true, false, false, false, false, false, false, true, false, false] rfl rfl rfl rfl (two_of HT_.out (by kernel_rfl)) (by decide) (by decide) (fun K hK => ?_) (fun K hK => ?_)
                  · skip
                    refine goes_ Try.func18 (by kernel_rfl) rfl #[.int .i64 0] (by rfl) rfl rfl (by (try simp only [List.map_toArray, List.map_cons, List.map_nil]); first | done | rfl | (simp only [List.length_drop, List.length_take]; rfl)) ?_
                    with_reducible refine (plenumlaw14_on.calls 0 t149 t150 _ A6.out).mono ?_
                    rintro e w45 ⟨rfl, hb⟩
                    refine ⟨_, rfl, ?_⟩
                    have n0_ := Aside0.mk (blk_below (g := gb131) (o := .cells #[.string (⟨#[102, 97, 110]⟩ : ByteArray), .int .i64 2, .int .i64 2, .string (⟨#[]⟩ : ByteArray), .int .i64 0, .int .i64 0, .int .i64 0, .slice none 0 0, .int .i64 0, .int .i64 0, .int .i64 60, .int .i64 30] 26 (0, 0)) (by (with_reducible repeat (first | refine blk_drewN ?_ _ | refine blk_drew ?_ | refine blk_alloc ?_ _)); exact BK131.out) hb)
                    have n1_ := Aside0.mk (blk_below (g := gb134) (o := .cells #[.int .i64 t132, .int .i64 t133, .int .i64 100] 28 (0, 0)) (by (with_reducible repeat (first | refine blk_drewN ?_ _ | refine blk_drew ?_ | refine blk_alloc ?_ _)); exact BK134.out) hb)
                    have n2_ := Aside0.mk (blk_below (g := gb141) (o := .cells #[.int .i64 t137, .int .i64 t138, .int .i64 t139] 28 (0, 0)) (by (with_reducible repeat (first | refine blk_drewN ?_ _ | refine blk_drew ?_ | refine blk_alloc ?_ _)); exact BK141.out) hb)
                    have n3_ := Aside0.mk (blk_below (g := gb148) (o := .cells #[.int .i64 t144, .int .i64 t145, .int .i64 t146] 28 (0, 0)) (by (with_reducible repeat (first | refine blk_drewN ?_ _ | refine blk_drew ?_ | refine blk_alloc ?_ _)); exact BK148.out) hb)
                    have n4_ := Aside0.mk (below_step (by repeat (first | (with_reducible first | exact HB.out | apply below_alloc | apply pw_below_drewN | apply below_drew1 | refine below_set ?_ GE131.out | refine below_set ?_ GE134.out | refine below_set ?_ GE141.out | refine below_set ?_ GE148.out) | exact HB.out)) hb)
                    clear BK131
                    clear BK134
                    clear BK141
                    clear BK148
                    clear HB
                    have BK131 := n0_
                    have BK134 := n1_
                    have BK141 := n2_
                    have BK148 := n3_
                    have HB := n4_
                    clear n0_ n1_ n2_ n3_ n4_
                    (try clear hb)
                    (try clear hb2)
                    (try clear hk)
                    (try clear hi)
                    refine hK.out _ _ ⟨(blk_cell BK131.out 0).trans rfl, (blk_cell BK131.out 1).trans rfl, (blk_cell BK131.out 2).trans rfl, (blk_cell BK131.out 3).trans rfl, (blk_cell BK131.out 4).trans rfl, (blk_cell BK131.out 5).trans rfl, (blk_cell BK131.out 6).trans rfl, (blk_cell BK131.out 7).trans rfl, (blk_cell BK131.out 8).trans rfl, (blk_cell BK131.out 9).trans rfl, (blk_cell BK131.out 10).trans rfl, (blk_cell BK131.out 11).trans rfl, (blk_cell BK134.out 0).trans rfl, (blk_cell BK134.out 1).trans rfl, (blk_cell BK134.out 2).trans rfl⟩ (fun hHeld => ?_)
                    clear hK K
                    refine norm_ (a' := ?_) ?_ ?_
                    rotate_left
                    · show Act.put _ (some 31) _ = _
                      simp only [Act.put, List.setIfInBounds_toArray, List.set_cons_zero, List.set_cons_succ, i64_w, i32_w]
                      rfl
                    refine pure_ (i := 3) (N := some 32) (v := ?_) (a' := ?_) #[true, true, true, true, false, false, false, false, false, false, false] rfl rfl (any_of HT_.out (by kernel_rfl)) (fun _ _ _ h => h) (Or.inl ⟨by rfl, ?_⟩) ?_ ?_
                    rotate_left
                    · intro w'
                      go_simp
                      with_reducible rfl
                    rotate_left
                    · simp only [Act.put, List.setIfInBounds_toArray, List.set_cons_zero, List.set_cons_succ, i64_w, i32_w]
                      rfl
                    refine two_ (i := 4) (j := 8) (Ni := some 33) (Nj := some 7) #[true, true, true, true, true, false, false, false, false, false, false] #[true, true, true, true, false, false, false, false, true, false, false] rfl rfl rfl rfl (two_of HT_.out (by kernel_rfl)) (by decide) (by decide) (fun K hK => ?_) (fun K hK => ?_)
                    · skip
                      refine goes_ Try.func9 (by kernel_rfl) rfl #[.agg #[.string (⟨#[102, 97, 110]⟩ : ByteArray), .int .i64 2, .int .i64 2, .string (⟨#[]⟩ : ByteArray), .int .i64 0, .int .i64 0, .int .i64 0, .slice none 0 0, .int .i64 0, .int .i64 0, .int .i64 60, .int .i64 30], .agg #[.int .i64 t132, .int .i64 t133, .int .i64 100], .agg #[.int .i64 3, .int .i64 t149, .int .i64 t150], .int .i64 101] (by rfl) rfl rfl (by (try simp only [List.map_toArray, List.map_cons, List.map_nil]); first | done | rfl | (simp only [List.length_drop, List.length_take]; rfl)) ?_
                      refine (minimum_Value.calls k (⟨#[102, 97, 110]⟩ : ByteArray) 2 2 (⟨#[]⟩ : ByteArray) 0 0 0 _ _ ([] : List ByteArray) 0 0 60 30 t132 t133 100 3 t149 t150 101 t151 t152 t153 _ ?side1 ?side2 A7.out).mono ?_
                      (case side1 => exact Kd.C_nil _ _)
                      (case side2 => exact Nat.le_refl _)
                      rintro e w46 ⟨rfl, hb⟩
                      refine ⟨_, rfl, ?_⟩
                      have n0_ := Aside0.mk (blk_below (g := gb131) (o := .cells #[.string (⟨#[102, 97, 110]⟩ : ByteArray), .int .i64 2, .int .i64 2, .string (⟨#[]⟩ : ByteArray), .int .i64 0, .int .i64 0, .int .i64 0, .slice none 0 0, .int .i64 0, .int .i64 0, .int .i64 60, .int .i64 30] 26 (0, 0)) (by (with_reducible repeat (first | refine blk_drewN ?_ _ | refine blk_drew ?_ | refine blk_alloc ?_ _)); exact BK131.out) hb)
                      have n1_ := Aside0.mk (blk_below (g := gb134) (o := .cells #[.int .i64 t132, .int .i64 t133, .int .i64 100] 28 (0, 0)) (by (with_reducible repeat (first | refine blk_drewN ?_ _ | refine blk_drew ?_ | refine blk_alloc ?_ _)); exact BK134.out) hb)
                      have n2_ := Aside0.mk (blk_below (g := gb141) (o := .cells #[.int .i64 t137, .int .i64 t138, .int .i64 t139] 28 (0, 0)) (by (with_reducible repeat (first | refine blk_drewN ?_ _ | refine blk_drew ?_ | refine blk_alloc ?_ _)); exact BK141.out) hb)
                      have n3_ := Aside0.mk (blk_below (g := gb148) (o := .cells #[.int .i64 t144, .int .i64 t145, .int .i64 t146] 28 (0, 0)) (by (with_reducible repeat (first | refine blk_drewN ?_ _ | refine blk_drew ?_ | refine blk_alloc ?_ _)); exact BK148.out) hb)
                      have n4_ := Aside0.mk (below_step (by repeat (first | (with_reducible first | exact HB.out | apply below_alloc | apply pw_below_drewN | apply below_drew1 | refine below_set ?_ GE131.out | refine below_set ?_ GE134.out | refine below_set ?_ GE141.out | refine below_set ?_ GE148.out) | exact HB.out)) hb)
                      clear BK131
                      clear BK134
                      clear BK141
                      clear BK148
                      clear HB
                      have BK131 := n0_
                      have BK134 := n1_
                      have BK141 := n2_
                      have BK148 := n3_
                      have HB := n4_
                      clear n0_ n1_ n2_ n3_ n4_
                      (try clear hb)
                      (try clear hb2)
                      (try clear hk)
                      (try clear hi)
                      refine hK.out _ _ ⟨(blk_cell BK131.out 0).trans rfl, (blk_cell BK131.out 1).trans rfl, (blk_cell BK131.out 2).trans rfl, (blk_cell BK131.out 3).trans rfl, (blk_cell BK131.out 4).trans rfl, (blk_cell BK131.out 5).trans rfl, (blk_cell BK131.out 6).trans rfl, (blk_cell BK131.out 7).trans rfl, (blk_cell BK131.out 8).trans rfl, (blk_cell BK131.out 9).trans rfl, (blk_cell BK131.out 10).trans rfl, (blk_cell BK131.out 11).trans rfl, (blk_cell BK134.out 0).trans rfl, (blk_cell BK134.out 1).trans rfl, (blk_cell BK134.out 2).trans rfl⟩ (fun hHeld => ?_)
                      clear hK K
                      refine norm_ (a' := ?_) ?_ ?_
                      rotate_left
                      · show Act.put _ (some 33) _ = _
                        simp only [Act.put, List.setIfInBounds_toArray, List.set_cons_zero, List.set_cons_succ, i64_w, i32_w]
                        rfl
                      refine pure_ (i := 5) (N := some 28) (v := ?_) (a' := ?_) #[true, true, true, true, true, true, false, false, false, false, false] rfl rfl (any_of HT_.out (by kernel_rfl)) (fun _ _ _ h => h) (Or.inl ⟨by rfl, ?_⟩) ?_ ?_
                      rotate_left
                      · intro w'
                        go_simp
                        with_reducible rfl
                      rotate_left
                      · simp only [Act.put, List.setIfInBounds_toArray, List.set_cons_zero, List.set_cons_succ, i64_w, i32_w]
                        rfl
                      refine pure_ (i := 6) (N := some 34) (v := ?_) (a' := ?_) #[true, true, true, true, true, true, true, false, false, false, false] rfl rfl (any_of HT_.out (by kernel_rfl)) (fun _ _ _ h => h) (Or.inl ⟨by rfl, ?_⟩) ?_ ?_
                      rotate_left
                      · intro w'
                        go_simp
                        with_reducible rfl
                      rotate_left
                      · simp only [Act.put, List.setIfInBounds_toArray, List.set_cons_zero, List.set_cons_succ, i64_w, i32_w]
                        rfl
                      refine pure_ (i := 7) (N := some 35) (v := ?_) (a' := ?_) #[true, true, true, true, true, true, true, true, false, false, false] rfl rfl (any_of HT_.out (by kernel_rfl)) (fun _ _ _ h => h) (Or.inl ⟨by rfl, ?_⟩) ?_ ?_
                      rotate_left
                      · intro w'
                        go_simp
                        with_reducible rfl
                      rotate_left
                      · simp only [Act.put, List.setIfInBounds_toArray, List.set_cons_zero, List.set_cons_succ, i64_w, i32_w]
                        rfl
                      refine one_ (i := 8) (N := some 7) #[true, true, true, true, true, true, true, true, true, false, false] rfl rfl (one_of HT_.out (by kernel_rfl)) (by decide) (fun K hK => ?_)
                      refine box_step ?hg (N := 7) ?hd (cs := #[.int .i64 0, .int .i64 0]) (t := 24) ?hr ?_; (case hd => rfl); (case hg => rfl); (case hr => first | (go_simp; done) | (go_simp; rfl))
                      intro gb154 hg w47 hbox hb
                      have n0_ := Aside0.mk (blk_below (g := gb131) (o := .cells #[.string (⟨#[102, 97, 110]⟩ : ByteArray), .int .i64 2, .int .i64 2, .string (⟨#[]⟩ : ByteArray), .int .i64 0, .int .i64 0, .int .i64 0, .slice none 0 0, .int .i64 0, .int .i64 0, .int .i64 60, .int .i64 30] 26 (0, 0)) (by (with_reducible repeat (first | refine blk_drewN ?_ _ | refine blk_drew ?_ | refine blk_alloc ?_ _)); exact BK131.out) hb)
                      have n1_ := Aside0.mk (blk_below (g := gb134) (o := .cells #[.int .i64 t132, .int .i64 t133, .int .i64 100] 28 (0, 0)) (by (with_reducible repeat (first | refine blk_drewN ?_ _ | refine blk_drew ?_ | refine blk_alloc ?_ _)); exact BK134.out) hb)
                      have n2_ := Aside0.mk (blk_below (g := gb141) (o := .cells #[.int .i64 t137, .int .i64 t138, .int .i64 t139] 28 (0, 0)) (by (with_reducible repeat (first | refine blk_drewN ?_ _ | refine blk_drew ?_ | refine blk_alloc ?_ _)); exact BK141.out) hb)
                      have n3_ := Aside0.mk (blk_below (g := gb148) (o := .cells #[.int .i64 t144, .int .i64 t145, .int .i64 t146] 28 (0, 0)) (by (with_reducible repeat (first | refine blk_drewN ?_ _ | refine blk_drew ?_ | refine blk_alloc ?_ _)); exact BK148.out) hb)
                      have n4_ := Aside0.mk (below_step (by repeat (first | (with_reducible first | exact HB.out | apply below_alloc | apply pw_below_drewN | apply below_drew1 | refine below_set ?_ GE131.out | refine below_set ?_ GE134.out | refine below_set ?_ GE141.out | refine below_set ?_ GE148.out) | exact HB.out)) hb)
                      have n5_ := Aside0.mk (hbox)
                      have n6_ := Aside0.mk ((by rw [hg]; exact (below_size (by repeat (first | (with_reducible first | exact HB.out | apply below_alloc | apply pw_below_drewN | apply below_drew1 | refine below_set ?_ GE131.out | refine below_set ?_ GE134.out | refine below_set ?_ GE141.out | refine below_set ?_ GE148.out) | exact HB.out))) : w.heap.size ≤ gb154))
                      have n7_ := Aside0.mk ((by rw [hg]; exact (below_size (by repeat (first | (with_reducible first | exact HB.out | apply below_alloc | apply pw_below_drewN | apply below_drew1 | refine below_set ?_ GE131.out | refine below_set ?_ GE134.out | refine below_set ?_ GE141.out | refine below_set ?_ GE148.out) | exact HB.out))) : w.heap.size ≤ gb154))
                      have n8_ := Aside0.mk ((by rw [hg]; exact Nat.ne_of_lt (blk_lt (g := gb131) (o := .cells #[.string (⟨#[102, 97, 110]⟩ : ByteArray), .int .i64 2, .int .i64 2, .string (⟨#[]⟩ : ByteArray), .int .i64 0, .int .i64 0, .int .i64 0, .slice none 0 0, .int .i64 0, .int .i64 0, .int .i64 60, .int .i64 30] 26 (0, 0)) (by (with_reducible repeat (first | refine blk_drewN ?_ _ | refine blk_drew ?_ | refine blk_alloc ?_ _)); exact BK131.out)) : gb131 ≠ gb154))
                      have n9_ := Aside0.mk ((by rw [hg]; exact Nat.ne_of_gt (blk_lt (g := gb131) (o := .cells #[.string (⟨#[102, 97, 110]⟩ : ByteArray), .int .i64 2, .int .i64 2, .string (⟨#[]⟩ : ByteArray), .int .i64 0, .int .i64 0, .int .i64 0, .slice none 0 0, .int .i64 0, .int .i64 0, .int .i64 60, .int .i64 30] 26 (0, 0)) (by (with_reducible repeat (first | refine blk_drewN ?_ _ | refine blk_drew ?_ | refine blk_alloc ?_ _)); exact BK131.out)) : gb154 ≠ gb131))
                      have n10_ := Aside0.mk ((by rw [hg]; exact Nat.ne_of_lt (blk_lt (g := gb134) (o := .cells #[.int .i64 t132, .int .i64 t133, .int .i64 100] 28 (0, 0)) (by (with_reducible repeat (first | refine blk_drewN ?_ _ | refine blk_drew ?_ | refine blk_alloc ?_ _)); exact BK134.out)) : gb134 ≠ gb154))
                      have n11_ := Aside0.mk ((by rw [hg]; exact Nat.ne_of_gt (blk_lt (g := gb134) (o := .cells #[.int .i64 t132, .int .i64 t133, .int .i64 100] 28 (0, 0)) (by (with_reducible repeat (first | refine blk_drewN ?_ _ | refine blk_drew ?_ | refine blk_alloc ?_ _)); exact BK134.out)) : gb154 ≠ gb134))
                      have n12_ := Aside0.mk ((by rw [hg]; exact Nat.ne_of_lt (blk_lt (g := gb141) (o := .cells #[.int .i64 t137, .int .i64 t138, .int .i64 t139] 28 (0, 0)) (by (with_reducible repeat (first | refine blk_drewN ?_ _ | refine blk_drew ?_ | refine blk_alloc ?_ _)); exact BK141.out)) : gb141 ≠ gb154))
                      have n13_ := Aside0.mk ((by rw [hg]; exact Nat.ne_of_gt (blk_lt (g := gb141) (o := .cells #[.int .i64 t137, .int .i64 t138, .int .i64 t139] 28 (0, 0)) (by (with_reducible repeat (first | refine blk_drewN ?_ _ | refine blk_drew ?_ | refine blk_alloc ?_ _)); exact BK141.out)) : gb154 ≠ gb141))
                      have n14_ := Aside0.mk ((by rw [hg]; exact Nat.ne_of_lt (blk_lt (g := gb148) (o := .cells #[.int .i64 t144, .int .i64 t145, .int .i64 t146] 28 (0, 0)) (by (with_reducible repeat (first | refine blk_drewN ?_ _ | refine blk_drew ?_ | refine blk_alloc ?_ _)); exact BK148.out)) : gb148 ≠ gb154))
                      have n15_ := Aside0.mk ((by rw [hg]; exact Nat.ne_of_gt (blk_lt (g := gb148) (o := .cells #[.int .i64 t144, .int .i64 t145, .int .i64 t146] 28 (0, 0)) (by (with_reducible repeat (first | refine blk_drewN ?_ _ | refine blk_drew ?_ | refine blk_alloc ?_ _)); exact BK148.out)) : gb154 ≠ gb148))
                      clear BK131
                      clear BK134
                      clear BK141
                      clear BK148
                      clear HB
                      have BK131 := n0_
                      have BK134 := n1_
                      have BK141 := n2_
                      have BK148 := n3_
                      have HB := n4_
                      have BK154 := n5_
                      have GW154 := n6_
                      have GE154 := n7_
                      have NB131_154 := n8_
                      have NB154_131 := n9_
                      have NB134_154 := n10_
                      have NB154_134 := n11_
                      have NB141_154 := n12_
                      have NB154_141 := n13_
                      have NB148_154 := n14_
                      have NB154_148 := n15_
                      clear n0_ n1_ n2_ n3_ n4_ n5_ n6_ n7_ n8_ n9_ n10_ n11_ n12_ n13_ n14_ n15_
                      clear hb hbox hg
                      refine hK.out _ _ ⟨(blk_cell BK131.out 0).trans rfl, (blk_cell BK131.out 1).trans rfl, (blk_cell BK131.out 2).trans rfl, (blk_cell BK131.out 3).trans rfl, (blk_cell BK131.out 4).trans rfl, (blk_cell BK131.out 5).trans rfl, (blk_cell BK131.out 6).trans rfl, (blk_cell BK131.out 7).trans rfl, (blk_cell BK131.out 8).trans rfl, (blk_cell BK131.out 9).trans rfl, (blk_cell BK131.out 10).trans rfl, (blk_cell BK131.out 11).trans rfl, (blk_cell BK134.out 0).trans rfl, (blk_cell BK134.out 1).trans rfl, (blk_cell BK134.out 2).trans rfl⟩ (fun hHeld => ?_)
                      clear hK K
                      refine norm_ (a' := ?_) ?_ ?_
                      rotate_left
                      · show Act.put _ (some 7) _ = _
                        simp only [Act.put, List.setIfInBounds_toArray, List.set_cons_zero, List.set_cons_succ, i64_w, i32_w]
                        rfl
                      exact norm_ (by simp only [putAll, Act.put, List.setIfInBounds_toArray, List.set_cons_zero, List.set_cons_succ]) (hCont (gb154) _ ⟨hHeld, (by (with_reducible repeat (first | refine blk_drewN ?_ _ | refine blk_drew ?_ | refine blk_alloc ?_ _)); exact BK131.out), (by (with_reducible repeat (first | refine blk_drewN ?_ _ | refine blk_drew ?_ | refine blk_alloc ?_ _)); exact BK134.out), (by (with_reducible repeat (first | refine blk_drewN ?_ _ | refine blk_drew ?_ | refine blk_alloc ?_ _)); exact BK141.out), (by (with_reducible repeat (first | refine blk_drewN ?_ _ | refine blk_drew ?_ | refine blk_alloc ?_ _)); exact BK148.out), (by (with_reducible repeat (first | refine blk_drewN ?_ _ | refine blk_drew ?_ | refine blk_alloc ?_ _)); exact BK154.out), GW154.out, GE154.out, NB131_154.out, NB154_131.out, NB134_154.out, NB154_134.out, NB141_154.out, NB154_141.out, NB148_154.out, NB154_148.out, (by repeat (first | (with_reducible first | exact HB.out | apply below_alloc | apply pw_below_drewN | apply below_drew1 | refine below_set ?_ GE131.out | refine below_set ?_ GE134.out | refine below_set ?_ GE141.out | refine below_set ?_ GE148.out | refine below_set ?_ GE154.out) | exact HB.out))⟩)
                    · skip
                      refine box_step ?hg (N := 7) ?hd (cs := #[.int .i64 0, .int .i64 0]) (t := 24) ?hr ?_; (case hd => rfl); (case hg => rfl); (case hr => first | (go_simp; done) | (go_simp; rfl))
                      intro gb154 hg w46 hbox hb
                      have n0_ := Aside0.mk (blk_below (g := gb131) (o := .cells #[.string (⟨#[102, 97, 110]⟩ : ByteArray), .int .i64 2, .int .i64 2, .string (⟨#[]⟩ : ByteArray), .int .i64 0, .int .i64 0, .int .i64 0, .slice none 0 0, .int .i64 0, .int .i64 0, .int .i64 60, .int .i64 30] 26 (0, 0)) (by (with_reducible repeat (first | refine blk_drewN ?_ _ | refine blk_drew ?_ | refine blk_alloc ?_ _)); exact BK131.out) hb)
                      have n1_ := Aside0.mk (blk_below (g := gb134) (o := .cells #[.int .i64 t132, .int .i64 t133, .int .i64 100] 28 (0, 0)) (by (with_reducible repeat (first | refine blk_drewN ?_ _ | refine blk_drew ?_ | refine blk_alloc ?_ _)); exact BK134.out) hb)
                      have n2_ := Aside0.mk (blk_below (g := gb141) (o := .cells #[.int .i64 t137, .int .i64 t138, .int .i64 t139] 28 (0, 0)) (by (with_reducible repeat (first | refine blk_drewN ?_ _ | refine blk_drew ?_ | refine blk_alloc ?_ _)); exact BK141.out) hb)
                      have n3_ := Aside0.mk (blk_below (g := gb148) (o := .cells #[.int .i64 t144, .int .i64 t145, .int .i64 t146] 28 (0, 0)) (by (with_reducible repeat (first | refine blk_drewN ?_ _ | refine blk_drew ?_ | refine blk_alloc ?_ _)); exact BK148.out) hb)
                      have n4_ := Aside0.mk (below_step (by repeat (first | (with_reducible first | exact HB.out | apply below_alloc | apply pw_below_drewN | apply below_drew1 | refine below_set ?_ GE131.out | refine below_set ?_ GE134.out | refine below_set ?_ GE141.out | refine below_set ?_ GE148.out) | exact HB.out)) hb)
                      have n5_ := Aside0.mk (hbox)
                      have n6_ := Aside0.mk ((by rw [hg]; exact (below_size (by repeat (first | (with_reducible first | exact HB.out | apply below_alloc | apply pw_below_drewN | apply below_drew1 | refine below_set ?_ GE131.out | refine below_set ?_ GE134.out | refine below_set ?_ GE141.out | refine below_set ?_ GE148.out) | exact HB.out))) : w.heap.size ≤ gb154))
                      have n7_ := Aside0.mk ((by rw [hg]; exact (below_size (by repeat (first | (with_reducible first | exact HB.out | apply below_alloc | apply pw_below_drewN | apply below_drew1 | refine below_set ?_ GE131.out | refine below_set ?_ GE134.out | refine below_set ?_ GE141.out | refine below_set ?_ GE148.out) | exact HB.out))) : w.heap.size ≤ gb154))
                      have n8_ := Aside0.mk ((by rw [hg]; exact Nat.ne_of_lt (blk_lt (g := gb131) (o := .cells #[.string (⟨#[102, 97, 110]⟩ : ByteArray), .int .i64 2, .int .i64 2, .string (⟨#[]⟩ : ByteArray), .int .i64 0, .int .i64 0, .int .i64 0, .slice none 0 0, .int .i64 0, .int .i64 0, .int .i64 60, .int .i64 30] 26 (0, 0)) (by (with_reducible repeat (first | refine blk_drewN ?_ _ | refine blk_drew ?_ | refine blk_alloc ?_ _)); exact BK131.out)) : gb131 ≠ gb154))
                      have n9_ := Aside0.mk ((by rw [hg]; exact Nat.ne_of_gt (blk_lt (g := gb131) (o := .cells #[.string (⟨#[102, 97, 110]⟩ : ByteArray), .int .i64 2, .int .i64 2, .string (⟨#[]⟩ : ByteArray), .int .i64 0, .int .i64 0, .int .i64 0, .slice none 0 0, .int .i64 0, .int .i64 0, .int .i64 60, .int .i64 30] 26 (0, 0)) (by (with_reducible repeat (first | refine blk_drewN ?_ _ | refine blk_drew ?_ | refine blk_alloc ?_ _)); exact BK131.out)) : gb154 ≠ gb131))
                      have n10_ := Aside0.mk ((by rw [hg]; exact Nat.ne_of_lt (blk_lt (g := gb134) (o := .cells #[.int .i64 t132, .int .i64 t133, .int .i64 100] 28 (0, 0)) (by (with_reducible repeat (first | refine blk_drewN ?_ _ | refine blk_drew ?_ | refine blk_alloc ?_ _)); exact BK134.out)) : gb134 ≠ gb154))
                      have n11_ := Aside0.mk ((by rw [hg]; exact Nat.ne_of_gt (blk_lt (g := gb134) (o := .cells #[.int .i64 t132, .int .i64 t133, .int .i64 100] 28 (0, 0)) (by (with_reducible repeat (first | refine blk_drewN ?_ _ | refine blk_drew ?_ | refine blk_alloc ?_ _)); exact BK134.out)) : gb154 ≠ gb134))
                      have n12_ := Aside0.mk ((by rw [hg]; exact Nat.ne_of_lt (blk_lt (g := gb141) (o := .cells #[.int .i64 t137, .int .i64 t138, .int .i64 t139] 28 (0, 0)) (by (with_reducible repeat (first | refine blk_drewN ?_ _ | refine blk_drew ?_ | refine blk_alloc ?_ _)); exact BK141.out)) : gb141 ≠ gb154))
                      have n13_ := Aside0.mk ((by rw [hg]; exact Nat.ne_of_gt (blk_lt (g := gb141) (o := .cells #[.int .i64 t137, .int .i64 t138, .int .i64 t139] 28 (0, 0)) (by (with_reducible repeat (first | refine blk_drewN ?_ _ | refine blk_drew ?_ | refine blk_alloc ?_ _)); exact BK141.out)) : gb154 ≠ gb141))
                      have n14_ := Aside0.mk ((by rw [hg]; exact Nat.ne_of_lt (blk_lt (g := gb148) (o := .cells #[.int .i64 t144, .int .i64 t145, .int .i64 t146] 28 (0, 0)) (by (with_reducible repeat (first | refine blk_drewN ?_ _ | refine blk_drew ?_ | refine blk_alloc ?_ _)); exact BK148.out)) : gb148 ≠ gb154))
                      have n15_ := Aside0.mk ((by rw [hg]; exact Nat.ne_of_gt (blk_lt (g := gb148) (o := .cells #[.int .i64 t144, .int .i64 t145, .int .i64 t146] 28 (0, 0)) (by (with_reducible repeat (first | refine blk_drewN ?_ _ | refine blk_drew ?_ | refine blk_alloc ?_ _)); exact BK148.out)) : gb154 ≠ gb148))
                      clear BK131
                      clear BK134
                      clear BK141
                      clear BK148
                      clear HB
                      have BK131 := n0_
                      have BK134 := n1_
                      have BK141 := n2_
                      have BK148 := n3_
                      have HB := n4_
                      have BK154 := n5_
                      have GW154 := n6_
                      have GE154 := n7_
                      have NB131_154 := n8_
                      have NB154_131 := n9_
                      have NB134_154 := n10_
                      have NB154_134 := n11_
                      have NB141_154 := n12_
                      have NB154_141 := n13_
                      have NB148_154 := n14_
                      have NB154_148 := n15_
                      clear n0_ n1_ n2_ n3_ n4_ n5_ n6_ n7_ n8_ n9_ n10_ n11_ n12_ n13_ n14_ n15_
                      clear hb hbox hg
                      refine hK.out _ _ ⟨(blk_cell BK131.out 0).trans rfl, (blk_cell BK131.out 1).trans rfl, (blk_cell BK131.out 2).trans rfl, (blk_cell BK131.out 3).trans rfl, (blk_cell BK131.out 4).trans rfl, (blk_cell BK131.out 5).trans rfl, (blk_cell BK131.out 6).trans rfl, (blk_cell BK131.out 7).trans rfl, (blk_cell BK131.out 8).trans rfl, (blk_cell BK131.out 9).trans rfl, (blk_cell BK131.out 10).trans rfl, (blk_cell BK131.out 11).trans rfl, (blk_cell BK134.out 0).trans rfl, (blk_cell BK134.out 1).trans rfl, (blk_cell BK134.out 2).trans rfl⟩ (fun hHeld => ?_)
                      clear hK K
                      refine norm_ (a' := ?_) ?_ ?_
                      rotate_left
                      · show Act.put _ (some 7) _ = _
                        simp only [Act.put, List.setIfInBounds_toArray, List.set_cons_zero, List.set_cons_succ, i64_w, i32_w]
                        rfl
                      refine one_ (i := 4) (N := some 33) #[true, true, true, true, true, false, false, false, true, false, false] rfl rfl (one_of HT_.out (by kernel_rfl)) (by decide) (fun K hK => ?_)
                      refine goes_ Try.func9 (by kernel_rfl) rfl #[.agg #[.string (⟨#[102, 97, 110]⟩ : ByteArray), .int .i64 2, .int .i64 2, .string (⟨#[]⟩ : ByteArray), .int .i64 0, .int .i64 0, .int .i64 0, .slice none 0 0, .int .i64 0, .int .i64 0, .int .i64 60, .int .i64 30], .agg #[.int .i64 t132, .int .i64 t133, .int .i64 100], .agg #[.int .i64 3, .int .i64 t149, .int .i64 t150], .int .i64 101] (by rfl) rfl rfl (by (try simp only [List.map_toArray, List.map_cons, List.map_nil]); first | done | rfl | (simp only [List.length_drop, List.length_take]; rfl)) ?_
                      refine (minimum_Value.calls k (⟨#[102, 97, 110]⟩ : ByteArray) 2 2 (⟨#[]⟩ : ByteArray) 0 0 0 _ _ ([] : List ByteArray) 0 0 60 30 t132 t133 100 3 t149 t150 101 t151 t152 t153 _ ?side1 ?side2 A7.out).mono ?_
                      (case side1 => exact Kd.C_nil _ _)
                      (case side2 => exact Nat.le_refl _)
                      rintro e w47 ⟨rfl, hb⟩
                      refine ⟨_, rfl, ?_⟩
                      have n0_ := Aside0.mk (blk_below (g := gb131) (o := .cells #[.string (⟨#[102, 97, 110]⟩ : ByteArray), .int .i64 2, .int .i64 2, .string (⟨#[]⟩ : ByteArray), .int .i64 0, .int .i64 0, .int .i64 0, .slice none 0 0, .int .i64 0, .int .i64 0, .int .i64 60, .int .i64 30] 26 (0, 0)) (by (with_reducible repeat (first | refine blk_drewN ?_ _ | refine blk_drew ?_ | refine blk_alloc ?_ _)); exact BK131.out) hb)
                      have n1_ := Aside0.mk (blk_below (g := gb134) (o := .cells #[.int .i64 t132, .int .i64 t133, .int .i64 100] 28 (0, 0)) (by (with_reducible repeat (first | refine blk_drewN ?_ _ | refine blk_drew ?_ | refine blk_alloc ?_ _)); exact BK134.out) hb)
                      have n2_ := Aside0.mk (blk_below (g := gb141) (o := .cells #[.int .i64 t137, .int .i64 t138, .int .i64 t139] 28 (0, 0)) (by (with_reducible repeat (first | refine blk_drewN ?_ _ | refine blk_drew ?_ | refine blk_alloc ?_ _)); exact BK141.out) hb)
                      have n3_ := Aside0.mk (blk_below (g := gb148) (o := .cells #[.int .i64 t144, .int .i64 t145, .int .i64 t146] 28 (0, 0)) (by (with_reducible repeat (first | refine blk_drewN ?_ _ | refine blk_drew ?_ | refine blk_alloc ?_ _)); exact BK148.out) hb)
                      have n4_ := Aside0.mk (blk_below (g := gb154) (o := .cells #[.int .i64 0, .int .i64 0] 24 (0, 0)) (by (with_reducible repeat (first | refine blk_drewN ?_ _ | refine blk_drew ?_ | refine blk_alloc ?_ _)); exact BK154.out) hb)
                      have n5_ := Aside0.mk (below_step (by repeat (first | (with_reducible first | exact HB.out | apply below_alloc | apply pw_below_drewN | apply below_drew1 | refine below_set ?_ GE131.out | refine below_set ?_ GE134.out | refine below_set ?_ GE141.out | refine below_set ?_ GE148.out | refine below_set ?_ GE154.out) | exact HB.out)) hb)
                      clear BK131
                      clear BK134
                      clear BK141
                      clear BK148
                      clear BK154
                      clear HB
                      have BK131 := n0_
                      have BK134 := n1_
                      have BK141 := n2_
                      have BK148 := n3_
                      have BK154 := n4_
                      have HB := n5_
                      clear n0_ n1_ n2_ n3_ n4_ n5_
                      (try clear hb)
                      (try clear hb2)
                      (try clear hk)
                      (try clear hi)
                      refine hK.out _ _ ⟨(blk_cell BK131.out 0).trans rfl, (blk_cell BK131.out 1).trans rfl, (blk_cell BK131.out 2).trans rfl, (blk_cell BK131.out 3).trans rfl, (blk_cell BK131.out 4).trans rfl, (blk_cell BK131.out 5).trans rfl, (blk_cell BK131.out 6).trans rfl, (blk_cell BK131.out 7).trans rfl, (blk_cell BK131.out 8).trans rfl, (blk_cell BK131.out 9).trans rfl, (blk_cell BK131.out 10).trans rfl, (blk_cell BK131.out 11).trans rfl, (blk_cell BK134.out 0).trans rfl, (blk_cell BK134.out 1).trans rfl, (blk_cell BK134.out 2).trans rfl⟩ (fun hHeld => ?_)
                      clear hK K
                      refine norm_ (a' := ?_) ?_ ?_
                      rotate_left
                      · show Act.put _ (some 33) _ = _
                        simp only [Act.put, List.setIfInBounds_toArray, List.set_cons_zero, List.set_cons_succ, i64_w, i32_w]
                        rfl
                      refine pure_ (i := 5) (N := some 28) (v := ?_) (a' := ?_) #[true, true, true, true, true, true, false, false, true, false, false] rfl rfl (any_of HT_.out (by kernel_rfl)) (fun _ _ _ h => h) (Or.inl ⟨by rfl, ?_⟩) ?_ ?_
                      rotate_left
                      · intro w'
                        go_simp
                        with_reducible rfl
                      rotate_left
                      · simp only [Act.put, List.setIfInBounds_toArray, List.set_cons_zero, List.set_cons_succ, i64_w, i32_w]
                        rfl
                      refine pure_ (i := 6) (N := some 34) (v := ?_) (a' := ?_) #[true, true, true, true, true, true, true, false, true, false, false] rfl rfl (any_of HT_.out (by kernel_rfl)) (fun _ _ _ h => h) (Or.inl ⟨by rfl, ?_⟩) ?_ ?_
                      rotate_left
                      · intro w'
                        go_simp
                        with_reducible rfl
                      rotate_left
                      · simp only [Act.put, List.setIfInBounds_toArray, List.set_cons_zero, List.set_cons_succ, i64_w, i32_w]
                        rfl
                      refine pure_ (i := 7) (N := some 35) (v := ?_) (a' := ?_) #[true, true, true, true, true, true, true, true, true, false, false] rfl rfl (any_of HT_.out (by kernel_rfl)) (fun _ _ _ h => h) (Or.inl ⟨by rfl, ?_⟩) ?_ ?_
                      rotate_left
                      · intro w'
                        go_simp
                        with_reducible rfl
                      rotate_left
                      · simp only [Act.put, List.setIfInBounds_toArray, List.set_cons_zero, List.set_cons_succ, i64_w, i32_w]
                        rfl
                      exact norm_ (by simp only [putAll, Act.put, List.setIfInBounds_toArray, List.set_cons_zero, List.set_cons_succ]) (hCont (gb154) _ ⟨hHeld, (by (with_reducible repeat (first | refine blk_drewN ?_ _ | refine blk_drew ?_ | refine blk_alloc ?_ _)); exact BK131.out), (by (with_reducible repeat (first | refine blk_drewN ?_ _ | refine blk_drew ?_ | refine blk_alloc ?_ _)); exact BK134.out), (by (with_reducible repeat (first | refine blk_drewN ?_ _ | refine blk_drew ?_ | refine blk_alloc ?_ _)); exact BK141.out), (by (with_reducible repeat (first | refine blk_drewN ?_ _ | refine blk_drew ?_ | refine blk_alloc ?_ _)); exact BK148.out), (by (with_reducible repeat (first | refine blk_drewN ?_ _ | refine blk_drew ?_ | refine blk_alloc ?_ _)); exact BK154.out), GW154.out, GE154.out, NB131_154.out, NB154_131.out, NB134_154.out, NB154_134.out, NB141_154.out, NB154_141.out, NB148_154.out, NB154_148.out, (by repeat (first | (with_reducible first | exact HB.out | apply below_alloc | apply pw_below_drewN | apply below_drew1 | refine below_set ?_ GE131.out | refine below_set ?_ GE134.out | refine below_set ?_ GE141.out | refine below_set ?_ GE148.out | refine below_set ?_ GE154.out) | exact HB.out))⟩)
                  · skip
                    refine box_step ?hg (N := 7) ?hd (cs := #[.int .i64 0, .int .i64 0]) (t := 24) ?hr ?_; (case hd => rfl); (case hg => rfl); (case hr => first | (go_simp; done) | (go_simp; rfl))
                    intro gb154 hg w45 hbox hb
                    have n0_ := Aside0.mk (blk_below (g := gb131) (o := .cells #[.string (⟨#[102, 97, 110]⟩ : ByteArray), .int .i64 2, .int .i64 2, .string (⟨#[]⟩ : ByteArray), .int .i64 0, .int .i64 0, .int .i64 0, .slice none 0 0, .int .i64 0, .int .i64 0, .int .i64 60, .int .i64 30] 26 (0, 0)) (by (with_reducible repeat (first | refine blk_drewN ?_ _ | refine blk_drew ?_ | refine blk_alloc ?_ _)); exact BK131.out) hb)
                    have n1_ := Aside0.mk (blk_below (g := gb134) (o := .cells #[.int .i64 t132, .int .i64 t133, .int .i64 100] 28 (0, 0)) (by (with_reducible repeat (first | refine blk_drewN ?_ _ | refine blk_drew ?_ | refine blk_alloc ?_ _)); exact BK134.out) hb)
                    have n2_ := Aside0.mk (blk_below (g := gb141) (o := .cells #[.int .i64 t137, .int .i64 t138, .int .i64 t139] 28 (0, 0)) (by (with_reducible repeat (first | refine blk_drewN ?_ _ | refine blk_drew ?_ | refine blk_alloc ?_ _)); exact BK141.out) hb)
                    have n3_ := Aside0.mk (blk_below (g := gb148) (o := .cells #[.int .i64 t144, .int .i64 t145, .int .i64 t146] 28 (0, 0)) (by (with_reducible repeat (first | refine blk_drewN ?_ _ | refine blk_drew ?_ | refine blk_alloc ?_ _)); exact BK148.out) hb)
                    have n4_ := Aside0.mk (below_step (by repeat (first | (with_reducible first | exact HB.out | apply below_alloc | apply pw_below_drewN | apply below_drew1 | refine below_set ?_ GE131.out | refine below_set ?_ GE134.out | refine below_set ?_ GE141.out | refine below_set ?_ GE148.out) | exact HB.out)) hb)
                    have n5_ := Aside0.mk (hbox)
                    have n6_ := Aside0.mk ((by rw [hg]; exact (below_size (by repeat (first | (with_reducible first | exact HB.out | apply below_alloc | apply pw_below_drewN | apply below_drew1 | refine below_set ?_ GE131.out | refine below_set ?_ GE134.out | refine below_set ?_ GE141.out | refine below_set ?_ GE148.out) | exact HB.out))) : w.heap.size ≤ gb154))
                    have n7_ := Aside0.mk ((by rw [hg]; exact (below_size (by repeat (first | (with_reducible first | exact HB.out | apply below_alloc | apply pw_below_drewN | apply below_drew1 | refine below_set ?_ GE131.out | refine below_set ?_ GE134.out | refine below_set ?_ GE141.out | refine below_set ?_ GE148.out) | exact HB.out))) : w.heap.size ≤ gb154))
                    have n8_ := Aside0.mk ((by rw [hg]; exact Nat.ne_of_lt (blk_lt (g := gb131) (o := .cells #[.string (⟨#[102, 97, 110]⟩ : ByteArray), .int .i64 2, .int .i64 2, .string (⟨#[]⟩ : ByteArray), .int .i64 0, .int .i64 0, .int .i64 0, .slice none 0 0, .int .i64 0, .int .i64 0, .int .i64 60, .int .i64 30] 26 (0, 0)) (by (with_reducible repeat (first | refine blk_drewN ?_ _ | refine blk_drew ?_ | refine blk_alloc ?_ _)); exact BK131.out)) : gb131 ≠ gb154))
                    have n9_ := Aside0.mk ((by rw [hg]; exact Nat.ne_of_gt (blk_lt (g := gb131) (o := .cells #[.string (⟨#[102, 97, 110]⟩ : ByteArray), .int .i64 2, .int .i64 2, .string (⟨#[]⟩ : ByteArray), .int .i64 0, .int .i64 0, .int .i64 0, .slice none 0 0, .int .i64 0, .int .i64 0, .int .i64 60, .int .i64 30] 26 (0, 0)) (by (with_reducible repeat (first | refine blk_drewN ?_ _ | refine blk_drew ?_ | refine blk_alloc ?_ _)); exact BK131.out)) : gb154 ≠ gb131))
                    have n10_ := Aside0.mk ((by rw [hg]; exact Nat.ne_of_lt (blk_lt (g := gb134) (o := .cells #[.int .i64 t132, .int .i64 t133, .int .i64 100] 28 (0, 0)) (by (with_reducible repeat (first | refine blk_drewN ?_ _ | refine blk_drew ?_ | refine blk_alloc ?_ _)); exact BK134.out)) : gb134 ≠ gb154))
                    have n11_ := Aside0.mk ((by rw [hg]; exact Nat.ne_of_gt (blk_lt (g := gb134) (o := .cells #[.int .i64 t132, .int .i64 t133, .int .i64 100] 28 (0, 0)) (by (with_reducible repeat (first | refine blk_drewN ?_ _ | refine blk_drew ?_ | refine blk_alloc ?_ _)); exact BK134.out)) : gb154 ≠ gb134))
                    have n12_ := Aside0.mk ((by rw [hg]; exact Nat.ne_of_lt (blk_lt (g := gb141) (o := .cells #[.int .i64 t137, .int .i64 t138, .int .i64 t139] 28 (0, 0)) (by (with_reducible repeat (first | refine blk_drewN ?_ _ | refine blk_drew ?_ | refine blk_alloc ?_ _)); exact BK141.out)) : gb141 ≠ gb154))
                    have n13_ := Aside0.mk ((by rw [hg]; exact Nat.ne_of_gt (blk_lt (g := gb141) (o := .cells #[.int .i64 t137, .int .i64 t138, .int .i64 t139] 28 (0, 0)) (by (with_reducible repeat (first | refine blk_drewN ?_ _ | refine blk_drew ?_ | refine blk_alloc ?_ _)); exact BK141.out)) : gb154 ≠ gb141))
                    have n14_ := Aside0.mk ((by rw [hg]; exact Nat.ne_of_lt (blk_lt (g := gb148) (o := .cells #[.int .i64 t144, .int .i64 t145, .int .i64 t146] 28 (0, 0)) (by (with_reducible repeat (first | refine blk_drewN ?_ _ | refine blk_drew ?_ | refine blk_alloc ?_ _)); exact BK148.out)) : gb148 ≠ gb154))
                    have n15_ := Aside0.mk ((by rw [hg]; exact Nat.ne_of_gt (blk_lt (g := gb148) (o := .cells #[.int .i64 t144, .int .i64 t145, .int .i64 t146] 28 (0, 0)) (by (with_reducible repeat (first | refine blk_drewN ?_ _ | refine blk_drew ?_ | refine blk_alloc ?_ _)); exact BK148.out)) : gb154 ≠ gb148))
                    clear BK131
                    clear BK134
                    clear BK141
                    clear BK148
                    clear HB
                    have BK131 := n0_
                    have BK134 := n1_
                    have BK141 := n2_
                    have BK148 := n3_
                    have HB := n4_
                    have BK154 := n5_
                    have GW154 := n6_
                    have GE154 := n7_
                    have NB131_154 := n8_
                    have NB154_131 := n9_
                    have NB134_154 := n10_
                    have NB154_134 := n11_
                    have NB141_154 := n12_
                    have NB154_141 := n13_
                    have NB148_154 := n14_
                    have NB154_148 := n15_
                    clear n0_ n1_ n2_ n3_ n4_ n5_ n6_ n7_ n8_ n9_ n10_ n11_ n12_ n13_ n14_ n15_
                    clear hb hbox hg
                    refine hK.out _ _ ⟨(blk_cell BK131.out 0).trans rfl, (blk_cell BK131.out 1).trans rfl, (blk_cell BK131.out 2).trans rfl, (blk_cell BK131.out 3).trans rfl, (blk_cell BK131.out 4).trans rfl, (blk_cell BK131.out 5).trans rfl, (blk_cell BK131.out 6).trans rfl, (blk_cell BK131.out 7).trans rfl, (blk_cell BK131.out 8).trans rfl, (blk_cell BK131.out 9).trans rfl, (blk_cell BK131.out 10).trans rfl, (blk_cell BK131.out 11).trans rfl, (blk_cell BK134.out 0).trans rfl, (blk_cell BK134.out 1).trans rfl, (blk_cell BK134.out 2).trans rfl⟩ (fun hHeld => ?_)
                    clear hK K
                    refine norm_ (a' := ?_) ?_ ?_
                    rotate_left
                    · show Act.put _ (some 7) _ = _
                      simp only [Act.put, List.setIfInBounds_toArray, List.set_cons_zero, List.set_cons_succ, i64_w, i32_w]
                      rfl
                    refine one_ (i := 2) (N := some 31) #[true, true, true, false, false, false, false, false, true, false, false] rfl rfl (one_of HT_.out (by kernel_rfl)) (by decide) (fun K hK => ?_)
                    refine goes_ Try.func18 (by kernel_rfl) rfl #[.int .i64 0] (by rfl) rfl rfl (by (try simp only [List.map_toArray, List.map_cons, List.map_nil]); first | done | rfl | (simp only [List.length_drop, List.length_take]; rfl)) ?_
                    with_reducible refine (plenumlaw14_on.calls 0 t149 t150 _ A6.out).mono ?_
                    rintro e w46 ⟨rfl, hb⟩
                    refine ⟨_, rfl, ?_⟩
                    have n0_ := Aside0.mk (blk_below (g := gb131) (o := .cells #[.string (⟨#[102, 97, 110]⟩ : ByteArray), .int .i64 2, .int .i64 2, .string (⟨#[]⟩ : ByteArray), .int .i64 0, .int .i64 0, .int .i64 0, .slice none 0 0, .int .i64 0, .int .i64 0, .int .i64 60, .int .i64 30] 26 (0, 0)) (by (with_reducible repeat (first | refine blk_drewN ?_ _ | refine blk_drew ?_ | refine blk_alloc ?_ _)); exact BK131.out) hb)
                    have n1_ := Aside0.mk (blk_below (g := gb134) (o := .cells #[.int .i64 t132, .int .i64 t133, .int .i64 100] 28 (0, 0)) (by (with_reducible repeat (first | refine blk_drewN ?_ _ | refine blk_drew ?_ | refine blk_alloc ?_ _)); exact BK134.out) hb)
                    have n2_ := Aside0.mk (blk_below (g := gb141) (o := .cells #[.int .i64 t137, .int .i64 t138, .int .i64 t139] 28 (0, 0)) (by (with_reducible repeat (first | refine blk_drewN ?_ _ | refine blk_drew ?_ | refine blk_alloc ?_ _)); exact BK141.out) hb)
                    have n3_ := Aside0.mk (blk_below (g := gb148) (o := .cells #[.int .i64 t144, .int .i64 t145, .int .i64 t146] 28 (0, 0)) (by (with_reducible repeat (first | refine blk_drewN ?_ _ | refine blk_drew ?_ | refine blk_alloc ?_ _)); exact BK148.out) hb)
                    have n4_ := Aside0.mk (blk_below (g := gb154) (o := .cells #[.int .i64 0, .int .i64 0] 24 (0, 0)) (by (with_reducible repeat (first | refine blk_drewN ?_ _ | refine blk_drew ?_ | refine blk_alloc ?_ _)); exact BK154.out) hb)
                    have n5_ := Aside0.mk (below_step (by repeat (first | (with_reducible first | exact HB.out | apply below_alloc | apply pw_below_drewN | apply below_drew1 | refine below_set ?_ GE131.out | refine below_set ?_ GE134.out | refine below_set ?_ GE141.out | refine below_set ?_ GE148.out | refine below_set ?_ GE154.out) | exact HB.out)) hb)
                    clear BK131
                    clear BK134
                    clear BK141
                    clear BK148
                    clear BK154
                    clear HB
                    have BK131 := n0_
                    have BK134 := n1_
                    have BK141 := n2_
                    have BK148 := n3_
                    have BK154 := n4_
                    have HB := n5_
                    clear n0_ n1_ n2_ n3_ n4_ n5_
                    (try clear hb)
                    (try clear hb2)
                    (try clear hk)
                    (try clear hi)
                    refine hK.out _ _ ⟨(blk_cell BK131.out 0).trans rfl, (blk_cell BK131.out 1).trans rfl, (blk_cell BK131.out 2).trans rfl, (blk_cell BK131.out 3).trans rfl, (blk_cell BK131.out 4).trans rfl, (blk_cell BK131.out 5).trans rfl, (blk_cell BK131.out 6).trans rfl, (blk_cell BK131.out 7).trans rfl, (blk_cell BK131.out 8).trans rfl, (blk_cell BK131.out 9).trans rfl, (blk_cell BK131.out 10).trans rfl, (blk_cell BK131.out 11).trans rfl, (blk_cell BK134.out 0).trans rfl, (blk_cell BK134.out 1).trans rfl, (blk_cell BK134.out 2).trans rfl⟩ (fun hHeld => ?_)
                    clear hK K
                    refine norm_ (a' := ?_) ?_ ?_
                    rotate_left
                    · show Act.put _ (some 31) _ = _
                      simp only [Act.put, List.setIfInBounds_toArray, List.set_cons_zero, List.set_cons_succ, i64_w, i32_w]
                      rfl
                    refine pure_ (i := 3) (N := some 32) (v := ?_) (a' := ?_) #[true, true, true, true, false, false, false, false, true, false, false] rfl rfl (any_of HT_.out (by kernel_rfl)) (fun _ _ _ h => h) (Or.inl ⟨by rfl, ?_⟩) ?_ ?_
                    rotate_left
                    · intro w'
                      go_simp
                      with_reducible rfl
                    rotate_left
                    · simp only [Act.put, List.setIfInBounds_toArray, List.set_cons_zero, List.set_cons_succ, i64_w, i32_w]
                      rfl
                    refine one_ (i := 4) (N := some 33) #[true, true, true, true, true, false, false, false, true, false, false] rfl rfl (one_of HT_.out (by kernel_rfl)) (by decide) (fun K hK => ?_)
                    refine goes_ Try.func9 (by kernel_rfl) rfl #[.agg #[.string (⟨#[102, 97, 110]⟩ : ByteArray), .int .i64 2, .int .i64 2, .string (⟨#[]⟩ : ByteArray), .int .i64 0, .int .i64 0, .int .i64 0, .slice none 0 0, .int .i64 0, .int .i64 0, .int .i64 60, .int .i64 30], .agg #[.int .i64 t132, .int .i64 t133, .int .i64 100], .agg #[.int .i64 3, .int .i64 t149, .int .i64 t150], .int .i64 101] (by rfl) rfl rfl (by (try simp only [List.map_toArray, List.map_cons, List.map_nil]); first | done | rfl | (simp only [List.length_drop, List.length_take]; rfl)) ?_
                    refine (minimum_Value.calls k (⟨#[102, 97, 110]⟩ : ByteArray) 2 2 (⟨#[]⟩ : ByteArray) 0 0 0 _ _ ([] : List ByteArray) 0 0 60 30 t132 t133 100 3 t149 t150 101 t151 t152 t153 _ ?side1 ?side2 A7.out).mono ?_
                    (case side1 => exact Kd.C_nil _ _)
                    (case side2 => exact Nat.le_refl _)
                    rintro e w47 ⟨rfl, hb⟩
                    refine ⟨_, rfl, ?_⟩
                    have n0_ := Aside0.mk (blk_below (g := gb131) (o := .cells #[.string (⟨#[102, 97, 110]⟩ : ByteArray), .int .i64 2, .int .i64 2, .string (⟨#[]⟩ : ByteArray), .int .i64 0, .int .i64 0, .int .i64 0, .slice none 0 0, .int .i64 0, .int .i64 0, .int .i64 60, .int .i64 30] 26 (0, 0)) (by (with_reducible repeat (first | refine blk_drewN ?_ _ | refine blk_drew ?_ | refine blk_alloc ?_ _)); exact BK131.out) hb)
                    have n1_ := Aside0.mk (blk_below (g := gb134) (o := .cells #[.int .i64 t132, .int .i64 t133, .int .i64 100] 28 (0, 0)) (by (with_reducible repeat (first | refine blk_drewN ?_ _ | refine blk_drew ?_ | refine blk_alloc ?_ _)); exact BK134.out) hb)
                    have n2_ := Aside0.mk (blk_below (g := gb141) (o := .cells #[.int .i64 t137, .int .i64 t138, .int .i64 t139] 28 (0, 0)) (by (with_reducible repeat (first | refine blk_drewN ?_ _ | refine blk_drew ?_ | refine blk_alloc ?_ _)); exact BK141.out) hb)
                    have n3_ := Aside0.mk (blk_below (g := gb148) (o := .cells #[.int .i64 t144, .int .i64 t145, .int .i64 t146] 28 (0, 0)) (by (with_reducible repeat (first | refine blk_drewN ?_ _ | refine blk_drew ?_ | refine blk_alloc ?_ _)); exact BK148.out) hb)
                    have n4_ := Aside0.mk (blk_below (g := gb154) (o := .cells #[.int .i64 0, .int .i64 0] 24 (0, 0)) (by (with_reducible repeat (first | refine blk_drewN ?_ _ | refine blk_drew ?_ | refine blk_alloc ?_ _)); exact BK154.out) hb)
                    have n5_ := Aside0.mk (below_step (by repeat (first | (with_reducible first | exact HB.out | apply below_alloc | apply pw_below_drewN | apply below_drew1 | refine below_set ?_ GE131.out | refine below_set ?_ GE134.out | refine below_set ?_ GE141.out | refine below_set ?_ GE148.out | refine below_set ?_ GE154.out) | exact HB.out)) hb)
                    clear BK131
                    clear BK134
                    clear BK141
                    clear BK148
                    clear BK154
                    clear HB
                    have BK131 := n0_
                    have BK134 := n1_
                    have BK141 := n2_
                    have BK148 := n3_
                    have BK154 := n4_
                    have HB := n5_
                    clear n0_ n1_ n2_ n3_ n4_ n5_
                    (try clear hb)
                    (try clear hb2)
                    (try clear hk)
                    (try clear hi)
                    refine hK.out _ _ ⟨(blk_cell BK131.out 0).trans rfl, (blk_cell BK131.out 1).trans rfl, (blk_cell BK131.out 2).trans rfl, (blk_cell BK131.out 3).trans rfl, (blk_cell BK131.out 4).trans rfl, (blk_cell BK131.out 5).trans rfl, (blk_cell BK131.out 6).trans rfl, (blk_cell BK131.out 7).trans rfl, (blk_cell BK131.out 8).trans rfl, (blk_cell BK131.out 9).trans rfl, (blk_cell BK131.out 10).trans rfl, (blk_cell BK131.out 11).trans rfl, (blk_cell BK134.out 0).trans rfl, (blk_cell BK134.out 1).trans rfl, (blk_cell BK134.out 2).trans rfl⟩ (fun hHeld => ?_)
                    clear hK K
                    refine norm_ (a' := ?_) ?_ ?_
                    rotate_left
                    · show Act.put _ (some 33) _ = _
                      simp only [Act.put, List.setIfInBounds_toArray, List.set_cons_zero, List.set_cons_succ, i64_w, i32_w]
                      rfl
                    refine pure_ (i := 5) (N := some 28) (v := ?_) (a' := ?_) #[true, true, true, true, true, true, false, false, true, false, false] rfl rfl (any_of HT_.out (by kernel_rfl)) (fun _ _ _ h => h) (Or.inl ⟨by rfl, ?_⟩) ?_ ?_
                    rotate_left
                    · intro w'
                      go_simp
                      with_reducible rfl
                    rotate_left
                    · simp only [Act.put, List.setIfInBounds_toArray, List.set_cons_zero, List.set_cons_succ, i64_w, i32_w]
                      rfl
                    refine pure_ (i := 6) (N := some 34) (v := ?_) (a' := ?_) #[true, true, true, true, true, true, true, false, true, false, false] rfl rfl (any_of HT_.out (by kernel_rfl)) (fun _ _ _ h => h) (Or.inl ⟨by rfl, ?_⟩) ?_ ?_
                    rotate_left
                    · intro w'
                      go_simp
                      with_reducible rfl
                    rotate_left
                    · simp only [Act.put, List.setIfInBounds_toArray, List.set_cons_zero, List.set_cons_succ, i64_w, i32_w]
                      rfl
                    refine pure_ (i := 7) (N := some 35) (v := ?_) (a' := ?_) #[true, true, true, true, true, true, true, true, true, false, false] rfl rfl (any_of HT_.out (by kernel_rfl)) (fun _ _ _ h => h) (Or.inl ⟨by rfl, ?_⟩) ?_ ?_
                    rotate_left
                    · intro w'
                      go_simp
                      with_reducible rfl
                    rotate_left
                    · simp only [Act.put, List.setIfInBounds_toArray, List.set_cons_zero, List.set_cons_succ, i64_w, i32_w]
                      rfl
                    exact norm_ (by simp only [putAll, Act.put, List.setIfInBounds_toArray, List.set_cons_zero, List.set_cons_succ]) (hCont (gb154) _ ⟨hHeld, (by (with_reducible repeat (first | refine blk_drewN ?_ _ | refine blk_drew ?_ | refine blk_alloc ?_ _)); exact BK131.out), (by (with_reducible repeat (first | refine blk_drewN ?_ _ | refine blk_drew ?_ | refine blk_alloc ?_ _)); exact BK134.out), (by (with_reducible repeat (first | refine blk_drewN ?_ _ | refine blk_drew ?_ | refine blk_alloc ?_ _)); exact BK141.out), (by (with_reducible repeat (first | refine blk_drewN ?_ _ | refine blk_drew ?_ | refine blk_alloc ?_ _)); exact BK148.out), (by (with_reducible repeat (first | refine blk_drewN ?_ _ | refine blk_drew ?_ | refine blk_alloc ?_ _)); exact BK154.out), GW154.out, GE154.out, NB131_154.out, NB154_131.out, NB134_154.out, NB154_134.out, NB141_154.out, NB154_141.out, NB148_154.out, NB154_148.out, (by repeat (first | (with_reducible first | exact HB.out | apply below_alloc | apply pw_below_drewN | apply below_drew1 | refine below_set ?_ GE131.out | refine below_set ?_ GE134.out | refine below_set ?_ GE141.out | refine below_set ?_ GE148.out | refine below_set ?_ GE154.out) | exact HB.out))⟩)
                rintro gb154 w48 ⟨hS_, h0_, h1_, h2_, h3_, h4_, h5_, h6_, h7_, h8_, h9_, h10_, h11_, h12_, h13_, h14_, h15_⟩
                have n0_ : Aside0 (w48.heap[gb131]? = some (.cells #[.string (⟨#[102, 97, 110]⟩ : ByteArray), .int .i64 2, .int .i64 2, .string (⟨#[]⟩ : ByteArray), .int .i64 0, .int .i64 0, .int .i64 0, .slice none 0 0, .int .i64 0, .int .i64 0, .int .i64 60, .int .i64 30] 26 (0, 0))) := ⟨h0_⟩
                have n1_ : Aside0 (w48.heap[gb134]? = some (.cells #[.int .i64 t132, .int .i64 t133, .int .i64 100] 28 (0, 0))) := ⟨h1_⟩
                have n2_ : Aside0 (w48.heap[gb141]? = some (.cells #[.int .i64 t137, .int .i64 t138, .int .i64 t139] 28 (0, 0))) := ⟨h2_⟩
                have n3_ : Aside0 (w48.heap[gb148]? = some (.cells #[.int .i64 t144, .int .i64 t145, .int .i64 t146] 28 (0, 0))) := ⟨h3_⟩
                have n4_ : Aside0 (w48.heap[gb154]? = some (.cells #[.int .i64 0, .int .i64 0] 24 (0, 0))) := ⟨h4_⟩
                have n5_ : Aside0 (w.heap.size ≤ gb154) := ⟨h5_⟩
                have n6_ : Aside0 (w.heap.size ≤ gb154) := ⟨h6_⟩
                have n7_ : Aside0 (gb131 ≠ gb154) := ⟨h7_⟩
                have n8_ : Aside0 (gb154 ≠ gb131) := ⟨h8_⟩
                have n9_ : Aside0 (gb134 ≠ gb154) := ⟨h9_⟩
                have n10_ : Aside0 (gb154 ≠ gb134) := ⟨h10_⟩
                have n11_ : Aside0 (gb141 ≠ gb154) := ⟨h11_⟩
                have n12_ : Aside0 (gb154 ≠ gb141) := ⟨h12_⟩
                have n13_ : Aside0 (gb148 ≠ gb154) := ⟨h13_⟩
                have n14_ : Aside0 (gb154 ≠ gb148) := ⟨h14_⟩
                have n15_ : Aside0 (Below w.heap.size w w48) := ⟨h15_⟩
                clear BK131
                clear BK134
                clear BK141
                clear BK148
                clear HB
                clear h0_ h1_ h2_ h3_ h4_ h5_ h6_ h7_ h8_ h9_ h10_ h11_ h12_ h13_ h14_ h15_
                have BK131 := n0_
                have BK134 := n1_
                have BK141 := n2_
                have BK148 := n3_
                have BK154 := n4_
                have GW154 := n5_
                have GE154 := n6_
                have NB131_154 := n7_
                have NB154_131 := n8_
                have NB134_154 := n9_
                have NB154_134 := n10_
                have NB141_154 := n11_
                have NB154_141 := n12_
                have NB148_154 := n13_
                have NB154_148 := n14_
                have HB := n15_
                clear n0_ n1_ n2_ n3_ n4_ n5_ n6_ n7_ n8_ n9_ n10_ n11_ n12_ n13_ n14_ n15_
                have hHeld : w48.cell? ⟨gb131, 0, none⟩ = some (.string (⟨#[102, 97, 110]⟩ : ByteArray)) ∧ w48.cell? ⟨gb131, 1, none⟩ = some (.int .i64 2) ∧ w48.cell? ⟨gb131, 2, none⟩ = some (.int .i64 2) ∧ w48.cell? ⟨gb131, 3, none⟩ = some (.string (⟨#[]⟩ : ByteArray)) ∧ w48.cell? ⟨gb131, 4, none⟩ = some (.int .i64 0) ∧ w48.cell? ⟨gb131, 5, none⟩ = some (.int .i64 0) ∧ w48.cell? ⟨gb131, 6, none⟩ = some (.int .i64 0) ∧ w48.cell? ⟨gb131, 7, none⟩ = some (.slice none 0 0) ∧ w48.cell? ⟨gb131, 8, none⟩ = some (.int .i64 0) ∧ w48.cell? ⟨gb131, 9, none⟩ = some (.int .i64 0) ∧ w48.cell? ⟨gb131, 10, none⟩ = some (.int .i64 60) ∧ w48.cell? ⟨gb131, 11, none⟩ = some (.int .i64 30) ∧ w48.cell? ⟨gb134, 0, none⟩ = some (.int .i64 t132) ∧ w48.cell? ⟨gb134, 1, none⟩ = some (.int .i64 t133) ∧ w48.cell? ⟨gb134, 2, none⟩ = some (.int .i64 100) := hS_
                refine norm_ (a' := ?_) ?_ ?_
                rotate_left
                · simp only [putAll, Act.put, List.setIfInBounds_toArray, List.set_cons_zero, List.set_cons_succ]
                  rfl
                refine one_ (i := 9) (N := none) #[true, true, true, true, true, true, true, true, true, true, false] rfl rfl (one_of HT_.out (by kernel_rfl)) (by decide) (fun K hK => ?_)
                have hs49 : w48.cell? ⟨gb154, 0, none⟩ = some (.int .i64 0) := (blk_cell BK154.out 0).trans rfl
                have hfs49 := blk_frozen BK154.out 0
                have hns49_0 := NB131_154.out
                have hns49_1 := NB134_154.out
                have hns49_2 := NB141_154.out
                have hns49_3 := NB148_154.out
                have hms49_0 := NB154_131.out
                have hms49_1 := NB154_134.out
                have hms49_2 := NB154_141.out
                have hms49_3 := NB154_148.out
                have hs50 : w48.cell? ⟨gb154, 1, none⟩ = some (.int .i64 0) := (blk_cell BK154.out 1).trans rfl
                have hfs50 := blk_frozen BK154.out 1
                have hns50_0 := NB131_154.out
                have hns50_1 := NB134_154.out
                have hns50_2 := NB141_154.out
                have hns50_3 := NB148_154.out
                have hms50_0 := NB154_131.out
                have hms50_1 := NB154_134.out
                have hms50_2 := NB154_141.out
                have hms50_3 := NB154_148.out
                refine skip_ (w1 := ?_) (by rfl) rfl ?_ ?_
                rotate_left
                · go_simp
                  rfl
                refine hK.out _ _ ⟨((cell_far (p := ⟨gb154, _, none⟩) NB131_154.out _).trans (((cell_far (p := ⟨gb154, _, none⟩) NB131_154.out _).trans (hHeld.1)))), ((cell_far (p := ⟨gb154, _, none⟩) NB131_154.out _).trans (((cell_far (p := ⟨gb154, _, none⟩) NB131_154.out _).trans (hHeld.2.1)))), ((cell_far (p := ⟨gb154, _, none⟩) NB131_154.out _).trans (((cell_far (p := ⟨gb154, _, none⟩) NB131_154.out _).trans (hHeld.2.2.1)))), ((cell_far (p := ⟨gb154, _, none⟩) NB131_154.out _).trans (((cell_far (p := ⟨gb154, _, none⟩) NB131_154.out _).trans (hHeld.2.2.2.1)))), ((cell_far (p := ⟨gb154, _, none⟩) NB131_154.out _).trans (((cell_far (p := ⟨gb154, _, none⟩) NB131_154.out _).trans (hHeld.2.2.2.2.1)))), ((cell_far (p := ⟨gb154, _, none⟩) NB131_154.out _).trans (((cell_far (p := ⟨gb154, _, none⟩) NB131_154.out _).trans (hHeld.2.2.2.2.2.1)))), ((cell_far (p := ⟨gb154, _, none⟩) NB131_154.out _).trans (((cell_far (p := ⟨gb154, _, none⟩) NB131_154.out _).trans (hHeld.2.2.2.2.2.2.1)))), ((cell_far (p := ⟨gb154, _, none⟩) NB131_154.out _).trans (((cell_far (p := ⟨gb154, _, none⟩) NB131_154.out _).trans (hHeld.2.2.2.2.2.2.2.1)))), ((cell_far (p := ⟨gb154, _, none⟩) NB131_154.out _).trans (((cell_far (p := ⟨gb154, _, none⟩) NB131_154.out _).trans (hHeld.2.2.2.2.2.2.2.2.1)))), ((cell_far (p := ⟨gb154, _, none⟩) NB131_154.out _).trans (((cell_far (p := ⟨gb154, _, none⟩) NB131_154.out _).trans (hHeld.2.2.2.2.2.2.2.2.2.1)))), ((cell_far (p := ⟨gb154, _, none⟩) NB131_154.out _).trans (((cell_far (p := ⟨gb154, _, none⟩) NB131_154.out _).trans (hHeld.2.2.2.2.2.2.2.2.2.2.1)))), ((cell_far (p := ⟨gb154, _, none⟩) NB131_154.out _).trans (((cell_far (p := ⟨gb154, _, none⟩) NB131_154.out _).trans (hHeld.2.2.2.2.2.2.2.2.2.2.2.1)))), ((cell_far (p := ⟨gb154, _, none⟩) NB134_154.out _).trans (((cell_far (p := ⟨gb154, _, none⟩) NB134_154.out _).trans (hHeld.2.2.2.2.2.2.2.2.2.2.2.2.1)))), ((cell_far (p := ⟨gb154, _, none⟩) NB134_154.out _).trans (((cell_far (p := ⟨gb154, _, none⟩) NB134_154.out _).trans (hHeld.2.2.2.2.2.2.2.2.2.2.2.2.2.1)))), ((cell_far (p := ⟨gb154, _, none⟩) NB134_154.out _).trans (((cell_far (p := ⟨gb154, _, none⟩) NB134_154.out _).trans (hHeld.2.2.2.2.2.2.2.2.2.2.2.2.2.2))))⟩ (fun hHeld => ?_)
                clear hK K
                refine pure_ (i := 10) (N := some 8) (v := ?_) (a' := ?_) #[true, true, true, true, true, true, true, true, true, true, true] rfl rfl (any_of HT_.out (by kernel_rfl)) (fun _ _ _ h => h) (Or.inl ⟨by rfl, ?_⟩) ?_ ?_
                rotate_left
                · intro w'
                  go_simp
                  with_reducible rfl
                rotate_left
                · simp only [Act.put, List.setIfInBounds_toArray, List.set_cons_zero, List.set_cons_succ, i64_w, i32_w]
                  rfl
                refine done_ (done_of HT_.out (by kernel_rfl)) ?_
                try go_wp2
                have n0_ : Aside0 (((w48.setCell ⟨gb154, 0, none⟩ (.int .i64 t151)).setCell ⟨gb154, 1, none⟩ (.int .i64 t152)).heap[gb131]? = some (.cells #[.string (⟨#[102, 97, 110]⟩ : ByteArray), .int .i64 2, .int .i64 2, .string (⟨#[]⟩ : ByteArray), .int .i64 0, .int .i64 0, .int .i64 0, .slice none 0 0, .int .i64 0, .int .i64 0, .int .i64 60, .int .i64 30] 26 (0, 0))) := ⟨by (with_reducible repeat (first | refine blk_drewN ?_ _ | refine blk_drew ?_ | refine blk_alloc ?_ _)); refine blk_far ?_ NB131_154.out _; (with_reducible repeat (first | refine blk_drewN ?_ _ | refine blk_drew ?_ | refine blk_alloc ?_ _)); refine blk_far ?_ NB131_154.out _; (with_reducible repeat (first | refine blk_drewN ?_ _ | refine blk_drew ?_ | refine blk_alloc ?_ _)); exact BK131.out⟩
                have n1_ : Aside0 (((w48.setCell ⟨gb154, 0, none⟩ (.int .i64 t151)).setCell ⟨gb154, 1, none⟩ (.int .i64 t152)).heap[gb134]? = some (.cells #[.int .i64 t132, .int .i64 t133, .int .i64 100] 28 (0, 0))) := ⟨by (with_reducible repeat (first | refine blk_drewN ?_ _ | refine blk_drew ?_ | refine blk_alloc ?_ _)); refine blk_far ?_ NB134_154.out _; (with_reducible repeat (first | refine blk_drewN ?_ _ | refine blk_drew ?_ | refine blk_alloc ?_ _)); refine blk_far ?_ NB134_154.out _; (with_reducible repeat (first | refine blk_drewN ?_ _ | refine blk_drew ?_ | refine blk_alloc ?_ _)); exact BK134.out⟩
                have n2_ : Aside0 (((w48.setCell ⟨gb154, 0, none⟩ (.int .i64 t151)).setCell ⟨gb154, 1, none⟩ (.int .i64 t152)).heap[gb141]? = some (.cells #[.int .i64 t137, .int .i64 t138, .int .i64 t139] 28 (0, 0))) := ⟨by (with_reducible repeat (first | refine blk_drewN ?_ _ | refine blk_drew ?_ | refine blk_alloc ?_ _)); refine blk_far ?_ NB141_154.out _; (with_reducible repeat (first | refine blk_drewN ?_ _ | refine blk_drew ?_ | refine blk_alloc ?_ _)); refine blk_far ?_ NB141_154.out _; (with_reducible repeat (first | refine blk_drewN ?_ _ | refine blk_drew ?_ | refine blk_alloc ?_ _)); exact BK141.out⟩
                have n3_ : Aside0 (((w48.setCell ⟨gb154, 0, none⟩ (.int .i64 t151)).setCell ⟨gb154, 1, none⟩ (.int .i64 t152)).heap[gb148]? = some (.cells #[.int .i64 t144, .int .i64 t145, .int .i64 t146] 28 (0, 0))) := ⟨by (with_reducible repeat (first | refine blk_drewN ?_ _ | refine blk_drew ?_ | refine blk_alloc ?_ _)); refine blk_far ?_ NB148_154.out _; (with_reducible repeat (first | refine blk_drewN ?_ _ | refine blk_drew ?_ | refine blk_alloc ?_ _)); refine blk_far ?_ NB148_154.out _; (with_reducible repeat (first | refine blk_drewN ?_ _ | refine blk_drew ?_ | refine blk_alloc ?_ _)); exact BK148.out⟩
                have n4_ : Aside0 (((w48.setCell ⟨gb154, 0, none⟩ (.int .i64 t151)).setCell ⟨gb154, 1, none⟩ (.int .i64 t152)).heap[gb154]? = some (.cells #[.int .i64 t151, .int .i64 t152] 24 (0, 0))) := ⟨by (with_reducible repeat (first | refine blk_drewN ?_ _ | refine blk_drew ?_ | refine blk_alloc ?_ _)); refine blk_put (cs := #[.int .i64 t151, .int .i64 0]) ?_ 1 _ rfl; (with_reducible repeat (first | refine blk_drewN ?_ _ | refine blk_drew ?_ | refine blk_alloc ?_ _)); refine blk_put (cs := #[.int .i64 0, .int .i64 0]) ?_ 0 _ rfl; (with_reducible repeat (first | refine blk_drewN ?_ _ | refine blk_drew ?_ | refine blk_alloc ?_ _)); exact BK154.out⟩
                have n5_ : Aside0 (Below w.heap.size w ((w48.setCell ⟨gb154, 0, none⟩ (.int .i64 t151)).setCell ⟨gb154, 1, none⟩ (.int .i64 t152))) := ⟨by repeat (first | (with_reducible first | exact HB.out | apply below_alloc | apply pw_below_drewN | apply below_drew1 | refine below_set ?_ GE131.out | refine below_set ?_ GE134.out | refine below_set ?_ GE141.out | refine below_set ?_ GE148.out | refine below_set ?_ GE154.out) | exact HB.out)⟩
                (try clear BK131)
                (try clear BK134)
                (try clear BK141)
                (try clear BK148)
                (try clear BK154)
                (try clear HB)
                generalize ((w48.setCell ⟨gb154, 0, none⟩ (.int .i64 t151)).setCell ⟨gb154, 1, none⟩ (.int .i64 t152)) = w51 at n0_ n1_ n2_ n3_ n4_ n5_ ⊢
                have BK131 := n0_
                have BK134 := n1_
                have BK141 := n2_
                have BK148 := n3_
                have BK154 := n4_
                have HB := n5_
                clear n0_ n1_ n2_ n3_ n4_ n5_
                have n0_ := Aside0.mk (blk_drew BK131.out)
                have n1_ := Aside0.mk (blk_drew BK134.out)
                have n2_ := Aside0.mk (blk_drew BK141.out)
                have n3_ := Aside0.mk (blk_drew BK148.out)
                have n4_ := Aside0.mk (blk_drew BK154.out)
                have n5_ := Aside0.mk (below_drew1 HB.out)
                clear BK131
                clear BK134
                clear BK141
                clear BK148
                clear BK154
                clear HB
                have BK131 := n0_
                have BK134 := n1_
                have BK141 := n2_
                have BK148 := n3_
                have BK154 := n4_
                have HB := n5_
                clear n0_ n1_ n2_ n3_ n4_ n5_
                refine start_ (n := 38) (S := fun w' => w'.cell? ⟨gb141, 0, none⟩ = some (.int .i64 t137) ∧ w'.cell? ⟨gb141, 1, none⟩ = some (.int .i64 t138) ∧ w'.cell? ⟨gb141, 2, none⟩ = some (.int .i64 t139) ∧ w'.cell? ⟨gb134, 0, none⟩ = some (.int .i64 t132) ∧ w'.cell? ⟨gb134, 1, none⟩ = some (.int .i64 t133) ∧ w'.cell? ⟨gb134, 2, none⟩ = some (.int .i64 100) ∧ w'.cell? ⟨gb148, 0, none⟩ = some (.int .i64 t144) ∧ w'.cell? ⟨gb148, 1, none⟩ = some (.int .i64 t145) ∧ w'.cell? ⟨gb148, 2, none⟩ = some (.int .i64 t146) ∧ w'.cell? ⟨gb154, 0, none⟩ = some (.int .i64 t151) ∧ w'.cell? ⟨gb154, 1, none⟩ = some (.int .i64 t152) ∧ w'.cell? ⟨gb131, 0, none⟩ = some (.string (⟨#[102, 97, 110]⟩ : ByteArray)) ∧ w'.cell? ⟨gb131, 1, none⟩ = some (.int .i64 2) ∧ w'.cell? ⟨gb131, 2, none⟩ = some (.int .i64 2) ∧ w'.cell? ⟨gb131, 3, none⟩ = some (.string (⟨#[]⟩ : ByteArray)) ∧ w'.cell? ⟨gb131, 4, none⟩ = some (.int .i64 0) ∧ w'.cell? ⟨gb131, 5, none⟩ = some (.int .i64 0) ∧ w'.cell? ⟨gb131, 6, none⟩ = some (.int .i64 0) ∧ w'.cell? ⟨gb131, 7, none⟩ = some (.slice none 0 0) ∧ w'.cell? ⟨gb131, 8, none⟩ = some (.int .i64 0) ∧ w'.cell? ⟨gb131, 9, none⟩ = some (.int .i64 0) ∧ w'.cell? ⟨gb131, 10, none⟩ = some (.int .i64 60) ∧ w'.cell? ⟨gb131, 11, none⟩ = some (.int .i64 30)) (ds := []) #[false, false, false, false, false, false, false, false, false, false, false, false, false, false, false, false, false, false, false, false, false, false, false, false, false, false, false, false, false, false, false, false, false, false, false, false, false, false] (by kernel_rfl) rfl rfl ⟨(blk_cell BK141.out 0).trans rfl, (blk_cell BK141.out 1).trans rfl, (blk_cell BK141.out 2).trans rfl, (blk_cell BK134.out 0).trans rfl, (blk_cell BK134.out 1).trans rfl, (blk_cell BK134.out 2).trans rfl, (blk_cell BK148.out 0).trans rfl, (blk_cell BK148.out 1).trans rfl, (blk_cell BK148.out 2).trans rfl, (blk_cell BK154.out 0).trans rfl, (blk_cell BK154.out 1).trans rfl, (blk_cell BK131.out 0).trans rfl, (blk_cell BK131.out 1).trans rfl, (blk_cell BK131.out 2).trans rfl, (blk_cell BK131.out 3).trans rfl, (blk_cell BK131.out 4).trans rfl, (blk_cell BK131.out 5).trans rfl, (blk_cell BK131.out 6).trans rfl, (blk_cell BK131.out 7).trans rfl, (blk_cell BK131.out 8).trans rfl, (blk_cell BK131.out 9).trans rfl, (blk_cell BK131.out 10).trans rfl, (blk_cell BK131.out 11).trans rfl⟩ (fun hHeld => ?_); refine with_tabW plenumlaw14_awake.tab6 plenumlaw14_awake.bits6 (fun HT_ HW_ => ?_)
                generalize w51.drew = w52 at BK131 BK134 BK141 BK148 BK154 HB hHeld ⊢
                refine pure_ (i := 0) (N := some 36) (v := ?_) (a' := ?_) #[true, false, false, false, false, false, false, false, false, false, false, false, false, false, false, false, false, false, false, false, false, false, false, false, false, false, false, false, false, false, false, false, false, false, false, false, false, false] rfl rfl (any_of HT_.out (by kernel_rfl)) (fun _ _ _ h => h) (Or.inl ⟨by rfl, ?_⟩) ?_ ?_
                rotate_left
                · intro w'
                  go_simp
                  with_reducible rfl
                rotate_left
                · simp only [Act.put, List.setIfInBounds_toArray, List.set_cons_zero, List.set_cons_succ, i64_w, i32_w]
                  rfl
                refine pure_ (i := 1) (N := some 37) (v := ?_) (a' := ?_) #[true, true, false, false, false, false, false, false, false, false, false, false, false, false, false, false, false, false, false, false, false, false, false, false, false, false, false, false, false, false, false, false, false, false, false, false, false, false] rfl rfl (any_of HT_.out (by kernel_rfl)) (fun _ _ _ h => h) (Or.inl ⟨by rfl, ?_⟩) ?_ ?_
                rotate_left
                · intro w'
                  go_simp
                  with_reducible rfl
                rotate_left
                · simp only [Act.put, List.setIfInBounds_toArray, List.set_cons_zero, List.set_cons_succ, i64_w, i32_w]
                  rfl
                refine pure_ (i := 2) (N := some 38) (v := ?_) (a' := ?_) #[true, true, true, false, false, false, false, false, false, false, false, false, false, false, false, false, false, false, false, false, false, false, false, false, false, false, false, false, false, false, false, false, false, false, false, false, false, false] rfl rfl (any_of HT_.out (by kernel_rfl)) (fun _ _ _ h => h) (Or.inl ⟨by rfl, ?_⟩) ?_ ?_
                rotate_left
                · intro w'
                  go_simp
                  with_reducible rfl
                rotate_left
                · simp only [Act.put, List.setIfInBounds_toArray, List.set_cons_zero, List.set_cons_succ, i64_w, i32_w]
                  rfl
                refine take_ (i := 3) (N := some 39) (v := ?_) (a' := ?_) #[true, true, true, true, false, false, false, false, false, false, false, false, false, false, false, false, false, false, false, false, false, false, false, false, false, false, false, false, false, false, false, false, false, false, false, false, false, false] rfl rfl (take_ofW HT_.out HW_.out (by kernel_rfl)) (fun _ _ _ h => h) (Or.inl ⟨by rfl, ?_⟩) hHeld ?_ ?_
                rotate_left
                · rintro w' ⟨s0, s1, s2, s3, s4, s5, s6, s7, s8, s9, s10, s11, s12, s13, s14, s15, s16, s17, s18, s19, s20, s21, s22⟩
                  go_simp
                  with_reducible rfl
                rotate_left
                · simp only [Act.put, List.setIfInBounds_toArray, List.set_cons_zero, List.set_cons_succ, i64_w, i32_w]
                  rfl
                refine take_ (i := 4) (N := some 40) (v := ?_) (a' := ?_) #[true, true, true, true, true, false, false, false, false, false, false, false, false, false, false, false, false, false, false, false, false, false, false, false, false, false, false, false, false, false, false, false, false, false, false, false, false, false] rfl rfl (take_ofW HT_.out HW_.out (by kernel_rfl)) (fun _ _ _ h => h) (Or.inl ⟨by rfl, ?_⟩) hHeld ?_ ?_
                rotate_left
                · rintro w' ⟨s0, s1, s2, s3, s4, s5, s6, s7, s8, s9, s10, s11, s12, s13, s14, s15, s16, s17, s18, s19, s20, s21, s22⟩
                  go_simp
                  with_reducible rfl
                rotate_left
                · simp only [Act.put, List.setIfInBounds_toArray, List.set_cons_zero, List.set_cons_succ, i64_w, i32_w]
                  rfl
                refine pure_ (i := 5) (N := some 41) (v := ?_) (a' := ?_) #[true, true, true, true, true, true, false, false, false, false, false, false, false, false, false, false, false, false, false, false, false, false, false, false, false, false, false, false, false, false, false, false, false, false, false, false, false, false] rfl rfl (any_of HT_.out (by kernel_rfl)) (fun _ _ _ h => h) (Or.inl ⟨by rfl, ?_⟩) ?_ ?_
                rotate_left
                · intro w'
                  go_simp
                  with_reducible rfl
                rotate_left
                · simp only [Act.put, List.setIfInBounds_toArray, List.set_cons_zero, List.set_cons_succ, i64_w, i32_w]
                  rfl
                refine pure_ (i := 6) (N := some 42) (v := ?_) (a' := ?_) #[true, true, true, true, true, true, true, false, false, false, false, false, false, false, false, false, false, false, false, false, false, false, false, false, false, false, false, false, false, false, false, false, false, false, false, false, false, false] rfl rfl (any_of HT_.out (by kernel_rfl)) (fun _ _ _ h => h) (Or.inl ⟨by rfl, ?_⟩) ?_ ?_
                rotate_left
                · intro w'
                  go_simp
                  with_reducible rfl
                rotate_left
                · simp only [Act.put, List.setIfInBounds_toArray, List.set_cons_zero, List.set_cons_succ, i64_w, i32_w]
                  rfl
                refine pure_ (i := 7) (N := some 43) (v := ?_) (a' := ?_) #[true, true, true, true, true, true, true, true, false, false, false, false, false, false, false, false, false, false, false, false, false, false, false, false, false, false, false, false, false, false, false, false, false, false, false, false, false, false] rfl rfl (any_of HT_.out (by kernel_rfl)) (fun _ _ _ h => h) (Or.inl ⟨by rfl, ?_⟩) ?_ ?_
                rotate_left
                · intro w'
                  go_simp
                  with_reducible rfl
                rotate_left
                · simp only [Act.put, List.setIfInBounds_toArray, List.set_cons_zero, List.set_cons_succ, i64_w, i32_w]
                  rfl
                refine pure_ (i := 8) (N := some 44) (v := ?_) (a' := ?_) #[true, true, true, true, true, true, true, true, true, false, false, false, false, false, false, false, false, false, false, false, false, false, false, false, false, false, false, false, false, false, false, false, false, false, false, false, false, false] rfl rfl (any_of HT_.out (by kernel_rfl)) (fun _ _ _ h => h) (Or.inl ⟨by rfl, ?_⟩) ?_ ?_
                rotate_left
                · intro w'
                  go_simp
                  with_reducible rfl
                rotate_left
                · simp only [Act.put, List.setIfInBounds_toArray, List.set_cons_zero, List.set_cons_succ, i64_w, i32_w]
                  rfl
                refine pure_ (i := 9) (N := some 45) (v := ?_) (a' := ?_) #[true, true, true, true, true, true, true, true, true, true, false, false, false, false, false, false, false, false, false, false, false, false, false, false, false, false, false, false, false, false, false, false, false, false, false, false, false, false] rfl rfl (any_of HT_.out (by kernel_rfl)) (fun _ _ _ h => h) (Or.inl ⟨by rfl, ?_⟩) ?_ ?_
                rotate_left
                · intro w'
                  go_simp
                  with_reducible rfl
                rotate_left
                · simp only [Act.put, List.setIfInBounds_toArray, List.set_cons_zero, List.set_cons_succ, i64_w, i32_w]
                  rfl
                refine pure_ (i := 10) (N := some 46) (v := ?_) (a' := ?_) #[true, true, true, true, true, true, true, true, true, true, true, false, false, false, false, false, false, false, false, false, false, false, false, false, false, false, false, false, false, false, false, false, false, false, false, false, false, false] rfl rfl (any_of HT_.out (by kernel_rfl)) (fun _ _ _ h => h) (Or.inl ⟨by rfl, ?_⟩) ?_ ?_
                rotate_left
                · intro w'
                  go_simp
                  with_reducible rfl
                rotate_left
                · simp only [Act.put, List.setIfInBounds_toArray, List.set_cons_zero, List.set_cons_succ, i64_w, i32_w]
                  rfl
                refine pure_ (i := 11) (N := some 47) (v := ?_) (a' := ?_) #[true, true, true, true, true, true, true, true, true, true, true, true, false, false, false, false, false, false, false, false, false, false, false, false, false, false, false, false, false, false, false, false, false, false, false, false, false, false] rfl rfl (any_of HT_.out (by kernel_rfl)) (fun _ _ _ h => h) (Or.inl ⟨by rfl, ?_⟩) ?_ ?_
                rotate_left
                · intro w'
                  go_simp
                  with_reducible rfl
                rotate_left
                · simp only [Act.put, List.setIfInBounds_toArray, List.set_cons_zero, List.set_cons_succ, i64_w, i32_w]
                  rfl
                refine take_ (i := 12) (N := some 48) (v := ?_) (a' := ?_) #[true, true, true, true, true, true, true, true, true, true, true, true, true, false, false, false, false, false, false, false, false, false, false, false, false, false, false, false, false, false, false, false, false, false, false, false, false, false] rfl rfl (take_ofW HT_.out HW_.out (by kernel_rfl)) (fun _ _ _ h => h) (Or.inl ⟨by rfl, ?_⟩) hHeld ?_ ?_
                rotate_left
                · rintro w' ⟨s0, s1, s2, s3, s4, s5, s6, s7, s8, s9, s10, s11, s12, s13, s14, s15, s16, s17, s18, s19, s20, s21, s22⟩
                  go_simp
                  with_reducible rfl
                rotate_left
                · simp only [Act.put, List.setIfInBounds_toArray, List.set_cons_zero, List.set_cons_succ, i64_w, i32_w]
                  rfl
                refine one_ (i := 13) (N := some 49) #[true, true, true, true, true, true, true, true, true, true, true, true, true, true, false, false, false, false, false, false, false, false, false, false, false, false, false, false, false, false, false, false, false, false, false, false, false, false] rfl rfl (one_of HT_.out (by kernel_rfl)) (by decide) (fun K hK => ?_)
                refine goes_ Try.func18 (by kernel_rfl) rfl #[.int .i64 0] (by rfl) rfl rfl (by (try simp only [List.map_toArray, List.map_cons, List.map_nil]); first | done | rfl | (simp only [List.length_drop, List.length_take]; rfl)) ?_
                with_reducible refine (plenumlaw14_on.calls 0 t155 t156 _ A11.out).mono ?_
                rintro e w53 ⟨rfl, hb⟩
                refine ⟨_, rfl, ?_⟩
                have n0_ := Aside0.mk (blk_below (g := gb131) (o := .cells #[.string (⟨#[102, 97, 110]⟩ : ByteArray), .int .i64 2, .int .i64 2, .string (⟨#[]⟩ : ByteArray), .int .i64 0, .int .i64 0, .int .i64 0, .slice none 0 0, .int .i64 0, .int .i64 0, .int .i64 60, .int .i64 30] 26 (0, 0)) (by (with_reducible repeat (first | refine blk_drewN ?_ _ | refine blk_drew ?_ | refine blk_alloc ?_ _)); exact BK131.out) hb)
                have n1_ := Aside0.mk (blk_below (g := gb134) (o := .cells #[.int .i64 t132, .int .i64 t133, .int .i64 100] 28 (0, 0)) (by (with_reducible repeat (first | refine blk_drewN ?_ _ | refine blk_drew ?_ | refine blk_alloc ?_ _)); exact BK134.out) hb)
                have n2_ := Aside0.mk (blk_below (g := gb141) (o := .cells #[.int .i64 t137, .int .i64 t138, .int .i64 t139] 28 (0, 0)) (by (with_reducible repeat (first | refine blk_drewN ?_ _ | refine blk_drew ?_ | refine blk_alloc ?_ _)); exact BK141.out) hb)
                have n3_ := Aside0.mk (blk_below (g := gb148) (o := .cells #[.int .i64 t144, .int .i64 t145, .int .i64 t146] 28 (0, 0)) (by (with_reducible repeat (first | refine blk_drewN ?_ _ | refine blk_drew ?_ | refine blk_alloc ?_ _)); exact BK148.out) hb)
                have n4_ := Aside0.mk (blk_below (g := gb154) (o := .cells #[.int .i64 t151, .int .i64 t152] 24 (0, 0)) (by (with_reducible repeat (first | refine blk_drewN ?_ _ | refine blk_drew ?_ | refine blk_alloc ?_ _)); exact BK154.out) hb)
                have n5_ := Aside0.mk (below_step (by repeat (first | (with_reducible first | exact HB.out | apply below_alloc | apply pw_below_drewN | apply below_drew1 | refine below_set ?_ GE131.out | refine below_set ?_ GE134.out | refine below_set ?_ GE141.out | refine below_set ?_ GE148.out | refine below_set ?_ GE154.out) | exact HB.out)) hb)
                clear BK131
                clear BK134
                clear BK141
                clear BK148
                clear BK154
                clear HB
                have BK131 := n0_
                have BK134 := n1_
                have BK141 := n2_
                have BK148 := n3_
                have BK154 := n4_
                have HB := n5_
                clear n0_ n1_ n2_ n3_ n4_ n5_
                (try clear hb)
                (try clear hb2)
                (try clear hk)
                (try clear hi)
                refine hK.out _ _ ⟨(blk_cell BK141.out 0).trans rfl, (blk_cell BK141.out 1).trans rfl, (blk_cell BK141.out 2).trans rfl, (blk_cell BK134.out 0).trans rfl, (blk_cell BK134.out 1).trans rfl, (blk_cell BK134.out 2).trans rfl, (blk_cell BK148.out 0).trans rfl, (blk_cell BK148.out 1).trans rfl, (blk_cell BK148.out 2).trans rfl, (blk_cell BK154.out 0).trans rfl, (blk_cell BK154.out 1).trans rfl, (blk_cell BK131.out 0).trans rfl, (blk_cell BK131.out 1).trans rfl, (blk_cell BK131.out 2).trans rfl, (blk_cell BK131.out 3).trans rfl, (blk_cell BK131.out 4).trans rfl, (blk_cell BK131.out 5).trans rfl, (blk_cell BK131.out 6).trans rfl, (blk_cell BK131.out 7).trans rfl, (blk_cell BK131.out 8).trans rfl, (blk_cell BK131.out 9).trans rfl, (blk_cell BK131.out 10).trans rfl, (blk_cell BK131.out 11).trans rfl⟩ (fun hHeld => ?_)
                clear hK K
                refine norm_ (a' := ?_) ?_ ?_
                rotate_left
                · show Act.put _ (some 49) _ = _
                  simp only [Act.put, List.setIfInBounds_toArray, List.set_cons_zero, List.set_cons_succ, i64_w, i32_w]
                  rfl
                refine pure_ (i := 14) (N := some 50) (v := ?_) (a' := ?_) #[true, true, true, true, true, true, true, true, true, true, true, true, true, true, true, false, false, false, false, false, false, false, false, false, false, false, false, false, false, false, false, false, false, false, false, false, false, false] rfl rfl (any_of HT_.out (by kernel_rfl)) (fun _ _ _ h => h) (Or.inl ⟨by rfl, ?_⟩) ?_ ?_
                rotate_left
                · intro w'
                  go_simp
                  with_reducible rfl
                rotate_left
                · simp only [Act.put, List.setIfInBounds_toArray, List.set_cons_zero, List.set_cons_succ, i64_w, i32_w]
                  rfl
                refine pure_ (i := 15) (N := some 51) (v := ?_) (a' := ?_) #[true, true, true, true, true, true, true, true, true, true, true, true, true, true, true, true, false, false, false, false, false, false, false, false, false, false, false, false, false, false, false, false, false, false, false, false, false, false] rfl rfl (any_of HT_.out (by kernel_rfl)) (fun _ _ _ h => h) (Or.inl ⟨by rfl, ?_⟩) ?_ ?_
                rotate_left
                · intro w'
                  go_simp
                  with_reducible rfl
                rotate_left
                · simp only [Act.put, List.setIfInBounds_toArray, List.set_cons_zero, List.set_cons_succ, i64_w, i32_w]
                  rfl
                refine pure_ (i := 16) (N := some 52) (v := ?_) (a' := ?_) #[true, true, true, true, true, true, true, true, true, true, true, true, true, true, true, true, true, false, false, false, false, false, false, false, false, false, false, false, false, false, false, false, false, false, false, false, false, false] rfl rfl (any_of HT_.out (by kernel_rfl)) (fun _ _ _ h => h) (Or.inl ⟨by rfl, ?_⟩) ?_ ?_
                rotate_left
                · intro w'
                  go_simp
                  with_reducible rfl
                rotate_left
                · simp only [Act.put, List.setIfInBounds_toArray, List.set_cons_zero, List.set_cons_succ, i64_w, i32_w]
                  rfl
                refine pure_ (i := 17) (N := some 53) (v := ?_) (a' := ?_) #[true, true, true, true, true, true, true, true, true, true, true, true, true, true, true, true, true, true, false, false, false, false, false, false, false, false, false, false, false, false, false, false, false, false, false, false, false, false] rfl rfl (any_of HT_.out (by kernel_rfl)) (fun _ _ _ h => h) (Or.inl ⟨by rfl, ?_⟩) ?_ ?_
                rotate_left
                · intro w'
                  go_simp
                  with_reducible rfl
                rotate_left
                · simp only [Act.put, List.setIfInBounds_toArray, List.set_cons_zero, List.set_cons_succ, i64_w, i32_w]
                  rfl
                refine pure_ (i := 18) (N := some 54) (v := ?_) (a' := ?_) #[true, true, true, true, true, true, true, true, true, true, true, true, true, true, true, true, true, true, true, false, false, false, false, false, false, false, false, false, false, false, false, false, false, false, false, false, false, false] rfl rfl (any_of HT_.out (by kernel_rfl)) (fun _ _ _ h => h) (Or.inl ⟨by rfl, ?_⟩) ?_ ?_
                rotate_left
                · intro w'
                  go_simp
                  with_reducible rfl
                rotate_left
                · simp only [Act.put, List.setIfInBounds_toArray, List.set_cons_zero, List.set_cons_succ, i64_w, i32_w]
                  rfl
                refine pure_ (i := 19) (N := some 55) (v := ?_) (a' := ?_) #[true, true, true, true, true, true, true, true, true, true, true, true, true, true, true, true, true, true, true, true, false, false, false, false, false, false, false, false, false, false, false, false, false, false, false, false, false, false] rfl rfl (any_of HT_.out (by kernel_rfl)) (fun _ _ _ h => h) (Or.inl ⟨by rfl, ?_⟩) ?_ ?_
                rotate_left
                · intro w'
                  go_simp
                  with_reducible rfl
                rotate_left
                · simp only [Act.put, List.setIfInBounds_toArray, List.set_cons_zero, List.set_cons_succ, i64_w, i32_w]
                  rfl
                refine pure_ (i := 20) (N := some 56) (v := ?_) (a' := ?_) #[true, true, true, true, true, true, true, true, true, true, true, true, true, true, true, true, true, true, true, true, true, false, false, false, false, false, false, false, false, false, false, false, false, false, false, false, false, false] rfl rfl (any_of HT_.out (by kernel_rfl)) (fun _ _ _ h => h) (Or.inl ⟨by rfl, ?_⟩) ?_ ?_
                rotate_left
                · intro w'
                  go_simp
                  with_reducible rfl
                rotate_left
                · simp only [Act.put, List.setIfInBounds_toArray, List.set_cons_zero, List.set_cons_succ, i64_w, i32_w]
                  rfl
                refine pure_ (i := 21) (N := some 57) (v := ?_) (a' := ?_) #[true, true, true, true, true, true, true, true, true, true, true, true, true, true, true, true, true, true, true, true, true, true, false, false, false, false, false, false, false, false, false, false, false, false, false, false, false, false] rfl rfl (any_of HT_.out (by kernel_rfl)) (fun _ _ _ h => h) (Or.inl ⟨by rfl, ?_⟩) ?_ ?_
                rotate_left
                · intro w'
                  go_simp
                  with_reducible rfl
                rotate_left
                · simp only [Act.put, List.setIfInBounds_toArray, List.set_cons_zero, List.set_cons_succ, i64_w, i32_w]
                  rfl
                refine take_ (i := 22) (N := some 58) (v := ?_) (a' := ?_) #[true, true, true, true, true, true, true, true, true, true, true, true, true, true, true, true, true, true, true, true, true, true, true, false, false, false, false, false, false, false, false, false, false, false, false, false, false, false] rfl rfl (take_ofW HT_.out HW_.out (by kernel_rfl)) (fun _ _ _ h => h) (Or.inl ⟨by rfl, ?_⟩) hHeld ?_ ?_
                rotate_left
                · rintro w' ⟨s0, s1, s2, s3, s4, s5, s6, s7, s8, s9, s10, s11, s12, s13, s14, s15, s16, s17, s18, s19, s20, s21, s22⟩
                  go_simp
                  with_reducible rfl
                rotate_left
                · simp only [Act.put, List.setIfInBounds_toArray, List.set_cons_zero, List.set_cons_succ, i64_w, i32_w]
                  rfl
                refine one_ (i := 23) (N := some 59) #[true, true, true, true, true, true, true, true, true, true, true, true, true, true, true, true, true, true, true, true, true, true, true, true, false, false, false, false, false, false, false, false, false, false, false, false, false, false] rfl rfl (one_of HT_.out (by kernel_rfl)) (by decide) (fun K hK => ?_)
                refine goes_ Try.func18 (by kernel_rfl) rfl #[.int .i64 0] (by rfl) rfl rfl (by (try simp only [List.map_toArray, List.map_cons, List.map_nil]); first | done | rfl | (simp only [List.length_drop, List.length_take]; rfl)) ?_
                with_reducible refine (plenumlaw14_on.calls 0 t157 t158 _ A14.out).mono ?_
                rintro e w54 ⟨rfl, hb⟩
                refine ⟨_, rfl, ?_⟩
                have n0_ := Aside0.mk (blk_below (g := gb131) (o := .cells #[.string (⟨#[102, 97, 110]⟩ : ByteArray), .int .i64 2, .int .i64 2, .string (⟨#[]⟩ : ByteArray), .int .i64 0, .int .i64 0, .int .i64 0, .slice none 0 0, .int .i64 0, .int .i64 0, .int .i64 60, .int .i64 30] 26 (0, 0)) (by (with_reducible repeat (first | refine blk_drewN ?_ _ | refine blk_drew ?_ | refine blk_alloc ?_ _)); exact BK131.out) hb)
                have n1_ := Aside0.mk (blk_below (g := gb134) (o := .cells #[.int .i64 t132, .int .i64 t133, .int .i64 100] 28 (0, 0)) (by (with_reducible repeat (first | refine blk_drewN ?_ _ | refine blk_drew ?_ | refine blk_alloc ?_ _)); exact BK134.out) hb)
                have n2_ := Aside0.mk (blk_below (g := gb141) (o := .cells #[.int .i64 t137, .int .i64 t138, .int .i64 t139] 28 (0, 0)) (by (with_reducible repeat (first | refine blk_drewN ?_ _ | refine blk_drew ?_ | refine blk_alloc ?_ _)); exact BK141.out) hb)
                have n3_ := Aside0.mk (blk_below (g := gb148) (o := .cells #[.int .i64 t144, .int .i64 t145, .int .i64 t146] 28 (0, 0)) (by (with_reducible repeat (first | refine blk_drewN ?_ _ | refine blk_drew ?_ | refine blk_alloc ?_ _)); exact BK148.out) hb)
                have n4_ := Aside0.mk (blk_below (g := gb154) (o := .cells #[.int .i64 t151, .int .i64 t152] 24 (0, 0)) (by (with_reducible repeat (first | refine blk_drewN ?_ _ | refine blk_drew ?_ | refine blk_alloc ?_ _)); exact BK154.out) hb)
                have n5_ := Aside0.mk (below_step (by repeat (first | (with_reducible first | exact HB.out | apply below_alloc | apply pw_below_drewN | apply below_drew1 | refine below_set ?_ GE131.out | refine below_set ?_ GE134.out | refine below_set ?_ GE141.out | refine below_set ?_ GE148.out | refine below_set ?_ GE154.out) | exact HB.out)) hb)
                clear BK131
                clear BK134
                clear BK141
                clear BK148
                clear BK154
                clear HB
                have BK131 := n0_
                have BK134 := n1_
                have BK141 := n2_
                have BK148 := n3_
                have BK154 := n4_
                have HB := n5_
                clear n0_ n1_ n2_ n3_ n4_ n5_
                (try clear hb)
                (try clear hb2)
                (try clear hk)
                (try clear hi)
                refine hK.out _ _ ⟨(blk_cell BK141.out 0).trans rfl, (blk_cell BK141.out 1).trans rfl, (blk_cell BK141.out 2).trans rfl, (blk_cell BK134.out 0).trans rfl, (blk_cell BK134.out 1).trans rfl, (blk_cell BK134.out 2).trans rfl, (blk_cell BK148.out 0).trans rfl, (blk_cell BK148.out 1).trans rfl, (blk_cell BK148.out 2).trans rfl, (blk_cell BK154.out 0).trans rfl, (blk_cell BK154.out 1).trans rfl, (blk_cell BK131.out 0).trans rfl, (blk_cell BK131.out 1).trans rfl, (blk_cell BK131.out 2).trans rfl, (blk_cell BK131.out 3).trans rfl, (blk_cell BK131.out 4).trans rfl, (blk_cell BK131.out 5).trans rfl, (blk_cell BK131.out 6).trans rfl, (blk_cell BK131.out 7).trans rfl, (blk_cell BK131.out 8).trans rfl, (blk_cell BK131.out 9).trans rfl, (blk_cell BK131.out 10).trans rfl, (blk_cell BK131.out 11).trans rfl⟩ (fun hHeld => ?_)
                clear hK K
                refine norm_ (a' := ?_) ?_ ?_
                rotate_left
                · show Act.put _ (some 59) _ = _
                  simp only [Act.put, List.setIfInBounds_toArray, List.set_cons_zero, List.set_cons_succ, i64_w, i32_w]
                  rfl
                refine pure_ (i := 24) (N := some 60) (v := ?_) (a' := ?_) #[true, true, true, true, true, true, true, true, true, true, true, true, true, true, true, true, true, true, true, true, true, true, true, true, true, false, false, false, false, false, false, false, false, false, false, false, false, false] rfl rfl (any_of HT_.out (by kernel_rfl)) (fun _ _ _ h => h) (Or.inl ⟨by rfl, ?_⟩) ?_ ?_
                rotate_left
                · intro w'
                  go_simp
                  with_reducible rfl
                rotate_left
                · simp only [Act.put, List.setIfInBounds_toArray, List.set_cons_zero, List.set_cons_succ, i64_w, i32_w]
                  rfl
                refine pure_ (i := 25) (N := some 61) (v := ?_) (a' := ?_) #[true, true, true, true, true, true, true, true, true, true, true, true, true, true, true, true, true, true, true, true, true, true, true, true, true, true, false, false, false, false, false, false, false, false, false, false, false, false] rfl rfl (any_of HT_.out (by kernel_rfl)) (fun _ _ _ h => h) (Or.inl ⟨by rfl, ?_⟩) ?_ ?_
                rotate_left
                · intro w'
                  go_simp
                  with_reducible rfl
                rotate_left
                · simp only [Act.put, List.setIfInBounds_toArray, List.set_cons_zero, List.set_cons_succ, i64_w, i32_w]
                  rfl
                refine pure_ (i := 26) (N := some 62) (v := ?_) (a' := ?_) #[true, true, true, true, true, true, true, true, true, true, true, true, true, true, true, true, true, true, true, true, true, true, true, true, true, true, true, false, false, false, false, false, false, false, false, false, false, false] rfl rfl (any_of HT_.out (by kernel_rfl)) (fun _ _ _ h => h) (Or.inl ⟨by rfl, ?_⟩) ?_ ?_
                rotate_left
                · intro w'
                  go_simp
                  with_reducible rfl
                rotate_left
                · simp only [Act.put, List.setIfInBounds_toArray, List.set_cons_zero, List.set_cons_succ, i64_w, i32_w]
                  rfl
                refine take_ (i := 27) (N := some 63) (v := ?_) (a' := ?_) #[true, true, true, true, true, true, true, true, true, true, true, true, true, true, true, true, true, true, true, true, true, true, true, true, true, true, true, true, false, false, false, false, false, false, false, false, false, false] rfl rfl (take_ofW HT_.out HW_.out (by kernel_rfl)) (fun _ _ _ h => h) (Or.inl ⟨by rfl, ?_⟩) hHeld ?_ ?_
                rotate_left
                · rintro w' ⟨s0, s1, s2, s3, s4, s5, s6, s7, s8, s9, s10, s11, s12, s13, s14, s15, s16, s17, s18, s19, s20, s21, s22⟩
                  go_simp
                  with_reducible rfl
                rotate_left
                · simp only [Act.put, List.setIfInBounds_toArray, List.set_cons_zero, List.set_cons_succ, i64_w, i32_w]
                  rfl
                refine take_ (i := 28) (N := some 64) (v := ?_) (a' := ?_) #[true, true, true, true, true, true, true, true, true, true, true, true, true, true, true, true, true, true, true, true, true, true, true, true, true, true, true, true, true, false, false, false, false, false, false, false, false, false] rfl rfl (take_ofW HT_.out HW_.out (by kernel_rfl)) (fun _ _ _ h => h) (Or.inl ⟨by rfl, ?_⟩) hHeld ?_ ?_
                rotate_left
                · rintro w' ⟨s0, s1, s2, s3, s4, s5, s6, s7, s8, s9, s10, s11, s12, s13, s14, s15, s16, s17, s18, s19, s20, s21, s22⟩
                  go_simp
                  with_reducible rfl
                rotate_left
                · simp only [Act.put, List.setIfInBounds_toArray, List.set_cons_zero, List.set_cons_succ, i64_w, i32_w]
                  rfl
                refine one_ (i := 29) (N := some 65) #[true, true, true, true, true, true, true, true, true, true, true, true, true, true, true, true, true, true, true, true, true, true, true, true, true, true, true, true, true, true, false, false, false, false, false, false, false, false] rfl rfl (one_of HT_.out (by kernel_rfl)) (by decide) (fun K hK => ?_)
                refine goes_ Try.func19 (by kernel_rfl) rfl #[.agg #[.string (⟨#[102, 97, 110]⟩ : ByteArray), .int .i64 2, .int .i64 2, .string (⟨#[]⟩ : ByteArray), .int .i64 0, .int .i64 0, .int .i64 0, .slice none 0 0, .int .i64 0, .int .i64 0, .int .i64 60, .int .i64 30], .agg #[.int .i64 t132, .int .i64 t133, .int .i64 100]] (by rfl) rfl rfl (by (try simp only [List.map_toArray, List.map_cons, List.map_nil]); first | done | rfl | (simp only [List.length_drop, List.length_take]; rfl)) ?_
                refine (minimum_Until.calls k (⟨#[102, 97, 110]⟩ : ByteArray) 2 2 (⟨#[]⟩ : ByteArray) 0 0 0 _ _ ([] : List ByteArray) 0 0 60 30 t132 t133 100 t159 _ ?side1 ?side2 A16.out).mono ?_
                (case side1 => exact Kd.C_nil _ _)
                (case side2 => exact Nat.le_refl _)
                rintro e w55 ⟨rfl, hb⟩
                refine ⟨_, rfl, ?_⟩
                have n0_ := Aside0.mk (blk_below (g := gb131) (o := .cells #[.string (⟨#[102, 97, 110]⟩ : ByteArray), .int .i64 2, .int .i64 2, .string (⟨#[]⟩ : ByteArray), .int .i64 0, .int .i64 0, .int .i64 0, .slice none 0 0, .int .i64 0, .int .i64 0, .int .i64 60, .int .i64 30] 26 (0, 0)) (by (with_reducible repeat (first | refine blk_drewN ?_ _ | refine blk_drew ?_ | refine blk_alloc ?_ _)); exact BK131.out) hb)
                have n1_ := Aside0.mk (blk_below (g := gb134) (o := .cells #[.int .i64 t132, .int .i64 t133, .int .i64 100] 28 (0, 0)) (by (with_reducible repeat (first | refine blk_drewN ?_ _ | refine blk_drew ?_ | refine blk_alloc ?_ _)); exact BK134.out) hb)
                have n2_ := Aside0.mk (blk_below (g := gb141) (o := .cells #[.int .i64 t137, .int .i64 t138, .int .i64 t139] 28 (0, 0)) (by (with_reducible repeat (first | refine blk_drewN ?_ _ | refine blk_drew ?_ | refine blk_alloc ?_ _)); exact BK141.out) hb)
                have n3_ := Aside0.mk (blk_below (g := gb148) (o := .cells #[.int .i64 t144, .int .i64 t145, .int .i64 t146] 28 (0, 0)) (by (with_reducible repeat (first | refine blk_drewN ?_ _ | refine blk_drew ?_ | refine blk_alloc ?_ _)); exact BK148.out) hb)
                have n4_ := Aside0.mk (blk_below (g := gb154) (o := .cells #[.int .i64 t151, .int .i64 t152] 24 (0, 0)) (by (with_reducible repeat (first | refine blk_drewN ?_ _ | refine blk_drew ?_ | refine blk_alloc ?_ _)); exact BK154.out) hb)
                have n5_ := Aside0.mk (below_step (by repeat (first | (with_reducible first | exact HB.out | apply below_alloc | apply pw_below_drewN | apply below_drew1 | refine below_set ?_ GE131.out | refine below_set ?_ GE134.out | refine below_set ?_ GE141.out | refine below_set ?_ GE148.out | refine below_set ?_ GE154.out) | exact HB.out)) hb)
                clear BK131
                clear BK134
                clear BK141
                clear BK148
                clear BK154
                clear HB
                have BK131 := n0_
                have BK134 := n1_
                have BK141 := n2_
                have BK148 := n3_
                have BK154 := n4_
                have HB := n5_
                clear n0_ n1_ n2_ n3_ n4_ n5_
                (try clear hb)
                (try clear hb2)
                (try clear hk)
                (try clear hi)
                refine hK.out _ _ ⟨(blk_cell BK141.out 0).trans rfl, (blk_cell BK141.out 1).trans rfl, (blk_cell BK141.out 2).trans rfl, (blk_cell BK134.out 0).trans rfl, (blk_cell BK134.out 1).trans rfl, (blk_cell BK134.out 2).trans rfl, (blk_cell BK148.out 0).trans rfl, (blk_cell BK148.out 1).trans rfl, (blk_cell BK148.out 2).trans rfl, (blk_cell BK154.out 0).trans rfl, (blk_cell BK154.out 1).trans rfl, (blk_cell BK131.out 0).trans rfl, (blk_cell BK131.out 1).trans rfl, (blk_cell BK131.out 2).trans rfl, (blk_cell BK131.out 3).trans rfl, (blk_cell BK131.out 4).trans rfl, (blk_cell BK131.out 5).trans rfl, (blk_cell BK131.out 6).trans rfl, (blk_cell BK131.out 7).trans rfl, (blk_cell BK131.out 8).trans rfl, (blk_cell BK131.out 9).trans rfl, (blk_cell BK131.out 10).trans rfl, (blk_cell BK131.out 11).trans rfl⟩ (fun hHeld => ?_)
                clear hK K
                refine norm_ (a' := ?_) ?_ ?_
                rotate_left
                · show Act.put _ (some 65) _ = _
                  simp only [Act.put, List.setIfInBounds_toArray, List.set_cons_zero, List.set_cons_succ, i64_w, i32_w]
                  rfl
                refine pure_ (i := 30) (N := some 66) (v := ?_) (a' := ?_) #[true, true, true, true, true, true, true, true, true, true, true, true, true, true, true, true, true, true, true, true, true, true, true, true, true, true, true, true, true, true, true, false, false, false, false, false, false, false] rfl rfl (any_of HT_.out (by kernel_rfl)) (fun _ _ _ h => h) (Or.inl ⟨by rfl, ?_⟩) ?_ ?_
                rotate_left
                · intro w'
                  go_simp
                  with_reducible rfl
                rotate_left
                · simp only [Act.put, List.setIfInBounds_toArray, List.set_cons_zero, List.set_cons_succ, i64_w, i32_w]
                  rfl
                refine pure_ (i := 31) (N := some 67) (v := ?_) (a' := ?_) #[true, true, true, true, true, true, true, true, true, true, true, true, true, true, true, true, true, true, true, true, true, true, true, true, true, true, true, true, true, true, true, true, false, false, false, false, false, false] rfl rfl (any_of HT_.out (by kernel_rfl)) (fun _ _ _ h => h) (Or.inl ⟨by rfl, ?_⟩) ?_ ?_
                rotate_left
                · intro w'
                  go_simp
                  with_reducible rfl
                rotate_left
                · simp only [Act.put, List.setIfInBounds_toArray, List.set_cons_zero, List.set_cons_succ, i64_w, i32_w]
                  rfl
                refine pure_ (i := 32) (N := some 68) (v := ?_) (a' := ?_) #[true, true, true, true, true, true, true, true, true, true, true, true, true, true, true, true, true, true, true, true, true, true, true, true, true, true, true, true, true, true, true, true, true, false, false, false, false, false] rfl rfl (any_of HT_.out (by kernel_rfl)) (fun _ _ _ h => h) (Or.inl ⟨by rfl, ?_⟩) ?_ ?_
                rotate_left
                · intro w'
                  go_simp
                  with_reducible rfl
                rotate_left
                · simp only [Act.put, List.setIfInBounds_toArray, List.set_cons_zero, List.set_cons_succ, i64_w, i32_w]
                  rfl
                refine take_ (i := 33) (N := some 69) (v := ?_) (a' := ?_) #[true, true, true, true, true, true, true, true, true, true, true, true, true, true, true, true, true, true, true, true, true, true, true, true, true, true, true, true, true, true, true, true, true, true, false, false, false, false] rfl rfl (take_ofW HT_.out HW_.out (by kernel_rfl)) (fun _ _ _ h => h) (Or.inl ⟨by rfl, ?_⟩) hHeld ?_ ?_
                rotate_left
                · rintro w' ⟨s0, s1, s2, s3, s4, s5, s6, s7, s8, s9, s10, s11, s12, s13, s14, s15, s16, s17, s18, s19, s20, s21, s22⟩
                  go_simp
                  with_reducible rfl
                rotate_left
                · simp only [Act.put, List.setIfInBounds_toArray, List.set_cons_zero, List.set_cons_succ, i64_w, i32_w]
                  rfl
                refine take_ (i := 34) (N := some 70) (v := ?_) (a' := ?_) #[true, true, true, true, true, true, true, true, true, true, true, true, true, true, true, true, true, true, true, true, true, true, true, true, true, true, true, true, true, true, true, true, true, true, true, false, false, false] rfl rfl (take_ofW HT_.out HW_.out (by kernel_rfl)) (fun _ _ _ h => h) (Or.inl ⟨by rfl, ?_⟩) hHeld ?_ ?_
                rotate_left
                · rintro w' ⟨s0, s1, s2, s3, s4, s5, s6, s7, s8, s9, s10, s11, s12, s13, s14, s15, s16, s17, s18, s19, s20, s21, s22⟩
                  go_simp
                  with_reducible rfl
                rotate_left
                · simp only [Act.put, List.setIfInBounds_toArray, List.set_cons_zero, List.set_cons_succ, i64_w, i32_w]
                  rfl
                refine one_ (i := 35) (N := some 71) #[true, true, true, true, true, true, true, true, true, true, true, true, true, true, true, true, true, true, true, true, true, true, true, true, true, true, true, true, true, true, true, true, true, true, true, true, false, false] rfl rfl (one_of HT_.out (by kernel_rfl)) (by decide) (fun K hK => ?_)
                refine goes_ Try.func12 (by kernel_rfl) rfl #[.agg #[.string (⟨#[102, 97, 110]⟩ : ByteArray), .int .i64 2, .int .i64 2, .string (⟨#[]⟩ : ByteArray), .int .i64 0, .int .i64 0, .int .i64 0, .slice none 0 0, .int .i64 0, .int .i64 0, .int .i64 60, .int .i64 30], .agg #[.int .i64 t132, .int .i64 t133, .int .i64 100], .int .i64 159] (by rfl) rfl rfl (by (try simp only [List.map_toArray, List.map_cons, List.map_nil]); first | done | rfl | (simp only [List.length_drop, List.length_take]; rfl)) ?_
                refine (minimum_Held.calls k (⟨#[102, 97, 110]⟩ : ByteArray) 2 2 (⟨#[]⟩ : ByteArray) 0 0 0 _ _ ([] : List ByteArray) 0 0 60 30 t132 t133 100 159 t160 _ ?side1 ?side2 A18.out).mono ?_
                (case side1 => exact Kd.C_nil _ _)
                (case side2 => exact Nat.le_refl _)
                rintro e w56 ⟨rfl, hb⟩
                refine ⟨_, rfl, ?_⟩
                have n0_ := Aside0.mk (blk_below (g := gb131) (o := .cells #[.string (⟨#[102, 97, 110]⟩ : ByteArray), .int .i64 2, .int .i64 2, .string (⟨#[]⟩ : ByteArray), .int .i64 0, .int .i64 0, .int .i64 0, .slice none 0 0, .int .i64 0, .int .i64 0, .int .i64 60, .int .i64 30] 26 (0, 0)) (by (with_reducible repeat (first | refine blk_drewN ?_ _ | refine blk_drew ?_ | refine blk_alloc ?_ _)); exact BK131.out) hb)
                have n1_ := Aside0.mk (blk_below (g := gb134) (o := .cells #[.int .i64 t132, .int .i64 t133, .int .i64 100] 28 (0, 0)) (by (with_reducible repeat (first | refine blk_drewN ?_ _ | refine blk_drew ?_ | refine blk_alloc ?_ _)); exact BK134.out) hb)
                have n2_ := Aside0.mk (blk_below (g := gb141) (o := .cells #[.int .i64 t137, .int .i64 t138, .int .i64 t139] 28 (0, 0)) (by (with_reducible repeat (first | refine blk_drewN ?_ _ | refine blk_drew ?_ | refine blk_alloc ?_ _)); exact BK141.out) hb)
                have n3_ := Aside0.mk (blk_below (g := gb148) (o := .cells #[.int .i64 t144, .int .i64 t145, .int .i64 t146] 28 (0, 0)) (by (with_reducible repeat (first | refine blk_drewN ?_ _ | refine blk_drew ?_ | refine blk_alloc ?_ _)); exact BK148.out) hb)
                have n4_ := Aside0.mk (blk_below (g := gb154) (o := .cells #[.int .i64 t151, .int .i64 t152] 24 (0, 0)) (by (with_reducible repeat (first | refine blk_drewN ?_ _ | refine blk_drew ?_ | refine blk_alloc ?_ _)); exact BK154.out) hb)
                have n5_ := Aside0.mk (below_step (by repeat (first | (with_reducible first | exact HB.out | apply below_alloc | apply pw_below_drewN | apply below_drew1 | refine below_set ?_ GE131.out | refine below_set ?_ GE134.out | refine below_set ?_ GE141.out | refine below_set ?_ GE148.out | refine below_set ?_ GE154.out) | exact HB.out)) hb)
                clear BK131
                clear BK134
                clear BK141
                clear BK148
                clear BK154
                clear HB
                have BK131 := n0_
                have BK134 := n1_
                have BK141 := n2_
                have BK148 := n3_
                have BK154 := n4_
                have HB := n5_
                clear n0_ n1_ n2_ n3_ n4_ n5_
                (try clear hb)
                (try clear hb2)
                (try clear hk)
                (try clear hi)
                refine hK.out _ _ ⟨(blk_cell BK141.out 0).trans rfl, (blk_cell BK141.out 1).trans rfl, (blk_cell BK141.out 2).trans rfl, (blk_cell BK134.out 0).trans rfl, (blk_cell BK134.out 1).trans rfl, (blk_cell BK134.out 2).trans rfl, (blk_cell BK148.out 0).trans rfl, (blk_cell BK148.out 1).trans rfl, (blk_cell BK148.out 2).trans rfl, (blk_cell BK154.out 0).trans rfl, (blk_cell BK154.out 1).trans rfl, (blk_cell BK131.out 0).trans rfl, (blk_cell BK131.out 1).trans rfl, (blk_cell BK131.out 2).trans rfl, (blk_cell BK131.out 3).trans rfl, (blk_cell BK131.out 4).trans rfl, (blk_cell BK131.out 5).trans rfl, (blk_cell BK131.out 6).trans rfl, (blk_cell BK131.out 7).trans rfl, (blk_cell BK131.out 8).trans rfl, (blk_cell BK131.out 9).trans rfl, (blk_cell BK131.out 10).trans rfl, (blk_cell BK131.out 11).trans rfl⟩ (fun hHeld => ?_)
                clear hK K
                refine norm_ (a' := ?_) ?_ ?_
                rotate_left
                · show Act.put _ (some 71) _ = _
                  simp only [Act.put, List.setIfInBounds_toArray, List.set_cons_zero, List.set_cons_succ, i64_w, i32_w]
                  rfl
                refine pure_ (i := 36) (N := some 72) (v := ?_) (a' := ?_) #[true, true, true, true, true, true, true, true, true, true, true, true, true, true, true, true, true, true, true, true, true, true, true, true, true, true, true, true, true, true, true, true, true, true, true, true, true, false] rfl rfl (any_of HT_.out (by kernel_rfl)) (fun _ _ _ h => h) (Or.inl ⟨by rfl, ?_⟩) ?_ ?_
                rotate_left
                · intro w'
                  go_simp
                  with_reducible rfl
                rotate_left
                · simp only [Act.put, List.setIfInBounds_toArray, List.set_cons_zero, List.set_cons_succ, i64_w, i32_w]
                  rfl
                refine pure_ (i := 37) (N := some 0) (v := ?_) (a' := ?_) #[true, true, true, true, true, true, true, true, true, true, true, true, true, true, true, true, true, true, true, true, true, true, true, true, true, true, true, true, true, true, true, true, true, true, true, true, true, true] rfl rfl (any_of HT_.out (by kernel_rfl)) (fun _ _ _ h => h) (Or.inl ⟨by rfl, ?_⟩) ?_ ?_
                rotate_left
                · intro w'
                  go_simp
                  with_reducible rfl
                rotate_left
                · simp only [Act.put, List.setIfInBounds_toArray, List.set_cons_zero, List.set_cons_succ, i64_w, i32_w]
                  rfl
                refine done_ (done_of HT_.out (by kernel_rfl)) ?_
                try go_wp2
                go_ret
                exact ⟨by first | rfl | (simp [errW_none, errW_some] <;> rfl) | (simp [*, errW_none, errW_some] <;> rfl), by repeat (first | (with_reducible first | exact HB.out | apply below_alloc | apply pw_below_drewN | apply below_drew1 | refine below_set ?_ GE131.out | refine below_set ?_ GE134.out | refine below_set ?_ GE141.out | refine below_set ?_ GE148.out | refine below_set ?_ GE154.out) | exact HB.out)⟩
              · rw [if_neg c17] at H
                exact absurd H (by simp)
            · rw [if_neg c15] at H
              exact absurd H (by simp)
          · rw [if_neg c13] at H
            exact absurd H (by simp)
        · rw [if_neg c12] at H
          exact absurd H (by simp)
      · rw [if_neg c10] at H
        exact absurd H (by simp)
    · rw [if_neg c9] at H
      exact absurd H (by simp)
  · rw [if_neg c8] at H
    exact absurd H (by simp)
end Go.Proofs.Ytjllpbllmeegiaa.R
end
section
namespace Go.Proofs.Ytjllpbllmeegiaa.R
open Go.RowKit Go.Proofs.YtjllpbllmeegiaaW.PrintWords Go.Proofs.YtjllpbllmeegiaaW.PrintLast Go.Proofs.YtjllpbllmeegiaaW.PrintMore
attribute [local go_sem] max2_int min2_int max_two min_two max_three min_three max_four min_four
set_option linter.unusedVariables false
set_option linter.unusedSimpArgs false
def plenumref14_instant.f (a0 : Int) : Option (Bool) := if a0 ≥ (-6311433599) then (some (decide (a0 ≤ 6311433599))) else (some false)
set_option maxHeartbeats 8000000 in
set_option maxRecDepth 100000 in
theorem plenumref14_instant.calls (a0 : Int) (r : Bool) (w : World) (h : plenumref14_instant.f a0 = some r) :
    Calls Try.prog 20 #[.int .i64 a0] w fun e w' => e = .returned (.bool r) ∧ Drawn0 w w' := by
  have H : (if a0 ≥ (-6311433599) then (some (decide (a0 ≤ 6311433599))) else (some false)) = some r := h
  clear h
  by_cases c2 : a0 ≥ (-6311433599)
  · rw [if_pos c2] at H
    have c2b0 : decide ((-6311433599) ≤ a0) = true := decide_eq_true c2
    clear c2
    obtain rfl := Option.some.inj H
    go_enter Try.func20, Try.ntmps20
    go_wp2
    go_ret
    exact ⟨by first | rfl | (simp; done) | (simp [*]; done), by repeat (first | exact Drawn0.refl _ | apply Drawn0.step)⟩
  · rw [if_neg c2] at H
    have c2b0 : decide ((-6311433599) ≤ a0) = false := decide_eq_false c2
    clear c2
    obtain rfl := Option.some.inj H
    go_enter Try.func20, Try.ntmps20
    go_wp2
    go_ret
    exact ⟨by first | rfl | (simp; done) | (simp [*]; done), by repeat (first | exact Drawn0.refl _ | apply Drawn0.step)⟩
end Go.Proofs.Ytjllpbllmeegiaa.R
end
