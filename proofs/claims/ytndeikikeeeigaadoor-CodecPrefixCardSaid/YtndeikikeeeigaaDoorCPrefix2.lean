/- CodecPrefixCard: one part of the proof that the law answers true for every input, and that its arguments read afterwards as before. No condition. -/
import Derived.Test.YtndeikikeeeigaaDoorCPrefix1
import Derived.SevenTiedAt
import Derived.WalkKit
import Derived.ProofKit
import Derived.OpenShut
import Derived.ShutString
import Derived.ChangeOld
import Derived.Below
import Derived.SizedLaws
import Derived.Test.YtndeikikeeeigaaDoorCards
import Derived.Test.YtndeikikeeeigaaDoorRows
import Derived.Test.YtndeikikeeeigaaDoorTie
section
namespace Go.Proofs.YtndeikikeeeigaaDoor.Q
open Go.RowKit Go.Proofs.YtndeikikeeeigaaDoorW.PrintWords Go.Proofs.YtndeikikeeeigaaDoorW.PrintLast Go.Proofs.YtndeikikeeeigaaDoorW.PrintMore
attribute [local go_sem] max2_int min2_int max_two min_two max_three min_three max_four min_four
set_option linter.unusedVariables false
set_option linter.unusedSimpArgs false
mutual
def plenumref02_ReadSigned.j0 : Nat → Int → ByteArray → Bool → Int → Bool → Option (Int × Int × Bool)
  | 0, _, _, _, _, _ => none
  | k + 1, x1, x7, x8, x9, x22 => if x22 = true then (plenumref02_ReadSigned.j1 k x1 x7 x8 (-1)) else (plenumref02_ReadSigned.j1 k x1 x7 x8 x9)
def plenumref02_ReadSigned.j1 : Nat → Int → ByteArray → Bool → Int → Option (Int × Int × Bool)
  | 0, _, _, _, _ => none
  | k + 1, x1, x7, x8, x9 => plenumref02_ReadSigned.l0 k x1 x7 x8 x9 0
def plenumref02_ReadSigned.l0 : Nat → Int → ByteArray → Bool → Int → Int → Option (Int × Int × Bool)
  | 0, _, _, _, _, _ => none
  | k + 1, x1, x7, x8, x9, x10 => if x10 < (x7.size : Int) then (if 0 ≤ x10 then (plenumref02_ReadSigned.l0 k x1 x7 x8 (Go.bits .or .i64 (wrap64 (x9 * 256)) (wrap64 (bt x7 x10))) (wrap64 (x10 + 1))) else (none)) else (if x8 = true then ((plenumref02_Signed.f k x9).bind fun t227 => (if (t227.size : Int) = (wrap64 ((x7.size : Int) + 1)) then (some (x9, wrap64 ((wrap64 (x1 + 1)) + (x7.size : Int)), true)) else (some (0, 0, false)))) else (some (0, 0, false)))
end
def plenumref02_ReadSigned.f (k : Nat) (a0 : ByteArray) (a1 : Int) : Option (Int × Int × Bool) := (plenumref02_number.f k a0 a1 32).bind fun bt225 => (if bt225.2 = true then (if 0 < (bt225.1.size : Int) then (plenumref02_ReadSigned.j0 k a1 bt225.1 bt225.2 0 (decide ((bt bt225.1 0) ≥ 128))) else (none)) else (plenumref02_ReadSigned.j0 k a1 bt225.1 bt225.2 0 false))
end Go.Proofs.YtndeikikeeeigaaDoor.Q
end
section
namespace Go.Proofs.YtndeikikeeeigaaDoor.Pure
open Go.RowKit Go.Proofs.YtndeikikeeeigaaDoor.Q Go.Proofs.YtndeikikeeeigaaDoorW.PrintWords Go.Proofs.YtndeikikeeeigaaDoorW.PrintLast Go.Proofs.YtndeikikeeeigaaDoorW.PrintMore
set_option linter.unusedVariables false
set_option linter.unusedSimpArgs false
def kd (b : Int) : Int := if b = 0 then 1 else if b = 1 ∨ b = 2 then 2 else if 16 < b ∧ b ≤ 24 then 3 else if 32 < b ∧ b ≤ 40 then 4 else if b = 48 then 5 else if b = 64 then 6 else 0
def kindS (s : ByteArray) (p : Int) : Int := if p < 0 ∨ p ≥ (s.size : Int) then 0 else kd (bt s p)
theorem byte_fin (s : ByteArray) (p : Int) : ∃ m : Fin 256, ((m.val : Nat) : Int) = bt s p := by
  have := bt_range s p
  exact ⟨⟨(bt s p).toNat, by omega⟩, by show (((bt s p).toNat : Nat) : Int) = _; omega⟩
theorem kind_eq (k : Nat) (s : ByteArray) (p : Int) : codec_kind.f (k + 3) s p = some (kindS s p) := by
  have h1 : ∀ x5 x6 x31, codec_kind.j1 (k + 2) x5 x6 x31 = codec_kind.j1 2 x5 x6 x31 := by intros; simp only [codec_kind.j1, codec_kind.j2]
  unfold codec_kind.f kindS
  by_cases c : p < 0
  · rw [if_pos c, if_pos (Or.inl c)]; simp only [codec_kind.j0, if_true]
  · by_cases c2 : p ≥ (s.size : Int)
    · rw [if_neg c, if_pos (Or.inr c2), decide_eq_true c2]; simp only [codec_kind.j0, if_true]
    · rw [if_neg c, if_neg (by omega), decide_eq_false c2]; simp only [codec_kind.j0, Bool.false_eq_true, if_false]
      rw [if_pos (by omega), if_pos (by omega)]
      simp only [h1]
      obtain ⟨m, hm⟩ := byte_fin s p
      rw [← hm]
      have hb : ∀ m : Fin 256, (if ((m.val : Nat) : Int) = 0 then (some 1) else (if (((m.val : Nat) : Int) / 16) > 4 then (some 0) else (if (((m.val : Nat) : Int) / 16) = 0 then (codec_kind.j1 2 (((m.val : Nat) : Int) / 16) (Go.bits .and .u8 ((m.val : Nat) : Int) 15) (decide ((Go.bits .and .u8 ((m.val : Nat) : Int) 15) > 2))) else (codec_kind.j1 2 (((m.val : Nat) : Int) / 16) (Go.bits .and .u8 ((m.val : Nat) : Int) 15) false)))) = some (kd ((m.val : Nat) : Int)) := by decide +kernel
      exact hb m
theorem refKind_eq (k : Nat) (s : ByteArray) (p : Int) : plenumref02_Kind.f (k + 4) s p = some (kindS s p) := by
  have h1 : ∀ x5 x31, plenumref02_Kind.j1 (k + 3) x5 x31 = plenumref02_Kind.j1 3 x5 x31 := by intros; simp only [plenumref02_Kind.j1, plenumref02_Kind.j2, plenumref02_Kind.j3]
  unfold plenumref02_Kind.f kindS
  by_cases c : p < 0
  · rw [if_pos c, if_pos (Or.inl c)]; simp only [plenumref02_Kind.j0, if_true]
  · by_cases c2 : p ≥ (s.size : Int)
    · rw [if_neg c, if_pos (Or.inr c2), decide_eq_true c2]; simp only [plenumref02_Kind.j0, if_true]
    · rw [if_neg c, if_neg (by omega), decide_eq_false c2]; simp only [plenumref02_Kind.j0, Bool.false_eq_true, if_false]
      rw [if_pos (by omega), if_pos (by omega)]
      simp only [h1]
      obtain ⟨m, hm⟩ := byte_fin s p
      rw [← hm]
      have hb : ∀ m : Fin 256, (if ((m.val : Nat) : Int) = 0 then (some 1) else (if ((m.val : Nat) : Int) = 1 then (plenumref02_Kind.j1 3 ((m.val : Nat) : Int) true) else (plenumref02_Kind.j1 3 ((m.val : Nat) : Int) (((m.val : Nat) : Int) == 2)))) = some (kd ((m.val : Nat) : Int)) := by decide +kernel
      exact hb m
theorem kindS_in {s : ByteArray} {p : Int} (h : kindS s p ≠ 0) : 0 ≤ p ∧ p < (s.size : Int) ∧ kindS s p = kd (bt s p) := by
  unfold kindS at *
  split at h
  · exact absurd rfl h
  · rename_i c
    exact ⟨by omega, by omega, if_neg c⟩
theorem kd3 {b : Int} : kd b = 3 ↔ 16 < b ∧ b ≤ 24 := by unfold kd; omega
theorem kd4 {b : Int} : kd b = 4 ↔ 32 < b ∧ b ≤ 40 := by unfold kd; omega
def beN (s : ByteArray) (q : Int) : Nat → Int
  | 0 => 0
  | n + 1 => beN s q n * 256 + bt s (q + (n : Int))
theorem beN_range (s : ByteArray) (q : Int) (n : Nat) : 0 ≤ beN s q n ∧ beN s q n < 256 ^ n := by
  induction n with
  | zero => simp [beN]
  | succ n ih =>
    have := bt_range s (q + n)
    rw [Int.pow_succ]
    simp only [beN]
    omega
theorem pow256 {n m : Nat} (h : n ≤ m) : (256 : Int) ^ n ≤ 256 ^ m := by
  have := Nat.pow_le_pow_right (n := 256) (by decide) h
  have e : ∀ j : Nat, (256 : Int) ^ j = ((256 ^ j : Nat) : Int) := fun j => by rw [Int.natCast_pow]; rfl
  rw [e, e]
  omega
theorem beN_lt {s : ByteArray} {q : Int} {n m : Nat} (h : n ≤ m) : beN s q n < 256 ^ m := by
  have h1 := (beN_range s q n).2
  have h2 := pow256 h
  omega
def sgn (n : Nat) (V : Int) : Int := if V < 128 * 256 ^ (n - 1) then V else V - 256 ^ n
theorem sgn_range {n : Nat} {V : Int} (h1 : 1 ≤ n) (h8 : n ≤ 8) (h : 0 ≤ V ∧ V < 256 ^ n) : -9223372036854775808 ≤ sgn n V ∧ sgn n V ≤ 9223372036854775807 := by
  unfold sgn
  obtain rfl | rfl | rfl | rfl | rfl | rfl | rfl | rfl : n = 1 ∨ n = 2 ∨ n = 3 ∨ n = 4 ∨ n = 5 ∨ n = 6 ∨ n = 7 ∨ n = 8 := by omega
  all_goals simp only [Int.reducePow, Nat.reduceSub] at h ⊢
  all_goals split <;> omega
theorem sgn_shift {n : Nat} {V : Int} (h1 : 1 ≤ n) (h8 : n ≤ 8) (h : 0 ≤ V ∧ V < 256 ^ n) : shr .i64 (wrap64 (shl .u64 V (wrap64 (64 - (wrap64 (8 * (n : Int))))))) (wrap64 (64 - (wrap64 (8 * (n : Int))))) = sgn n V := by
  have hw : wrap64 (64 - (wrap64 (8 * (n : Int)))) = 64 - 8 * (n : Int) := by rw [w64 (n := 8 * (n : Int)) (by omega) (by omega), w64 (by omega) (by omega)]
  rw [hw]
  unfold sgn shr shl
  obtain rfl | rfl | rfl | rfl | rfl | rfl | rfl | rfl : n = 1 ∨ n = 2 ∨ n = 3 ∨ n = 4 ∨ n = 5 ∨ n = 6 ∨ n = 7 ∨ n = 8 := by omega
  · rw [show (2 : Int) ^ min (64 - 8 * ((1 : Nat) : Int)).toNat IntKind.u64.bits = 72057594037927936 from rfl, show (2 : Int) ^ min (64 - 8 * ((1 : Nat) : Int)).toNat IntKind.i64.bits = 72057594037927936 from rfl, u64w]; unfold wrap64; simp only [Int.reducePow, Nat.reduceSub] at h ⊢; split <;> omega
  · rw [show (2 : Int) ^ min (64 - 8 * ((2 : Nat) : Int)).toNat IntKind.u64.bits = 281474976710656 from rfl, show (2 : Int) ^ min (64 - 8 * ((2 : Nat) : Int)).toNat IntKind.i64.bits = 281474976710656 from rfl, u64w]; unfold wrap64; simp only [Int.reducePow, Nat.reduceSub] at h ⊢; split <;> omega
  · rw [show (2 : Int) ^ min (64 - 8 * ((3 : Nat) : Int)).toNat IntKind.u64.bits = 1099511627776 from rfl, show (2 : Int) ^ min (64 - 8 * ((3 : Nat) : Int)).toNat IntKind.i64.bits = 1099511627776 from rfl, u64w]; unfold wrap64; simp only [Int.reducePow, Nat.reduceSub] at h ⊢; split <;> omega
  · rw [show (2 : Int) ^ min (64 - 8 * ((4 : Nat) : Int)).toNat IntKind.u64.bits = 4294967296 from rfl, show (2 : Int) ^ min (64 - 8 * ((4 : Nat) : Int)).toNat IntKind.i64.bits = 4294967296 from rfl, u64w]; unfold wrap64; simp only [Int.reducePow, Nat.reduceSub] at h ⊢; split <;> omega
  · rw [show (2 : Int) ^ min (64 - 8 * ((5 : Nat) : Int)).toNat IntKind.u64.bits = 16777216 from rfl, show (2 : Int) ^ min (64 - 8 * ((5 : Nat) : Int)).toNat IntKind.i64.bits = 16777216 from rfl, u64w]; unfold wrap64; simp only [Int.reducePow, Nat.reduceSub] at h ⊢; split <;> omega
  · rw [show (2 : Int) ^ min (64 - 8 * ((6 : Nat) : Int)).toNat IntKind.u64.bits = 65536 from rfl, show (2 : Int) ^ min (64 - 8 * ((6 : Nat) : Int)).toNat IntKind.i64.bits = 65536 from rfl, u64w]; unfold wrap64; simp only [Int.reducePow, Nat.reduceSub] at h ⊢; split <;> omega
  · rw [show (2 : Int) ^ min (64 - 8 * ((7 : Nat) : Int)).toNat IntKind.u64.bits = 256 from rfl, show (2 : Int) ^ min (64 - 8 * ((7 : Nat) : Int)).toNat IntKind.i64.bits = 256 from rfl, u64w]; unfold wrap64; simp only [Int.reducePow, Nat.reduceSub] at h ⊢; split <;> omega
  · rw [show (2 : Int) ^ min (64 - 8 * ((8 : Nat) : Int)).toNat IntKind.u64.bits = 1 from rfl, show (2 : Int) ^ min (64 - 8 * ((8 : Nat) : Int)).toNat IntKind.i64.bits = 1 from rfl, u64w]; unfold wrap64; simp only [Int.reducePow, Nat.reduceSub] at h ⊢; split <;> omega
def cnt (s : ByteArray) (p : Int) : Nat := (bt s p % 16).toNat
def val (s : ByteArray) (p : Int) : Int := beN s (p + 1) (cnt s p)
def rawS (s : ByteArray) (p want : Int) : Int × Int × Bool :=
  if kindS s p = want then
    if p + 1 + (cnt s p : Int) > (s.size : Int) then (0, 0, false)
    else if want = 3 then (val s p, p + 1 + (cnt s p : Int), nb (val s p) == (cnt s p : Int))
    else (IntKind.u64.wrap (sgn (cnt s p) (val s p)), p + 1 + (cnt s p : Int), ss (sgn (cnt s p) (val s p)) == (cnt s p : Int))
  else (0, 0, false)
theorem raw_loop (s : ByteArray) (p want : Int) (n : Nat) (hp : 0 ≤ p) (h1 : 1 ≤ n) (h8 : n ≤ 8) (hn : p + 1 + (n : Int) ≤ (s.size : Int)) (hz : s.size ≤ 140737488355327) :
    ∀ (d i : Nat), i + d = n → ∀ k, codec_raw.l0 (k + d + 2) s p want n (beN s (p + 1) i) n i =
      if want = 3 then some (beN s (p + 1) n, p + 1 + (n : Int), nb (beN s (p + 1) n) == (n : Int)) else some (IntKind.u64.wrap (sgn n (beN s (p + 1) n)), p + 1 + (n : Int), ss (sgn n (beN s (p + 1) n)) == (n : Int)) := by
  intro d
  have w1 : wrap64 (p + 1) = p + 1 := w64 (by omega) (by omega)
  induction d with
  | zero =>
    intro i hi k
    obtain rfl : i = n := by omega
    have hr := beN_range s (p + 1) i
    have hlt : beN s (p + 1) i < 256 ^ 8 := beN_lt h8
    simp only [Int.reducePow] at hlt
    have hr' := sgn_range h1 h8 hr
    show codec_raw.l0 ((k + 1) + 1) s p want i _ i i = _
    rw [codec_raw.l0]
    rw [if_neg (by omega), w1, w64 (n := p + 1 + (i : Int)) (by omega) (by omega)]
    by_cases c : want = 3
    · rw [if_pos c, if_pos c, width_eq _ _ hr.1 (by omega)]; rfl
    · have hw : 0 ≤ wrap64 (64 - (wrap64 (8 * (i : Int)))) := by rw [w64 (n := 8 * (i : Int)) (by omega) (by omega), w64 (by omega) (by omega)]; omega
      rw [if_neg c, if_neg c, if_pos hw, sgn_shift h1 h8 hr, spread_eq _ _ hr'.1 hr'.2]; rfl
  | succ d ih =>
    intro i hi k
    have hr := beN_range s (p + 1) i
    have hlt : beN s (p + 1) i < 256 ^ 7 := beN_lt (by omega)
    simp only [Int.reducePow] at hlt
    have hb := bt_range s (p + 1 + (i : Int))
    show codec_raw.l0 ((k + d + 2) + 1) s p want n _ n i = _
    rw [codec_raw.l0]
    rw [if_pos (by omega), w1, w64 (n := p + 1 + (i : Int)) (by omega) (by omega), if_pos (by omega), if_pos (by omega), w64 (n := (i : Int) + 1) (by omega) (by omega), u64w, u64w,
      Int.emod_eq_of_lt (b := 18446744073709551616) (a := beN s (p + 1) i * 256) (by omega) (by omega), Int.emod_eq_of_lt (b := 18446744073709551616) (a := bt s (p + 1 + (i : Int))) (by omega) (by omega), or_u64 _ _ hr.1 (by omega) hb.1 (by omega)]
    have := ih (i + 1) (by omega) k
    have e : ((i + 1 : Nat) : Int) = (i : Int) + 1 := by omega
    rw [e] at this
    exact this
theorem raw_eq (k : Nat) (s : ByteArray) (p want : Int) (hw : want = 3 ∨ want = 4) (hz : s.size ≤ 140737488355327) : codec_raw.f (k + 12) s p want = some (rawS s p want) := by
  unfold codec_raw.f rawS
  rw [show k + 12 = (k + 9) + 3 from rfl, kind_eq]
  simp only [Option.bind_some]
  by_cases c : kindS s p = want
  · rw [if_pos c, if_pos c]
    obtain ⟨p0, p1, hk⟩ := kindS_in (s := s) (p := p) (by omega)
    have hb : (16 < bt s p ∧ bt s p ≤ 24) ∨ (32 < bt s p ∧ bt s p ≤ 40) := by
      rcases hw with rfl | rfl
      · left; exact kd3.1 (hk.symm.trans c)
      · right; exact kd4.1 (hk.symm.trans c)
    have hc : (bt s p % 16) = (cnt s p : Int) := by unfold cnt; omega
    have h1 : 1 ≤ bt s p % 16 ∧ bt s p % 16 ≤ 8 := by omega
    rw [if_pos p0, if_pos p1, and15_bt, hc]
    rw [hc] at h1
    rw [w64 (n := (cnt s p : Int)) (by omega) (by omega), w64 (n := p + 1) (by omega) (by omega), w64 (n := p + 1 + (cnt s p : Int)) (by omega) (by omega)]
    by_cases c2 : p + 1 + (cnt s p : Int) > (s.size : Int)
    · rw [if_pos c2, if_pos c2]
    · rw [if_neg c2, if_neg c2]
      have := raw_loop s p want (cnt s p) p0 (by omega) (by omega) (by omega) hz (cnt s p) 0 (by omega) (k + 10 - cnt s p)
      rw [show k + 10 - cnt s p + cnt s p + 2 = k + 9 + 3 by omega] at this
      refine this.trans ?_
      unfold val
      split <;> rfl
  · rw [if_neg c, if_neg c]
end Go.Proofs.YtndeikikeeeigaaDoor.Pure
end
section
namespace Go.Proofs.YtndeikikeeeigaaDoor.Q
open Go.RowKit Go.Proofs.YtndeikikeeeigaaDoorW.PrintWords Go.Proofs.YtndeikikeeeigaaDoorW.PrintLast Go.Proofs.YtndeikikeeeigaaDoorW.PrintMore
attribute [local go_sem] max2_int min2_int max_two min_two max_three min_three max_four min_four
set_option linter.unusedVariables false
set_option linter.unusedSimpArgs false
def plenumref02_ReadText.j0 : Nat → ByteArray → Int → Bool → Option (ByteArray × Int × Bool)
  | 0, _, _, _ => none
  | k + 1, x0, x1, x19 => if x19 = true then (some ((⟨#[]⟩ : ByteArray), 0, false)) else ((plenumref02_ReadUnsigned.f k x0 (wrap64 (x1 + 1))).bind fun bt228 => (if bt228.2.2 = true then (if bt228.1 > 65535 then (some ((⟨#[]⟩ : ByteArray), 0, false)) else (if (wrap64 (bt228.1)) > (wrap64 ((x0.size : Int) - bt228.2.1)) then (some ((⟨#[]⟩ : ByteArray), 0, false)) else (if 0 ≤ bt228.2.1 then (if bt228.2.1 ≤ (wrap64 (bt228.2.1 + (wrap64 (bt228.1)))) then (if (wrap64 (bt228.2.1 + (wrap64 (bt228.1)))) ≤ (x0.size : Int) then (some (x0.extract (bt228.2.1 : Int).toNat ((wrap64 (bt228.2.1 + (wrap64 (bt228.1)))) : Int).toNat, wrap64 (bt228.2.1 + (wrap64 (bt228.1))), true)) else (none)) else (none)) else (none)))) else (some ((⟨#[]⟩ : ByteArray), 0, false))))
def plenumref02_ReadText.f (k : Nat) (a0 : ByteArray) (a1 : Int) : Option (ByteArray × Int × Bool) := if a1 ≥ (a0.size : Int) then (plenumref02_ReadText.j0 k a0 a1 true) else (if 0 ≤ a1 then (if a1 < (a0.size : Int) then (plenumref02_ReadText.j0 k a0 a1 ((bt a0 a1) != 48)) else (none)) else (none))
end Go.Proofs.YtndeikikeeeigaaDoor.Q
end
section
namespace Go.Proofs.YtndeikikeeeigaaDoor.Q
open Go.RowKit Go.Proofs.YtndeikikeeeigaaDoorW.PrintWords Go.Proofs.YtndeikikeeeigaaDoorW.PrintLast Go.Proofs.YtndeikikeeeigaaDoorW.PrintMore
attribute [local go_sem] max2_int min2_int max_two min_two max_three min_three max_four min_four
set_option linter.unusedVariables false
set_option linter.unusedSimpArgs false
def plenumref02_ReadHead.j0 : Nat → ByteArray → Int → Bool → Option (Int × Int × Bool)
  | 0, _, _, _ => none
  | k + 1, x0, x1, x19 => if x19 = true then (some (0, 0, false)) else ((plenumref02_ReadUnsigned.f k x0 (wrap64 (x1 + 1))).bind fun bt231 => (if bt231.2.2 = true then (if bt231.1 > 65535 then (some (0, 0, false)) else (some (wrap64 (bt231.1), bt231.2.1, true))) else (some (0, 0, false))))
def plenumref02_ReadHead.f (k : Nat) (a0 : ByteArray) (a1 : Int) : Option (Int × Int × Bool) := if a1 ≥ (a0.size : Int) then (plenumref02_ReadHead.j0 k a0 a1 true) else (if 0 ≤ a1 then (if a1 < (a0.size : Int) then (plenumref02_ReadHead.j0 k a0 a1 ((bt a0 a1) != 64)) else (none)) else (none))
end Go.Proofs.YtndeikikeeeigaaDoor.Q
end
section
namespace Go.Proofs.YtndeikikeeeigaaDoor.Pure
open Go.RowKit Go.Proofs.YtndeikikeeeigaaDoor.Q Go.Proofs.YtndeikikeeeigaaDoorW.PrintWords Go.Proofs.YtndeikikeeeigaaDoorW.PrintLast Go.Proofs.YtndeikikeeeigaaDoorW.PrintMore
set_option linter.unusedVariables false
set_option linter.unusedSimpArgs false
def beL (V : Int) : Nat → List Int
  | 0 => []
  | n + 1 => beL (V / 256) n ++ [V % 256]
theorem beL_length (V : Int) (n : Nat) : (beL V n).length = n := by
  induction n generalizing V with
  | zero => rfl
  | succ n ih => simp [beL, ih]
theorem strOfNums_size (l : List Int) : (strOfNums l).size = l.length := by
  show ((l.map fun n => UInt8.ofNat n.toNat).toArray).size = _
  simp
theorem refU_loop : ∀ (d : Nat) (x0 : Int) (x3 : List Int) (k : Nat), 0 ≤ x0 → x0 < 18446744073709551616 → nb x0 = (d : Int) + 1 → x3.length + d ≤ 100 →
    plenumref02_Unsigned.l0 (k + d + 1) x0 x3 = some (strOfNums ((16 + ((d + x3.length : Nat) : Int)) :: (beL (x0 / 256) d ++ x3))) := by
  intro d
  induction d with
  | zero =>
    intro x0 x3 k h0 h1 h2 h3
    have hx : ¬ x0 > 255 := by intro h; unfold nb at h2; omega
    show plenumref02_Unsigned.l0 (k + 1) x0 x3 = _
    rw [plenumref02_Unsigned.l0, if_neg hx]
    simp only [Option.bind_some]
    rw [if_pos (by simp; omega), w64 (n := 16 + (x3.length : Int)) (by omega) (by omega), Int.emod_eq_of_lt (by omega) (by omega)]
    simp [beL]
  | succ d ih =>
    intro x0 x3 k h0 h1 h2 h3
    have hx : x0 > 255 := by have := @nb_small x0; omega
    show plenumref02_Unsigned.l0 ((k + d + 1) + 1) x0 x3 = _
    rw [plenumref02_Unsigned.l0, if_pos hx]
    simp only [Option.bind_some]
    rw [if_pos (by simp; omega), Int.tdiv_eq_ediv_of_nonneg h0, u64w, Int.emod_eq_of_lt (b := 18446744073709551616) (by omega) (by omega), ih _ _ k (by omega) (by omega) (by rw [nb_div hx h1]; omega) (by simp; omega)]
    rw [show d + ([x0 / 256 % 256] ++ x3).length = d + 1 + x3.length by simp; omega]
    simp [beL]
theorem refU_eq (k : Nat) (V : Int) (h0 : 0 ≤ V) (h1 : V < 18446744073709551616) : plenumref02_Unsigned.f (k + 8) V = some (strOfNums ((16 + nb V) :: beL V (nb V).toNat)) := by
  have hr := nb_range V
  have := refU_loop (nb V - 1).toNat V [V % 256] (k + 8 - (nb V - 1).toNat - 1) h0 h1 (by omega) (by simp; omega)
  rw [show k + 8 - (nb V - 1).toNat - 1 + (nb V - 1).toNat + 1 = k + 8 by omega] at this
  unfold plenumref02_Unsigned.f
  rw [this]
  congr 2
  obtain ⟨m, hm⟩ : ∃ m : Nat, nb V = (m : Int) + 1 := ⟨(nb V - 1).toNat, by omega⟩
  rw [hm, show ((m : Int) + 1 - 1).toNat = m by omega, show ((m : Int) + 1).toNat = m + 1 by omega]
  congr 1
theorem refS_loop : ∀ (d : Nat) (x0 : Int) (x3 : List Int) (k : Nat), -9223372036854775808 ≤ x0 → x0 ≤ 9223372036854775807 → ss x0 = (d : Int) + 1 → x3.length + d ≤ 100 →
    plenumref02_Signed.l0 (k + d + 1) x0 x3 = some (strOfNums ((32 + ((d + x3.length : Nat) : Int)) :: (beL (x0 / 256) d ++ x3))) := by
  intro d
  induction d with
  | zero =>
    intro x0 x3 k h0 h1 h2 h3
    have hx : -128 ≤ x0 ∧ x0 ≤ 127 := by unfold ss sb at h2; omega
    show plenumref02_Signed.l0 (k + 1) x0 x3 = _
    rw [plenumref02_Signed.l0, if_neg (by omega), if_neg (by omega)]
    simp only [Option.bind_some]
    rw [if_pos (by simp; omega), w64 (n := 32 + (x3.length : Int)) (by omega) (by omega), Int.emod_eq_of_lt (by omega) (by omega)]
    simp [beL]
  | succ d ih =>
    intro x0 x3 k h0 h1 h2 h3
    have hx : x0 < -128 ∨ 127 < x0 := by have := @ss_small x0; omega
    have e := ih (x0 / 256) ([x0 / 256 % 256] ++ x3) k (by omega) (by omega) (by rw [ss_div hx h0 h1]; omega) (by simp; omega)
    show plenumref02_Signed.l0 ((k + d + 1) + 1) x0 x3 = _
    have e2 : some (strOfNums ((32 + ((d + ([x0 / 256 % 256] ++ x3).length : Nat) : Int)) :: (beL (x0 / 256 / 256) d ++ ([x0 / 256 % 256] ++ x3)))) = some (strOfNums ((32 + ((d + 1 + x3.length : Nat) : Int)) :: (beL (x0 / 256) (d + 1) ++ x3))) := by
      rw [show d + ([x0 / 256 % 256] ++ x3).length = d + 1 + x3.length by simp; omega]
      simp [beL]
    rw [plenumref02_Signed.l0]
    by_cases c : x0 < -128
    · rw [if_pos c]
      simp only [Option.bind_some]
      rw [if_pos (by simp; omega), e, e2]
    · rw [if_neg c, if_pos (by omega)]
      simp only [Option.bind_some]
      rw [if_pos (by simp; omega), e, e2]
theorem refS_eq (k : Nat) (V : Int) (h0 : -9223372036854775808 ≤ V) (h1 : V ≤ 9223372036854775807) : plenumref02_Signed.f (k + 8) V = some (strOfNums ((32 + ss V) :: beL V (ss V).toNat)) := by
  have hr := ss_range V h0 h1
  have := refS_loop (ss V - 1).toNat V [V % 256] (k + 8 - (ss V - 1).toNat - 1) h0 h1 (by omega) (by simp; omega)
  rw [show k + 8 - (ss V - 1).toNat - 1 + (ss V - 1).toNat + 1 = k + 8 by omega] at this
  unfold plenumref02_Signed.f
  rw [this]
  congr 2
  obtain ⟨m, hm⟩ : ∃ m : Nat, ss V = (m : Int) + 1 := ⟨(ss V - 1).toNat, by omega⟩
  rw [hm, show ((m : Int) + 1 - 1).toNat = m by omega, show ((m : Int) + 1).toNat = m + 1 by omega]
  congr 1
theorem ext_size (s : ByteArray) (i j : Nat) (h : i ≤ j) (hj : j ≤ s.size) : (s.extract i j).size = j - i := by
  rw [ByteArray.size_extract]; omega
theorem bt_ext (s : ByteArray) (i j : Nat) (q : Int) (h : i ≤ j) (hj : j ≤ s.size) (h0 : 0 ≤ q) (h1 : q < (j : Int) - i) : bt (s.extract i j) q = bt s ((i : Int) + q) := by
  unfold bt
  rw [dif_pos (by rw [ext_size s i j h hj]; omega), dif_pos (by omega)]
  rw [ByteArray.getElem_extract]
  congr 3
  omega
def numS (s : ByteArray) (p lead : Int) : Bool := decide (p < (s.size : Int)) && decide (lead < bt s p) && decide (bt s p ≤ lead + 8) && decide (p + 1 + (cnt s p : Int) ≤ (s.size : Int))
theorem refNumber_eq (k : Nat) (s : ByteArray) (p lead : Int) (hl : lead = 16 ∨ lead = 32) (hp : 0 ≤ p) (hz : s.size ≤ 140737488355327) :
    plenumref02_number.f (k + 2) s p lead = some (if numS s p lead = true then (s.extract (p + 1).toNat (p + 1 + (cnt s p : Int)).toNat, true) else ((⟨#[]⟩ : ByteArray), false)) := by
  unfold plenumref02_number.f numS
  have hb := bt_range s p
  by_cases c1 : p ≥ (s.size : Int)
  · rw [if_pos c1, decide_eq_false (by omega)]
    simp only [plenumref02_number.j0, if_true, Bool.false_and, Bool.false_eq_true, if_false]
  · rw [if_neg c1, if_pos hp, if_pos (by omega), decide_eq_true (p := p < (s.size : Int)) (by omega)]
    by_cases c2 : bt s p ≤ lead
    · rw [if_pos c2, decide_eq_false (p := lead < bt s p) (by omega)]
      simp only [plenumref02_number.j0, if_true, Bool.false_and, Bool.true_and, Bool.false_eq_true, if_false]
    · rw [if_neg c2, decide_eq_true (p := lead < bt s p) (by omega)]
      by_cases c3 : bt s p > (lead + 8) % 256
      · rw [decide_eq_true c3, decide_eq_false (p := bt s p ≤ lead + 8) (by omega)]
        simp only [plenumref02_number.j0, if_true, Bool.false_and, Bool.true_and, Bool.false_eq_true, if_false]
      · rw [decide_eq_false c3, decide_eq_true (p := bt s p ≤ lead + 8) (by omega)]
        have hc : ((bt s p) - lead) % 256 = (cnt s p : Int) := by unfold cnt; omega
        have hc8 : 1 ≤ cnt s p ∧ cnt s p ≤ 8 := by unfold cnt; omega
        simp only [plenumref02_number.j0, Bool.false_eq_true, if_false, Bool.true_and]
        rw [if_pos hp, if_pos (by omega), hc, w64 (n := (s.size : Int) - p) (by omega) (by omega), w64 (n := (s.size : Int) - p - 1) (by omega) (by omega), w64 (n := p + 1) (by omega) (by omega), w64 (n := p + 1 + (cnt s p : Int)) (by omega) (by omega)]
        by_cases c4 : (cnt s p : Int) > (s.size : Int) - p - 1
        · rw [if_pos c4, decide_eq_false (by omega)]; simp
        · rw [if_neg c4, if_pos (by omega), if_pos (by omega), if_pos (by omega), decide_eq_true (by omega)]; simp
theorem numS_16 {s : ByteArray} {p : Int} (hp : 0 ≤ p) : numS s p 16 = true ↔ kindS s p = 3 ∧ p + 1 + (cnt s p : Int) ≤ (s.size : Int) := by
  unfold numS kindS
  simp only [Bool.and_eq_true, decide_eq_true_eq]
  constructor
  · rintro ⟨⟨⟨a, b⟩, c⟩, d⟩
    rw [if_neg (by omega)]
    exact ⟨kd3.2 ⟨b, c⟩, d⟩
  · rintro ⟨a, d⟩
    split at a
    · exact absurd a (by decide)
    · have := kd3.1 a
      exact ⟨⟨⟨by omega, this.1⟩, this.2⟩, d⟩
theorem numS_32 {s : ByteArray} {p : Int} (hp : 0 ≤ p) : numS s p 32 = true ↔ kindS s p = 4 ∧ p + 1 + (cnt s p : Int) ≤ (s.size : Int) := by
  unfold numS kindS
  simp only [Bool.and_eq_true, decide_eq_true_eq]
  constructor
  · rintro ⟨⟨⟨a, b⟩, c⟩, d⟩
    rw [if_neg (by omega)]
    exact ⟨kd4.2 ⟨b, c⟩, d⟩
  · rintro ⟨a, d⟩
    split at a
    · exact absurd a (by decide)
    · have := kd4.1 a
      exact ⟨⟨⟨by omega, this.1⟩, this.2⟩, d⟩
theorem cnt_of {s : ByteArray} {p : Int} (h : kindS s p = 3 ∨ kindS s p = 4) : 1 ≤ cnt s p ∧ cnt s p ≤ 8 := by
  obtain ⟨a, b, c⟩ := kindS_in (s := s) (p := p) (by omega)
  rw [c] at h
  unfold cnt
  rcases h with h | h
  · have := kd3.1 h; omega
  · have := kd4.1 h; omega
def uS (s : ByteArray) (p : Int) : Option (Int × Int) := if kindS s p = 3 ∧ p + 1 + (cnt s p : Int) ≤ (s.size : Int) ∧ nb (val s p) = (cnt s p : Int) then some (val s p, p + 1 + (cnt s p : Int)) else none
def sS (s : ByteArray) (p : Int) : Option (Int × Int) := if kindS s p = 4 ∧ p + 1 + (cnt s p : Int) ≤ (s.size : Int) ∧ ss (sgn (cnt s p) (val s p)) = (cnt s p : Int) then some (sgn (cnt s p) (val s p), p + 1 + (cnt s p : Int)) else none
def opt3 (o : Option (Int × Int)) : Int × Int × Bool := match o with | some (v, e) => (v, e, true) | none => (0, 0, false)
end Go.Proofs.YtndeikikeeeigaaDoor.Pure
end
section
namespace Go.Proofs.YtndeikikeeeigaaDoor.Pure
open Go.RowKit Go.Proofs.YtndeikikeeeigaaDoor.Q Go.Proofs.YtndeikikeeeigaaDoorW.PrintWords Go.Proofs.YtndeikikeeeigaaDoorW.PrintLast Go.Proofs.YtndeikikeeeigaaDoorW.PrintMore
set_option linter.unusedVariables false
set_option linter.unusedSimpArgs false
theorem refRU_loop (s : ByteArray) (p : Int) (n : Nat) (hp : 0 ≤ p) (h8 : n ≤ 8) (hn : p + 1 + (n : Int) ≤ (s.size : Int)) (hz : s.size ≤ 140737488355327) :
    ∀ (d i : Nat), i + d = n → ∀ k, plenumref02_ReadUnsigned.l0 (k + d + 9) p (s.extract (p + 1).toNat (p + 1 + (n : Int)).toNat) true (beN s (p + 1) i) i =
      some (opt3 (if nb (beN s (p + 1) n) = (n : Int) then some (beN s (p + 1) n, p + 1 + (n : Int)) else none)) := by
  have hs : ((s.extract (p + 1).toNat (p + 1 + (n : Int)).toNat).size : Int) = (n : Int) := by rw [ext_size _ _ _ (by omega) (by omega)]; omega
  intro d
  induction d with
  | zero =>
    intro i hi k
    obtain rfl : i = n := by omega
    have hr := beN_range s (p + 1) i
    have hlt : beN s (p + 1) i < 256 ^ 8 := beN_lt h8
    simp only [Int.reducePow] at hlt
    rw [show k + 0 + 9 = (k + 8) + 1 by omega]
    rw [plenumref02_ReadUnsigned.l0, hs, if_neg (by omega), if_pos rfl, refU_eq _ _ hr.1 (by omega)]
    rw [Option.bind_some]
    have hnb := nb_range (beN s (p + 1) i)
    have hsz : ((strOfNums ((16 + nb (beN s (p + 1) i)) :: beL (beN s (p + 1) i) (nb (beN s (p + 1) i)).toNat)).size : Int) = 1 + nb (beN s (p + 1) i) := by
      rw [strOfNums_size, List.length_cons, beL_length]; omega
    generalize strOfNums ((16 + nb (beN s (p + 1) i)) :: beL (beN s (p + 1) i) (nb (beN s (p + 1) i)).toNat) = enc at hsz ⊢
    have w1 : wrap64 ((i : Int) + 1) = (i : Int) + 1 := w64 (by omega) (by omega)
    have w2 : wrap64 (wrap64 (p + 1) + (i : Int)) = p + 1 + (i : Int) := by rw [w64 (n := p + 1) (by omega) (by omega), w64 (by omega) (by omega)]
    by_cases c : nb (beN s (p + 1) i) = (i : Int)
    · rw [if_pos c, if_pos (by omega), w2, opt3]
    · rw [if_neg c, if_neg (by omega), opt3]
  | succ d ih =>
    intro i hi k
    have hr := beN_range s (p + 1) i
    have hlt : beN s (p + 1) i < 256 ^ 7 := beN_lt (by omega)
    simp only [Int.reducePow] at hlt
    have hb := bt_range s (p + 1 + (i : Int))
    have hbt : bt (s.extract (p + 1).toNat (p + 1 + (n : Int)).toNat) (i : Int) = bt s (p + 1 + (i : Int)) := by
      rw [bt_ext _ _ _ _ (by omega) (by omega) (by omega) (by omega)]
      congr 1
      omega
    rw [show k + (d + 1) + 9 = (k + d + 9) + 1 by omega]
    rw [plenumref02_ReadUnsigned.l0, hs, if_pos (by omega), if_pos (by omega), hbt, w64 (n := (i : Int) + 1) (by omega) (by omega), u64w, u64w,
      Int.emod_eq_of_lt (b := 18446744073709551616) (a := beN s (p + 1) i * 256) (by omega) (by omega), Int.emod_eq_of_lt (b := 18446744073709551616) (a := bt s (p + 1 + (i : Int))) (by omega) (by omega), or_u64 _ _ hr.1 (by omega) hb.1 (by omega)]
    have := ih (i + 1) (by omega) k
    rw [show ((i + 1 : Nat) : Int) = (i : Int) + 1 by omega, show beN s (p + 1) (i + 1) = beN s (p + 1) i * 256 + bt s (p + 1 + (i : Int)) from rfl] at this
    exact this
theorem refRU_eq (k : Nat) (s : ByteArray) (p : Int) (hp : 0 ≤ p) (hz : s.size ≤ 140737488355327) : plenumref02_ReadUnsigned.f (k + 18) s p = some (opt3 (uS s p)) := by
  unfold plenumref02_ReadUnsigned.f uS
  rw [show k + 18 = (k + 16) + 2 from rfl, refNumber_eq _ s p 16 (Or.inl rfl) hp hz]
  simp only [Option.bind_some]
  by_cases c : numS s p 16 = true
  · rw [if_pos c]
    have h := (numS_16 hp).1 c
    have hc := cnt_of (Or.inl h.1)
    have := refRU_loop s p (cnt s p) hp (by omega) h.2 hz (cnt s p) 0 (by omega) (k + 9 - cnt s p)
    rw [show k + 9 - cnt s p + cnt s p + 9 = k + 16 + 2 by omega] at this
    refine this.trans ?_
    show some (opt3 (if nb (val s p) = (cnt s p : Int) then some (val s p, p + 1 + (cnt s p : Int)) else none)) = _
    by_cases c2 : nb (val s p) = (cnt s p : Int)
    · rw [if_pos c2, if_pos ⟨h.1, h.2, c2⟩]
    · rw [if_neg c2, if_neg (fun h' => c2 h'.2.2)]
  · rw [if_neg c, if_neg (fun h' => c ((numS_16 hp).2 ⟨h'.1, h'.2.1⟩))]
    show plenumref02_ReadUnsigned.l0 ((k + 17) + 1) p (⟨#[]⟩ : ByteArray) false 0 0 = _
    rw [plenumref02_ReadUnsigned.l0]
    rfl
end Go.Proofs.YtndeikikeeeigaaDoor.Pure
end
section
namespace Go.Proofs.YtndeikikeeeigaaDoor.Pure
open Go.RowKit Go.Proofs.YtndeikikeeeigaaDoor.Q Go.Proofs.YtndeikikeeeigaaDoorW.PrintWords Go.Proofs.YtndeikikeeeigaaDoorW.PrintLast Go.Proofs.YtndeikikeeeigaaDoorW.PrintMore
set_option linter.unusedVariables false
set_option linter.unusedSimpArgs false
def sx (s : ByteArray) (q : Int) : Nat → Int
  | 0 => if bt s q ≥ 128 then -1 else 0
  | i + 1 => sgn (i + 1) (beN s q (i + 1))
theorem sgn_or (i : Nat) (V : Int) : (sgn (i + 1) V = V ∧ V < 128 * 256 ^ i) ∨ (sgn (i + 1) V = V - 256 ^ i * 256 ∧ 128 * 256 ^ i ≤ V) := by
  have e : sgn (i + 1) V = if V < 128 * 256 ^ i then V else V - 256 ^ i * 256 := by unfold sgn; rw [Int.pow_succ]; rfl
  rw [e]
  by_cases c : V < 128 * 256 ^ i
  · rw [if_pos c]; exact Or.inl ⟨rfl, c⟩
  · rw [if_neg c]; exact Or.inr ⟨rfl, by omega⟩
theorem beN_succ (s : ByteArray) (q : Int) (n : Nat) : beN s q (n + 1) = beN s q n * 256 + bt s (q + (n : Int)) := rfl
theorem sx_step (s : ByteArray) (q : Int) (i : Nat) : sx s q (i + 1) = sx s q i * 256 + bt s (q + (i : Int)) := by
  have hb := bt_range s (q + (i : Int))
  cases i with
  | zero =>
    have e : q + ((0 : Nat) : Int) = q := by omega
    rw [e] at hb ⊢
    have h1 : beN s q 1 = bt s q := by rw [beN_succ, e]; show (0 : Int) * 256 + _ = _; omega
    have h2 := sgn_or 0 (beN s q 1)
    rw [h1] at h2
    have h3 : sx s q (0 + 1) = sgn (0 + 1) (bt s q) := by rw [← h1]; rfl
    have h4 : sx s q 0 = if bt s q ≥ 128 then -1 else 0 := rfl
    rw [h3, h4]
    simp only [Int.reducePow] at h2
    split <;> omega
  | succ i =>
    have h1 := beN_succ s q (i + 1)
    have h2 := sgn_or (i + 1) (beN s q (i + 1 + 1))
    have h3 := sgn_or i (beN s q (i + 1))
    have h4 : sx s q (i + 1 + 1) = sgn (i + 1 + 1) (beN s q (i + 1 + 1)) := rfl
    have h5 : sx s q (i + 1) = sgn (i + 1) (beN s q (i + 1)) := rfl
    rw [h4, h5]
    rw [Int.pow_succ (256 : Int) i] at h2
    generalize (256 : Int) ^ i = P at *
    omega
theorem sx_range (s : ByteArray) (q : Int) (i : Nat) (h : i ≤ 7) : -9223372036854775808 ≤ sx s q i * 256 ∧ sx s q i * 256 ≤ 9223372036854775807 := by
  cases i with
  | zero => simp only [sx]; split <;> omega
  | succ i =>
    have hr := beN_range s q (i + 1)
    simp only [sx, sgn]
    obtain rfl | rfl | rfl | rfl | rfl | rfl | rfl : i = 0 ∨ i = 1 ∨ i = 2 ∨ i = 3 ∨ i = 4 ∨ i = 5 ∨ i = 6 := by omega
    all_goals simp only [Int.reducePow, Nat.reduceSub, Nat.reduceAdd] at hr ⊢
    all_goals split <;> omega
theorem refRS_loop (s : ByteArray) (p : Int) (n : Nat) (hp : 0 ≤ p) (h1 : 1 ≤ n) (h8 : n ≤ 8) (hn : p + 1 + (n : Int) ≤ (s.size : Int)) (hz : s.size ≤ 140737488355327) :
    ∀ (d i : Nat), i + d = n → ∀ k, plenumref02_ReadSigned.l0 (k + d + 9) p (s.extract (p + 1).toNat (p + 1 + (n : Int)).toNat) true (sx s (p + 1) i) i =
      some (opt3 (if ss (sx s (p + 1) n) = (n : Int) then some (sx s (p + 1) n, p + 1 + (n : Int)) else none)) := by
  have hs : ((s.extract (p + 1).toNat (p + 1 + (n : Int)).toNat).size : Int) = (n : Int) := by rw [ext_size _ _ _ (by omega) (by omega)]; omega
  intro d
  induction d with
  | zero =>
    intro i hi k
    obtain rfl : i = n := by omega
    have hr : -9223372036854775808 ≤ sx s (p + 1) i ∧ sx s (p + 1) i ≤ 9223372036854775807 := by
      obtain ⟨m, rfl⟩ : ∃ m, i = m + 1 := ⟨i - 1, by omega⟩
      exact sgn_range h1 h8 (beN_range _ _ _)
    rw [show k + 0 + 9 = (k + 8) + 1 by omega]
    rw [plenumref02_ReadSigned.l0, hs, if_neg (by omega), if_pos rfl, refS_eq _ _ hr.1 hr.2]
    rw [Option.bind_some]
    have hnb := ss_range (sx s (p + 1) i) hr.1 hr.2
    have hsz : ((strOfNums ((32 + ss (sx s (p + 1) i)) :: beL (sx s (p + 1) i) (ss (sx s (p + 1) i)).toNat)).size : Int) = 1 + ss (sx s (p + 1) i) := by
      rw [strOfNums_size, List.length_cons, beL_length]; omega
    generalize strOfNums ((32 + ss (sx s (p + 1) i)) :: beL (sx s (p + 1) i) (ss (sx s (p + 1) i)).toNat) = enc at hsz ⊢
    have w1 : wrap64 ((i : Int) + 1) = (i : Int) + 1 := w64 (by omega) (by omega)
    have w2 : wrap64 (wrap64 (p + 1) + (i : Int)) = p + 1 + (i : Int) := by rw [w64 (n := p + 1) (by omega) (by omega), w64 (by omega) (by omega)]
    by_cases c : ss (sx s (p + 1) i) = (i : Int)
    · rw [if_pos c, if_pos (by omega), w2, opt3]
    · rw [if_neg c, if_neg (by omega), opt3]
  | succ d ih =>
    intro i hi k
    have hr := sx_range s (p + 1) i (by omega)
    have hb := bt_range s (p + 1 + (i : Int))
    have hbt : bt (s.extract (p + 1).toNat (p + 1 + (n : Int)).toNat) (i : Int) = bt s (p + 1 + (i : Int)) := by
      rw [bt_ext _ _ _ _ (by omega) (by omega) (by omega) (by omega)]
      congr 1
      omega
    rw [show k + (d + 1) + 9 = (k + d + 9) + 1 by omega]
    rw [plenumref02_ReadSigned.l0, hs, if_pos (by omega), if_pos (by omega), hbt, w64 (n := (i : Int) + 1) (by omega) (by omega), w64 (n := bt s (p + 1 + (i : Int))) (by omega) (by omega),
      w64 (n := sx s (p + 1) i * 256) hr.1 hr.2, or_i64 _ _ hr.1 hr.2 hb.1 (by omega), ← sx_step]
    have := ih (i + 1) (by omega) k
    rw [show ((i + 1 : Nat) : Int) = (i : Int) + 1 by omega] at this
    exact this
theorem refRS_eq (k : Nat) (s : ByteArray) (p : Int) (hp : 0 ≤ p) (hz : s.size ≤ 140737488355327) : plenumref02_ReadSigned.f (k + 20) s p = some (opt3 (sS s p)) := by
  unfold plenumref02_ReadSigned.f sS
  rw [show k + 20 = (k + 18) + 2 from rfl, refNumber_eq _ s p 32 (Or.inr rfl) hp hz]
  rw [Option.bind_some]
  by_cases c : numS s p 32 = true
  · rw [if_pos c]
    have h := (numS_32 hp).1 c
    have hc := cnt_of (Or.inr h.1)
    have hs : ((s.extract (p + 1).toNat (p + 1 + (cnt s p : Int)).toNat).size : Int) = (cnt s p : Int) := by rw [ext_size _ _ _ (by omega) (by omega)]; omega
    have hb0 : bt (s.extract (p + 1).toNat (p + 1 + (cnt s p : Int)).toNat) 0 = bt s (p + 1) := by
      rw [bt_ext _ _ _ _ (by omega) (by omega) (by omega) (by omega)]
      congr 1
      omega
    have := refRS_loop s p (cnt s p) hp hc.1 hc.2 h.2 hz (cnt s p) 0 (by omega) (k + 9 - cnt s p)
    rw [show k + 9 - cnt s p + cnt s p + 9 = k + 18 by omega] at this
    have e : sx s (p + 1) (cnt s p) = sgn (cnt s p) (val s p) := by
      obtain ⟨m, hm⟩ : ∃ m, cnt s p = m + 1 := ⟨cnt s p - 1, by omega⟩
      unfold val
      rw [hm]
      rfl
    rw [e] at this
    rw [if_pos rfl, hs, if_pos (by omega), hb0]
    rw [show k + 18 + 2 = (k + 18 + 1) + 1 from rfl, plenumref02_ReadSigned.j0]
    have hfin : plenumref02_ReadSigned.l0 (k + 18) p (s.extract (p + 1).toNat (p + 1 + (cnt s p : Int)).toNat) true (if bt s (p + 1) ≥ 128 then -1 else 0) 0 =
        some (opt3 (if kindS s p = 4 ∧ p + 1 + (cnt s p : Int) ≤ (s.size : Int) ∧ ss (sgn (cnt s p) (val s p)) = (cnt s p : Int) then some (sgn (cnt s p) (val s p), p + 1 + (cnt s p : Int)) else none)) := by
      refine this.trans ?_
      by_cases c2 : ss (sgn (cnt s p) (val s p)) = (cnt s p : Int)
      · rw [if_pos c2, if_pos ⟨h.1, h.2, c2⟩]
      · rw [if_neg c2, if_neg (fun h' => c2 h'.2.2)]
    by_cases c3 : bt s (p + 1) ≥ 128
    · rw [decide_eq_true c3, if_pos rfl, plenumref02_ReadSigned.j1]
      rw [if_pos c3] at hfin
      exact hfin
    · rw [decide_eq_false c3, if_neg (by decide), plenumref02_ReadSigned.j1]
      rw [if_neg c3] at hfin
      exact hfin
  · rw [if_neg c, if_neg (c := (((⟨#[]⟩ : ByteArray), false) : ByteArray × Bool).2 = true) (by decide), if_neg (fun h' => c ((numS_32 hp).2 ⟨h'.1, h'.2.1⟩))]
    rw [show k + 18 + 2 = (k + 17 + 1 + 1) + 1 from rfl, plenumref02_ReadSigned.j0, if_neg (by decide), plenumref02_ReadSigned.j1, plenumref02_ReadSigned.l0, if_neg (by decide), if_neg (by decide), opt3]
theorem rawS3 (s : ByteArray) (p : Int) : (∀ v e, uS s p = some (v, e) → rawS s p 3 = (v, e, true)) ∧ (uS s p = none → (rawS s p 3).2.2 = false) := by
  unfold uS rawS
  refine ⟨fun v e h => ?_, fun h => ?_⟩
  · split at h
    · rename_i c
      obtain ⟨rfl, rfl⟩ := Prod.mk.inj (Option.some.inj h)
      rw [if_pos c.1, if_neg (by omega), if_pos rfl, c.2.2]
      simp
    · cases h
  · split at h
    · cases h
    · rename_i c
      by_cases c1 : kindS s p = 3
      · rw [if_pos c1]
        by_cases c2 : p + 1 + (cnt s p : Int) > (s.size : Int)
        · rw [if_pos c2]
        · rw [if_neg c2, if_pos rfl]
          show (nb (val s p) == (cnt s p : Int)) = false
          rw [beq_eq_false_iff_ne]
          exact fun h' => c ⟨c1, by omega, h'⟩
      · rw [if_neg c1]
theorem rawS4 (s : ByteArray) (p : Int) : (∀ v e, sS s p = some (v, e) → rawS s p 4 = (IntKind.u64.wrap v, e, true)) ∧ (sS s p = none → (rawS s p 4).2.2 = false) := by
  unfold sS rawS
  refine ⟨fun v e h => ?_, fun h => ?_⟩
  · split at h
    · rename_i c
      obtain ⟨rfl, rfl⟩ := Prod.mk.inj (Option.some.inj h)
      rw [if_pos c.1, if_neg (by omega), if_neg (by decide), c.2.2]
      simp
    · cases h
  · split at h
    · cases h
    · rename_i c
      by_cases c1 : kindS s p = 4
      · rw [if_pos c1]
        by_cases c2 : p + 1 + (cnt s p : Int) > (s.size : Int)
        · rw [if_pos c2]
        · rw [if_neg c2, if_neg (by decide)]
          show (ss (sgn (cnt s p) (val s p)) == (cnt s p : Int)) = false
          rw [beq_eq_false_iff_ne]
          exact fun h' => c ⟨c1, by omega, h'⟩
      · rw [if_neg c1]
theorem uS_some {s : ByteArray} {p v e : Int} (h : uS s p = some (v, e)) : 0 ≤ p ∧ p + 1 < e ∧ e ≤ (s.size : Int) ∧ 0 ≤ v ∧ v < 18446744073709551616 := by
  unfold uS at h
  split at h
  · rename_i c
    obtain ⟨rfl, rfl⟩ := Prod.mk.inj (Option.some.inj h)
    have hc := cnt_of (Or.inl c.1)
    have hk := kindS_in (s := s) (p := p) (by omega)
    have hr := beN_range s (p + 1) (cnt s p)
    have hlt : beN s (p + 1) (cnt s p) < 256 ^ 8 := beN_lt hc.2
    simp only [Int.reducePow] at hlt
    unfold val
    omega
  · cases h
theorem sS_some {s : ByteArray} {p v e : Int} (h : sS s p = some (v, e)) : 0 ≤ p ∧ p + 1 < e ∧ e ≤ (s.size : Int) ∧ -9223372036854775808 ≤ v ∧ v ≤ 9223372036854775807 := by
  unfold sS at h
  split at h
  · rename_i c
    obtain ⟨rfl, rfl⟩ := Prod.mk.inj (Option.some.inj h)
    have hc := cnt_of (Or.inr c.1)
    have hk := kindS_in (s := s) (p := p) (by omega)
    have hr := sgn_range hc.1 hc.2 (beN_range s (p + 1) (cnt s p))
    unfold val
    omega
  · cases h
def tS (s : ByteArray) (p : Int) : Option (ByteArray × Int) :=
  if kindS s p = 5 then match uS s (p + 1) with
    | some (v, e) => if v > 65535 then none else if v > (s.size : Int) - e then none else some (s.extract e.toNat (e + v).toNat, e + v)
    | none => none
  else none
def lS (s : ByteArray) (p : Int) : Option (Int × Int) :=
  if kindS s p = 6 then match uS s (p + 1) with
    | some (v, e) => if v > 65535 then none else some (v, e)
    | none => none
  else none
def optT (o : Option (ByteArray × Int)) : ByteArray × Int × Bool := match o with | some (v, e) => (v, e, true) | none => ((⟨#[]⟩ : ByteArray), 0, false)
theorem text_eq (k : Nat) (s : ByteArray) (p : Int) (hz : s.size ≤ 140737488355327) : codec_text.f (k + 12) s p = some (optT (tS s p)) := by
  unfold codec_text.f tS
  rw [show k + 12 = (k + 9) + 3 from rfl, kind_eq, Option.bind_some]
  by_cases c : kindS s p = 5
  · have hk := kindS_in (s := s) (p := p) (by omega)
    rw [if_pos c, if_pos c, show k + 9 + 3 = k + 12 from rfl, w64 (n := p + 1) (by omega) (by omega), raw_eq _ _ _ _ (Or.inl rfl) hz, Option.bind_some]
    cases hu : uS s (p + 1) with
    | none =>
      rw [(rawS3 s (p + 1)).2 hu, if_neg (by decide)]
      rfl
    | some ve =>
      obtain ⟨v, e⟩ := ve
      have hb := uS_some hu
      show _ = some (optT (if v > 65535 then none else if v > (s.size : Int) - e then none else some (s.extract e.toNat (e + v).toNat, e + v)))
      rw [(rawS3 s (p + 1)).1 v e hu, if_pos (show ((v, e, true) : Int × Int × Bool).2.2 = true from rfl), show ((v, e, true) : Int × Int × Bool).1 = v from rfl, show ((v, e, true) : Int × Int × Bool).2.1 = e from rfl]
      by_cases c1 : v > 65535
      · rw [if_pos c1, if_pos c1]; rfl
      · rw [if_neg c1, if_neg c1, w64 (n := v) (by omega) (by omega), w64 (n := (s.size : Int) - e) (by omega) (by omega), w64 (n := e + v) (by omega) (by omega)]
        by_cases c2 : v > (s.size : Int) - e
        · rw [if_pos c2, if_pos c2]; rfl
        · rw [if_neg c2, if_neg c2, if_pos (by omega), if_pos (by omega), if_pos (by omega)]; rfl
  · rw [if_neg c, if_neg c]; rfl
theorem list_eq (k : Nat) (s : ByteArray) (p : Int) (hz : s.size ≤ 140737488355327) : codec_list.f (k + 12) s p = some (opt3 (lS s p)) := by
  unfold codec_list.f lS
  rw [show k + 12 = (k + 9) + 3 from rfl, kind_eq, Option.bind_some]
  by_cases c : kindS s p = 6
  · have hk := kindS_in (s := s) (p := p) (by omega)
    rw [if_pos c, if_pos c, show k + 9 + 3 = k + 12 from rfl, w64 (n := p + 1) (by omega) (by omega), raw_eq _ _ _ _ (Or.inl rfl) hz, Option.bind_some]
    cases hu : uS s (p + 1) with
    | none =>
      rw [(rawS3 s (p + 1)).2 hu, if_neg (by decide)]
      rfl
    | some ve =>
      obtain ⟨v, e⟩ := ve
      have hb := uS_some hu
      show _ = some (opt3 (if v > 65535 then none else some (v, e)))
      rw [(rawS3 s (p + 1)).1 v e hu, if_pos (show ((v, e, true) : Int × Int × Bool).2.2 = true from rfl), show ((v, e, true) : Int × Int × Bool).1 = v from rfl, show ((v, e, true) : Int × Int × Bool).2.1 = e from rfl]
      by_cases c1 : v > 65535
      · rw [if_pos c1, if_pos c1]; rfl
      · rw [if_neg c1, if_neg c1, w64 (n := v) (by omega) (by omega)]; rfl
  · rw [if_neg c, if_neg c]; rfl
theorem kd5 {b : Int} : kd b = 5 ↔ b = 48 := by unfold kd; omega
theorem kd6 {b : Int} : kd b = 6 ↔ b = 64 := by unfold kd; omega
theorem refRT_eq (k : Nat) (s : ByteArray) (p : Int) (hp : 0 ≤ p) (hz : s.size ≤ 140737488355327) : plenumref02_ReadText.f (k + 19) s p = some (optT (tS s p)) := by
  unfold plenumref02_ReadText.f tS
  rw [show k + 19 = (k + 18) + 1 from rfl, plenumref02_ReadText.j0, plenumref02_ReadText.j0]
  by_cases c0 : p ≥ (s.size : Int)
  · rw [if_pos c0, if_pos rfl, if_neg (by unfold kindS; rw [if_pos (Or.inr c0)]; decide)]; rfl
  · have hk : kindS s p = kd (bt s p) := by unfold kindS; rw [if_neg (by omega)]
    rw [if_neg c0, if_pos hp, if_pos (by omega), hk]
    by_cases c : bt s p = 48
    · rw [if_neg (by simp [c]), if_pos (kd5.2 c), w64 (n := p + 1) (by omega) (by omega), refRU_eq _ _ _ (by omega) hz, Option.bind_some]
      cases hu : uS s (p + 1) with
      | none => rfl
      | some ve =>
        obtain ⟨v, e⟩ := ve
        have hb := uS_some hu
        show _ = some (optT (if v > 65535 then none else if v > (s.size : Int) - e then none else some (s.extract e.toNat (e + v).toNat, e + v)))
        rw [show opt3 (some (v, e)) = (v, e, true) from rfl, if_pos (show ((v, e, true) : Int × Int × Bool).2.2 = true from rfl), show ((v, e, true) : Int × Int × Bool).1 = v from rfl, show ((v, e, true) : Int × Int × Bool).2.1 = e from rfl]
        by_cases c1 : v > 65535
        · rw [if_pos c1, if_pos c1]; rfl
        · rw [if_neg c1, if_neg c1, w64 (n := v) (by omega) (by omega), w64 (n := (s.size : Int) - e) (by omega) (by omega), w64 (n := e + v) (by omega) (by omega)]
          by_cases c2 : v > (s.size : Int) - e
          · rw [if_pos c2, if_pos c2]; rfl
          · rw [if_neg c2, if_neg c2, if_pos (by omega), if_pos (by omega), if_pos (by omega)]; rfl
    · rw [if_pos (by simp [c]), if_neg (fun h => c (kd5.1 h))]; rfl
theorem refRH_eq (k : Nat) (s : ByteArray) (p : Int) (hp : 0 ≤ p) (hz : s.size ≤ 140737488355327) : plenumref02_ReadHead.f (k + 19) s p = some (opt3 (lS s p)) := by
  unfold plenumref02_ReadHead.f lS
  rw [show k + 19 = (k + 18) + 1 from rfl, plenumref02_ReadHead.j0, plenumref02_ReadHead.j0]
  by_cases c0 : p ≥ (s.size : Int)
  · rw [if_pos c0, if_pos rfl, if_neg (by unfold kindS; rw [if_pos (Or.inr c0)]; decide)]; rfl
  · have hk : kindS s p = kd (bt s p) := by unfold kindS; rw [if_neg (by omega)]
    rw [if_neg c0, if_pos hp, if_pos (by omega), hk]
    by_cases c : bt s p = 64
    · rw [if_neg (by simp [c]), if_pos (kd6.2 c), w64 (n := p + 1) (by omega) (by omega), refRU_eq _ _ _ (by omega) hz, Option.bind_some]
      cases hu : uS s (p + 1) with
      | none => rfl
      | some ve =>
        obtain ⟨v, e⟩ := ve
        have hb := uS_some hu
        show _ = some (opt3 (if v > 65535 then none else some (v, e)))
        rw [show opt3 (some (v, e)) = (v, e, true) from rfl, if_pos (show ((v, e, true) : Int × Int × Bool).2.2 = true from rfl), show ((v, e, true) : Int × Int × Bool).1 = v from rfl, show ((v, e, true) : Int × Int × Bool).2.1 = e from rfl]
        by_cases c1 : v > 65535
        · rw [if_pos c1, if_pos c1]; rfl
        · rw [if_neg c1, if_neg c1, w64 (n := v) (by omega) (by omega)]; rfl
    · rw [if_pos (by simp [c]), if_neg (fun h => c (kd6.1 h))]; rfl
end Go.Proofs.YtndeikikeeeigaaDoor.Pure
end
section
namespace Go.Proofs.YtndeikikeeeigaaDoor.Q
open Go.RowKit Go.Proofs.YtndeikikeeeigaaDoorW.PrintWords Go.Proofs.YtndeikikeeeigaaDoorW.PrintLast Go.Proofs.YtndeikikeeeigaaDoorW.PrintMore
attribute [local go_sem] max2_int min2_int max_two min_two max_three min_three max_four min_four
set_option linter.unusedVariables false
set_option linter.unusedSimpArgs false
mutual
def plenumref02_Skip.j0 : Nat → ByteArray → Int → Int → Int → Bool → Option (Int × Int)
  | 0, _, _, _, _, _ => none
  | k + 1, x0, x1, x2, x26, x27 => if x27 = true then (some (wrap64 (x1 + 1), 0)) else (if x26 = 3 then ((plenumref02_ReadUnsigned.f k x0 x1).bind fun bt235 => (if bt235.2.2 = true then (some (bt235.2.1, 0)) else (some ((-1), 0)))) else (if x26 = 4 then ((plenumref02_ReadSigned.f k x0 x1).bind fun bt238 => (if bt238.2.2 = true then (some (bt238.2.1, 0)) else (some ((-1), 0)))) else (if x26 = 5 then ((plenumref02_ReadText.f k x0 x1).bind fun bt241 => (if bt241.2.2 = true then (some (bt241.2.1, 0)) else (some ((-1), 0)))) else (if x26 = 6 then ((plenumref02_ReadHead.f k x0 x1).bind fun bt244 => (if bt244.2.2 = true then (plenumref02_Skip.j1 k x0 x2 bt244.1 bt244.2.1 (x2 == 0)) else (plenumref02_Skip.j1 k x0 x2 bt244.1 bt244.2.1 true))) else (some ((-1), 0))))))
def plenumref02_Skip.j1 : Nat → ByteArray → Int → Int → Int → Bool → Option (Int × Int)
  | 0, _, _, _, _, _ => none
  | k + 1, x0, x2, x17, x18, x79 => if x79 = true then (some ((-1), 0)) else (plenumref02_Skip.l0 k x0 x2 x17 x18 0 0)
def plenumref02_Skip.l0 : Nat → ByteArray → Int → Int → Int → Int → Int → Option (Int × Int)
  | 0, _, _, _, _, _, _ => none
  | k + 1, x0, x2, x17, x18, x20, x21 => if x21 < x17 then ((plenumref02_Skip.f k x0 x18 (wrap64 (x2 - 1))).bind fun bt247 => (if bt247.1 < 0 then (some ((-1), 0)) else (plenumref02_Skip.l0 k x0 x2 x17 bt247.1 (mx x20 bt247.2) (wrap64 (x21 + 1))))) else (some (x18, wrap64 (x20 + 1)))
def plenumref02_Skip.f : Nat → ByteArray → Int → Int → Option (Int × Int)
  | 0, _, _, _ => none
  | k + 1, a0, a1, a2 => (plenumref02_Kind.f k a0 a1).bind fun t234 => (if t234 = 1 then (plenumref02_Skip.j0 k a0 a1 a2 t234 (t234 == 1)) else (plenumref02_Skip.j0 k a0 a1 a2 t234 (t234 == 2)))
end
end Go.Proofs.YtndeikikeeeigaaDoor.Q
end
section
namespace Go.Proofs.YtndeikikeeeigaaDoor.Pure
open Go.RowKit Go.Proofs.YtndeikikeeeigaaDoor.Q Go.Proofs.YtndeikikeeeigaaDoorW.PrintWords Go.Proofs.YtndeikikeeeigaaDoorW.PrintLast Go.Proofs.YtndeikikeeeigaaDoorW.PrintMore
set_option linter.unusedVariables false
set_option linter.unusedSimpArgs false
def Alike (s : ByteArray) (p D : Int) (r : Int × Int × Bool) (r' : Int × Int) : Prop :=
  (r.2.2 = true ∧ r' = (r.1, r.2.1) ∧ p ≤ r.1 ∧ r.1 ≤ (s.size : Int) ∧ 0 ≤ r.2.1 ∧ r.2.1 ≤ D) ∨ (r.2.2 = false ∧ r' = (-1, 0))
def Both (s : ByteArray) (p : Int) (D : Int) (f : Nat → Option (Int × Int × Bool)) (g : Nat → Option (Int × Int)) : Prop :=
  ∃ K r r', (∀ k, f (k + K) = some r) ∧ (∀ k, g (k + K) = some r') ∧ Alike s p D r r'
theorem lS_some {s : ByteArray} {p v e : Int} (h : lS s p = some (v, e)) : 0 ≤ p ∧ p + 1 < e ∧ e ≤ (s.size : Int) ∧ 0 ≤ v ∧ v ≤ 65535 := by
  unfold lS at h
  by_cases c : kindS s p = 6
  · have hk := kindS_in (s := s) (p := p) (by omega)
    rw [if_pos c] at h
    cases hu : uS s (p + 1) with
    | none => rw [hu] at h; cases h
    | some ve =>
      obtain ⟨v', e'⟩ := ve
      have hb := uS_some hu
      rw [hu] at h
      have h' : (if v' > 65535 then none else some (v', e')) = some (v, e) := h
      by_cases c1 : v' > 65535
      · rw [if_pos c1] at h'; cases h'
      · rw [if_neg c1] at h'
        obtain ⟨rfl, rfl⟩ := Prod.mk.inj (Option.some.inj h')
        omega
  · rw [if_neg c] at h; cases h
theorem tS_some {s : ByteArray} {p : Int} {t : ByteArray} {e : Int} (h : tS s p = some (t, e)) : 0 ≤ p ∧ p + 1 < e ∧ e ≤ (s.size : Int) := by
  unfold tS at h
  by_cases c : kindS s p = 5
  · have hk := kindS_in (s := s) (p := p) (by omega)
    rw [if_pos c] at h
    cases hu : uS s (p + 1) with
    | none => rw [hu] at h; cases h
    | some ve =>
      obtain ⟨v', e'⟩ := ve
      have hb := uS_some hu
      rw [hu] at h
      have h' : (if v' > 65535 then none else if v' > (s.size : Int) - e' then none else some (s.extract e'.toNat (e' + v').toNat, e' + v')) = some (t, e) := h
      by_cases c1 : v' > 65535
      · rw [if_pos c1] at h'; cases h'
      · rw [if_neg c1] at h'
        by_cases c2 : v' > (s.size : Int) - e'
        · rw [if_pos c2] at h'; cases h'
        · rw [if_neg c2] at h'
          obtain ⟨rfl, rfl⟩ := Prod.mk.inj (Option.some.inj h')
          omega
  · rw [if_neg c] at h; cases h
theorem skip_loop (s : ByteArray) (hz : s.size ≤ 140737488355327) (D : Nat) (h1 : 1 ≤ D) (h16 : D ≤ 16)
    (IH : ∀ p : Int, 0 ≤ p → p ≤ (s.size : Int) → Both s p ((D - 1 : Nat) : Int) (fun k => codec_skip.f k s p ((D - 1 : Nat) : Int)) (fun k => plenumref02_Skip.f k s p ((D - 1 : Nat) : Int))) (n : Int) (hn : n ≤ 65535) :
    ∀ (c : Nat) (i q m : Int), i + (c : Int) = n → 0 ≤ i → 0 ≤ q → q ≤ (s.size : Int) → 0 ≤ m → m ≤ (D : Int) - 1 →
      Both s q D (fun k => codec_skip.l0 k s (D : Int) q m n i) (fun k => plenumref02_Skip.l0 k s (D : Int) n q m i) := by
  intro c
  induction c with
  | zero =>
    intro i q m hi h0 hq0 hq1 hm0 hm1
    refine ⟨1, (q, m + 1, true), (q, m + 1), fun k => ?_, fun k => ?_, Or.inl ⟨rfl, rfl, by omega, hq1, by show 0 ≤ m + 1; omega, by show m + 1 ≤ _; omega⟩⟩
    · show codec_skip.l0 (k + 1) s (D : Int) q m n i = _
      rw [codec_skip.l0, if_neg (by omega), w64 (n := m + 1) (by omega) (by omega)]
    · show plenumref02_Skip.l0 (k + 1) s (D : Int) n q m i = _
      rw [plenumref02_Skip.l0, if_neg (by omega), w64 (n := m + 1) (by omega) (by omega)]
  | succ c ih =>
    intro i q m hi h0 hq0 hq1 hm0 hm1
    have hD : wrap64 ((D : Int) - 1) = ((D - 1 : Nat) : Int) := by rw [w64 (by omega) (by omega)]; omega
    obtain ⟨K1, r, r', e1, e2, ha⟩ := IH q hq0 hq1
    simp only at e1 e2
    rcases ha with ⟨a1, rfl, a3, a4, a5, a6⟩ | ⟨a1, rfl⟩
    · have hmx : 0 ≤ mx m r.2.1 ∧ mx m r.2.1 ≤ (D : Int) - 1 := by unfold mx; split <;> omega
      obtain ⟨K2, t, t', f1, f2, hb⟩ := ih (i + 1) r.1 (mx m r.2.1) (by omega) (by omega) (by omega) a4 hmx.1 hmx.2
      simp only at f1 f2
      refine ⟨K1 + K2 + 1, t, t', fun k => ?_, fun k => ?_, ?_⟩
      · show codec_skip.l0 ((k + (K1 + K2)) + 1) s (D : Int) q m n i = _
        rw [codec_skip.l0, if_pos (by omega), hD, show k + (K1 + K2) = (k + K2) + K1 by omega, e1, Option.bind_some, if_pos a1, w64 (n := i + 1) (by omega) (by omega), show (k + K2) + K1 = (k + K1) + K2 by omega, f1]
      · show plenumref02_Skip.l0 ((k + (K1 + K2)) + 1) s (D : Int) n q m i = _
        rw [plenumref02_Skip.l0, if_pos (by omega), hD, show k + (K1 + K2) = (k + K2) + K1 by omega, e2, Option.bind_some]
        refine (if_neg (show ¬ r.1 < 0 by omega)).trans ?_
        rw [w64 (n := i + 1) (by omega) (by omega), show (k + K2) + K1 = (k + K1) + K2 by omega]
        exact f2 _
      · rcases hb with ⟨b1, b2, b3, b4, b5, b6⟩ | hb
        · exact Or.inl ⟨b1, b2, by omega, b4, b5, b6⟩
        · exact Or.inr hb
    · refine ⟨K1 + 1, (0, 0, false), (-1, 0), fun k => ?_, fun k => ?_, Or.inr ⟨rfl, rfl⟩⟩
      · show codec_skip.l0 ((k + K1) + 1) s (D : Int) q m n i = _
        rw [codec_skip.l0, if_pos (by omega), hD, e1, Option.bind_some, if_neg (by rw [a1]; decide)]
      · show plenumref02_Skip.l0 ((k + K1) + 1) s (D : Int) n q m i = _
        rw [plenumref02_Skip.l0, if_pos (by omega), hD, e2, Option.bind_some]
        exact if_pos (by decide)
theorem opt3_none : opt3 none = (0, 0, false) := rfl
theorem opt3_some (v e : Int) : opt3 (some (v, e)) = (v, e, true) := rfl
theorem optT_none : optT none = ((⟨#[]⟩ : ByteArray), 0, false) := rfl
theorem optT_some (v : ByteArray) (e : Int) : optT (some (v, e)) = (v, e, true) := rfl
theorem tt {α β : Type} (a : α) (b : β) : (a, b, true).2.2 = true := rfl
theorem ft {α β : Type} (a : α) (b : β) : ¬ (a, b, false).2.2 = true := Bool.false_ne_true
theorem skip_one (s : ByteArray) (hz : s.size ≤ 140737488355327) (D : Nat) (hD : D ≤ 16)
    (IH : 1 ≤ D → ∀ p : Int, 0 ≤ p → p ≤ (s.size : Int) → Both s p ((D - 1 : Nat) : Int) (fun k => codec_skip.f k s p ((D - 1 : Nat) : Int)) (fun k => plenumref02_Skip.f k s p ((D - 1 : Nat) : Int)))
    (p : Int) (hp0 : 0 ≤ p) (hp1 : p ≤ (s.size : Int)) : Both s p D (fun k => codec_skip.f k s p (D : Int)) (fun k => plenumref02_Skip.f k s p (D : Int)) := by
  have start : ∀ (r : Int × Int × Bool) (r' : Int × Int) (K : Nat), Alike s p D r r' →
      (∀ k, codec_skip.j0 (k + K) s p D (kindS s p) (kindS s p) (kindS s p == 1 || kindS s p == 2) = some r) →
      (∀ k, plenumref02_Skip.j0 (k + K) s p D (kindS s p) (kindS s p == 1 || kindS s p == 2) = some r') →
      Both s p D (fun k => codec_skip.f k s p (D : Int)) (fun k => plenumref02_Skip.f k s p (D : Int)) := by
    intro r r' K ha h1 h2
    refine ⟨K + 4 + 1, r, r', fun k => ?_, fun k => ?_, ha⟩
    · show codec_skip.f ((k + K + 4) + 1) s p (D : Int) = _
      rw [codec_skip.f, show k + K + 4 = (k + K + 1) + 3 from rfl, kind_eq, Option.bind_some]
      have h := h1 (k + 4)
      rw [show k + 4 + K = k + K + 1 + 3 by omega] at h
      by_cases c : kindS s p = 1
      · rw [if_pos c, ← h, c]; rfl
      · rw [if_neg c, ← h, show (kindS s p == 1) = false from beq_eq_false_iff_ne.2 c, Bool.false_or]
    · show plenumref02_Skip.f ((k + K + 4) + 1) s p (D : Int) = _
      rw [plenumref02_Skip.f, refKind_eq, Option.bind_some]
      have h := h2 (k + 4)
      rw [show k + 4 + K = k + K + 4 by omega] at h
      by_cases c : kindS s p = 1
      · rw [if_pos c, ← h, c]; rfl
      · rw [if_neg c, ← h, show (kindS s p == 1) = false from beq_eq_false_iff_ne.2 c, Bool.false_or]
  by_cases c12 : kindS s p = 1 ∨ kindS s p = 2
  · have hk := kindS_in (s := s) (p := p) (by omega)
    refine start (p + 1, 0, true) (p + 1, 0) 1 (Or.inl ⟨rfl, rfl, by show p ≤ p + 1; omega, by show p + 1 ≤ _; omega, by show (0 : Int) ≤ 0; omega, by show (0 : Int) ≤ D; omega⟩) (fun k => ?_) (fun k => ?_)
    · have hb : (kindS s p == 1 || kindS s p == 2) = true := by rcases c12 with c | c <;> rw [c] <;> rfl
      rw [codec_skip.j0, hb, if_pos rfl, w64 (n := p + 1) (by omega) (by omega)]
    · have hb : (kindS s p == 1 || kindS s p == 2) = true := by rcases c12 with c | c <;> rw [c] <;> rfl
      rw [plenumref02_Skip.j0, hb, if_pos rfl, w64 (n := p + 1) (by omega) (by omega)]
  have hb : (kindS s p == 1 || kindS s p == 2) = false := by
    rw [show (kindS s p == 1) = false from beq_eq_false_iff_ne.2 (fun h => c12 (Or.inl h)), show (kindS s p == 2) = false from beq_eq_false_iff_ne.2 (fun h => c12 (Or.inr h))]; rfl
  rw [hb] at start
  by_cases c3 : kindS s p = 3
  · rw [c3] at start
    have hraw : ∀ k, codec_skip.j0 (k + 20) s p D 3 3 false = some ((rawS s p 3).2.1, 0, (rawS s p 3).2.2) := fun k => by
      show codec_skip.j0 ((k + 18 + 1) + 1) s p D 3 3 false = _
      rw [codec_skip.j0, if_neg (by decide), if_pos rfl, codec_skip.j1, if_pos (show ((3 : Int) == 3) = true from rfl), show k + 18 = (k + 6) + 12 from rfl, raw_eq _ _ _ _ (Or.inl rfl) hz, Option.bind_some]
    have href : ∀ k, plenumref02_Skip.j0 (k + 20) s p D 3 false = (if (opt3 (uS s p)).2.2 = true then some ((opt3 (uS s p)).2.1, 0) else some ((-1), 0)) := fun k => by
      show plenumref02_Skip.j0 ((k + 1 + 18) + 1) s p D 3 false = _
      rw [plenumref02_Skip.j0, if_neg (by decide), if_pos rfl, refRU_eq _ _ _ hp0 hz, Option.bind_some]
    cases hu : uS s p with
    | none =>
      refine start ((rawS s p 3).2.1, 0, (rawS s p 3).2.2) (-1, 0) 20 (Or.inr ⟨(rawS3 s p).2 hu, rfl⟩) hraw (fun k => ?_)
      rw [href, hu, opt3_none, if_neg (ft _ _)]
    | some ve =>
      obtain ⟨v, e⟩ := ve
      have hbd := uS_some hu
      have hr := (rawS3 s p).1 v e hu
      rw [hr] at hraw
      refine start (e, 0, true) (e, 0) 20 (Or.inl ⟨rfl, rfl, by show p ≤ e; omega, by show e ≤ _; omega, by show (0 : Int) ≤ 0; omega, by show (0 : Int) ≤ D; omega⟩) hraw (fun k => ?_)
      rw [href, hu, opt3_some, if_pos (tt _ _)]
  by_cases c4 : kindS s p = 4
  · rw [c4] at start
    have hraw : ∀ k, codec_skip.j0 (k + 21) s p D 4 4 false = some ((rawS s p 4).2.1, 0, (rawS s p 4).2.2) := fun k => by
      show codec_skip.j0 ((k + 19 + 1) + 1) s p D 4 4 false = _
      rw [codec_skip.j0, if_neg (by decide), if_neg (by decide), codec_skip.j1, if_pos (show ((4 : Int) == 4) = true from rfl), show k + 19 = (k + 7) + 12 from rfl, raw_eq _ _ _ _ (Or.inr rfl) hz, Option.bind_some]
    have href : ∀ k, plenumref02_Skip.j0 (k + 21) s p D 4 false = (if (opt3 (sS s p)).2.2 = true then some ((opt3 (sS s p)).2.1, 0) else some ((-1), 0)) := fun k => by
      show plenumref02_Skip.j0 ((k + 20) + 1) s p D 4 false = _
      rw [plenumref02_Skip.j0, if_neg (by decide), if_neg (by decide), if_pos rfl, refRS_eq _ _ _ hp0 hz, Option.bind_some]
    cases hu : sS s p with
    | none =>
      refine start ((rawS s p 4).2.1, 0, (rawS s p 4).2.2) (-1, 0) 21 (Or.inr ⟨(rawS4 s p).2 hu, rfl⟩) hraw (fun k => ?_)
      rw [href, hu, opt3_none, if_neg (ft _ _)]
    | some ve =>
      obtain ⟨v, e⟩ := ve
      have hbd := sS_some hu
      have hr := (rawS4 s p).1 v e hu
      rw [hr] at hraw
      refine start (e, 0, true) (e, 0) 21 (Or.inl ⟨rfl, rfl, by show p ≤ e; omega, by show e ≤ _; omega, by show (0 : Int) ≤ 0; omega, by show (0 : Int) ≤ D; omega⟩) hraw (fun k => ?_)
      rw [href, hu, opt3_some, if_pos (tt _ _)]
  by_cases c5 : kindS s p = 5
  · rw [c5] at start
    have hraw : ∀ k, codec_skip.j0 (k + 20) s p D 5 5 false = some ((optT (tS s p)).2.1, 0, (optT (tS s p)).2.2) := fun k => by
      show codec_skip.j0 ((k + 18 + 1) + 1) s p D 5 5 false = _
      rw [codec_skip.j0, if_neg (by decide), if_neg (by decide), codec_skip.j1, if_neg (by decide), if_pos rfl, show k + 18 = (k + 6) + 12 from rfl, text_eq _ _ _ hz, Option.bind_some]
    have href : ∀ k, plenumref02_Skip.j0 (k + 20) s p D 5 false = (if (optT (tS s p)).2.2 = true then some ((optT (tS s p)).2.1, 0) else some ((-1), 0)) := fun k => by
      show plenumref02_Skip.j0 ((k + 19) + 1) s p D 5 false = _
      rw [plenumref02_Skip.j0, if_neg (by decide), if_neg (by decide), if_neg (by decide), if_pos rfl, refRT_eq _ _ _ hp0 hz, Option.bind_some]
    cases hu : tS s p with
    | none =>
      rw [hu, optT_none] at hraw
      refine start (0, 0, false) (-1, 0) 20 (Or.inr ⟨rfl, rfl⟩) hraw (fun k => ?_)
      rw [href, hu, optT_none, if_neg (ft _ _)]
    | some ve =>
      obtain ⟨v, e⟩ := ve
      have hbd := tS_some hu
      rw [hu, optT_some] at hraw
      refine start (e, 0, true) (e, 0) 20 (Or.inl ⟨rfl, rfl, by show p ≤ e; omega, by show e ≤ _; omega, by show (0 : Int) ≤ 0; omega, by show (0 : Int) ≤ D; omega⟩) hraw (fun k => ?_)
      rw [href, hu, optT_some, if_pos (tt _ _)]
  by_cases c6 : kindS s p = 6
  · rw [c6] at start
    have hraw : ∀ k, codec_skip.j0 (k + 20) s p D 6 6 false = (if (opt3 (lS s p)).2.2 = true then codec_skip.j2 (k + 18) s D (opt3 (lS s p)).1 (opt3 (lS s p)).2.1 ((D : Int) == 0) else codec_skip.j2 (k + 18) s D (opt3 (lS s p)).1 (opt3 (lS s p)).2.1 true) := fun k => by
      show codec_skip.j0 ((k + 18 + 1) + 1) s p D 6 6 false = _
      rw [codec_skip.j0, if_neg (by decide), if_neg (by decide), codec_skip.j1, if_neg (by decide), if_neg (by decide), if_pos rfl, show k + 18 = (k + 6) + 12 from rfl, list_eq _ _ _ hz, Option.bind_some]
    have href : ∀ k, plenumref02_Skip.j0 (k + 20) s p D 6 false = (if (opt3 (lS s p)).2.2 = true then plenumref02_Skip.j1 (k + 19) s D (opt3 (lS s p)).1 (opt3 (lS s p)).2.1 ((D : Int) == 0) else plenumref02_Skip.j1 (k + 19) s D (opt3 (lS s p)).1 (opt3 (lS s p)).2.1 true) := fun k => by
      show plenumref02_Skip.j0 ((k + 19) + 1) s p D 6 false = _
      rw [plenumref02_Skip.j0, if_neg (by decide), if_neg (by decide), if_neg (by decide), if_neg (by decide), if_pos rfl, refRH_eq _ _ _ hp0 hz, Option.bind_some]
    cases hu : lS s p with
    | none =>
      refine start (0, 0, false) (-1, 0) 20 (Or.inr ⟨rfl, rfl⟩) (fun k => ?_) (fun k => ?_)
      · rw [hraw, hu, opt3_none, if_neg (ft _ _), show k + 18 = (k + 17) + 1 from rfl, codec_skip.j2, if_pos rfl]
      · rw [href, hu, opt3_none, if_neg (ft _ _), show k + 19 = (k + 18) + 1 from rfl, plenumref02_Skip.j1, if_pos rfl]
    | some ve =>
      obtain ⟨v, e⟩ := ve
      have hbd := lS_some hu
      by_cases d0 : D = 0
      · refine start (0, 0, false) (-1, 0) 20 (Or.inr ⟨rfl, rfl⟩) (fun k => ?_) (fun k => ?_)
        · rw [hraw, hu, opt3_some, if_pos (tt _ _), show k + 18 = (k + 17) + 1 from rfl, codec_skip.j2, if_pos (by rw [d0]; rfl)]
        · rw [href, hu, opt3_some, if_pos (tt _ _), show k + 19 = (k + 18) + 1 from rfl, plenumref02_Skip.j1, if_pos (by rw [d0]; rfl)]
      · have hD0 : ¬ (((D : Int) == 0) = true) := by simp only [beq_iff_eq]; omega
        obtain ⟨K, t, t', f1, f2, ha⟩ := skip_loop s hz D (by omega) hD (IH (by omega)) v (by omega) v.toNat 0 e 0 (by omega) (by omega) (by omega) (by omega) (by omega) (by omega)
        simp only at f1 f2
        refine start t t' (K + 20) ?_ (fun k => ?_) (fun k => ?_)
        · rcases ha with ⟨b1, b2, b3, b4, b5, b6⟩ | ha
          · exact Or.inl ⟨b1, b2, by omega, b4, b5, b6⟩
          · exact Or.inr ha
        · rw [← Nat.add_assoc, hraw, hu, opt3_some, if_pos (tt _ _), show k + K + 18 = (k + 17 + K) + 1 by omega, codec_skip.j2, if_neg hD0, f1]
        · rw [← Nat.add_assoc, href, hu, opt3_some, if_pos (tt _ _), show k + K + 19 = (k + 18 + K) + 1 by omega, plenumref02_Skip.j1, if_neg hD0, f2]
  · refine start (0, 0, false) (-1, 0) 5 (Or.inr ⟨rfl, rfl⟩) (fun k => ?_) (fun k => ?_)
    · show codec_skip.j0 ((k + 3 + 1) + 1) s p D (kindS s p) (kindS s p) false = _
      rw [codec_skip.j0, if_neg (by decide), if_neg c3, codec_skip.j1, if_neg (by rw [beq_eq_false_iff_ne.2 c4]; decide), if_neg c5, if_neg c6]
    · show plenumref02_Skip.j0 ((k + 4) + 1) s p D (kindS s p) false = _
      rw [plenumref02_Skip.j0, if_neg (by decide), if_neg c3, if_neg c4, if_neg c5, if_neg c6]
theorem skip_eq (s : ByteArray) (hz : s.size ≤ 140737488355327) : ∀ (D : Nat), D ≤ 16 → ∀ p : Int, 0 ≤ p → p ≤ (s.size : Int) → Both s p D (fun k => codec_skip.f k s p (D : Int)) (fun k => plenumref02_Skip.f k s p (D : Int)) := by
  intro D
  induction D with
  | zero =>
    intro hD p hp0 hp1
    exact skip_one s hz 0 hD (fun h => absurd h (by decide)) p hp0 hp1
  | succ D ih =>
    intro hD p hp0 hp1
    exact skip_one s hz (D + 1) hD (fun _ => ih (by omega)) p hp0 hp1
end Go.Proofs.YtndeikikeeeigaaDoor.Pure
end
section
namespace Go.Proofs.YtndeikikeeeigaaDoor.Pure
open Go.RowKit Go.Proofs.YtndeikikeeeigaaDoor.Q Go.Proofs.YtndeikikeeeigaaDoorW.PrintWords Go.Proofs.YtndeikikeeeigaaDoorW.PrintLast Go.Proofs.YtndeikikeeeigaaDoorW.PrintMore
set_option linter.unusedVariables false
set_option linter.unusedSimpArgs false
def Begins (t s : ByteArray) : Prop := t.size ≤ s.size ∧ ∀ p : Int, 0 ≤ p → p < (t.size : Int) → bt t p = bt s p
theorem Begins.kind {t s : ByteArray} (h : Begins t s) {p : Int} (hk : kindS t p ≠ 0) : kindS s p = kindS t p := by
  obtain ⟨a, b, c⟩ := kindS_in hk
  have h1 := h.1
  rw [c]
  unfold kindS
  rw [if_neg (by omega), ← h.2 p a b]
theorem Begins.cnt {t s : ByteArray} (h : Begins t s) {p : Int} (h0 : 0 ≤ p) (h1 : p < (t.size : Int)) : cnt s p = cnt t p := by
  unfold Pure.cnt
  rw [h.2 p h0 h1]
theorem Begins.beN {t s : ByteArray} (h : Begins t s) {q : Int} (h0 : 0 ≤ q) : ∀ n : Nat, q + (n : Int) ≤ (t.size : Int) → beN s q n = beN t q n := by
  intro n
  induction n with
  | zero => intro _; rfl
  | succ n ih =>
    intro hn
    rw [beN_succ, beN_succ, ih (by omega), h.2 (q + (n : Int)) (by omega) (by omega)]
theorem Begins.uS {t s : ByteArray} (h : Begins t s) {p v e : Int} (hu : uS t p = some (v, e)) : uS s p = some (v, e) := by
  unfold Pure.uS at hu ⊢
  split at hu
  · rename_i c
    have hk := kindS_in (s := t) (p := p) (by omega)
    have hc := h.cnt hk.1 hk.2.1
    have hv : val s p = val t p := by unfold val; rw [hc]; exact h.beN (by omega) _ (by omega)
    have h1 := h.1
    rw [h.kind (by omega), hc, hv, if_pos ⟨c.1, by omega, c.2.2⟩]
    exact hu
  · cases hu
theorem Begins.sS {t s : ByteArray} (h : Begins t s) {p v e : Int} (hu : sS t p = some (v, e)) : sS s p = some (v, e) := by
  unfold Pure.sS at hu ⊢
  split at hu
  · rename_i c
    have hk := kindS_in (s := t) (p := p) (by omega)
    have hc := h.cnt hk.1 hk.2.1
    have hv : val s p = val t p := by unfold val; rw [hc]; exact h.beN (by omega) _ (by omega)
    have h1 := h.1
    rw [h.kind (by omega), hc, hv, if_pos ⟨c.1, by omega, c.2.2⟩]
    exact hu
  · cases hu
theorem Begins.lS {t s : ByteArray} (h : Begins t s) {p v e : Int} (hl : lS t p = some (v, e)) : lS s p = some (v, e) := by
  unfold Pure.lS at hl ⊢
  by_cases c : kindS t p = 6
  · rw [if_pos c] at hl
    rw [if_pos (by rw [h.kind (by omega)]; exact c)]
    cases hu : Pure.uS t (p + 1) with
    | none => rw [hu] at hl; cases hl
    | some ve =>
      obtain ⟨v', e'⟩ := ve
      rw [hu] at hl
      rw [h.uS hu]
      exact hl
  · rw [if_neg c] at hl; cases hl
theorem Begins.tS {t s : ByteArray} (h : Begins t s) {p : Int} {x : ByteArray} {e : Int} (hl : tS t p = some (x, e)) : ∃ y, tS s p = some (y, e) := by
  unfold Pure.tS at hl ⊢
  have h1 := h.1
  by_cases c : kindS t p = 5
  · rw [if_pos c] at hl
    rw [if_pos (by rw [h.kind (by omega)]; exact c)]
    cases hu : Pure.uS t (p + 1) with
    | none => rw [hu] at hl; cases hl
    | some ve =>
      obtain ⟨v', e'⟩ := ve
      rw [hu] at hl
      rw [h.uS hu]
      have h' : (if v' > 65535 then none else if v' > (t.size : Int) - e' then none else some (t.extract e'.toNat (e' + v').toNat, e' + v')) = some (x, e) := hl
      show ∃ y, (if v' > 65535 then none else if v' > (s.size : Int) - e' then none else some (s.extract e'.toNat (e' + v').toNat, e' + v')) = some (y, e)
      by_cases c1 : v' > 65535
      · rw [if_pos c1] at h'; cases h'
      · rw [if_neg c1] at h' ⊢
        by_cases c2 : v' > (t.size : Int) - e'
        · rw [if_pos c2] at h'; cases h'
        · rw [if_neg c2] at h'
          obtain ⟨rfl, rfl⟩ := Prod.mk.inj (Option.some.inj h')
          exact ⟨_, if_neg (by omega)⟩
  · rw [if_neg c] at hl; cases hl
def Same (t : ByteArray) (p D : Int) (f g : Nat → Option (Int × Int × Bool)) : Prop :=
  ∃ K r, (∀ k, f (k + K) = some r) ∧ (r.2.2 = true → (∀ k, g (k + K) = some r) ∧ p ≤ r.1 ∧ r.1 ≤ (t.size : Int) ∧ 0 ≤ r.2.1 ∧ r.2.1 ≤ D)
theorem ext_loop (t s : ByteArray) (hz : s.size ≤ 140737488355327) (hb : Begins t s) (D : Nat) (h1 : 1 ≤ D) (h16 : D ≤ 16)
    (IH : ∀ p : Int, 0 ≤ p → p ≤ (t.size : Int) → Same t p ((D - 1 : Nat) : Int) (fun k => codec_skip.f k t p ((D - 1 : Nat) : Int)) (fun k => codec_skip.f k s p ((D - 1 : Nat) : Int))) (n : Int) (hn : n ≤ 65535) :
    ∀ (c : Nat) (i q m : Int), i + (c : Int) = n → 0 ≤ i → 0 ≤ q → q ≤ (t.size : Int) → 0 ≤ m → m ≤ (D : Int) - 1 →
      Same t q D (fun k => codec_skip.l0 k t (D : Int) q m n i) (fun k => codec_skip.l0 k s (D : Int) q m n i) := by
  intro c
  induction c with
  | zero =>
    intro i q m hi h0 hq0 hq1 hm0 hm1
    refine ⟨1, (q, m + 1, true), fun k => ?_, fun _ => ⟨fun k => ?_, by show q ≤ q; omega, hq1, by show 0 ≤ m + 1; omega, by show m + 1 ≤ _; omega⟩⟩
    · show codec_skip.l0 (k + 1) t (D : Int) q m n i = _
      rw [codec_skip.l0, if_neg (by omega), w64 (n := m + 1) (by omega) (by omega)]
    · show codec_skip.l0 (k + 1) s (D : Int) q m n i = _
      rw [codec_skip.l0, if_neg (by omega), w64 (n := m + 1) (by omega) (by omega)]
  | succ c ih =>
    intro i q m hi h0 hq0 hq1 hm0 hm1
    have hD : wrap64 ((D : Int) - 1) = ((D - 1 : Nat) : Int) := by rw [w64 (by omega) (by omega)]; omega
    obtain ⟨K1, r, e1, e2⟩ := IH q hq0 hq1
    simp only at e1 e2
    by_cases a1 : r.2.2 = true
    · obtain ⟨e2, a3, a4, a5, a6⟩ := e2 a1
      have hmx : 0 ≤ mx m r.2.1 ∧ mx m r.2.1 ≤ (D : Int) - 1 := by unfold mx; split <;> omega
      obtain ⟨K2, u, f1, f2⟩ := ih (i + 1) r.1 (mx m r.2.1) (by omega) (by omega) (by omega) a4 hmx.1 hmx.2
      simp only at f1 f2
      refine ⟨K1 + K2 + 1, u, fun k => ?_, fun hu => ⟨fun k => ?_, ?_⟩⟩
      · show codec_skip.l0 ((k + (K1 + K2)) + 1) t (D : Int) q m n i = _
        rw [codec_skip.l0, if_pos (by omega), hD, show k + (K1 + K2) = (k + K2) + K1 by omega, e1, Option.bind_some, if_pos a1, w64 (n := i + 1) (by omega) (by omega), show (k + K2) + K1 = (k + K1) + K2 by omega, f1]
      · obtain ⟨f2, _⟩ := f2 hu
        show codec_skip.l0 ((k + (K1 + K2)) + 1) s (D : Int) q m n i = _
        rw [codec_skip.l0, if_pos (by omega), hD, show k + (K1 + K2) = (k + K2) + K1 by omega, e2, Option.bind_some, if_pos a1, w64 (n := i + 1) (by omega) (by omega), show (k + K2) + K1 = (k + K1) + K2 by omega, f2]
      · obtain ⟨_, b3, b4, b5, b6⟩ := f2 hu
        exact ⟨by omega, b4, b5, b6⟩
    · refine ⟨K1 + 1, (0, 0, false), fun k => ?_, fun h => absurd h (ft _ _)⟩
      show codec_skip.l0 ((k + K1) + 1) t (D : Int) q m n i = _
      rw [codec_skip.l0, if_pos (by omega), hD, e1, Option.bind_some, if_neg a1]
theorem ext_one (t s : ByteArray) (hz : s.size ≤ 140737488355327) (hb : Begins t s) (D : Nat) (hD : D ≤ 16)
    (IH : 1 ≤ D → ∀ p : Int, 0 ≤ p → p ≤ (t.size : Int) → Same t p ((D - 1 : Nat) : Int) (fun k => codec_skip.f k t p ((D - 1 : Nat) : Int)) (fun k => codec_skip.f k s p ((D - 1 : Nat) : Int)))
    (p : Int) (hp0 : 0 ≤ p) (hp1 : p ≤ (t.size : Int)) : Same t p D (fun k => codec_skip.f k t p (D : Int)) (fun k => codec_skip.f k s p (D : Int)) := by
  have hzt : t.size ≤ 140737488355327 := Nat.le_trans hb.1 hz
  have start : ∀ (r : Int × Int × Bool) (K : Nat),
      (∀ k, codec_skip.j0 (k + K) t p D (kindS t p) (kindS t p) (kindS t p == 1 || kindS t p == 2) = some r) →
      (r.2.2 = true → kindS s p = kindS t p ∧ (∀ k, codec_skip.j0 (k + K) s p D (kindS t p) (kindS t p) (kindS t p == 1 || kindS t p == 2) = some r) ∧ p ≤ r.1 ∧ r.1 ≤ (t.size : Int) ∧ 0 ≤ r.2.1 ∧ r.2.1 ≤ (D : Int)) →
      Same t p D (fun k => codec_skip.f k t p (D : Int)) (fun k => codec_skip.f k s p (D : Int)) := by
    intro r K h1 h2
    refine ⟨K + 4 + 1, r, fun k => ?_, fun hr => ⟨fun k => ?_, (h2 hr).2.2⟩⟩
    · show codec_skip.f ((k + K + 4) + 1) t p (D : Int) = _
      rw [codec_skip.f, show k + K + 4 = (k + K + 1) + 3 from rfl, kind_eq, Option.bind_some]
      have h := h1 (k + 4)
      rw [show k + 4 + K = k + K + 1 + 3 by omega] at h
      by_cases c : kindS t p = 1
      · rw [if_pos c, ← h, c]; rfl
      · rw [if_neg c, ← h, show (kindS t p == 1) = false from beq_eq_false_iff_ne.2 c, Bool.false_or]
    · show codec_skip.f ((k + K + 4) + 1) s p (D : Int) = _
      rw [codec_skip.f, show k + K + 4 = (k + K + 1) + 3 from rfl, kind_eq, Option.bind_some, (h2 hr).1]
      have h := (h2 hr).2.1 (k + 4)
      rw [show k + 4 + K = k + K + 1 + 3 by omega] at h
      by_cases c : kindS t p = 1
      · rw [if_pos c, ← h, c]; rfl
      · rw [if_neg c, ← h, show (kindS t p == 1) = false from beq_eq_false_iff_ne.2 c, Bool.false_or]
  by_cases c12 : kindS t p = 1 ∨ kindS t p = 2
  · have hk := kindS_in (s := t) (p := p) (by omega)
    have h1 := hb.1
    have hbq : (kindS t p == 1 || kindS t p == 2) = true := by rcases c12 with c | c <;> rw [c] <;> rfl
    refine start (p + 1, 0, true) 1 (fun k => ?_) (fun _ => ⟨hb.kind (by omega), fun k => ?_, by show p ≤ p + 1; omega, by show p + 1 ≤ _; omega, by show (0 : Int) ≤ 0; omega, by show (0 : Int) ≤ D; omega⟩)
    · rw [codec_skip.j0, hbq, if_pos rfl, w64 (n := p + 1) (by omega) (by omega)]
    · rw [codec_skip.j0, hbq, if_pos rfl, w64 (n := p + 1) (by omega) (by omega)]
  have hbf : (kindS t p == 1 || kindS t p == 2) = false := by
    rw [show (kindS t p == 1) = false from beq_eq_false_iff_ne.2 (fun h => c12 (Or.inl h)), show (kindS t p == 2) = false from beq_eq_false_iff_ne.2 (fun h => c12 (Or.inr h))]; rfl
  rw [hbf] at start
  by_cases c3 : kindS t p = 3
  · rw [c3] at start
    have hraw : ∀ (s : ByteArray), s.size ≤ 140737488355327 → ∀ k, codec_skip.j0 (k + 20) s p D 3 3 false = some ((rawS s p 3).2.1, 0, (rawS s p 3).2.2) := fun s hz k => by
      show codec_skip.j0 ((k + 18 + 1) + 1) s p D 3 3 false = _
      rw [codec_skip.j0, if_neg (by decide), if_pos rfl, codec_skip.j1, if_pos (show ((3 : Int) == 3) = true from rfl), show k + 18 = (k + 6) + 12 from rfl, raw_eq _ _ _ _ (Or.inl rfl) hz, Option.bind_some]
    cases hu : uS t p with
    | none =>
      refine start ((rawS t p 3).2.1, 0, (rawS t p 3).2.2) 20 (hraw t hzt) (fun h => ?_)
      rw [show (rawS t p 3).2.2 = false from (rawS3 t p).2 hu] at h
      exact absurd (show false = true from h) Bool.false_ne_true
    | some ve =>
      obtain ⟨v, e⟩ := ve
      have hbd := uS_some hu
      have r1 := hraw t hzt
      have r2 := hraw s hz
      rw [(rawS3 t p).1 v e hu] at r1
      rw [(rawS3 s p).1 v e (hb.uS hu)] at r2
      exact start (e, 0, true) 20 r1 (fun _ => ⟨(hb.kind (by omega)).trans c3, r2, by show p ≤ e; omega, by show e ≤ _; omega, by show (0 : Int) ≤ 0; omega, by show (0 : Int) ≤ D; omega⟩)
  by_cases c4 : kindS t p = 4
  · rw [c4] at start
    have hraw : ∀ (s : ByteArray), s.size ≤ 140737488355327 → ∀ k, codec_skip.j0 (k + 21) s p D 4 4 false = some ((rawS s p 4).2.1, 0, (rawS s p 4).2.2) := fun s hz k => by
      show codec_skip.j0 ((k + 19 + 1) + 1) s p D 4 4 false = _
      rw [codec_skip.j0, if_neg (by decide), if_neg (by decide), codec_skip.j1, if_pos (show ((4 : Int) == 4) = true from rfl), show k + 19 = (k + 7) + 12 from rfl, raw_eq _ _ _ _ (Or.inr rfl) hz, Option.bind_some]
    cases hu : sS t p with
    | none =>
      refine start ((rawS t p 4).2.1, 0, (rawS t p 4).2.2) 21 (hraw t hzt) (fun h => ?_)
      rw [show (rawS t p 4).2.2 = false from (rawS4 t p).2 hu] at h
      exact absurd (show false = true from h) Bool.false_ne_true
    | some ve =>
      obtain ⟨v, e⟩ := ve
      have hbd := sS_some hu
      have r1 := hraw t hzt
      have r2 := hraw s hz
      rw [(rawS4 t p).1 v e hu] at r1
      rw [(rawS4 s p).1 v e (hb.sS hu)] at r2
      exact start (e, 0, true) 21 r1 (fun _ => ⟨(hb.kind (by omega)).trans c4, r2, by show p ≤ e; omega, by show e ≤ _; omega, by show (0 : Int) ≤ 0; omega, by show (0 : Int) ≤ D; omega⟩)
  by_cases c5 : kindS t p = 5
  · rw [c5] at start
    have hraw : ∀ (s : ByteArray), s.size ≤ 140737488355327 → ∀ k, codec_skip.j0 (k + 20) s p D 5 5 false = some ((optT (tS s p)).2.1, 0, (optT (tS s p)).2.2) := fun s hz k => by
      show codec_skip.j0 ((k + 18 + 1) + 1) s p D 5 5 false = _
      rw [codec_skip.j0, if_neg (by decide), if_neg (by decide), codec_skip.j1, if_neg (by decide), if_pos rfl, show k + 18 = (k + 6) + 12 from rfl, text_eq _ _ _ hz, Option.bind_some]
    have r1 := hraw t hzt
    have r2 := hraw s hz
    cases hu : tS t p with
    | none =>
      rw [hu, optT_none] at r1
      exact start (0, 0, false) 20 r1 (fun h => absurd h (ft _ _))
    | some ve =>
      obtain ⟨v, e⟩ := ve
      have hbd := tS_some hu
      obtain ⟨y, hy⟩ := hb.tS hu
      rw [hu, optT_some] at r1
      rw [hy, optT_some] at r2
      exact start (e, 0, true) 20 r1 (fun _ => ⟨(hb.kind (by omega)).trans c5, r2, by show p ≤ e; omega, by show e ≤ _; omega, by show (0 : Int) ≤ 0; omega, by show (0 : Int) ≤ D; omega⟩)
  by_cases c6 : kindS t p = 6
  · rw [c6] at start
    have hraw : ∀ (s : ByteArray), s.size ≤ 140737488355327 → ∀ k, codec_skip.j0 (k + 20) s p D 6 6 false = (if (opt3 (lS s p)).2.2 = true then codec_skip.j2 (k + 18) s D (opt3 (lS s p)).1 (opt3 (lS s p)).2.1 ((D : Int) == 0) else codec_skip.j2 (k + 18) s D (opt3 (lS s p)).1 (opt3 (lS s p)).2.1 true) := fun s hz k => by
      show codec_skip.j0 ((k + 18 + 1) + 1) s p D 6 6 false = _
      rw [codec_skip.j0, if_neg (by decide), if_neg (by decide), codec_skip.j1, if_neg (by decide), if_neg (by decide), if_pos rfl, show k + 18 = (k + 6) + 12 from rfl, list_eq _ _ _ hz, Option.bind_some]
    cases hu : lS t p with
    | none =>
      refine start (0, 0, false) 20 (fun k => ?_) (fun h => absurd h (ft _ _))
      rw [hraw t hzt, hu, opt3_none, if_neg (ft _ _), show k + 18 = (k + 17) + 1 from rfl, codec_skip.j2, if_pos rfl]
    | some ve =>
      obtain ⟨v, e⟩ := ve
      have hbd := lS_some hu
      by_cases d0 : D = 0
      · refine start (0, 0, false) 20 (fun k => ?_) (fun h => absurd h (ft _ _))
        rw [hraw t hzt, hu, opt3_some, if_pos (tt _ _), show k + 18 = (k + 17) + 1 from rfl, codec_skip.j2, if_pos (by rw [d0]; rfl)]
      · have hD0 : ¬ (((D : Int) == 0) = true) := by simp only [beq_iff_eq]; omega
        obtain ⟨K, u, f1, f2⟩ := ext_loop t s hz hb D (by omega) hD (IH (by omega)) v (by omega) v.toNat 0 e 0 (by omega) (by omega) (by omega) (by omega) (by omega) (by omega)
        simp only at f1 f2
        refine start u (K + 20) (fun k => ?_) (fun hr => ⟨(hb.kind (by omega)).trans c6, fun k => ?_, ?_⟩)
        · rw [← Nat.add_assoc, hraw t hzt, hu, opt3_some, if_pos (tt _ _), show k + K + 18 = (k + 17 + K) + 1 by omega, codec_skip.j2, if_neg hD0, f1]
        · rw [← Nat.add_assoc, hraw s hz, hb.lS hu, opt3_some, if_pos (tt _ _), show k + K + 18 = (k + 17 + K) + 1 by omega, codec_skip.j2, if_neg hD0, (f2 hr).1]
        · obtain ⟨_, b3, b4, b5, b6⟩ := f2 hr
          exact ⟨by omega, b4, b5, b6⟩
  · refine start (0, 0, false) 5 (fun k => ?_) (fun h => absurd h (ft _ _))
    show codec_skip.j0 ((k + 3 + 1) + 1) t p D (kindS t p) (kindS t p) false = _
    rw [codec_skip.j0, if_neg (by decide), if_neg c3, codec_skip.j1, if_neg (by rw [beq_eq_false_iff_ne.2 c4]; decide), if_neg c5, if_neg c6]
theorem ext_eq (t s : ByteArray) (hz : s.size ≤ 140737488355327) (hb : Begins t s) : ∀ (D : Nat), D ≤ 16 → ∀ p : Int, 0 ≤ p → p ≤ (t.size : Int) →
    Same t p D (fun k => codec_skip.f k t p (D : Int)) (fun k => codec_skip.f k s p (D : Int)) := by
  intro D
  induction D with
  | zero =>
    intro hD p hp0 hp1
    exact ext_one t s hz hb 0 hD (fun h => absurd h (by decide)) p hp0 hp1
  | succ D ih =>
    intro hD p hp0 hp1
    exact ext_one t s hz hb (D + 1) hD (fun _ => ih (by omega)) p hp0 hp1
end Go.Proofs.YtndeikikeeeigaaDoor.Pure
end
section
namespace Go.Proofs.YtndeikikeeeigaaDoor.Pure
open Go.RowKit Go.Proofs.YtndeikikeeeigaaDoor.Q Go.Proofs.YtndeikikeeeigaaDoorW.PrintWords Go.Proofs.YtndeikikeeeigaaDoorW.PrintLast Go.Proofs.YtndeikikeeeigaaDoorW.PrintMore
theorem awake_60 : plenumlaw02_awake.f 60 = some true := by decide +kernel
theorem awake_eq (k : Nat) : plenumlaw02_awake.f (k + 60) = some true := by
  induction k with
  | zero => exact awake_60
  | succ k ih =>
    have := plenumlaw02_awake.mono (k + 60)
    rw [show k + 1 + 60 = k + 60 + 1 by omega]
    exact this _ ih
end Go.Proofs.YtndeikikeeeigaaDoor.Pure
end
section
namespace Go.Proofs.YtndeikikeeeigaaDoor.Pure
open Go.RowKit Go.Proofs.YtndeikikeeeigaaDoor.Q Go.Proofs.YtndeikikeeeigaaDoorW.PrintWords Go.Proofs.YtndeikikeeeigaaDoorW.PrintLast Go.Proofs.YtndeikikeeeigaaDoorW.PrintMore
set_option linter.unusedVariables false
theorem begins_ext (s : ByteArray) (m : Nat) (h : m ≤ s.size) : Begins (s.extract 0 m) s := by
  have hs := ext_size s 0 m (Nat.zero_le _) h
  refine ⟨by omega, fun p h0 h1 => ?_⟩
  rw [bt_ext s 0 m p (Nat.zero_le _) h h0 (by omega)]
  congr 1
  omega
theorem begins_app (s e : ByteArray) : Begins s (s ++ e) := by
  refine ⟨by rw [ByteArray.size_append]; omega, fun p h0 h1 => ?_⟩
  unfold bt
  rw [dif_pos (by omega), dif_pos (by rw [ByteArray.size_append]; omega), ByteArray.getElem_append_left]
theorem depth_of {s : ByteArray} {k : Nat} {r : Int × Int × Bool} (h : codec_skip.f k s 0 16 = some r) :
    codec_Depth.f k s = some (if r.2.2 = true ∧ r.1 = (s.size : Int) then r.2.1 else -1) := by
  unfold codec_Depth.f
  rw [h, Option.bind_some]
  by_cases c1 : r.2.2 = true
  · by_cases c2 : r.1 = (s.size : Int)
    · rw [if_pos c1, if_pos c2, if_pos ⟨c1, c2⟩]
    · rw [if_pos c1, if_neg c2, if_neg (fun h => c2 h.2)]
  · rw [if_neg c1, if_neg (fun h => c1 h.1)]
theorem valid_of {s : ByteArray} {k : Nat} {d : Int} (h : codec_Depth.f k s = some d) : codec_Valid.f k s = some (decide (d ≥ 0)) := by
  unfold codec_Valid.f
  rw [h, Option.bind_some]
theorem CodecPrefix : plenumlaw02_CodecPrefix.Pure := by
  intro a0 a1 hz hw
  have hj : ∀ k, plenumlaw02_CodecPrefix.j0 (k + 1) a0 a1 true = some true := fun k => by rw [plenumlaw02_CodecPrefix.j0, if_pos rfl]
  by_cases c300 : (a0.size : Int) > 300
  · refine ⟨60, ?_⟩
    unfold plenumlaw02_CodecPrefix.f
    rw [show (60 : Nat) = 0 + 60 from rfl, awake_eq, Option.bind_some, if_pos rfl, if_pos c300]
    exact hj _
  have hz' : a0.size ≤ 140737488355327 := by omega
  have e16 : ((16 : Nat) : Int) = 16 := rfl
  obtain ⟨K0, r0, r0', e0, e0', h0⟩ := skip_eq a0 hz' 16 (by omega) 0 (by omega) (by omega)
  simp only [e16] at e0 e0'
  have hd0 : ∀ k, codec_Depth.f (k + K0) a0 = some (if r0.2.2 = true ∧ r0.1 = (a0.size : Int) then r0.2.1 else -1) := fun k => depth_of (e0 k)
  by_cases cv : r0.2.2 = true ∧ r0.1 = (a0.size : Int)
  · rw [if_pos cv] at hd0
    have b5 : 0 ≤ r0.2.1 := by
      rcases h0 with h | h
      · exact h.2.2.2.2.1
      · exact absurd (h.1.symm.trans cv.1) Bool.false_ne_true
    have hv0 : ∀ k, codec_Valid.f (k + K0) a0 = some true := fun k => by rw [valid_of (hd0 k), decide_eq_true b5]
    have hpos : 0 < a0.size := by
      rcases Nat.eq_zero_or_pos a0.size with h | h
      · exfalso
        have hk : kindS a0 0 = 0 := by unfold kindS; exact if_pos (by omega)
        have e1 := e0 8
        have e2 : codec_skip.f (8 + K0) a0 0 16 = some (0, 0, false) := by
          rw [show 8 + K0 = (K0 + 4 + 3) + 1 by omega, codec_skip.f, kind_eq, Option.bind_some, hk, if_neg (by decide), show K0 + 4 + 3 = (K0 + 5 + 1) + 1 from rfl, codec_skip.j0, if_neg (by decide), if_neg (by decide), codec_skip.j1, if_neg (by decide), if_neg (by decide), if_neg (by decide)]
        rw [e2] at e1
        obtain rfl := Option.some.inj e1
        exact absurd cv.1 (by decide)
      · exact h
    obtain ⟨m, hm⟩ : ∃ m, m = wrap64 (Int.tmod (IntKind.u64.wrap a1) (a0.size : Int)) := ⟨_, rfl⟩
    have hu : 0 ≤ IntKind.u64.wrap a1 := by rw [u64w]; omega
    have hmr : 0 ≤ m ∧ m < (a0.size : Int) := by
      rw [Int.tmod_eq_emod_of_nonneg hu] at hm
      have h1 := Int.emod_nonneg (IntKind.u64.wrap a1) (b := (a0.size : Int)) (by omega)
      have h2 := Int.emod_lt_of_pos (IntKind.u64.wrap a1) (b := (a0.size : Int)) (by omega)
      rw [w64 (by omega) (by omega)] at hm
      omega
    have hts := ext_size a0 0 m.toNat (Nat.zero_le _) (by omega)
    obtain ⟨K1, r1, e1, f1⟩ := ext_eq (a0.extract 0 m.toNat) a0 hz' (begins_ext a0 m.toNat (by omega)) 16 (by omega) 0 (by omega) (by omega)
    simp only [e16] at e1 f1
    have hr1 : ¬ r1.2.2 = true := by
      intro h
      obtain ⟨g1, g2, g3, g4, g5⟩ := f1 h
      have a := g1 K0
      have b := e0 K1
      rw [show K0 + K1 = K1 + K0 by omega, b] at a
      obtain rfl := Option.some.inj a
      omega
    have hv1 : ∀ k, codec_Valid.f (k + K1) (a0.extract 0 m.toNat) = some false := fun k => by
      rw [valid_of (depth_of (e1 k)), if_neg (fun h => hr1 h.1)]; rfl
    obtain ⟨K2, r2, e2, f2⟩ := ext_eq a0 (a0 ++ a0.extract 0 1) (by rw [ByteArray.size_append, ext_size a0 0 1 (by omega) (by omega)]; omega) (begins_app a0 _) 16 (by omega) 0 (by omega) (by omega)
    simp only [e16] at e2 f2
    have hr2 : r2 = r0 := by
      have a := e2 K0
      have b := e0 K2
      rw [show K0 + K2 = K2 + K0 by omega, b] at a
      exact (Option.some.inj a).symm
    subst hr2
    obtain ⟨g1, _⟩ := f2 cv.1
    have hv2 : ∀ k, codec_Valid.f (k + K2) (a0 ++ a0.extract 0 1) = some false := fun k => by
      rw [valid_of (depth_of (g1 k)), if_neg (fun h => by
        have := h.2
        rw [ByteArray.size_append, ext_size a0 0 1 (by omega) (by omega)] at this
        omega)]; rfl
    refine ⟨K0 + K1 + K2 + 60 + 1, ?_⟩
    unfold plenumlaw02_CodecPrefix.f
    rw [show K0 + K1 + K2 + 60 + 1 = (K0 + K1 + K2 + 1) + 60 by omega, awake_eq, Option.bind_some, if_pos rfl, if_neg c300, show K0 + K1 + K2 + 1 + 60 = (K1 + K2 + 61) + K0 by omega, hv0, Option.bind_some,
      show K1 + K2 + 61 + K0 = (K0 + K1 + K2 + 60) + 1 by omega]
    rw [plenumlaw02_CodecPrefix.j0, if_neg (by decide), if_neg (by omega), ← hm, if_pos hmr.1, if_pos (by omega), show K0 + K1 + K2 + 60 = (K0 + K2 + 60) + K1 by omega, hv1, Option.bind_some, if_neg (by decide), if_pos (by omega),
      if_pos (by rw [ext_size a0 0 1 (by omega) (by omega)]; omega), show K0 + K2 + 60 + K1 = (K0 + K1 + 60) + K2 by omega, hv2, Option.bind_some, if_neg (by decide), show K0 + K1 + 60 + K2 = (K1 + 60 + K2) + K0 by omega, hd0, Option.bind_some, decide_eq_true b5]
  · rw [if_neg cv] at hd0
    refine ⟨K0 + 60 + 1, ?_⟩
    unfold plenumlaw02_CodecPrefix.f
    rw [show K0 + 60 + 1 = (K0 + 1) + 60 by omega, awake_eq, Option.bind_some, if_pos rfl, if_neg c300, show K0 + 1 + 60 = 61 + K0 by omega, valid_of (hd0 61), Option.bind_some, show 61 + K0 = (60 + K0) + 1 by omega]
    exact hj _
end Go.Proofs.YtndeikikeeeigaaDoor.Pure
end
section
namespace Go.Proofs.YtndeikikeeeigaaDoor.codecPrefix
open Go.ChangeShapes Go.WideShapes Go.ChangeAt Go.RowKit
open Go.ChangeMaps (open_string shut_string)
open Go.Proofs.YtndeikikeeeigaaDoor.Opn Go.Proofs.YtndeikikeeeigaaDoorW.PrintWords Go.Proofs.YtndeikikeeeigaaDoor.Q
set_option linter.unusedVariables false
theorem own : ownKnob Tryd.prog.godebug = none := by kernel_rfl
set_option maxHeartbeats 2000000 in
set_option maxRecDepth 100000 in
theorem lifted (os : Os) (started : os.Started) (H : Type) (enc : TypeId × Value → H) :
    ReturnsInHanded {} Tryd.checked os 3 .any (fun w args => (Rows.codecPrefixSpec.pre enc Tryd.prog Tryd.f3 Rows.codecPrefixRow.domain false w args ∧ laidMet Tryd.prog theLaid w) ∧ sizedMet enc Tryd.prog Tryd.f3 (OpenSpec.ofChange Rows.codecPrefixSpec) false w args) (Rows.codecPrefixSpec.post enc Tryd.prog Tryd.f3 false true false false) := by
  refine returnsInHanded_of_change_and (C := Tryd.checked) (X := fun w _ => laidMet Tryd.prog theLaid w) (fun _ _ _ hh h => h.of_heap hh) own started (by kernel_rfl) Tryd.func3
    (ChangeSpec.witness_at (enc := enc) (C := Tryd.checked) (os := os) (X := fun w _ => laidMet Tryd.prog theLaid w) false (laidWorld os) #[.string ByteArray.empty, .int .i64 0] 8 rfl (by kernel_rfl) (by kernel_rfl) (by kernel_rfl) (by kernel_rfl) (by kernel_rfl) (laidWorld_met os _)) ?_
  intro W base args ds gs before hval0 hW hcnd hsz0 hL0 _
  have hGl := glob_of_laid hL0
  have hsz : (DataW.weightsEach Tryd.prog (Tryd.f3.params.toList ++ Rows.codecPrefixSpec.plain.varTypes Tryd.prog) (ds ++ gs)).all (· ≤ reachBytes) = true := hsz0
  have hval : ∀ (j : Nat) t v, Tryd.f3.params[j]? = some t → args[j]? = some v → Value.okWide Tryd.prog W .any base t v := hval0
  have hW' := hW
  obtain ⟨p, q, hA0, hV, rfl, hfz, hnd⟩ := hW
  have hA : DataW.TrodAll enc Tryd.prog W 0 (fun _ => true) true Tryd.f3.params.toList args.toList ds p := hA0
  rw [Tryd.params3] at hA hval hsz
  obtain ⟨v0, vs0, d0, ds0, p0, q0, hargs, rfl, rfl, h0, r0⟩ := trodAll_cons hA
  obtain ⟨v1, vs1, d1, ds1, p1, q1, rfl, rfl, rfl, h1, r1⟩ := trodAll_cons r0
  obtain ⟨rfl, rfl, rfl⟩ := trodAll_nil r1
  obtain rfl : args = #[v0, v1] := by cases args; simp_all
  obtain ⟨rfl, rfl⟩ := trodVars_none hV
  obtain ⟨a0, rfl, rfl, rfl, y0⟩ := open_string Tryd.underlying9 (hval 0 9 v0 rfl rfl) h0
  have hV0 : a0.size ≤ 140737488351232 := by
    have z := sized_string hsz (j := 0) (t := 9) rfl rfl
    rw [Array.length_toList] at z
    exact z
  obtain ⟨a1, rfl, rfl, rfl, w1⟩ := open_int Tryd.underlying3 (hval 1 3 v1 rfl rfl) h1
  clear hA0 hval0 hsz0 hsz
  obtain ⟨k, h⟩ := Pure.CodecPrefix a0 a1 hV0 w1
  refine (Q.plenumlaw02_CodecPrefix.calls k a0 a1 true W hGl  h).mono fun e W' ⟨he, bel0⟩ => ?_
  have bel : Below W.heap.size W W' := bel0
  subst he
  exact ⟨_, rfl, _, _, _, [], _, [], hW', trodAll_mk1 (shut_bool Tryd.underlying4 _), (trodAll_cons_mk (shut_string Tryd.underlying9 y0) (trodAll_cons_mk (shut_int Tryd.underlying3 w1) trodAll_mk0)), rfl, bel.frame _, fun h => by cases h⟩
theorem over : Rows.codecPrefixRow.holds Tryd.pinned (OpenSpec.ofChange Rows.codecPrefixSpec) :=
  OpenClaim.holds_of_wide 3 Tryd.f3 rfl rfl rfl rfl rfl rfl rfl ⟨rfl, rfl, rfl, rfl, rfl⟩ rfl rfl rfl rfl rfl (by kernel_rfl) Tryd.func3 (by kernel_rfl)
    (of_decide_eq_true (by kernel_rfl)) (by unfold Func.isWrapper; first | (rw [if_pos (by decide +kernel)]; kernel_rfl) | (rw [if_neg (by decide +kernel)]; exact ⟨rfl, rfl⟩))
    (fun os started H enc _ => lifted os started H enc)
theorem card_holds : Rows.CodecPrefixCardSaid :=
  Claim7.holds_tied_plain_at .later [] [.data] true (true, "df68463a3ead1255f1618a87c8c1347ab87336f1cb44d5b5530c4be1e9654a40") false
    over (fun _ h => by cases h) (by kernel_rfl) (fun _ h => by cases h) codecPrefix_row_tie rfl ⟨rfl, rfl⟩ (by kernel_rfl) rfl
    (fun f fn hf hfn => by
      obtain rfl : f = 3 := Option.some.inj ((show Tryd.prog.funcNamed "plenum/plenumlaw02.CodecPrefix" = some 3 by kernel_rfl).symm.trans hf) |>.symm
      obtain rfl : fn = Tryd.f3 := (Option.some.inj (Tryd.func3.symm.trans hfn)).symm
      exact ⟨by kernel_rfl, fun j t ht => by
        rw [Tryd.params3] at ht
        have ho : t = 3 ∨ t = 9 := by
          rcases j with _ | _ | j
          all_goals simp at ht
          all_goals subst ht; simp
        obtain rfl | rfl := ho
        · exact (show Tryd.prog.wantsStandIn 3 = false by kernel_rfl)
        · exact (show Tryd.prog.wantsStandIn 9 = false by kernel_rfl)⟩)
    (by kernel_rfl)
#print axioms card_holds
end Go.Proofs.YtndeikikeeeigaaDoor.codecPrefix
namespace Go.Proofs.YtndeikikeeeigaaDoor
theorem codecPrefix_holds : Rows.CodecPrefixCardSaid := codecPrefix.card_holds
end Go.Proofs.YtndeikikeeeigaaDoor
end
