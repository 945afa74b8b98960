/- CodecDigestCard: one part of the proof that the law answers true for every input, and that its arguments read afterwards as before. No condition. -/
import Derived.Test.YtndeikikeeeigaaDoorCDigest1
import Derived.SevenTiedAt
import Derived.WalkKit
import Derived.ProofKit
import Derived.OpenShut
import Derived.ShutString
import Derived.ChangeOld
import Derived.Below
import Derived.SizedLaws
import Derived.Test.YtndeikikeeeigaaDoorCards
import Derived.Test.YtndeikikeeeigaaDoorRows
import Derived.Test.YtndeikikeeeigaaDoorTie
section
namespace Go.Proofs.YtndeikikeeeigaaDoor.Pure
open Go.RowKit Go.Proofs.YtndeikikeeeigaaDoor.Q Go.Proofs.YtndeikikeeeigaaDoorW.PrintWords Go.Proofs.YtndeikikeeeigaaDoorW.PrintLast Go.Proofs.YtndeikikeeeigaaDoorW.PrintMore
set_option linter.unusedVariables false
def hexTab : ByteArray := ⟨#[48, 49, 50, 51, 52, 53, 54, 55, 56, 57, 97, 98, 99, 100, 101, 102]⟩
def hexN (x : Int) : Int := bt hexTab x
theorem hexN_inj (x y : Int) (hx : 0 ≤ x ∧ x < 16) (hy : 0 ≤ y ∧ y < 16) (h : hexN x = hexN y) : x = y := by
  have : ∀ m n : Fin 16, hexN (m.val : Int) = hexN (n.val : Int) → m = n := by decide +kernel
  have e := this ⟨x.toNat, by omega⟩ ⟨y.toNat, by omega⟩ (by
    show hexN ((x.toNat : Nat) : Int) = hexN ((y.toNat : Nat) : Int)
    rw [show ((x.toNat : Nat) : Int) = x by omega, show ((y.toNat : Nat) : Int) = y by omega]
    exact h)
  have := Fin.mk.inj e
  omega
theorem and15_u64 (x : Int) (h0 : 0 ≤ x) (h1 : x < 18446744073709551616) : Go.bits .and .u64 x 15 = x % 16 := by
  obtain ⟨n, rfl⟩ := Int.eq_ofNat_of_zero_le h0
  show IntKind.u64.wrap (((BitVec.ofInt 64 (n : Int)) &&& (BitVec.ofInt 64 15)).toNat : Int) = _
  rw [BitVec.toNat_and, BitVec.toNat_ofInt, BitVec.toNat_ofInt]
  have e1 : ((n : Int) % ((2 ^ 64 : Nat) : Int)).toNat = n := by omega
  have e2 : ((15 : Int) % ((2 ^ 64 : Nat) : Int)).toNat = 2 ^ 4 - 1 := by decide
  rw [e1, e2, Nat.and_two_pow_sub_one_eq_mod, u64w]
  omega
def dg (h : Int) : Nat → List Int
  | 0 => []
  | i + 1 => hexN (h / 16 ^ i % 16) :: dg h i
theorem dg_length (h : Int) (n : Nat) : (dg h n).length = n := by
  induction n with
  | zero => rfl
  | succ n ih => simp [dg, ih]
theorem hexAt_eq (h : Int) (h0 : 0 ≤ h) (h1 : h < 18446744073709551616) (i j : Nat) (hij : 60 - 4 * i = 4 * j) : hexAt h i = hexN (h / 16 ^ j % 16) := by
  unfold hexAt
  rw [hij]
  have e : (2 : Int) ^ (4 * j) = 16 ^ j := by rw [Int.pow_mul]; rfl
  have hp : (0 : Int) < 16 ^ j := Int.pow_pos (by decide)
  have hq : 0 ≤ h / 16 ^ j := Int.ediv_nonneg h0 (Int.le_of_lt hp)
  have hr : h / 16 ^ j ≤ h := Int.ediv_le_self _ h0
  rw [e, and15_u64 _ hq (by omega)]
  rfl
theorem digits_dg (h : Int) (h0 : 0 ≤ h) (h1 : h < 18446744073709551616) : digits h = dg h 16 := by
  unfold digits
  rw [show List.range 16 = [0, 1, 2, 3, 4, 5, 6, 7, 8, 9, 10, 11, 12, 13, 14, 15] from rfl]
  simp only [List.map_cons, List.map_nil, dg]
  rw [hexAt_eq h h0 h1 0 15 rfl, hexAt_eq h h0 h1 1 14 rfl, hexAt_eq h h0 h1 2 13 rfl, hexAt_eq h h0 h1 3 12 rfl, hexAt_eq h h0 h1 4 11 rfl, hexAt_eq h h0 h1 5 10 rfl, hexAt_eq h h0 h1 6 9 rfl, hexAt_eq h h0 h1 7 8 rfl,
    hexAt_eq h h0 h1 8 7 rfl, hexAt_eq h h0 h1 9 6 rfl, hexAt_eq h h0 h1 10 5 rfl, hexAt_eq h h0 h1 11 4 rfl, hexAt_eq h h0 h1 12 3 rfl, hexAt_eq h h0 h1 13 2 rfl, hexAt_eq h h0 h1 14 1 rfl, hexAt_eq h h0 h1 15 0 rfl]
theorem dg_inj (h h' : Int) (n : Nat) (e : dg h n = dg h' n) : h % 16 ^ n = h' % 16 ^ n := by
  induction n with
  | zero => simp [Int.emod_one]
  | succ n ih =>
    simp only [dg, List.cons.injEq] at e
    have e1 := ih e.2
    have e2 := hexN_inj _ _ (by omega) (by omega) e.1
    have hp : (0 : Int) < 16 ^ n := Int.pow_pos (by decide)
    have key : ∀ x : Int, x % (16 ^ n * 16) = x % 16 ^ n + 16 ^ n * (x / 16 ^ n % 16) := fun x => by
      have h1 := Int.emod_def x (16 ^ n * 16)
      have h2 := Int.emod_def x (16 ^ n)
      have h3 := Int.emod_def (x / 16 ^ n) 16
      have h4 : x / (16 ^ n * 16) = x / 16 ^ n / 16 := (Int.ediv_ediv_of_nonneg (Int.le_of_lt hp)).symm
      rw [h4] at h1
      rw [h1, h2, h3, Int.mul_sub, ← Int.mul_assoc]
      omega
    rw [Int.pow_succ, key, key, e1, e2]
theorem dg_byte (h : Int) (n : Nat) : ∀ x ∈ dg h n, 0 ≤ x ∧ x ≤ 255 := by
  induction n with
  | zero => intro x hx; cases hx
  | succ n ih =>
    intro x hx
    rcases List.mem_cons.1 hx with rfl | hx
    · exact bt_range _ _
    · exact ih x hx
theorem strOfNums_inj : ∀ (l l' : List Int), (∀ x ∈ l, 0 ≤ x ∧ x ≤ 255) → (∀ x ∈ l', 0 ≤ x ∧ x ≤ 255) → strOfNums l = strOfNums l' → l = l' := by
  intro l l' h h' e
  have e1 : (l.map fun n => UInt8.ofNat n.toNat) = (l'.map fun n => UInt8.ofNat n.toNat) := by
    have := congrArg (fun b : ByteArray => b.data.toList) e
    simpa [strOfNums] using this
  clear e
  induction l generalizing l' with
  | nil => cases l' with
    | nil => rfl
    | cons y r => simp at e1
  | cons x l ih => cases l' with
    | nil => simp at e1
    | cons y r =>
      simp only [List.map_cons, List.cons.injEq] at e1
      have hx := h x (by simp)
      have hy := h' y (by simp)
      have : (UInt8.ofNat x.toNat).toNat = (UInt8.ofNat y.toNat).toNat := by rw [e1.1]
      rw [UInt8.toNat_ofNat', UInt8.toNat_ofNat'] at this
      rw [ih r (fun z hz => h z (by simp [hz])) (fun z hz => h' z (by simp [hz])) e1.2]
      congr 1
      omega
theorem dig_range (s : ByteArray) (n : Nat) : 0 ≤ dig s n ∧ dig s n < 18446744073709551616 := by
  cases n with
  | zero =>
    show 0 ≤ (14695981039346656037 : Int) ∧ (14695981039346656037 : Int) < 18446744073709551616
    decide
  | succ n =>
    show 0 ≤ (_ % 18446744073709551616 : Int) ∧ (_ % 18446744073709551616 : Int) < 18446744073709551616
    omega
theorem xor_inj_u64 {a b a' b' : Int} (e : Go.bits .xor .u64 a b = Go.bits .xor .u64 a' b') : BitVec.ofInt 64 a ^^^ BitVec.ofInt 64 b = BitVec.ofInt 64 a' ^^^ BitVec.ofInt 64 b' := by
  have e' : (((BitVec.ofInt 64 a) ^^^ (BitVec.ofInt 64 b)).toNat : Int) % 18446744073709551616 = (((BitVec.ofInt 64 a') ^^^ (BitVec.ofInt 64 b')).toNat : Int) % 18446744073709551616 := e
  apply BitVec.eq_of_toNat_eq
  have h1 := ((BitVec.ofInt 64 a) ^^^ (BitVec.ofInt 64 b)).isLt
  have h2 := ((BitVec.ofInt 64 a') ^^^ (BitVec.ofInt 64 b')).isLt
  omega
theorem ofInt_inj {a b : Int} (ha : 0 ≤ a ∧ a < 18446744073709551616) (hb : 0 ≤ b ∧ b < 18446744073709551616) (e : BitVec.ofInt 64 a = BitVec.ofInt 64 b) : a = b := by
  have := congrArg BitVec.toNat e
  rw [BitVec.toNat_ofInt, BitVec.toNat_ofInt] at this
  omega
theorem xor_cancel_left {n : Nat} {x y z : BitVec n} (h : x ^^^ y = x ^^^ z) : y = z := by
  have := congrArg (x ^^^ ·) h
  simpa [← BitVec.xor_assoc] using this
theorem xor_cancel_right {n : Nat} {x y z : BitVec n} (h : y ^^^ x = z ^^^ x) : y = z := by
  rw [BitVec.xor_comm y, BitVec.xor_comm z] at h
  exact xor_cancel_left h
theorem mul_back (x r : Int) (hr : x * 1099511628211 % 18446744073709551616 = r) : ∃ z, r * 14886173955864302971 = x + 18446744073709551616 * z := by
  refine ⟨x * 887285111055 - x * 1099511628211 / 18446744073709551616 * 14886173955864302971, ?_⟩
  have h := Int.emod_add_mul_ediv (x * 1099511628211) 18446744073709551616
  rw [hr] at h
  generalize x * 1099511628211 / 18446744073709551616 = d at *
  omega
theorem mul_inj (x y : Int) (hx : 0 ≤ x ∧ x < 18446744073709551616) (hy : 0 ≤ y ∧ y < 18446744073709551616) (e : x * 1099511628211 % 18446744073709551616 = y * 1099511628211 % 18446744073709551616) : x = y := by
  obtain ⟨z, h1⟩ := mul_back x _ e
  obtain ⟨z', h2⟩ := mul_back y _ rfl
  have h3 := h1.symm.trans h2
  clear h1 h2 e
  omega
theorem bits_range (a b : Int) : 0 ≤ Go.bits .xor .u64 a b ∧ Go.bits .xor .u64 a b < 18446744073709551616 := by
  show 0 ≤ (_ % 18446744073709551616 : Int) ∧ (_ % 18446744073709551616 : Int) < 18446744073709551616
  omega
theorem dig1_xor {h b h' b' : Int} (e : dig1 h b = dig1 h' b') : Go.bits .xor .u64 h (IntKind.u64.wrap b) = Go.bits .xor .u64 h' (IntKind.u64.wrap b') :=
  mul_inj _ _ (bits_range _ _) (bits_range _ _) e
theorem strOfNums_app (a b : List Int) : strOfNums (a ++ b) = strOfNums a ++ strOfNums b := by
  apply ByteArray.ext
  rw [ByteArray.data_append]
  simp [strOfNums]
theorem ref_l1 (h : Int) (h0 : 0 ≤ h) (h1 : h < 18446744073709551616) : ∀ (d i : Nat), i + d = 16 → ∀ k, plenumref02_Digest.l1 (k + d + 1) (h / 16 ^ i) (strOfNums (dg h i)) (i : Int) = some (strOfNums (dg h 16)) := by
  intro d
  induction d with
  | zero =>
    intro i hi k
    obtain rfl : i = 16 := by omega
    rw [show k + 0 + 1 = k + 1 by omega, plenumref02_Digest.l1, if_neg (by omega)]
  | succ d ih =>
    intro i hi k
    have hp : (0 : Int) < 16 ^ i := Int.pow_pos (by decide)
    have hq : 0 ≤ h / 16 ^ i := Int.ediv_nonneg h0 (Int.le_of_lt hp)
    have hr : h / 16 ^ i ≤ h := Int.ediv_le_self _ h0
    have hs : (strOfNums (dg h i)).size = i := by rw [strOfNums_size, dg_length]
    rw [show k + (d + 1) + 1 = (k + d + 1) + 1 by omega, plenumref02_Digest.l1, if_pos (by omega), Int.tmod_eq_emod_of_nonneg hq, if_pos (by omega), if_pos (by omega)]
    rw [Option.bind_some, if_pos (by rw [strOfNums_size, hs]; simp; omega), ← strOfNums_app, Int.tdiv_eq_ediv_of_nonneg hq, u64w, Int.emod_eq_of_lt (by omega) (by omega), w64 (n := (i : Int) + 1) (by omega) (by omega)]
    have e := ih (i + 1) (by omega) k
    rw [Int.pow_succ, ← Int.ediv_ediv_of_nonneg (Int.le_of_lt hp), show ((i + 1 : Nat) : Int) = (i : Int) + 1 by omega] at e
    exact e
theorem ref_l0 (s : ByteArray) (hz : s.size ≤ 140737488355327) : ∀ (d i : Nat), i + d = s.size → ∀ k, plenumref02_Digest.l0 (k + d + 18) s (dig s i) (i : Int) = some (strOfNums (dg (dig s s.size) 16)) := by
  intro d
  induction d with
  | zero =>
    intro i hi k
    obtain rfl : i = s.size := by omega
    have hr := dig_range s s.size
    rw [show k + 0 + 18 = (k + 17) + 1 by omega, plenumref02_Digest.l0, if_neg (by omega)]
    have e := ref_l1 (dig s s.size) hr.1 hr.2 16 0 rfl k
    rw [show dig s s.size / 16 ^ 0 = dig s s.size by simp] at e
    exact e
  | succ d ih =>
    intro i hi k
    rw [show k + (d + 1) + 18 = (k + d + 18) + 1 by omega, plenumref02_Digest.l0, if_pos (by omega), if_pos (by omega), w64 (n := (i : Int) + 1) (by omega) (by omega)]
    have e := ih (i + 1) (by omega) k
    rw [show ((i + 1 : Nat) : Int) = (i : Int) + 1 by omega] at e
    exact e
theorem refDigest (s : ByteArray) (hz : s.size ≤ 140737488355327) (k : Nat) : plenumref02_Digest.f (k + s.size + 18) s = some (strOfNums (digits (dig s s.size))) := by
  have hr := dig_range s s.size
  rw [digits_dg _ hr.1 hr.2]
  exact ref_l0 s hz s.size 0 (by omega) k
theorem digest_eq (s : ByteArray) (hz : s.size ≤ 140737488355327) : codec_Digest.f s = some (strOfNums (digits (dig s s.size))) := by
  unfold codec_Digest.f
  rw [if_pos (by omega)]
theorem dig_differ (s t : ByteArray) (m : Nat) (hb : ∀ j : Nat, j ≠ m → bt s j = bt t j) (hm : bt s m ≠ bt t m) : ∀ n, m < n → dig s n ≠ dig t n := by
  have hpre : ∀ n, n ≤ m → dig s n = dig t n := by
    intro n
    induction n with
    | zero => intro _; rfl
    | succ n ih => intro hn; show dig1 (dig s n) (bt s n) = dig1 (dig t n) (bt t n); rw [ih (by omega), hb n (by omega)]
  intro n
  induction n with
  | zero => intro h; omega
  | succ n ih =>
    intro hn e
    have e2 : dig1 (dig s n) (bt s n) = dig1 (dig t n) (bt t n) := e
    have e3 := xor_inj_u64 (dig1_xor e2)
    have rs := dig_range s n
    have rt := dig_range t n
    by_cases c : n = m
    · subst c
      rw [hpre n (Nat.le_refl _)] at e3
      have e4 := ofInt_inj (by rw [u64w]; omega) (by rw [u64w]; omega) (xor_cancel_left e3)
      have b1 := bt_range s n
      have b2 := bt_range t n
      rw [u64w, u64w] at e4
      omega
    · rw [hb n c] at e3
      exact ih (by omega) (ofInt_inj rs rt (xor_cancel_right e3))
theorem CodecDigest (a0 : ByteArray) (a1 a2 : Int) (hz : a0.size ≤ 140737488351232) (hw1 : (Lit.int .i64 a1).wf = true) (hw2 : (Lit.int .u8 a2).wf = true) : ∃ k, plenumlaw02_CodecDigest.f k a0 a1 a2 = some true := by
  have hz' : a0.size ≤ 140737488355327 := by omega
  refine ⟨60 + a0.size + 60, ?_⟩
  unfold plenumlaw02_CodecDigest.f
  rw [awake_eq, Option.bind_some, if_pos rfl]
  by_cases c300 : (a0.size : Int) > 300
  · rw [if_pos c300]
  rw [if_neg c300, digest_eq a0 hz', Option.bind_some, show 60 + a0.size + 60 = 102 + a0.size + 18 by omega, refDigest a0 hz', Option.bind_some, if_pos rfl]
  by_cases c0 : a0.size = 0
  · rw [if_pos c0]
  by_cases cb : a2 = 0
  · rw [if_neg c0, if_pos cb]
  rw [if_neg c0, if_neg cb]
  have hu : 0 ≤ IntKind.u64.wrap a1 := by rw [u64w]; omega
  obtain ⟨m, hm⟩ : ∃ m, m = wrap64 (IntKind.u64.wrap a1 % (a0.size : Int)) := ⟨_, rfl⟩
  have hmr : 0 ≤ m ∧ m < (a0.size : Int) := by
    have h1 := Int.emod_nonneg (IntKind.u64.wrap a1) (b := (a0.size : Int)) (by omega)
    have h2 := Int.emod_lt_of_pos (IntKind.u64.wrap a1) (b := (a0.size : Int)) (by omega)
    rw [w64 (by omega) (by omega)] at hm
    omega
  rw [← hm]
  obtain ⟨M, rfl⟩ := Int.eq_ofNat_of_zero_le hmr.1
  rw [show ((M : Int)).toNat = M by omega]
  have hM : M < a0.size := by omega
  obtain ⟨t, ht⟩ : ∃ t : ByteArray, t = ⟨(chg a0 M a2).toArray⟩ := ⟨_, rfl⟩
  have hts : t.size = a0.size := by rw [ht]; show (chg a0 M a2).toArray.size = _; simp [chg]
  rw [← ht, digest_eq t (by omega), Option.bind_some]
  have hxr : 0 ≤ Go.bits .xor .u8 (bt a0 M) a2 ∧ Go.bits .xor .u8 (bt a0 M) a2 < 256 := by
    show 0 ≤ (_ % 256 : Int) ∧ (_ % 256 : Int) < 256
    omega
  have hbyte : ∀ j : Nat, j < a0.size → bt t (j : Int) = if j = M then Go.bits .xor .u8 (bt a0 M) a2 else bt a0 (j : Int) := by
    intro j hj
    have hjl : j < (chg a0 M a2).length := by simpa [chg] using hj
    have e1 : bt t (j : Int) = (((chg a0 M a2)[j]'hjl).toNat : Int) := by
      unfold bt
      rw [dif_pos (by omega)]
      subst ht
      rfl
    rw [e1]
    simp only [chg, List.getElem_set]
    by_cases e : M = j
    · rw [if_pos e, if_pos e.symm, UInt8.toNat_ofNat']
      omega
    · rw [if_neg e, if_neg (fun h => e h.symm)]
      refine Eq.trans ?_ (bt_at a0 (j : Int) (by omega))
      rfl
  have hb2 : 0 ≤ a2 ∧ a2 < 256 := by
    have h : (decide ((0 : Int) ≤ a2) && decide (a2 ≤ 255)) = true := hw2
    simp only [Bool.and_eq_true, decide_eq_true_eq] at h
    omega
  have hx : Go.bits .xor .u8 (bt a0 M) a2 ≠ bt a0 M := by
    intro h
    have hb := bt_range a0 M
    have e : (((BitVec.ofInt 8 (bt a0 M)) ^^^ (BitVec.ofInt 8 a2)).toNat : Int) % 256 = bt a0 M := h
    have hl := ((BitVec.ofInt 8 (bt a0 M)) ^^^ (BitVec.ofInt 8 a2)).isLt
    have e2 : (BitVec.ofInt 8 (bt a0 M)) ^^^ (BitVec.ofInt 8 a2) = BitVec.ofInt 8 (bt a0 M) ^^^ 0#8 := by
      rw [BitVec.xor_zero]
      apply BitVec.eq_of_toNat_eq
      rw [BitVec.toNat_ofInt]
      omega
    have e3 := congrArg BitVec.toNat (xor_cancel_left e2)
    rw [BitVec.toNat_ofInt] at e3
    have e4 : (0#8).toNat = 0 := rfl
    omega
  have hd := dig_differ a0 t M (fun j hj => by
    by_cases h : j < a0.size
    · rw [hbyte j h, if_neg hj]
    · unfold bt; rw [dif_neg (by omega), dif_neg (by omega)]) (by rw [hbyte M hM, if_pos rfl]; exact fun h => hx h.symm) a0.size hM
  refine if_neg (fun e => hd ?_)
  have r1 := dig_range a0 a0.size
  have r2 := dig_range t a0.size
  rw [hts, digits_dg _ r1.1 r1.2, digits_dg _ r2.1 r2.2] at e
  have e2 := dg_inj _ _ _ (strOfNums_inj _ _ (dg_byte _ _) (dg_byte _ _) e)
  rw [show (16 : Int) ^ 16 = 18446744073709551616 from rfl] at e2
  omega
end Go.Proofs.YtndeikikeeeigaaDoor.Pure
end
section
namespace Go.Proofs.YtndeikikeeeigaaDoor.codecDigest
open Go.ChangeShapes Go.WideShapes Go.ChangeAt Go.RowKit
open Go.ChangeMaps (open_string shut_string)
open Go.Proofs.YtndeikikeeeigaaDoor.Opn Go.Proofs.YtndeikikeeeigaaDoorW.PrintWords Go.Proofs.YtndeikikeeeigaaDoor.Q
set_option linter.unusedVariables false
theorem own : ownKnob Tryd.prog.godebug = none := by kernel_rfl
set_option maxHeartbeats 2000000 in
set_option maxRecDepth 100000 in
theorem lifted (os : Os) (started : os.Started) (H : Type) (enc : TypeId × Value → H) :
    ReturnsInHanded {} Tryd.checked os 4 .any (fun w args => (Rows.codecDigestSpec.pre enc Tryd.prog Tryd.f4 Rows.codecDigestRow.domain false w args ∧ laidMet Tryd.prog theLaid w) ∧ sizedMet enc Tryd.prog Tryd.f4 (OpenSpec.ofChange Rows.codecDigestSpec) false w args) (Rows.codecDigestSpec.post enc Tryd.prog Tryd.f4 false true false false) := by
  refine returnsInHanded_of_change_and (C := Tryd.checked) (X := fun w _ => laidMet Tryd.prog theLaid w) (fun _ _ _ hh h => h.of_heap hh) own started (by kernel_rfl) Tryd.func4
    (ChangeSpec.witness_at (enc := enc) (C := Tryd.checked) (os := os) (X := fun w _ => laidMet Tryd.prog theLaid w) false (laidWorld os) #[.string ByteArray.empty, .int .i64 0, .int .u8 0] 8 rfl (by kernel_rfl) (by kernel_rfl) (by kernel_rfl) (by kernel_rfl) (by kernel_rfl) (laidWorld_met os _)) ?_
  intro W base args ds gs before hval0 hW hcnd hsz0 hL0 _
  have hGl := glob_of_laid hL0
  have hsz : (DataW.weightsEach Tryd.prog (Tryd.f4.params.toList ++ Rows.codecDigestSpec.plain.varTypes Tryd.prog) (ds ++ gs)).all (· ≤ reachBytes) = true := hsz0
  have hval : ∀ (j : Nat) t v, Tryd.f4.params[j]? = some t → args[j]? = some v → Value.okWide Tryd.prog W .any base t v := hval0
  have hW' := hW
  obtain ⟨p, q, hA0, hV, rfl, hfz, hnd⟩ := hW
  have hA : DataW.TrodAll enc Tryd.prog W 0 (fun _ => true) true Tryd.f4.params.toList args.toList ds p := hA0
  rw [Tryd.params4] at hA hval hsz
  obtain ⟨v0, vs0, d0, ds0, p0, q0, hargs, rfl, rfl, h0, r0⟩ := trodAll_cons hA
  obtain ⟨v1, vs1, d1, ds1, p1, q1, rfl, rfl, rfl, h1, r1⟩ := trodAll_cons r0
  obtain ⟨v2, vs2, d2, ds2, p2, q2, rfl, rfl, rfl, h2, r2⟩ := trodAll_cons r1
  obtain ⟨rfl, rfl, rfl⟩ := trodAll_nil r2
  obtain rfl : args = #[v0, v1, v2] := by cases args; simp_all
  obtain ⟨rfl, rfl⟩ := trodVars_none hV
  obtain ⟨a0, rfl, rfl, rfl, y0⟩ := open_string Tryd.underlying9 (hval 0 9 v0 rfl rfl) h0
  have hV0 : a0.size ≤ 140737488351232 := by
    have z := sized_string hsz (j := 0) (t := 9) rfl rfl
    rw [Array.length_toList] at z
    exact z
  obtain ⟨a1, rfl, rfl, rfl, w1⟩ := open_int Tryd.underlying3 (hval 1 3 v1 rfl rfl) h1
  obtain ⟨a2, rfl, rfl, rfl, w2⟩ := open_int Tryd.underlying5 (hval 2 5 v2 rfl rfl) h2
  clear hA0 hval0 hsz0 hsz
  obtain ⟨k, h⟩ := Pure.CodecDigest a0 a1 a2 hV0 w1 w2
  refine (Q.plenumlaw02_CodecDigest.calls k a0 a1 a2 true W hGl  h).mono fun e W' ⟨he, bel0⟩ => ?_
  have bel : Below W.heap.size W W' := bel0
  subst he
  exact ⟨_, rfl, _, _, _, [], _, [], hW', trodAll_mk1 (shut_bool Tryd.underlying4 _), (trodAll_cons_mk (shut_string Tryd.underlying9 y0) (trodAll_cons_mk (shut_int Tryd.underlying3 w1) (trodAll_cons_mk (shut_int Tryd.underlying5 w2) trodAll_mk0))), rfl, bel.frame _, fun h => by cases h⟩
theorem over : Rows.codecDigestRow.holds Tryd.pinned (OpenSpec.ofChange Rows.codecDigestSpec) :=
  OpenClaim.holds_of_wide 4 Tryd.f4 rfl rfl rfl rfl rfl rfl rfl ⟨rfl, rfl, rfl, rfl, rfl⟩ rfl rfl rfl rfl rfl (by kernel_rfl) Tryd.func4 (by kernel_rfl)
    (of_decide_eq_true (by kernel_rfl)) (by unfold Func.isWrapper; first | (rw [if_pos (by decide +kernel)]; kernel_rfl) | (rw [if_neg (by decide +kernel)]; exact ⟨rfl, rfl⟩))
    (fun os started H enc _ => lifted os started H enc)
theorem card_holds : Rows.CodecDigestCardSaid :=
  Claim7.holds_tied_plain_at .later [] [.data] true (true, "df68463a3ead1255f1618a87c8c1347ab87336f1cb44d5b5530c4be1e9654a40") false
    over (fun _ h => by cases h) (by kernel_rfl) (fun _ h => by cases h) codecDigest_row_tie rfl ⟨rfl, rfl⟩ (by kernel_rfl) rfl
    (fun f fn hf hfn => by
      obtain rfl : f = 4 := Option.some.inj ((show Tryd.prog.funcNamed "plenum/plenumlaw02.CodecDigest" = some 4 by kernel_rfl).symm.trans hf) |>.symm
      obtain rfl : fn = Tryd.f4 := (Option.some.inj (Tryd.func4.symm.trans hfn)).symm
      exact ⟨by kernel_rfl, fun j t ht => by
        rw [Tryd.params4] at ht
        have ho : t = 3 ∨ t = 5 ∨ t = 9 := by
          rcases j with _ | _ | _ | j
          all_goals simp at ht
          all_goals subst ht; simp
        obtain rfl | rfl | rfl := ho
        · exact (show Tryd.prog.wantsStandIn 3 = false by kernel_rfl)
        · exact (show Tryd.prog.wantsStandIn 5 = false by kernel_rfl)
        · exact (show Tryd.prog.wantsStandIn 9 = false by kernel_rfl)⟩)
    (by kernel_rfl)
#print axioms card_holds
end Go.Proofs.YtndeikikeeeigaaDoor.codecDigest
namespace Go.Proofs.YtndeikikeeeigaaDoor
theorem codecDigest_holds : Rows.CodecDigestCardSaid := codecDigest.card_holds
end Go.Proofs.YtndeikikeeeigaaDoor
end
