/- TrendRingCard: one part of the proof that the law answers true for every input, and that its arguments read afterwards as before. No condition. -/
import Derived.Test.YtbccjcdmpiolpaaDoorCRing2
import Derived.Outline
import Derived.Deep.OwnRows
import Derived.Deep.MidRow
import Derived.LoopTactic
section
namespace Go.Proofs.YtbccjcdmpiolpaaDoor.T
open Go.RowKit Go.Proofs.YtbccjcdmpiolpaaDoorW.PrintWords Go.Proofs.YtbccjcdmpiolpaaDoorW.PrintLast Go.Proofs.YtbccjcdmpiolpaaDoorW.PrintMore
set_option linter.unusedVariables false
set_option linter.unusedSimpArgs false
def lastN (n : Nat) (l : List S44) : List S44 := l.drop (l.length - n)
theorem lastN_len (n : Nat) (l : List S44) : (lastN n l).length = min n l.length := by
 unfold lastN
 rw [List.length_drop]
 omega
theorem lastN_app (n : Nat) (a b : List S44) : lastN n (lastN n a ++ b) = lastN n (a ++ b) := by
 unfold lastN
 rw [List.length_append, List.length_append, List.length_drop]
 by_cases h : a.length ≤ n
 ·rw [show a.length - n = 0 by omega, List.drop_zero, Nat.sub_zero]
 ·have hl : (a.take (a.length - n)).length = a.length - n := by rw [List.length_take]; omega
  have key : ∀ (x y : List S44) (m : Nat), x.length ≤ m → (x ++ y ++ b).drop m = (y ++ b).drop (m - x.length) := fun x y m hm => by
   rw [List.append_assoc, List.drop_append, List.drop_eq_nil_of_le hm, List.nil_append]
  have := key (a.take (a.length - n)) (a.drop (a.length - n)) (a.length + b.length - n) (by rw [hl]; omega)
  rw [List.take_append_drop, hl] at this
  rw [this]
  congr 1
  omega
theorem lastN_ge (n : Nat) (a b : List S44) (h : n ≤ b.length) : lastN n (a ++ b) = lastN n b := by
 unfold lastN
 rw [List.length_append, List.drop_append, List.drop_eq_nil_of_le (by omega), List.nil_append]
 congr 1
 omega
theorem lastN_all (n : Nat) (a : List S44) (h : a.length ≤ n) : lastN n a = a := by
 unfold lastN
 rw [show a.length - n = 0 by omega, List.drop_zero]
theorem record_recs (L : Lg) (a : Int) (hs : 1 ≤ L.sz) (hl : (L.recs.length : Int) ≤ L.sz) : (L.record a).recs = lastN L.sz.toNat (L.recs ++ [L.rec1 a]) := by
 show (if (L.recs.length : Int) < L.sz then L.recs ++ [L.rec1 a] else L.recs.drop 1 ++ [L.rec1 a]) = _
 unfold lastN
 rw [List.length_append, List.length_singleton]
 by_cases h : (L.recs.length : Int) < L.sz
 ·rw [if_pos h, show L.recs.length + 1 - L.sz.toNat = 0 by omega, List.drop_zero]
 ·rw [if_neg h, show L.recs.length + 1 - L.sz.toNat = 1 by omega, List.drop_append, show 1 - L.recs.length = 0 by omega, List.drop_zero]
def news (t k iv vk vn q : Int) (n : Nat) : List S44 := (List.range n).map fun (j : Nat) => ⟨t + 1 + (j : Int), (k + (j : Int)) * iv, ⟨vk, vn⟩, q, 0⟩
theorem news_succ (t k iv vk vn q : Int) (n : Nat) : news t k iv vk vn q (n + 1) = news t k iv vk vn q n ++ [⟨t + 1 + (n : Int), (k + (n : Int)) * iv, ⟨vk, vn⟩, q, 0⟩] := by
 unfold news
 rw [List.range_succ, List.map_append]
 rfl
theorem news_len (t k iv vk vn q : Int) (n : Nat) : (news t k iv vk vn q n).length = n := by
 unfold news
 rw [List.length_map, List.length_range]
theorem news_get (t k iv vk vn q : Int) (n i : Nat) (h : i < (news t k iv vk vn q n).length) : (news t k iv vk vn q n)[i] = ⟨t + 1 + (i : Int), (k + (i : Int)) * iv, ⟨vk, vn⟩, q, 0⟩ := by
 have e : (news t k iv vk vn q n)[i]? = some ⟨t + 1 + (i : Int), (k + (i : Int)) * iv, ⟨vk, vn⟩, q, 0⟩ := by
  unfold news
  rw [List.getElem?_map, List.getElem?_range (by rw [news_len] at h; exact h)]
  rfl
 rw [List.getElem?_eq_getElem h] at e
 injection e
theorem news_drop (t k iv vk vn q : Int) (n s : Nat) (h : s ≤ n) : (news t k iv vk vn q n).drop s = news (t + (s : Int)) (k + (s : Int)) iv vk vn q (n - s) := by
 refine List.ext_getElem (by rw [List.length_drop, news_len, news_len]) fun i h1 h2 => ?_
 rw [List.getElem_drop, news_get, news_get]
 have e1 : t + 1 + ((s + i : Nat) : Int) = t + (s : Int) + 1 + (i : Int) := by omega
 have e2 : k + ((s + i : Nat) : Int) = k + (s : Int) + (i : Int) := by omega
 rw [e1, e2]
theorem run_recs (L : Lg) (k0 : Int) (hs : 1 ≤ L.sz) (hl : (L.recs.length : Int) ≤ L.sz) : ∀ m : Nat, (L.run k0 m).recs = lastN L.sz.toNat (L.recs ++ news L.total k0 L.iv L.vk L.vn L.q m)
 | 0 => by
  show L.recs = lastN _ (L.recs ++ [])
  rw [List.append_nil, lastN_all _ _ (by omega)]
 | m + 1 => by
  have hsm := run_same L k0 m
  have hlm := run_len L k0 hl hs m
  show ((L.run k0 m).record ((k0 + (m : Int)) * L.iv)).recs = _
  rw [record_recs _ _ (by rw [hsm.sz]; exact hs) (by rw [hsm.sz]; exact hlm), hsm.sz, run_recs L k0 hs hl m, news_succ, ← List.append_assoc, lastN_app]
  congr 3
  unfold Lg.rec1
  rw [run_total, hsm.vk, hsm.vn, hsm.q]
  rw [show L.total + (m : Int) + 1 = L.total + 1 + (m : Int) by omega]
structure Hist (L : Lg) (H : List S44) : Prop where
 len : (H.length : Int) = L.total
 recs : L.recs = lastN L.sz.toNat H
 num : ∀ i (h : i < H.length), H[i].f0 = (i : Int) + 1 ∧ H[i].f4 = 0
 asc : ∀ i (h : i + 1 < H.length), H[i].f1 ≤ H[i + 1].f1
 now : ∀ i (h : i < H.length), H[i].f1 ≤ L.now
theorem Hist.app {L M : Lg} {H : List S44} {b : Int} {N : List S44} (h : Hist L H) (hlen : M.total = L.total + (N.length : Int)) (hrecs : M.recs = lastN M.sz.toNat (H ++ N)) (hb : L.now ≤ M.now) (hnum : ∀ i (hi : i < N.length), N[i].f0 = L.total + 1 + (i : Int) ∧ N[i].f4 = 0) (hasc : ∀ i (hi : i + 1 < N.length), N[i].f1 ≤ N[i + 1].f1) (hlo : ∀ i (hi : i < N.length), L.now ≤ N[i].f1 ∨ (∀ k (hk : k < H.length), H[k].f1 ≤ N[i].f1)) (hhi : ∀ i (hi : i < N.length), N[i].f1 ≤ M.now) : Hist M (H ++ N) := by
 refine ⟨by rw [List.length_append, hlen, ← h.len]; omega, hrecs, fun i hi => ?_, fun i hi => ?_, fun i hi => ?_⟩
 ·rw [List.length_append] at hi
  by_cases k : i < H.length
  ·rw [List.getElem_append_left k]
   exact h.num i k
  ·rw [List.getElem_append_right (by omega)]
   have := hnum (i - H.length) (by omega)
   refine ⟨?_, this.2⟩
   rw [this.1, ← h.len]
   omega
 ·rw [List.length_append] at hi
  by_cases k : i + 1 < H.length
  ·rw [List.getElem_append_left k, List.getElem_append_left (show i < H.length by omega)]
   exact h.asc i k
  ·by_cases k2 : i < H.length
   ·rw [List.getElem_append_left k2, List.getElem_append_right (show H.length ≤ i + 1 by omega)]
    rcases hlo (i + 1 - H.length) (by omega) with q | q
    ·exact Int.le_trans (h.now i k2) q
    ·exact q i k2
   ·rw [List.getElem_append_right (show H.length ≤ i by omega), List.getElem_append_right (show H.length ≤ i + 1 by omega)]
    have := hasc (i - H.length) (by omega)
    simp only [show i + 1 - H.length = i - H.length + 1 by omega]
    exact this
 ·rw [List.length_append] at hi
  by_cases k : i < H.length
  ·rw [List.getElem_append_left k]
   exact Int.le_trans (h.now i k) hb
  ·rw [List.getElem_append_right (by omega)]
   exact hhi _ _
end Go.Proofs.YtbccjcdmpiolpaaDoor.T
end
section
namespace Go.Proofs.YtbccjcdmpiolpaaDoor.Pure
open Go.RowKit Go.Proofs.YtbccjcdmpiolpaaDoor.T Go.Proofs.YtbccjcdmpiolpaaDoorW.PrintWords Go.Proofs.YtbccjcdmpiolpaaDoorW.PrintLast Go.Proofs.YtbccjcdmpiolpaaDoorW.PrintMore
set_option linter.unusedVariables false
set_option linter.unusedSimpArgs false
theorem bt_mid (l pre post : List Int) (b : Int) (h : l = pre ++ b :: post) (h0 : 0 ≤ b) (h1 : b ≤ 255) : bt (strOfNums l) (pre.length : Int) = b := by
 subst h
 rw [← rd_bytesOf]
 have e : bytesOf (strOfNums (pre ++ b :: post)) = (pre ++ b :: post).map (fun n : Int => ((UInt8.ofNat n.toNat).toNat : Int)) := by
  show ((((pre ++ b :: post).map fun n => UInt8.ofNat n.toNat)).map fun b => (b.toNat : Int)) = _
  rw [List.map_map]
  rfl
 rw [e]
 unfold rd
 rw [show ((pre.length : Int)).toNat = pre.length from rfl, List.getD_eq_getElem?_getD, List.getElem?_map, List.getElem?_append_right (Nat.le_refl _), Nat.sub_self, List.getElem?_cons_zero]
 show ((UInt8.ofNat b.toNat).toNat : Int) = b
 rw [UInt8.toNat_ofNat']
 omega
theorem beN_at : ∀ (m : Nat) (V : Int) (l pre post : List Int), l = pre ++ beH V m ++ post → beN (strOfNums l) (pre.length : Int) m = V % 256 ^ m := by
 intro m
 induction m with
 | zero => intro V l pre post h; show (0 : Int) = V % 1; omega
 | succ m ih =>
  intro V l pre post h
  have e1 := ih (V / 256) l pre ([V % 256] ++ post) (by rw [h, beH_snoc]; simp [List.append_assoc])
  have e2 := bt_mid l (pre ++ beH (V / 256) m) post (V % 256) (by rw [h, beH_snoc]; simp [List.append_assoc]) (by omega) (by omega)
  rw [List.length_append, beH_length] at e2
  show beN (strOfNums l) (pre.length : Int) m * 256 + bt (strOfNums l) ((pre.length : Int) + (m : Int)) = V % 256 ^ (m + 1)
  rw [e1, show ((pre.length : Int) + (m : Int)) = ((pre.length + m : Nat) : Int) by omega, e2]
  rw [Int.pow_succ]
  have h1 := Int.emod_add_mul_ediv V 256
  have h2 : V % (256 ^ m * 256) = V % 256 + 256 * (V / 256 % 256 ^ m) := by
   have hB : (0 : Int) < 256 ^ m := Int.pow_pos (by decide)
   generalize (256 : Int) ^ m = B at *
   have q1 := Int.emod_add_mul_ediv (V / 256) B
   have r0 := Int.emod_nonneg (V / 256) (Int.ne_of_gt hB)
   have r1 := Int.emod_lt_of_pos (V / 256) hB
   have e : V = (V % 256 + 256 * (V / 256 % B)) + (B * 256) * (V / 256 / B) := by
    have : (B * 256) * (V / 256 / B) = 256 * (B * (V / 256 / B)) := by rw [Int.mul_comm B 256, Int.mul_assoc]
    rw [this]
    omega
   conv => lhs; rw [e]
   rw [Int.add_mul_emod_self_left, Int.emod_eq_of_lt]
   ·omega
   ·omega
  rw [h2]
  omega
theorem nb_lt {V : Int} (h0 : 0 ≤ V) (h1 : V < 18446744073709551616) : V < 256 ^ (nb V).toNat := by
 unfold nb
 repeat' split
 all_goals simp
 all_goals omega
theorem str_len (a b c : List Int) : ((strOfNums (a ++ b ++ c)).size : Int) = a.length + b.length + c.length := by
 rw [strOfNums_size, List.length_append, List.length_append]
 omega
theorem cnt_mid (l pre post : List Int) (lead n : Int) (h : l = pre ++ (lead + n) :: post) (hl : lead = 16 ∨ lead = 32) (h1 : 1 ≤ n) (h8 : n ≤ 8) : cnt (strOfNums l) (pre.length : Int) = n.toNat ∧ kindS (strOfNums l) (pre.length : Int) = (if lead = 16 then 3 else 4) := by
 have hb := bt_mid l pre post (lead + n) h (by omega) (by omega)
 have hs : (pre.length : Int) < ((strOfNums l).size : Int) := by rw [strOfNums_size, h]; simp; omega
 refine ⟨by unfold cnt; rw [hb]; omega, ?_⟩
 unfold kindS
 rw [if_neg (by omega), hb]
 unfold kd
 rcases hl with rfl | rfl
 ·rw [if_pos rfl]; omega
 ·rw [if_neg (show ¬ (32 : Int) = 16 by decide)]; omega
theorem uS_str (l pre post : List Int) (V : Int) (h : l = pre ++ uB V ++ post) (h0 : 0 ≤ V) (h1 : V < 18446744073709551616) : uS (strOfNums l) (pre.length : Int) = some (V, (pre.length : Int) + ((uB V).length : Int)) := by
 have hr := nb_range V
 have hu : uB V = (16 + nb V) :: beH V (nb V).toNat := by unfold uB; rw [beL_eq]
 have hl : (uB V).length = (nb V).toNat + 1 := by rw [hu, List.length_cons, beH_length]
 obtain ⟨hc, hk⟩ := cnt_mid l pre (beH V (nb V).toNat ++ post) 16 (nb V) (by rw [h, hu]; simp) (Or.inl rfl) hr.1 hr.2
 rw [if_pos rfl] at hk
 have hv := beN_at (nb V).toNat V l (pre ++ [16 + nb V]) post (by rw [h, hu]; simp)
 rw [Int.emod_eq_of_lt h0 (nb_lt h0 h1), List.length_append, List.length_singleton, show (((pre.length + 1 : Nat)) : Int) = (pre.length : Int) + 1 by omega] at hv
 have hval : val (strOfNums l) (pre.length : Int) = V := by unfold val; rw [hc]; exact hv
 unfold uS
 rw [if_pos, hval, hc, hl]
 ·congr 2
  omega
 ·refine ⟨hk, ?_, by rw [hval, hc]; omega⟩
  rw [hc, h, str_len, hl]
  omega
theorem sgn_mod {V : Int} (h0 : -9223372036854775808 ≤ V) (h1 : V ≤ 9223372036854775807) : sgn (ss V).toNat (V % 256 ^ (ss V).toNat) = V := by
 unfold ss sb
 repeat' split
 all_goals unfold sgn
 all_goals simp
 all_goals omega
theorem sS_str (l pre post : List Int) (V : Int) (h : l = pre ++ sB V ++ post) (h0 : -9223372036854775808 ≤ V) (h1 : V ≤ 9223372036854775807) : sS (strOfNums l) (pre.length : Int) = some (V, (pre.length : Int) + ((sB V).length : Int)) := by
 have hr := ss_range V h0 h1
 have hu : sB V = (32 + ss V) :: beH V (ss V).toNat := by unfold sB; rw [beL_eq]
 have hl : (sB V).length = (ss V).toNat + 1 := by rw [hu, List.length_cons, beH_length]
 obtain ⟨hc, hk⟩ := cnt_mid l pre (beH V (ss V).toNat ++ post) 32 (ss V) (by rw [h, hu]; simp) (Or.inr rfl) hr.1 hr.2
 rw [if_neg (by decide)] at hk
 have hv := beN_at (ss V).toNat V l (pre ++ [32 + ss V]) post (by rw [h, hu]; simp)
 rw [List.length_append, List.length_singleton, show (((pre.length + 1 : Nat)) : Int) = (pre.length : Int) + 1 by omega] at hv
 have hval : sgn (cnt (strOfNums l) (pre.length : Int)) (val (strOfNums l) (pre.length : Int)) = V := by unfold val; rw [hc, hv]; exact sgn_mod h0 h1
 unfold sS
 rw [if_pos, hval, hc, hl]
 ·congr 2
  omega
 ·refine ⟨hk, ?_, by rw [hval, hc]; omega⟩
  rw [hc, h, str_len, hl]
  omega
theorem kind_mid (l pre post : List Int) (b : Int) (h : l = pre ++ b :: post) (h0 : 0 ≤ b) (h1 : b ≤ 255) : kindS (strOfNums l) (pre.length : Int) = kd b := by
 have hb := bt_mid l pre post b h h0 h1
 have hs : (pre.length : Int) < ((strOfNums l).size : Int) := by rw [strOfNums_size, h]; simp; omega
 unfold kindS
 rw [if_neg (by omega), hb]
theorem ext_mid (a s c : ByteArray) : (a ++ s ++ c).extract a.size (a.size + s.size) = s := by
 apply ByteArray.ext
 apply Array.toList_inj.mp
 simp [ByteArray.data_extract, ByteArray.data_append, Array.toList_extract]
 have h1 : a.size = a.data.toList.length := by rw [Array.length_toList]; rfl
 have h2 : s.size = s.data.toList.length := by rw [Array.length_toList]; rfl
 rw [h1, h2, List.drop_length, List.take_length]
 simp
theorem tS_str (l pre post : List Int) (s : ByteArray) (h : l = pre ++ ([48] ++ uB (s.size : Int) ++ bytesOf s) ++ post) (hs : s.size ≤ 65535) : tS (strOfNums l) (pre.length : Int) = some (s, (pre.length : Int) + (([48] ++ uB (s.size : Int) ++ bytesOf s).length : Int)) := by
 have hk := kind_mid l pre (uB (s.size : Int) ++ bytesOf s ++ post) 48 (by rw [h]; simp) (by omega) (by omega)
 have hu := uS_str l (pre ++ [48]) (bytesOf s ++ post) (s.size : Int) (by rw [h]; simp) (by omega) (by omega)
 rw [List.length_append, List.length_singleton, show (((pre.length + 1 : Nat)) : Int) = (pre.length : Int) + 1 by omega] at hu
 have hsz : ((strOfNums l).size : Int) = (pre.length : Int) + 1 + ((uB (s.size : Int)).length : Int) + (s.size : Int) + (post.length : Int) := by
  rw [strOfNums_size, h]
  simp [bytesOf_length]
  omega
 unfold tS
 rw [if_pos (by rw [hk]; rfl), hu]
 simp only []
 rw [if_neg (by omega), if_neg (by omega)]
 have he : strOfNums l = strOfNums (pre ++ [48] ++ uB (s.size : Int)) ++ s ++ strOfNums post := by
  rw [h, show pre ++ ([48] ++ uB (s.size : Int) ++ bytesOf s) ++ post = (pre ++ [48] ++ uB (s.size : Int)) ++ bytesOf s ++ post by simp, strOfNums_app, strOfNums_app _ (bytesOf s), strOfNums_bytes]
 have ha : (strOfNums (pre ++ [48] ++ uB (s.size : Int))).size = pre.length + 1 + (uB (s.size : Int)).length := by rw [strOfNums_size]; simp; omega
 have hx := ext_mid (strOfNums (pre ++ [48] ++ uB (s.size : Int))) s (strOfNums post)
 rw [← he, ha] at hx
 rw [show ((pre.length : Int) + 1 + ((uB (s.size : Int)).length : Int)).toNat = pre.length + 1 + (uB (s.size : Int)).length by omega, show ((pre.length : Int) + 1 + ((uB (s.size : Int)).length : Int) + (s.size : Int)).toNat = pre.length + 1 + (uB (s.size : Int)).length + s.size by omega, hx]
 congr 2
 simp [bytesOf_length]
 omega
theorem lS_str (l pre post : List Int) (V : Int) (h : l = pre ++ ([64] ++ uB V) ++ post) (h0 : 0 ≤ V) (h1 : V ≤ 65535) : lS (strOfNums l) (pre.length : Int) = some (V, (pre.length : Int) + (([64] ++ uB V).length : Int)) := by
 have hk := kind_mid l pre (uB V ++ post) 64 (by rw [h]; simp) (by omega) (by omega)
 have hu := uS_str l (pre ++ [64]) post V (by rw [h]; simp) (by omega) (by omega)
 rw [List.length_append, List.length_singleton, show (((pre.length + 1 : Nat)) : Int) = (pre.length : Int) + 1 by omega] at hu
 unfold lS
 rw [if_pos (by rw [hk]; rfl), hu]
 simp only []
 rw [if_neg (by omega)]
 congr 2
 simp
 omega
end Go.Proofs.YtbccjcdmpiolpaaDoor.Pure
end
section
namespace Go.Proofs.YtbccjcdmpiolpaaDoor.T
open Go.RowKit Go.Proofs.YtbccjcdmpiolpaaDoor.Pure Go.Proofs.YtbccjcdmpiolpaaDoorW.PrintWords Go.Proofs.YtbccjcdmpiolpaaDoorW.PrintLast Go.Proofs.YtbccjcdmpiolpaaDoorW.PrintMore
set_option linter.unusedVariables false
set_option linter.unusedSimpArgs false
theorem uw_id {n : Int} (h0 : 0 ≤ n) (h1 : n < 18446744073709551616) : uw n = n := by
 show n % 18446744073709551616 = n
 omega
theorem numO_str (l pre post : List Int) (V m : Int) (h : l = pre ++ uB (uw V) ++ post) (h0 : 0 ≤ V) (h1 : V ≤ m) (hm : m < 18446744073709551616) : numO (strOfNums l) m (some (pre.length : Int)) = some (V, (pre.length : Int) + ((uB (uw V)).length : Int)) := by
 have e := uw_id h0 (by omega)
 rw [e] at h ⊢
 unfold numO
 rw [Option.bind_some, uS_str l pre post V h h0 (by omega), Option.bind_some]
 exact if_pos h1
theorem lstO_str (l pre post : List Int) (V : Int) (h : l = pre ++ ([64] ++ uB V) ++ post) (h0 : 0 ≤ V) (h1 : V ≤ 65535) : lstO (strOfNums l) V (some (pre.length : Int)) = some ((pre.length : Int) + (([64] ++ uB V).length : Int)) := by
 unfold lstO
 rw [Option.bind_some, lS_str l pre post V h h0 h1, Option.bind_some]
 exact if_pos rfl
structure Good44 (x : S44) : Prop where
 a0 : 0 ≤ x.f0
 a1 : x.f0 ≤ MI
 b0 : 0 ≤ x.f1
 b1 : x.f1 ≤ MI
 c0 : 0 ≤ x.f2.f0
 c1 : x.f2.f0 ≤ 3
 d : Ok44 x
 e0 : 0 ≤ x.f3
 e1 : x.f3 ≤ 15
 f : x.f4 = 0
theorem rec_str (l pre post : List Int) (x : S44) (h : l = pre ++ recB x ++ post) (hx : Good44 x) : recS (strOfNums l) (some (pre.length : Int)) = some (x, (pre.length : Int) + ((recB x).length : Int)) := by
 have e0 := lstO_str l pre (uB (uw x.f0) ++ uB (uw x.f1) ++ uB (uw x.f2.f0) ++ sB x.f2.f1 ++ uB (uw x.f3) ++ post) 5 (by rw [h]; unfold recB; simp only [List.append_assoc]) (by omega) (by omega)
 have e1 := numO_str l (pre ++ ([64] ++ uB 5)) (uB (uw x.f1) ++ uB (uw x.f2.f0) ++ sB x.f2.f1 ++ uB (uw x.f3) ++ post) x.f0 MI (by rw [h]; unfold recB; simp only [List.append_assoc]) hx.a0 hx.a1 (by decide)
 have e2 := numO_str l (pre ++ ([64] ++ uB 5) ++ uB (uw x.f0)) (uB (uw x.f2.f0) ++ sB x.f2.f1 ++ uB (uw x.f3) ++ post) x.f1 MI (by rw [h]; unfold recB; simp only [List.append_assoc]) hx.b0 hx.b1 (by decide)
 have e3 := numO_str l (pre ++ ([64] ++ uB 5) ++ uB (uw x.f0) ++ uB (uw x.f1)) (sB x.f2.f1 ++ uB (uw x.f3) ++ post) x.f2.f0 3 (by rw [h]; unfold recB; simp only [List.append_assoc]) hx.c0 hx.c1 (by decide)
 have e4 := sS_str l (pre ++ ([64] ++ uB 5) ++ uB (uw x.f0) ++ uB (uw x.f1) ++ uB (uw x.f2.f0)) (uB (uw x.f3) ++ post) x.f2.f1 (by rw [h]; unfold recB; simp only [List.append_assoc]) hx.d.1 hx.d.2
 have e5 := numO_str l (pre ++ ([64] ++ uB 5) ++ uB (uw x.f0) ++ uB (uw x.f1) ++ uB (uw x.f2.f0) ++ sB x.f2.f1) post x.f3 15 (by rw [h]; unfold recB; simp only [List.append_assoc]) hx.e0 hx.e1 (by decide)
 have hl : ∀ (a b : List Int), ((a ++ b).length : Int) = (a.length : Int) + (b.length : Int) := fun a b => by rw [List.length_append]; omega
 rw [hl pre] at e1
 rw [hl _ (uB (uw x.f0)), hl pre] at e2
 rw [hl _ (uB (uw x.f1)), hl _ (uB (uw x.f0)), hl pre] at e3
 rw [hl _ (uB (uw x.f2.f0)), hl _ (uB (uw x.f1)), hl _ (uB (uw x.f0)), hl pre] at e4
 rw [hl _ (sB x.f2.f1), hl _ (uB (uw x.f2.f0)), hl _ (uB (uw x.f1)), hl _ (uB (uw x.f0)), hl pre] at e5
 have ht : ((recB x).length : Int) = (([64] ++ uB 5).length : Int) + ((uB (uw x.f0)).length : Int) + ((uB (uw x.f1)).length : Int) + ((uB (uw x.f2.f0)).length : Int) + ((sB x.f2.f1).length : Int) + ((uB (uw x.f3)).length : Int) := by
  unfold recB
  rw [hl, hl, hl, hl, hl]
 unfold recS
 rw [e0, e1, Option.bind_some]
 simp only []
 rw [e2, Option.bind_some]
 simp only []
 rw [e3, Option.bind_some]
 simp only []
 rw [e4, Option.bind_some]
 simp only []
 rw [e5, Option.bind_some, ht]
 obtain ⟨f0, f1, ⟨k, n⟩, f3, f4⟩ := x
 have hf : f4 = 0 := hx.f
 subst hf
 simp only [Int.add_assoc]
def Row44 (now : Int) : Int → Int → List S44 → Prop
 | _, _, [] => True
 | k, b, x :: xs => x.f0 = k ∧ b ≤ x.f1 ∧ x.f1 ≤ now ∧ Row44 now (k + 1) x.f1 xs
theorem loop_str (l : List Int) (total now n : Int) : ∀ (xs : List S44) (pre post : List Int) (i b : Int), l = pre ++ xs.flatMap recB ++ post → (∀ x ∈ xs, Good44 x) → Row44 now (total - n + 1 + i) b xs →
  loopS (strOfNums l) total now n xs.length i b (pre.length : Int) = some (xs, (pre.length : Int) + ((xs.flatMap recB).length : Int))
 | [], pre, post, i, b, h, hx, hr => by
  show some (([] : List S44), (pre.length : Int)) = _
  simp
 | x :: xs, pre, post, i, b, h, hx, hr => by
  obtain ⟨r0, r1, r2, r3⟩ := hr
  have e := rec_str l pre (xs.flatMap recB ++ post) x (by rw [h, List.flatMap_cons]; simp only [List.append_assoc]) (hx x (List.mem_cons_self ..))
  have ih := loop_str l total now n xs (pre ++ recB x) post (i + 1) x.f1 (by rw [h, List.flatMap_cons]; simp only [List.append_assoc]) (fun y hy => hx y (List.mem_cons_of_mem _ hy)) (by rw [show total - n + 1 + (i + 1) = total - n + 1 + i + 1 by omega]; exact r3)
  rw [List.length_append] at ih
  rw [show (((pre.length + (recB x).length : Nat)) : Int) = (pre.length : Int) + ((recB x).length : Int) by omega] at ih
  show (recS (strOfNums l) (some (pre.length : Int))).bind (fun x => if x.1.f0 = total - n + 1 + i ∧ b ≤ x.1.f1 ∧ x.1.f1 ≤ now then (loopS (strOfNums l) total now n xs.length (i + 1) x.1.f1 x.2).map fun r => (x.1 :: r.1, r.2) else none) = _
  rw [e, Option.bind_some]
  refine (if_pos ⟨r0, r1, r2⟩).trans ?_
  show (loopS (strOfNums l) total now n xs.length (i + 1) x.f1 ((pre.length : Int) + ((recB x).length : Int))).map _ = _
  rw [ih, Option.map_some, List.flatMap_cons, List.length_append]
  congr 2
  omega
theorem body_str (total now sz : Int) (xs : List S44) (t0 : 0 ≤ total) (t1 : total ≤ MI) (n0 : 0 ≤ now) (n1 : now ≤ MI) (hl : (xs.length : Int) = mn total sz) (hm : xs.length ≤ 65535) (hx : ∀ x ∈ xs, Good44 x) (hr : Row44 now (total - (xs.length : Int) + 1) 0 xs) :
  bodyS (strOfNums (bodyB total now xs)) sz = some (total, now, xs) := by
 obtain ⟨l, hL⟩ : ∃ l, bodyB total now xs = l := ⟨_, rfl⟩
 rw [hL]
 have h : l = ([64] ++ uB 3) ++ uB (uw total) ++ uB (uw now) ++ ([64] ++ uB (xs.length : Int)) ++ xs.flatMap recB := hL.symm
 have al : ∀ (a b : List Int), ((a ++ b).length : Int) = (a.length : Int) + (b.length : Int) := fun a b => by rw [List.length_append]; omega
 have e0 := lstO_str l [] (uB (uw total) ++ uB (uw now) ++ ([64] ++ uB (xs.length : Int)) ++ xs.flatMap recB) 3 (by rw [h]; simp only [List.append_assoc, List.nil_append]) (by omega) (by omega)
 have e1 := numO_str l ([] ++ ([64] ++ uB 3)) (uB (uw now) ++ ([64] ++ uB (xs.length : Int)) ++ xs.flatMap recB) total MI (by rw [h]; simp only [List.append_assoc, List.nil_append]) t0 t1 (by decide)
 have e2 := numO_str l ([] ++ ([64] ++ uB 3) ++ uB (uw total)) (([64] ++ uB (xs.length : Int)) ++ xs.flatMap recB) now MI (by rw [h]; simp only [List.append_assoc, List.nil_append]) n0 n1 (by decide)
 have e3 := lS_str l ([] ++ ([64] ++ uB 3) ++ uB (uw total) ++ uB (uw now)) (xs.flatMap recB) (xs.length : Int) (by rw [h]; simp only [List.append_assoc, List.nil_append]) (by omega) (by omega)
 have e4 := loop_str l total now (xs.length : Int) xs ([] ++ ([64] ++ uB 3) ++ uB (uw total) ++ uB (uw now) ++ ([64] ++ uB (xs.length : Int))) [] 0 0 (by rw [h]; simp only [List.append_assoc, List.nil_append, List.append_nil]) hx (by rw [Int.add_zero]; exact hr)
 have hz : ((strOfNums l).size : Int) = ((([] ++ ([64] ++ uB 3) ++ uB (uw total) ++ uB (uw now) ++ ([64] ++ uB (xs.length : Int)) : List Int)).length : Int) + ((xs.flatMap recB).length : Int) := by
  rw [strOfNums_size, h, ← al, List.nil_append]
 rw [← al [] ([64] ++ uB 3)] at e0
 rw [← al _ (uB (uw total))] at e1
 rw [← al _ (uB (uw now))] at e2
 rw [← al _ ([64] ++ uB (xs.length : Int))] at e3
 unfold bodyS
 rw [show (some (0 : Int)) = some ((([] : List Int).length : Int)) from rfl, e0, e1, Option.bind_some]
 simp only []
 rw [e2, Option.bind_some]
 simp only []
 rw [e3, Option.bind_some]
 simp only []
 rw [if_pos hl, Int.toNat_natCast, e4, Option.bind_some]
 exact if_pos hz.symm
theorem rest_str (total now sz : Int) (xs : List S44) (t0 : 0 ≤ total) (t1 : total ≤ MI) (n0 : 0 ≤ now) (n1 : now ≤ MI) (hl : (xs.length : Int) = mn total sz) (hm : xs.length ≤ 1040) (hx : ∀ x ∈ xs, Good44 x) (hr : Row44 now (total - (xs.length : Int) + 1) 0 xs) :
  restS (strOfNums (saveB total now xs)) sz = some (total, now, xs) := by
 have hb := body_str total now sz xs t0 t1 n0 n1 hl (by omega) hx hr
 have hz : (strOfNums (bodyB total now xs)).size ≤ 65535 := by
  rw [strOfNums_size]
  have h1 := uB_len 3
  have h2 := uB_len (uw total)
  have h3 := uB_len (uw now)
  have h4 := uB_len (xs.length : Int)
  have h5 := recs_len xs (fun x h => (hx x h).d)
  unfold bodyB
  simp only [List.length_append, List.length_cons, List.length_nil]
  omega
 obtain ⟨y, hy⟩ : ∃ y, strOfNums (bodyB total now xs) = y := ⟨_, rfl⟩
 obtain ⟨l, hL⟩ : ∃ l, saveB total now xs = l := ⟨_, rfl⟩
 rw [hL]
 have h : l = ([64] ++ uB 2) ++ textB (digB y) ++ textB y := by rw [← hL, ← hy]; rfl
 rw [hy] at hz hb
 have al : ∀ (a b : List Int), ((a ++ b).length : Int) = (a.length : Int) + (b.length : Int) := fun a b => by rw [List.length_append]; omega
 have e0 := lstO_str l [] (textB (digB y) ++ textB y) 2 (by rw [h]; simp only [List.append_assoc, List.nil_append]) (by omega) (by omega)
 have e1 := tS_str l ([] ++ ([64] ++ uB 2)) (textB y) (digB y) (by rw [h]; simp only [textB, List.append_assoc, List.nil_append]) (by rw [digB_size]; omega)
 have e2 := tS_str l ([] ++ ([64] ++ uB 2) ++ textB (digB y)) [] y (by rw [h]; simp only [textB, List.append_assoc, List.nil_append, List.append_nil]) hz
 have hsz : ((strOfNums l).size : Int) = ((([] ++ ([64] ++ uB 2) ++ textB (digB y) ++ textB y : List Int)).length : Int) := by
  rw [strOfNums_size, h, List.nil_append]
 rw [← al [] ([64] ++ uB 2)] at e0
 rw [← al _ ([48] ++ uB ((digB y).size : Int) ++ bytesOf (digB y))] at e1
 rw [← al _ ([48] ++ uB (y.size : Int) ++ bytesOf y)] at e2
 unfold restS
 rw [show (some (0 : Int)) = some ((([] : List Int).length : Int)) from rfl, e0, Option.bind_some, e1, Option.bind_some]
 simp only []
 refine (congrArg (fun o : Option (ByteArray × Int) => o.bind _) e2).trans ?_
 rw [Option.bind_some]
 refine (if_pos ⟨hsz.symm, rfl⟩).trans hb
end Go.Proofs.YtbccjcdmpiolpaaDoor.T
end
section
namespace Go.Proofs.YtbccjcdmpiolpaaDoor.T
open Go.RowKit Go.Proofs.YtbccjcdmpiolpaaDoorW.PrintWords Go.Proofs.YtbccjcdmpiolpaaDoorW.PrintLast Go.Proofs.YtbccjcdmpiolpaaDoorW.PrintMore
set_option linter.unusedVariables false
set_option linter.unusedSimpArgs false
theorem Hist.same {L M : Lg} {H : List S44} (h : Hist L H) (h1 : M.total = L.total) (h2 : M.recs = L.recs) (h3 : M.sz = L.sz) (h4 : L.now ≤ M.now) : Hist M H :=
 ⟨by rw [h1]; exact h.len, by rw [h2, h3]; exact h.recs, h.num, h.asc, fun i hi => Int.le_trans (h.now i hi) h4⟩
theorem Hist.one {L : Lg} {H : List S44} (h : Hist L H) (ok : OkL L) {a : Int} (ha : a = L.now) : Hist (L.record a) (H ++ [L.rec1 a]) := by
 refine Hist.app (b := 0) h ?_ ?_ (Int.le_refl _) ?_ ?_ ?_ ?_
 ·rfl
 ·rw [record_recs L a ok.s0 ok.len, h.recs, lastN_app]
  rfl
 ·intro i hi
  have : i = 0 := by simp at hi; omega
  subst this
  exact ⟨by show L.total + 1 = L.total + 1 + 0; omega, rfl⟩
 ·intro i hi
  simp at hi
 ·intro i hi
  have : i = 0 := by simp at hi; omega
  subst this
  exact Or.inl (by show L.now ≤ a; omega)
 ·intro i hi
  have : i = 0 := by simp at hi; omega
  subst this
  show a ≤ L.now
  omega
def passN (L : Lg) (u : Int) : List S44 := if L.way = 1 ∧ L.valid = true then news L.total (L.now / L.iv + 1) L.iv L.vk L.vn L.q (u / L.iv - L.now / L.iv).toNat else []
theorem hist_pass {L : Lg} {H : List S44} {u : Int} (h : Hist L H) (ok : OkL L) (hu : L.now ≤ u ∧ u ≤ 10000000000) : Hist (L.pass u).1 (H ++ passN L u) ∧ ((passN L u).length : Int) = (L.pass u).2 := by
 have po := pass_ok ok hu
 by_cases k : L.way = 1 ∧ L.valid = true
 ·have hN : passN L u = news L.total (L.now / L.iv + 1) L.iv L.vk L.vn L.q (u / L.iv - L.now / L.iv).toNat := if_pos k
  have hiv := ok.iv k.1
  have hq : 0 ≤ L.now / L.iv := Int.ediv_nonneg ok.n0 (by omega)
  have hq2 : L.now / L.iv ≤ u / L.iv := Int.ediv_le_ediv (by omega) hu.1
  have e : L.pass u = ({ L with now := u, total := L.total + mx 0 (u / L.iv - L.now / L.iv - L.sz) }.run (L.now / L.iv + mx 0 (u / L.iv - L.now / L.iv - L.sz) + 1) (u / L.iv - L.now / L.iv - mx 0 (u / L.iv - L.now / L.iv - L.sz)).toNat, u / L.iv - L.now / L.iv) := if_pos k
  have hs := ok.s0
  obtain ⟨q0, hq0⟩ : ∃ q, L.now / L.iv = q := ⟨_, rfl⟩
  obtain ⟨q1, hq1⟩ : ∃ q, u / L.iv = q := ⟨_, rfl⟩
  rw [hq0, hq1] at e hN hq2
  rw [hq0] at hq
  obtain ⟨sk, hsk⟩ : ∃ s, mx 0 (q1 - q0 - L.sz) = s := ⟨_, rfl⟩
  have hsk2 : (sk = 0 ∧ q1 - q0 ≤ L.sz) ∨ (sk = q1 - q0 - L.sz ∧ 0 < sk) := by unfold mx at hsk; split at hsk <;> omega
  rw [hsk] at e
  have hlen : ((passN L u).length : Int) = q1 - q0 := by rw [hN, news_len]; omega
  have h2 : (L.pass u).2 = q1 - q0 := by rw [e]
  refine ⟨Hist.app (b := 0) h ?_ ?_ ?_ ?_ ?_ ?_ ?_, by rw [hlen, h2]⟩
  ·rw [po.tot, h2, hlen]
  ·rw [po.same.sz, e, hN]
   show (Lg.run _ _ _).recs = _
   have hr := run_recs { L with now := u, total := L.total + sk } (q0 + sk + 1) hs ok.len (q1 - q0 - sk).toNat
   refine hr.trans ?_
   show lastN L.sz.toNat (L.recs ++ news (L.total + sk) (q0 + sk + 1) L.iv L.vk L.vn L.q (q1 - q0 - sk).toNat) = _
   rw [h.recs, lastN_app]
   rcases hsk2 with ⟨h0, h1⟩ | ⟨h0, h1⟩
   ·subst h0
    rw [Int.add_zero, Int.add_zero, Int.sub_zero]
   ·have l1 : (q1 - q0 - sk).toNat = L.sz.toNat := by omega
    have l2 : L.sz.toNat ≤ (q1 - q0).toNat := by omega
    refine (lastN_ge L.sz.toNat H (news (L.total + sk) (q0 + sk + 1) L.iv L.vk L.vn L.q (q1 - q0 - sk).toNat) (by rw [news_len]; omega)).trans ?_
    refine Eq.trans ?_ (lastN_ge L.sz.toNat H (news L.total (q0 + 1) L.iv L.vk L.vn L.q (q1 - q0).toNat) (by rw [news_len]; exact l2)).symm
    rw [lastN_all L.sz.toNat (news (L.total + sk) (q0 + sk + 1) L.iv L.vk L.vn L.q (q1 - q0 - sk).toNat) (by rw [news_len]; omega)]
    unfold lastN
    rw [news_len, news_drop _ _ _ _ _ _ _ _ (by omega)]
    have e1 : (((q1 - q0).toNat - L.sz.toNat : Nat) : Int) = sk := by omega
    rw [e1, show (q1 - q0 - sk).toNat = (q1 - q0).toNat - ((q1 - q0).toNat - L.sz.toNat) by omega, show q0 + 1 + sk = q0 + sk + 1 by omega]
  ·rw [po.same.now]
   exact hu.1
  ·rw [hN]
   intro i hi
   rw [news_get]
   exact ⟨rfl, rfl⟩
  ·rw [hN]
   intro i hi
   rw [news_get, news_get]
   show (q0 + 1 + (i : Int)) * L.iv ≤ (q0 + 1 + ((i + 1 : Nat) : Int)) * L.iv
   exact Int.mul_le_mul_of_nonneg_right (by omega) (by omega)
  ·rw [hN]
   intro i hi
   rw [news_get]
   refine Or.inl ?_
   show L.now ≤ (q0 + 1 + (i : Int)) * L.iv
   have h3 := Int.lt_ediv_add_one_mul_self L.now (show 0 < L.iv by omega)
   rw [hq0] at h3
   have h4 : (q0 + 1) * L.iv ≤ (q0 + 1 + (i : Int)) * L.iv := Int.mul_le_mul_of_nonneg_right (by omega) (by omega)
   omega
  ·rw [hN, po.same.now]
   intro i hi
   rw [news_get]
   rw [news_len] at hi
   show (q0 + 1 + (i : Int)) * L.iv ≤ u
   have h3 := Int.ediv_mul_le u (show L.iv ≠ 0 by omega)
   rw [hq1] at h3
   have h4 : (q0 + 1 + (i : Int)) * L.iv ≤ q1 * L.iv := Int.mul_le_mul_of_nonneg_right (by omega) (by omega)
   omega
 ·have hN : passN L u = [] := if_neg k
  have e : L.pass u = ({ L with now := u }, 0) := if_neg k
  rw [hN, List.append_nil, e]
  exact ⟨h.same rfl rfl rfl hu.1, rfl⟩
theorem ok_pass {L : Lg} {u : Int} (ok : OkL L) (hu : L.now ≤ u ∧ u ≤ 10000000000) (ht : L.total + (L.pass u).2 ≤ 100000000000000) : OkL (L.pass u).1 := by
 have po := pass_ok ok hu
 have h0 := ok.n0
 have h1 := ok.t0
 have h2 := po.n0
 exact ⟨by rw [po.same.now]; show 0 ≤ u; omega, by rw [po.same.now]; exact hu.2, by rw [po.tot]; omega, by rw [po.tot]; exact ht, by rw [po.same.sz]; exact ok.s0, by rw [po.same.sz]; exact ok.s1, by rw [po.same.sz]; exact po.len, by rw [po.same.way, po.same.iv]; exact ok.iv⟩
theorem ok_record {L : Lg} {a : Int} (ok : OkL L) (ht : L.total + 1 ≤ 100000000000000) : OkL (L.record a) :=
 ⟨ok.n0, ok.n1, by show 0 ≤ L.total + 1; have := ok.t0; omega, ht, ok.s0, ok.s1, record_len L a ok.len ok.s0, ok.iv⟩
theorem ok_got {L : Lg} {k n q a : Int} (ok : OkL L) (ha : 0 ≤ a ∧ a ≤ 10000000000) : OkL (L.got k n q a) := ⟨ha.1, ha.2, ok.t0, ok.t1, ok.s0, ok.s1, ok.len, ok.iv⟩
def obsN (L : Lg) (k n q a : Int) (d : Bool) : List S44 := if a ≤ L.now then [] else if (L.way = 1 ∧ a % L.iv = 0) ∨ (L.way = 2 ∧ d = true) then passN L (a - 1) ++ [((L.pass (a - 1)).1.got k n q a).rec1 a] else passN L (a - 1)
end Go.Proofs.YtbccjcdmpiolpaaDoor.T
end
section
namespace Go.Proofs.YtbccjcdmpiolpaaDoor.T
open Go.RowKit Go.Proofs.YtbccjcdmpiolpaaDoorW.PrintWords Go.Proofs.YtbccjcdmpiolpaaDoorW.PrintLast Go.Proofs.YtbccjcdmpiolpaaDoorW.PrintMore
set_option linter.unusedVariables false
set_option linter.unusedSimpArgs false
attribute [local go_sem] max2_int min2_int max_two min_two
set_option maxHeartbeats 16000000 in
set_option maxRecDepth 100000 in
theorem obs_calls (B g : Nat) (L0 : Lg) (vk vn vq va : Int) (w : World) (h : LogAt B g L0 w) (hBS : B ≤ w.heap.size) (hok : OkL L0) (hu : va ≤ 10000000000) :
  Calls Tryd.prog 15 #[.pointer (some ⟨g, 0, none⟩), .agg #[.int .i64 vk, .int .i64 vn, .int .i64 vq, .int .i64 va]] w fun e w' => ObsPost B g w L0 vk vn vq va e w' := by
 have HI := Aside0.mk h
 have HBS := Aside0.mk hBS
 have HOK := Aside0.mk hok
 obtain ⟨v0, ring, f, hG, hge, _⟩ := h
 obtain ⟨fi, HFI⟩ : ∃ fi : Int, Aside0 (((f : Nat) : Int) = fi) := ⟨_, ⟨rfl⟩⟩
 rw [HFI.out] at hG
 obtain ⟨now, HNOW⟩ : ∃ now, Aside0 (L0.now = now) := ⟨_, ⟨rfl⟩⟩
 rw [HNOW.out] at hG
 have HG := Aside0.mk hG
 have HGE := Aside0.mk hge
 clear hG hge hok hBS
 by_cases k : va ≤ now
 ·have hb : decide (va ≤ now) = true := decide_eq_true k
  have HT := Aside0.mk (show ∀ d, L0.obs vk vn vq va d = (L0, 0, 15) from fun d => if_pos (by rw [HNOW.out]; exact k))
  clear k
  go_enter Tryd.func15, Tryd.ntmps15
  go_wp2_with ((with_reducible refine gate_dst (N := 3) rfl ?_); refine box_event ?hg (N := 3) ?hd (cs := #[.int .i64 vk, .int .i64 vn, .int .i64 vq, .int .i64 va]) (t := 32) ?hr ?_; (case hd => rfl); (case hg => rfl); (case hr => first | (go_simp; done) | (go_simp; rfl)); intro gx hgx w1 hbox hb; have HX1 := Aside0.mk hbox; have HI1 := Aside0.mk (HI.out.below hb); have HG1 := Aside0.mk (blk_below HG.out hb); have HB1 := Aside0.mk (hb.mono HBS.out); have HK1 := Aside0.mk (KeepL.of_below hb g); have HGX := Aside0.mk (show w.heap.size ≤ gx by rw [hgx]; exact Nat.le_refl _); have HNX := Aside0.mk (show gx ≠ g by have := HI.out.lt; have := HGX.out; omega); clear hb hbox hgx)
  have x3 := (blk_cell HX1.out 3).trans rfl
  have c6 := (blk_cell HG1.out 6).trans rfl
  have HI2 := Aside0.mk HI1.out.drew
  have HG2 := Aside0.mk (blk_drew HG1.out)
  have HX2 := Aside0.mk (blk_drew HX1.out)
  have HB2 := Aside0.mk (below_drew1 HB1.out)
  have HK2 := Aside0.mk HK1.out.drew
  refine start_ (n := 7) (S := fun w' => w'.cell? ⟨gx, 3, none⟩ = some (.int .i64 va) ∧ w'.cell? ⟨g, 6, none⟩ = some (.int .i64 now)) (ds := []) #[Yn, Yn, Yn, Yn, Yn, Yn, Yn] (by kernel_rfl) rfl rfl ⟨x3, c6⟩ (fun hHeld => ?_)
  generalize w1.drew = w2 at HI2 HG2 HX2 HB2 HK2 hHeld ⊢
  refine pure_ (i := 0) (N := some 7) (v := ?_) (a' := ?_) (Bz 7 0x1) rfl rfl (by kernel_rfl) (fun _ _ _ h => h) (Or.inl ⟨by rfl, ?_⟩) ?_ ?_
  rotate_left
  ·intro w'; go_simp; with_reducible rfl
  rotate_left; ·simp only [Act.put, Z1, Z2, Z3, i64_w, i32_w]; rfl
  refine pure_ (i := 2) (N := some 9) (v := ?_) (a' := ?_) (Bz 7 0x5) rfl rfl (by kernel_rfl) (fun _ _ _ h => h) (Or.inl ⟨by rfl, ?_⟩) ?_ ?_
  rotate_left
  ·intro w'; go_simp; with_reducible rfl
  rotate_left; ·simp only [Act.put, Z1, Z2, Z3, i64_w, i32_w]; rfl
  refine pure_ (i := 3) (N := some 10) (v := ?_) (a' := ?_) (Bz 7 0xd) rfl rfl (by kernel_rfl) (fun _ _ _ h => h) (Or.inl ⟨by rfl, ?_⟩) ?_ ?_
  rotate_left
  ·intro w'; go_simp; with_reducible rfl
  rotate_left; ·simp only [Act.put, Z1, Z2, Z3, i64_w, i32_w]; rfl
  refine pure_ (i := 4) (N := some 11) (v := ?_) (a' := ?_) (Bz 7 0x1d) rfl rfl (by kernel_rfl) (fun _ _ _ h => h) (Or.inl ⟨by rfl, ?_⟩) ?_ ?_
  rotate_left
  ·intro w'; go_simp; with_reducible rfl
  rotate_left; ·simp only [Act.put, Z1, Z2, Z3, i64_w, i32_w]; rfl
  refine take_ (i := 1) (N := some 8) (v := ?_) (a' := ?_) (Bz 7 0x1f) rfl rfl (by kernel_rfl) (fun _ _ _ h => h) (Or.inl ⟨by rfl, ?_⟩) hHeld ?_ ?_
  rotate_left
  ·rintro w' ⟨s0, s1⟩; go_simp; with_reducible rfl
  rotate_left; ·simp only [Act.put, Z1, Z2, Z3, i64_w, i32_w]; rfl
  refine take_ (i := 5) (N := some 12) (v := ?_) (a' := ?_) (Bz 7 0x3f) rfl rfl (by kernel_rfl) (fun _ _ _ h => h) (Or.inl ⟨by rfl, ?_⟩) hHeld ?_ ?_
  rotate_left
  ·rintro w' ⟨s0, s1⟩; go_simp; with_reducible rfl
  rotate_left; ·simp only [Act.put, Z1, Z2, Z3, i64_w, i32_w]; rfl
  refine pure_ (i := 6) (N := some 13) (v := ?_) (a' := ?_) (Bz 7 0x7f) rfl rfl (by kernel_rfl) (fun _ _ _ h => h) (Or.inl ⟨by rfl, ?_⟩) ?_ ?_
  rotate_left
  ·intro w'; go_simp; with_reducible rfl
  rotate_left; ·simp only [Act.put, Z1, Z2, Z3, i64_w, i32_w]; rfl
  refine done_ (by kernel_rfl) ?_
  go_wp2
  go_ret2
  exact ⟨false, by rw [HT.out]; exact ⟨rfl, HI2.out, HB2.out, HK2.out⟩⟩
 ·have hb : decide (va ≤ now) = false := decide_eq_false k
  have HU := Aside0.mk (show L0.now ≤ va - 1 ∧ va - 1 ≤ 10000000000 by rw [HNOW.out]; omega)
  have HPO := Aside0.mk (pass_ok HOK.out HU.out)
  obtain ⟨res, HRES0⟩ : ∃ r, Aside0 (L0.pass (va - 1) = r) := ⟨_, ⟨rfl⟩⟩
  obtain ⟨M1, n1⟩ := res
  have HRES := Aside0.mk (show L0.pass (va - 1) = (M1, n1) from HRES0.out)
  clear HRES0
  have HSAME := Aside0.mk (show SameBut { L0 with now := va - 1 } M1 by have := HPO.out.same; rw [HRES.out] at this; exact this)
  have HTOT1 := Aside0.mk (show M1.total = L0.total + n1 by have := HPO.out.tot; rw [HRES.out] at this; exact this)
  have HN1 := Aside0.mk (show 0 ≤ n1 ∧ n1 ≤ 10000000000 by have := HPO.out.n0; rw [HRES.out] at this; exact this)
  have HLEN1 := Aside0.mk (show (M1.recs.length : Int) ≤ L0.sz by have := HPO.out.len; rw [HRES.out] at this; exact this)
  have HTOT := Aside0.mk (show 0 ≤ (M1.got vk vn vq va).total ∧ (M1.got vk vn vq va).total ≤ 1000000000000000 by show 0 ≤ M1.total ∧ M1.total ≤ _; rw [HTOT1.out]; have h1 := HN1.out; have h2 := HOK.out.t0; have h3 := HOK.out.t1; omega)
  have HSZ := Aside0.mk (show 1 ≤ (M1.got vk vn vq va).sz by show 1 ≤ M1.sz; rw [HSAME.out.sz]; exact HOK.out.s0)
  have HLEN := Aside0.mk (show (M1.got vk vn vq va).recs.length ≤ 1000000 by show M1.recs.length ≤ _; have h1 := HLEN1.out; have h2 := HOK.out.s1; omega)
  have hva : wrap64 (va - 1) = va - 1 := wrap_id (by have := HU.out; have := HOK.out.n0; omega) (by have := HU.out; omega)
  have hn1 : wrap64 (n1 + 1) = n1 + 1 := wrap_id (by have := HN1.out; omega) (by have := HN1.out; omega)
  have HVA := Aside0.mk (show 0 ≤ va by have h1 := HU.out; have h2 := HOK.out.n0; omega)
  clear k hu
  go_enter Tryd.func15, Tryd.ntmps15
  go_wp2_with ((with_reducible refine gate_dst (N := 3) rfl ?_); refine box_event ?hg (N := 3) ?hd (cs := #[.int .i64 vk, .int .i64 vn, .int .i64 vq, .int .i64 va]) (t := 32) ?hr ?_; (case hd => rfl); (case hg => rfl); (case hr => first | (go_simp; done) | (go_simp; rfl)); intro gx hgx w1 hbox hb; have HX1 := Aside0.mk hbox; have HI1 := Aside0.mk (HI.out.below hb); have HG1 := Aside0.mk (blk_below HG.out hb); have HB1 := Aside0.mk (hb.mono HBS.out); have HK1 := Aside0.mk (KeepL.of_below hb g); have HGX := Aside0.mk (show w.heap.size ≤ gx by rw [hgx]; exact Nat.le_refl _); have HNX := Aside0.mk (show gx ≠ g by have := HI.out.lt; have := HGX.out; omega); clear hb hbox hgx)
  have x3 := (blk_cell HX1.out 3).trans rfl
  have c6 := (blk_cell HG1.out 6).trans rfl
  have HI2 := Aside0.mk HI1.out.drew
  have HG2 := Aside0.mk (blk_drew HG1.out)
  have HX2 := Aside0.mk (blk_drew HX1.out)
  have HB2 := Aside0.mk (below_drew1 HB1.out)
  have HK2 := Aside0.mk HK1.out.drew
  refine start_ (n := 7) (S := fun w' => w'.cell? ⟨gx, 3, none⟩ = some (.int .i64 va) ∧ w'.cell? ⟨g, 6, none⟩ = some (.int .i64 now)) (ds := []) #[Yn, Yn, Yn, Yn, Yn, Yn, Yn] (by kernel_rfl) rfl rfl ⟨x3, c6⟩ (fun hHeld => ?_)
  generalize w1.drew = w2 at HI2 HG2 HX2 HB2 HK2 hHeld ⊢
  refine pure_ (i := 0) (N := some 7) (v := ?_) (a' := ?_) (Bz 7 0x1) rfl rfl (by kernel_rfl) (fun _ _ _ h => h) (Or.inl ⟨by rfl, ?_⟩) ?_ ?_
  rotate_left
  ·intro w'; go_simp; with_reducible rfl
  rotate_left; ·simp only [Act.put, Z1, Z2, Z3, i64_w, i32_w]; rfl
  refine pure_ (i := 2) (N := some 9) (v := ?_) (a' := ?_) (Bz 7 0x5) rfl rfl (by kernel_rfl) (fun _ _ _ h => h) (Or.inl ⟨by rfl, ?_⟩) ?_ ?_
  rotate_left
  ·intro w'; go_simp; with_reducible rfl
  rotate_left; ·simp only [Act.put, Z1, Z2, Z3, i64_w, i32_w]; rfl
  refine pure_ (i := 3) (N := some 10) (v := ?_) (a' := ?_) (Bz 7 0xd) rfl rfl (by kernel_rfl) (fun _ _ _ h => h) (Or.inl ⟨by rfl, ?_⟩) ?_ ?_
  rotate_left
  ·intro w'; go_simp; with_reducible rfl
  rotate_left; ·simp only [Act.put, Z1, Z2, Z3, i64_w, i32_w]; rfl
  refine pure_ (i := 4) (N := some 11) (v := ?_) (a' := ?_) (Bz 7 0x1d) rfl rfl (by kernel_rfl) (fun _ _ _ h => h) (Or.inl ⟨by rfl, ?_⟩) ?_ ?_
  rotate_left
  ·intro w'; go_simp; with_reducible rfl
  rotate_left; ·simp only [Act.put, Z1, Z2, Z3, i64_w, i32_w]; rfl
  refine take_ (i := 1) (N := some 8) (v := ?_) (a' := ?_) (Bz 7 0x1f) rfl rfl (by kernel_rfl) (fun _ _ _ h => h) (Or.inl ⟨by rfl, ?_⟩) hHeld ?_ ?_
  rotate_left
  ·rintro w' ⟨s0, s1⟩; go_simp; with_reducible rfl
  rotate_left; ·simp only [Act.put, Z1, Z2, Z3, i64_w, i32_w]; rfl
  refine take_ (i := 5) (N := some 12) (v := ?_) (a' := ?_) (Bz 7 0x3f) rfl rfl (by kernel_rfl) (fun _ _ _ h => h) (Or.inl ⟨by rfl, ?_⟩) hHeld ?_ ?_
  rotate_left
  ·rintro w' ⟨s0, s1⟩; go_simp; with_reducible rfl
  rotate_left; ·simp only [Act.put, Z1, Z2, Z3, i64_w, i32_w]; rfl
  refine pure_ (i := 6) (N := some 13) (v := ?_) (a' := ?_) (Bz 7 0x7f) rfl rfl (by kernel_rfl) (fun _ _ _ h => h) (Or.inl ⟨by rfl, ?_⟩) ?_ ?_
  rotate_left
  ·intro w'; go_simp; with_reducible rfl
  rotate_left; ·simp only [Act.put, Z1, Z2, Z3, i64_w, i32_w]; rfl
  refine done_ (by kernel_rfl) ?_
  clear x3 c6 hHeld
  have x3 := (blk_cell HX2.out 3).trans rfl
  go_wp2_with (go_at_call 26; (with_reducible refine (pass_calls B g L0 (va - 1) _ HI2.out (Nat.le_trans HBS.out HK2.out.size) HOK.out HU.out).mono ?_); rintro e w3 ⟨he, hi, hb, hk⟩; rw [HRES.out] at he hi; replace he : e = .returned (.int .i64 n1) := he; subst he; replace hi : LogAt B g M1 w3 := hi; have HI3 := Aside0.mk hi; have HB3 := Aside0.mk (HB2.out.trans hb); have HK3 := Aside0.mk (HK2.out.trans hk); have HX3 := Aside0.mk (hk.keep _ _ _ HX2.out (by decide) HNX.out); clear hi hb hk)
  clear x3
  obtain ⟨v3, r3, f3, hG3, _⟩ := HI3.out
  have HG3 := Aside0.mk hG3
  clear hG3
  have x0 := (blk_cell HX3.out 0).trans rfl
  have x1 := (blk_cell HX3.out 1).trans rfl
  have x2 := (blk_cell HX3.out 2).trans rfl
  have x3 := (blk_cell HX3.out 3).trans rfl
  have f7 := blk_frozen HG3.out 7
  have c7 := (blk_cell HG3.out 7).trans rfl
  have HI4 := Aside0.mk HI3.out.drew
  have HX4 := Aside0.mk (blk_drew HX3.out)
  have HB4 := Aside0.mk (below_drew1 HB3.out)
  have HK4 := Aside0.mk HK3.out.drew
  have HG4 := Aside0.mk (blk_drew HG3.out)
  refine start_ (n := 15) (S := fun w' => w'.cell? ⟨gx, 0, none⟩ = some (.int .i64 vk) ∧ w'.cell? ⟨gx, 1, none⟩ = some (.int .i64 vn) ∧ w'.cell? ⟨gx, 2, none⟩ = some (.int .i64 vq) ∧ w'.cell? ⟨gx, 3, none⟩ = some (.int .i64 va)) (ds := [14]) #[Yn, Yn, Yn, Yn, Yn, Yn, Yn, Yn, Yn, Yn, Yn, Yn, Yn, Yn, Yn] (by kernel_rfl) rfl rfl ⟨x0, x1, x2, x3⟩ (fun hHeld => ?_)
  generalize w3.drew = w4 at HI4 HX4 HB4 HK4 HG4 hHeld ⊢
  refine pure_ (i := 0) (N := some 19) (v := ?_) (a' := ?_) (Bz 15 0x1) rfl rfl (by kernel_rfl) (fun _ _ _ h => h) (Or.inl ⟨by rfl, ?_⟩) ?_ ?_
  rotate_left
  ·intro w'; go_simp; with_reducible rfl
  rotate_left; ·simp only [Act.put, Z1, Z2, Z3, i64_w, i32_w]; rfl
  refine pure_ (i := 1) (N := some 20) (v := ?_) (a' := ?_) (Bz 15 0x3) rfl rfl (by kernel_rfl) (fun _ _ _ h => h) (Or.inl ⟨by rfl, ?_⟩) ?_ ?_
  rotate_left
  ·intro w'; go_simp; with_reducible rfl
  rotate_left; ·simp only [Act.put, Z1, Z2, Z3, i64_w, i32_w]; rfl
  refine pure_ (i := 2) (N := some 21) (v := ?_) (a' := ?_) (Bz 15 0x7) rfl rfl (by kernel_rfl) (fun _ _ _ h => h) (Or.inl ⟨by rfl, ?_⟩) ?_ ?_
  rotate_left
  ·intro w'; go_simp; with_reducible rfl
  rotate_left; ·simp only [Act.put, Z1, Z2, Z3, i64_w, i32_w]; rfl
  refine pure_ (i := 4) (N := some 23) (v := ?_) (a' := ?_) (Bz 15 0x17) rfl rfl (by kernel_rfl) (fun _ _ _ h => h) (Or.inl ⟨by rfl, ?_⟩) ?_ ?_
  rotate_left
  ·intro w'; go_simp; with_reducible rfl
  rotate_left; ·simp only [Act.put, Z1, Z2, Z3, i64_w, i32_w]; rfl
  refine pure_ (i := 6) (N := some 25) (v := ?_) (a' := ?_) (Bz 15 0x57) rfl rfl (by kernel_rfl) (fun _ _ _ h => h) (Or.inl ⟨by rfl, ?_⟩) ?_ ?_
  rotate_left
  ·intro w'; go_simp; with_reducible rfl
  rotate_left; ·simp only [Act.put, Z1, Z2, Z3, i64_w, i32_w]; rfl
  refine pure_ (i := 7) (N := some 26) (v := ?_) (a' := ?_) (Bz 15 0xd7) rfl rfl (by kernel_rfl) (fun _ _ _ h => h) (Or.inl ⟨by rfl, ?_⟩) ?_ ?_
  rotate_left
  ·intro w'; go_simp; with_reducible rfl
  rotate_left; ·simp only [Act.put, Z1, Z2, Z3, i64_w, i32_w]; rfl
  refine take_ (i := 3) (N := some 22) (v := ?_) (a' := ?_) (Bz 15 0xdf) rfl rfl (by kernel_rfl) (fun _ _ _ h => h) (Or.inl ⟨by rfl, ?_⟩) hHeld ?_ ?_
  rotate_left
  ·rintro w' ⟨s0, s1, s2, s3⟩; go_simp; with_reducible rfl
  rotate_left; ·simp only [Act.put, Z1, Z2, Z3, i64_w, i32_w]; rfl
  refine take_ (i := 5) (N := some 24) (v := ?_) (a' := ?_) (Bz 15 0xff) rfl rfl (by kernel_rfl) (fun _ _ _ h => h) (Or.inl ⟨by rfl, ?_⟩) hHeld ?_ ?_
  rotate_left
  ·rintro w' ⟨s0, s1, s2, s3⟩; go_simp; with_reducible rfl
  rotate_left; ·simp only [Act.put, Z1, Z2, Z3, i64_w, i32_w]; rfl
  have f7 := blk_frozen HG4.out 7
  have c7 := (blk_cell HG4.out 7).trans rfl
  have HP1 := Aside0.mk (blk_put HG4.out 7 (.bool true) rfl)
  have HX5 := Aside0.mk (blk_far (blk_far (blk_far (blk_far (blk_far HX4.out (p := ⟨g, 7, none⟩) HNX.out (.bool true)) (p := ⟨g, 8, none⟩) HNX.out (.int .i64 vk)) (p := ⟨g, 9, none⟩) HNX.out (.int .i64 vn)) (p := ⟨g, 10, none⟩) HNX.out (.int .i64 vq)) (p := ⟨g, 11, none⟩) HNX.out (.int .i64 va))
  have HP5 := Aside0.mk (blk_put (blk_put (blk_put (blk_put HP1.out 8 (.int .i64 vk) rfl) 9 (.int .i64 vn) rfl) 10 (.int .i64 vq) rfl) 11 (.int .i64 va) rfl)
  have f6 := blk_frozen HP5.out 6
  have c6 := (blk_cell HP5.out 6).trans rfl
  refine one_ (i := 8) (N := none) #[Y, Y, Y, Y, Y, Y, Y, Y, Y, Yn, Yn, Yn, Yn, Yn, Yn] rfl rfl (by kernel_rfl) (by decide) (fun K hK => ?_)
  refine skip_ (w1 := ?_) (by rfl) rfl ?_ ?_
  rotate_left
  ·go_simp
   rfl
  refine hK.out _ _ ⟨(blk_cell (blk_far HX4.out (p := ⟨g, 7, none⟩) HNX.out (.bool true)) 0).trans rfl, (blk_cell (blk_far HX4.out (p := ⟨g, 7, none⟩) HNX.out (.bool true)) 1).trans rfl, (blk_cell (blk_far HX4.out (p := ⟨g, 7, none⟩) HNX.out (.bool true)) 2).trans rfl, (blk_cell (blk_far HX4.out (p := ⟨g, 7, none⟩) HNX.out (.bool true)) 3).trans rfl⟩ (fun hHeld => ?_)
  clear hK K
  refine pure_ (i := 9) (N := some 27) (v := ?_) (a' := ?_) (Bz 15 0x3ff) rfl rfl (by kernel_rfl) (fun _ _ _ h => h) (Or.inl ⟨by rfl, ?_⟩) ?_ ?_
  rotate_left
  ·intro w'; go_simp; with_reducible rfl
  rotate_left; ·simp only [Act.put, Z1, Z2, Z3, i64_w, i32_w]; rfl
  refine pure_ (i := 10) (N := some 28) (v := ?_) (a' := ?_) (Bz 15 0x7ff) rfl rfl (by kernel_rfl) (fun _ _ _ h => h) (Or.inl ⟨by rfl, ?_⟩) ?_ ?_
  rotate_left
  ·intro w'; go_simp; with_reducible rfl
  rotate_left; ·simp only [Act.put, Z1, Z2, Z3, i64_w, i32_w]; rfl
  refine one_ (i := 11) (N := none) #[Y, Y, Y, Y, Y, Y, Y, Y, Y, Y, Y, Y, Yn, Yn, Yn] rfl rfl (by kernel_rfl) (by decide) (fun K hK => ?_)
  refine step_store_mid (by rfl) rfl 32 (.tmp 28) (.tmp 22) rfl g 8 #[.int .i64 vk, .int .i64 vn, .int .i64 vq, .int .i64 va] rfl rfl (there_blk HP1.out 8 4 (by show 8 + 4 ≤ 15; decide)) (by kernel_rfl) (by simp [Value.oneCell']) ?_
  show K _ ((((( w4.setCell ⟨g, 7, none⟩ (.bool true)).setCell ⟨g, 8, none⟩ (.int .i64 vk)).setCell ⟨g, 9, none⟩ (.int .i64 vn)).setCell ⟨g, 10, none⟩ (.int .i64 vq)).setCell ⟨g, 11, none⟩ (.int .i64 va))
  refine hK.out _ _ ⟨(blk_cell HX5.out 0).trans rfl, (blk_cell HX5.out 1).trans rfl, (blk_cell HX5.out 2).trans rfl, (blk_cell HX5.out 3).trans rfl⟩ (fun hHeld => ?_)
  clear hK K
  refine pure_ (i := 12) (N := some 29) (v := ?_) (a' := ?_) (Bz 15 0x1fff) rfl rfl (by kernel_rfl) (fun _ _ _ h => h) (Or.inl ⟨by rfl, ?_⟩) ?_ ?_
  rotate_left
  ·intro w'; go_simp; with_reducible rfl
  rotate_left; ·simp only [Act.put, Z1, Z2, Z3, i64_w, i32_w]; rfl
  refine pure_ (i := 13) (N := some 30) (v := ?_) (a' := ?_) (Bz 15 0x3fff) rfl rfl (by kernel_rfl) (fun _ _ _ h => h) (Or.inl ⟨by rfl, ?_⟩) ?_ ?_
  rotate_left
  ·intro w'; go_simp; with_reducible rfl
  rotate_left; ·simp only [Act.put, Z1, Z2, Z3, i64_w, i32_w]; rfl
  refine last_ (i := 14) (N := none) #[Y, Y, Y, Y, Y, Y, Y, Y, Y, Y, Y, Y, Y, Y, Y] rfl rfl (by kernel_rfl) (by decide) (fun K hK => ?_)
  refine skip_ (w1 := ?_) (by rfl) rfl ?_ ?_
  rotate_left
  ·go_simp
   rfl
  refine hK.out _ _ ?_
  clear hK K
  refine done_ (by kernel_rfl) ?_
  have HI6 := Aside0.mk (show LogAt B g (M1.got vk vn vq va) ((((((w4.setCell ⟨g, 7, none⟩ (.bool true)).setCell ⟨g, 8, none⟩ (.int .i64 vk)).setCell ⟨g, 9, none⟩ (.int .i64 vn)).setCell ⟨g, 10, none⟩ (.int .i64 vq)).setCell ⟨g, 11, none⟩ (.int .i64 va)).setCell ⟨g, 6, none⟩ (.int .i64 va)) from HI4.out.set_reading vk vn vq va)
  have HX6 := Aside0.mk (blk_far HX5.out (p := ⟨g, 6, none⟩) HNX.out (.int .i64 va))
  have HB6 := Aside0.mk ((((((HB4.out.setCell (p := ⟨g, 7, none⟩) HGE.out (.bool true)).setCell (p := ⟨g, 8, none⟩) HGE.out (.int .i64 vk)).setCell (p := ⟨g, 9, none⟩) HGE.out (.int .i64 vn)).setCell (p := ⟨g, 10, none⟩) HGE.out (.int .i64 vq)).setCell (p := ⟨g, 11, none⟩) HGE.out (.int .i64 va)).setCell (p := ⟨g, 6, none⟩) HGE.out (.int .i64 va))
  have HK6 := Aside0.mk ((((((HK4.out.set 7 (.bool true)).set 8 (.int .i64 vk)).set 9 (.int .i64 vn)).set 10 (.int .i64 vq)).set 11 (.int .i64 va)).set 6 (.int .i64 va))
  generalize (((((w4.setCell ⟨g, 7, none⟩ (.bool true)).setCell ⟨g, 8, none⟩ (.int .i64 vk)).setCell ⟨g, 9, none⟩ (.int .i64 vn)).setCell ⟨g, 10, none⟩ (.int .i64 vq)).setCell ⟨g, 11, none⟩ (.int .i64 va)).setCell ⟨g, 6, none⟩ (.int .i64 va) = w6 at HI6 HX6 HB6 HK6 ⊢
  clear x0 x1 x2 x3 f7 c7 f6 c6 hHeld HP1 HP5 HX5 HG4 HG3 HI3
  obtain ⟨v6, r6, f6, hG6, _⟩ := HI6.out
  obtain ⟨way, HWAY⟩ : ∃ x, Aside0 ((M1.got vk vn vq va).way = x) := ⟨_, ⟨rfl⟩⟩
  obtain ⟨iv, HIV⟩ : ∃ x, Aside0 ((M1.got vk vn vq va).iv = x) := ⟨_, ⟨rfl⟩⟩
  rw [HWAY.out, HIV.out] at hG6
  have HWE := Aside0.mk (show L0.way = way by rw [← HWAY.out]; exact HSAME.out.way.symm)
  have HIE := Aside0.mk (show L0.iv = iv by rw [← HIV.out]; exact HSAME.out.iv.symm)
  have HG6 := Aside0.mk hG6
  clear hG6
  have c2 := (blk_cell HG6.out 2).trans rfl
  have c3 := (blk_cell HG6.out 3).trans rfl
  have x0 := (blk_cell HX6.out 0).trans rfl
  have x1 := (blk_cell HX6.out 1).trans rfl
  have x2 := (blk_cell HX6.out 2).trans rfl
  have x3 := (blk_cell HX6.out 3).trans rfl
  go_wp2
  by_cases k1 : way = 1
  ·have k1b : (way == 1) = true := by rw [k1]; rfl
   have HIVP := Aside0.mk (show 1 ≤ iv by rw [← HIE.out]; exact (HOK.out.iv (by rw [HWE.out]; exact k1)).1)
   have hz1 : (iv = 0) = False := eq_false (by have := HIVP.out; omega)
   have hz2 : (iv == 0) = false := beq_false_of_ne (by have := HIVP.out; omega)
   obtain ⟨rm, HRM⟩ : ∃ rm, Aside0 (va.tmod iv = rm) := ⟨_, ⟨rfl⟩⟩
   have hrm : va.tmod iv = rm := HRM.out
   have HRM2 := Aside0.mk (show va % iv = rm by rw [← HRM.out, tmod_nn HVA.out])
   by_cases k2 : rm = 0
   ·have k2b : (rm == 0) = true := by rw [k2]; rfl
    have k2c : (rm = 0) = True := eq_true k2
    have HOB := Aside0.mk (show ∀ d : Bool, L0.obs vk vn vq va d = ((M1.got vk vn vq va).record va, n1 + 1, 0) from fun d => by unfold Lg.obs; rw [if_neg (by have := HU.out; omega), HRES.out, if_pos (Or.inl ⟨by rw [HWE.out]; exact k1, by rw [HIE.out, HRM2.out]; exact k2⟩)])
    clear k1 k2
    have HI7 := Aside0.mk HI6.out.drew
    have HX7 := Aside0.mk (blk_drew HX6.out)
    have HB7 := Aside0.mk (below_drew1 HB6.out)
    have HK7 := Aside0.mk HK6.out.drew
    have HG7 := Aside0.mk (blk_drew HG6.out)
    refine start_ (n := 30) (S := fun w' => w'.cell? ⟨g, 2, none⟩ = some (.int .i64 way) ∧ w'.cell? ⟨g, 3, none⟩ = some (.int .i64 iv) ∧ w'.cell? ⟨gx, 0, none⟩ = some (.int .i64 vk) ∧ w'.cell? ⟨gx, 1, none⟩ = some (.int .i64 vn) ∧ w'.cell? ⟨gx, 2, none⟩ = some (.int .i64 vq) ∧ w'.cell? ⟨gx, 3, none⟩ = some (.int .i64 va)) (ds := []) #[Yn, Yn, Yn, Yn, Yn, Yn, Yn, Yn, Yn, Yn, Yn, Yn, Yn, Yn, Yn, Yn, Yn, Yn, Yn, Yn, Yn, Yn, Yn, Yn, Yn, Yn, Yn, Yn, Yn, Yn] (by kernel_rfl) rfl rfl ⟨c2, c3, x0, x1, x2, x3⟩ (fun hHeld => ?_)
    generalize w6.drew = w7 at HI7 HX7 HB7 HK7 HG7 hHeld ⊢
    refine pure_ (i := 0) (N := some 31) (v := ?_) (a' := ?_) (Bz 30 0x1) rfl rfl (by kernel_rfl) (fun _ _ _ h => h) (Or.inl ⟨by rfl, ?_⟩) ?_ ?_
    rotate_left
    ·intro w'; go_simp; with_reducible rfl
    rotate_left; ·simp only [Act.put, Z1, Z2, Z3, i64_w, i32_w]; rfl
    refine pure_ (i := 1) (N := some 32) (v := ?_) (a' := ?_) (Bz 30 0x3) rfl rfl (by kernel_rfl) (fun _ _ _ h => h) (Or.inl ⟨by rfl, ?_⟩) ?_ ?_
    rotate_left
    ·intro w'; go_simp; with_reducible rfl
    rotate_left; ·simp only [Act.put, Z1, Z2, Z3, i64_w, i32_w]; rfl
    refine pure_ (i := 2) (N := some 33) (v := ?_) (a' := ?_) (Bz 30 0x7) rfl rfl (by kernel_rfl) (fun _ _ _ h => h) (Or.inl ⟨by rfl, ?_⟩) ?_ ?_
    rotate_left
    ·intro w'; go_simp; with_reducible rfl
    rotate_left; ·simp only [Act.put, Z1, Z2, Z3, i64_w, i32_w]; rfl
    refine pure_ (i := 3) (N := some 34) (v := ?_) (a' := ?_) (Bz 30 0xf) rfl rfl (by kernel_rfl) (fun _ _ _ h => h) (Or.inl ⟨by rfl, ?_⟩) ?_ ?_
    rotate_left
    ·intro w'; go_simp; with_reducible rfl
    rotate_left; ·simp only [Act.put, Z1, Z2, Z3, i64_w, i32_w]; rfl
    refine take_ (i := 4) (N := some 35) (v := ?_) (a' := ?_) (Bz 30 0x1f) rfl rfl (by kernel_rfl) (fun _ _ _ h => h) (Or.inl ⟨by rfl, ?_⟩) hHeld ?_ ?_
    rotate_left
    ·rintro w' ⟨s0, s1, s2, s3, s4, s5⟩; go_simp; with_reducible rfl
    rotate_left; ·simp only [Act.put, Z1, Z2, Z3, i64_w, i32_w]; rfl
    refine pure_ (i := 5) (N := some 36) (v := ?_) (a' := ?_) (Bz 30 0x3f) rfl rfl (by kernel_rfl) (fun _ _ _ h => h) (Or.inl ⟨by rfl, ?_⟩) ?_ ?_
    rotate_left
    ·intro w'; go_simp; with_reducible rfl
    rotate_left; ·simp only [Act.put, Z1, Z2, Z3, i64_w, i32_w]; rfl
    refine pure_ (i := 6) (N := some 37) (v := ?_) (a' := ?_) (Bz 30 0x7f) rfl rfl (by kernel_rfl) (fun _ _ _ h => h) (Or.inl ⟨by rfl, ?_⟩) ?_ ?_
    rotate_left
    ·intro w'; go_simp; with_reducible rfl
    rotate_left; ·simp only [Act.put, Z1, Z2, Z3, i64_w, i32_w]; rfl
    refine pure_ (i := 7) (N := some 38) (v := ?_) (a' := ?_) (Bz 30 0xff) rfl rfl (by kernel_rfl) (fun _ _ _ h => h) (Or.inl ⟨by rfl, ?_⟩) ?_ ?_
    rotate_left
    ·intro w'; go_simp; with_reducible rfl
    rotate_left; ·simp only [Act.put, Z1, Z2, Z3, i64_w, i32_w]; rfl
    refine pure_ (i := 9) (N := some 40) (v := ?_) (a' := ?_) (Bz 30 0x2ff) rfl rfl (by kernel_rfl) (fun _ _ _ h => h) (Or.inl ⟨by rfl, ?_⟩) ?_ ?_
    rotate_left
    ·intro w'; go_simp; with_reducible rfl
    rotate_left; ·simp only [Act.put, Z1, Z2, Z3, i64_w, i32_w]; rfl
    refine pure_ (i := 10) (N := some 41) (v := ?_) (a' := ?_) (Bz 30 0x6ff) rfl rfl (by kernel_rfl) (fun _ _ _ h => h) (Or.inl ⟨by rfl, ?_⟩) ?_ ?_
    rotate_left
    ·intro w'; go_simp; with_reducible rfl
    rotate_left; ·simp only [Act.put, Z1, Z2, Z3, i64_w, i32_w]; rfl
    refine pure_ (i := 11) (N := some 42) (v := ?_) (a' := ?_) (Bz 30 0xeff) rfl rfl (by kernel_rfl) (fun _ _ _ h => h) (Or.inl ⟨by rfl, ?_⟩) ?_ ?_
    rotate_left
    ·intro w'; go_simp; with_reducible rfl
    rotate_left; ·simp only [Act.put, Z1, Z2, Z3, i64_w, i32_w]; rfl
    refine pure_ (i := 12) (N := some 43) (v := ?_) (a' := ?_) (Bz 30 0x1eff) rfl rfl (by kernel_rfl) (fun _ _ _ h => h) (Or.inl ⟨by rfl, ?_⟩) ?_ ?_
    rotate_left
    ·intro w'; go_simp; with_reducible rfl
    rotate_left; ·simp only [Act.put, Z1, Z2, Z3, i64_w, i32_w]; rfl
    refine take_ (i := 8) (N := some 39) (v := ?_) (a' := ?_) (Bz 30 0x1fff) rfl rfl (by kernel_rfl) (fun _ _ _ h => h) (Or.inl ⟨by rfl, ?_⟩) hHeld ?_ ?_
    rotate_left
    ·rintro w' ⟨s0, s1, s2, s3, s4, s5⟩; go_simp; with_reducible rfl
    rotate_left; ·simp only [Act.put, Z1, Z2, Z3, i64_w, i32_w]; rfl
    refine take_ (i := 13) (N := some 44) (v := ?_) (a' := ?_) (Bz 30 0x3fff) rfl rfl (by kernel_rfl) (fun _ _ _ h => h) (Or.inl ⟨by rfl, ?_⟩) hHeld ?_ ?_
    rotate_left
    ·rintro w' ⟨s0, s1, s2, s3, s4, s5⟩; go_simp; with_reducible rfl
    rotate_left; ·simp only [Act.put, Z1, Z2, Z3, i64_w, i32_w]; rfl
    refine pure_ (i := 14) (N := some 45) (v := ?_) (a' := ?_) (Bz 30 0x7fff) rfl rfl (by kernel_rfl) (fun _ _ _ h => h) (Or.inl ⟨by rfl, ?_⟩) ?_ ?_
    rotate_left
    ·intro w'; go_simp; with_reducible rfl
    rotate_left; ·simp only [Act.put, Z1, Z2, Z3, i64_w, i32_w]; rfl
    refine pure_ (i := 15) (N := some 46) (v := ?_) (a' := ?_) (Bz 30 0xffff) rfl rfl (by kernel_rfl) (fun _ _ _ h => h) (Or.inl ⟨by rfl, ?_⟩) ?_ ?_
    rotate_left
    ·intro w'; go_simp; with_reducible rfl
    rotate_left; ·simp only [Act.put, Z1, Z2, Z3, i64_w, i32_w]; rfl
    refine pure_ (i := 16) (N := some 47) (v := ?_) (a' := ?_) (Bz 30 0x1ffff) rfl rfl (by kernel_rfl) (fun _ _ _ h => h) (Or.inl ⟨by rfl, ?_⟩) ?_ ?_
    rotate_left
    ·intro w'; go_simp; with_reducible rfl
    rotate_left; ·simp only [Act.put, Z1, Z2, Z3, i64_w, i32_w]; rfl
    refine pure_ (i := 17) (N := some 48) (v := ?_) (a' := ?_) (Bz 30 0x3ffff) rfl rfl (by kernel_rfl) (fun _ _ _ h => h) (Or.inl ⟨by rfl, ?_⟩) ?_ ?_
    rotate_left
    ·intro w'; go_simp; with_reducible rfl
    rotate_left; ·simp only [Act.put, Z1, Z2, Z3, i64_w, i32_w]; rfl
    refine pure_ (i := 18) (N := some 49) (v := undef) (a' := ?_) (Bz 30 0x7ffff) rfl rfl (by kernel_rfl) (fun _ _ _ h => h) (Or.inr ⟨by rfl, rfl⟩) ?_ ?_
    rotate_left; ·simp only [Act.put, Z1, Z2, Z3, i64_w, i32_w]; rfl
    refine pure_ (i := 19) (N := some 50) (v := undef) (a' := ?_) (Bz 30 0xfffff) rfl rfl (by kernel_rfl) (fun _ _ _ h => h) (Or.inr ⟨by rfl, rfl⟩) ?_ ?_
    rotate_left; ·simp only [Act.put, Z1, Z2, Z3, i64_w, i32_w]; rfl
    refine pure_ (i := 20) (N := some 51) (v := undef) (a' := ?_) (Bz 30 0x1fffff) rfl rfl (by kernel_rfl) (fun _ _ _ h => h) (Or.inr ⟨by rfl, rfl⟩) ?_ ?_
    rotate_left; ·simp only [Act.put, Z1, Z2, Z3, i64_w, i32_w]; rfl
    refine pure_ (i := 21) (N := some 52) (v := undef) (a' := ?_) (Bz 30 0x3fffff) rfl rfl (by kernel_rfl) (fun _ _ _ h => h) (Or.inr ⟨by rfl, rfl⟩) ?_ ?_
    rotate_left; ·simp only [Act.put, Z1, Z2, Z3, i64_w, i32_w]; rfl
    refine pure_ (i := 22) (N := some 53) (v := undef) (a' := ?_) (Bz 30 0x7fffff) rfl rfl (by kernel_rfl) (fun _ _ _ h => h) (Or.inr ⟨by rfl, rfl⟩) ?_ ?_
    rotate_left; ·simp only [Act.put, Z1, Z2, Z3, i64_w, i32_w]; rfl
    refine pure_ (i := 23) (N := some 54) (v := undef) (a' := ?_) (Bz 30 0xffffff) rfl rfl (by kernel_rfl) (fun _ _ _ h => h) (Or.inr ⟨by rfl, rfl⟩) ?_ ?_
    rotate_left; ·simp only [Act.put, Z1, Z2, Z3, i64_w, i32_w]; rfl
    refine pure_ (i := 24) (N := some 55) (v := undef) (a' := ?_) (Bz 30 0x1ffffff) rfl rfl (by kernel_rfl) (fun _ _ _ h => h) (Or.inr ⟨by rfl, rfl⟩) ?_ ?_
    rotate_left; ·simp only [Act.put, Z1, Z2, Z3, i64_w, i32_w]; rfl
    refine pure_ (i := 25) (N := some 56) (v := undef) (a' := ?_) (Bz 30 0x3ffffff) rfl rfl (by kernel_rfl) (fun _ _ _ h => h) (Or.inr ⟨by rfl, rfl⟩) ?_ ?_
    rotate_left; ·simp only [Act.put, Z1, Z2, Z3, i64_w, i32_w]; rfl
    refine pure_ (i := 26) (N := some 57) (v := undef) (a' := ?_) (Bz 30 0x7ffffff) rfl rfl (by kernel_rfl) (fun _ _ _ h => h) (Or.inr ⟨by rfl, rfl⟩) ?_ ?_
    rotate_left; ·simp only [Act.put, Z1, Z2, Z3, i64_w, i32_w]; rfl
    refine pure_ (i := 27) (N := some 58) (v := undef) (a' := ?_) (Bz 30 0xfffffff) rfl rfl (by kernel_rfl) (fun _ _ _ h => h) (Or.inr ⟨by rfl, rfl⟩) ?_ ?_
    rotate_left; ·simp only [Act.put, Z1, Z2, Z3, i64_w, i32_w]; rfl
    refine pure_ (i := 28) (N := some 59) (v := undef) (a' := ?_) (Bz 30 0x1fffffff) rfl rfl (by kernel_rfl) (fun _ _ _ h => h) (Or.inr ⟨by rfl, rfl⟩) ?_ ?_
    rotate_left; ·simp only [Act.put, Z1, Z2, Z3, i64_w, i32_w]; rfl
    refine pure_ (i := 29) (N := some 60) (v := ?_) (a' := ?_) (Bz 30 0x3fffffff) rfl rfl (by kernel_rfl) (fun _ _ _ h => h) (Or.inl ⟨by rfl, ?_⟩) ?_ ?_
    rotate_left
    ·intro w'; go_simp; with_reducible rfl
    rotate_left; ·simp only [Act.put, Z1, Z2, Z3, i64_w, i32_w]; rfl
    refine done_ (by kernel_rfl) ?_
    clear c2 c3 x0 x1 x2 x3 hHeld
    have x3 := (blk_cell HX7.out 3).trans rfl
    go_wp2_with (go_at_call 28; (with_reducible refine (record_calls B g (M1.got vk vn vq va) va _ HI7.out (Nat.le_trans HBS.out HK7.out.size) HTOT.out HSZ.out HLEN.out).mono ?_); rintro e w9 ⟨rfl, hi, hb, hk⟩; have HI9 := Aside0.mk hi; have HB9 := Aside0.mk (HB7.out.trans hb); have HK9 := Aside0.mk (HK7.out.trans hk); clear hi hb hk)
    go_ret2
    exact ⟨false, by rw [HOB.out false]; exact ⟨by show Ending.returned (.tuple #[.int .i64 (wrap64 (n1 + 1)), .int .i64 0]) = _; rw [hn1], HI9.out, HB9.out, HK9.out⟩⟩
   ·have k2b : (rm == 0) = false := beq_false_of_ne k2
    have k2c : (rm = 0) = False := eq_false k2
    have k3b : (way == 2) = false := by rw [k1]; rfl
    have HOB := Aside0.mk (show ∀ d : Bool, L0.obs vk vn vq va d = (M1.got vk vn vq va, n1, 0) from fun d => by unfold Lg.obs; rw [if_neg (by have := HU.out; omega), HRES.out, if_neg (fun h => h.elim (fun h => k2 (by rw [← HRM2.out, ← HIE.out]; exact h.2)) (fun h => by have := h.1; rw [HWE.out, k1] at this; cases this))])
    clear k1 k2
    have HI7 := Aside0.mk HI6.out.drew
    have HX7 := Aside0.mk (blk_drew HX6.out)
    have HB7 := Aside0.mk (below_drew1 HB6.out)
    have HK7 := Aside0.mk HK6.out.drew
    have HG7 := Aside0.mk (blk_drew HG6.out)
    refine start_ (n := 30) (S := fun w' => w'.cell? ⟨g, 2, none⟩ = some (.int .i64 way) ∧ w'.cell? ⟨g, 3, none⟩ = some (.int .i64 iv) ∧ w'.cell? ⟨gx, 0, none⟩ = some (.int .i64 vk) ∧ w'.cell? ⟨gx, 1, none⟩ = some (.int .i64 vn) ∧ w'.cell? ⟨gx, 2, none⟩ = some (.int .i64 vq) ∧ w'.cell? ⟨gx, 3, none⟩ = some (.int .i64 va)) (ds := []) #[Yn, Yn, Yn, Yn, Yn, Yn, Yn, Yn, Yn, Yn, Yn, Yn, Yn, Yn, Yn, Yn, Yn, Yn, Yn, Yn, Yn, Yn, Yn, Yn, Yn, Yn, Yn, Yn, Yn, Yn] (by kernel_rfl) rfl rfl ⟨c2, c3, x0, x1, x2, x3⟩ (fun hHeld => ?_)
    generalize w6.drew = w7 at HI7 HX7 HB7 HK7 HG7 hHeld ⊢
    refine pure_ (i := 0) (N := some 31) (v := ?_) (a' := ?_) (Bz 30 0x1) rfl rfl (by kernel_rfl) (fun _ _ _ h => h) (Or.inl ⟨by rfl, ?_⟩) ?_ ?_
    rotate_left
    ·intro w'; go_simp; with_reducible rfl
    rotate_left; ·simp only [Act.put, Z1, Z2, Z3, i64_w, i32_w]; rfl
    refine pure_ (i := 1) (N := some 32) (v := ?_) (a' := ?_) (Bz 30 0x3) rfl rfl (by kernel_rfl) (fun _ _ _ h => h) (Or.inl ⟨by rfl, ?_⟩) ?_ ?_
    rotate_left
    ·intro w'; go_simp; with_reducible rfl
    rotate_left; ·simp only [Act.put, Z1, Z2, Z3, i64_w, i32_w]; rfl
    refine pure_ (i := 2) (N := some 33) (v := ?_) (a' := ?_) (Bz 30 0x7) rfl rfl (by kernel_rfl) (fun _ _ _ h => h) (Or.inl ⟨by rfl, ?_⟩) ?_ ?_
    rotate_left
    ·intro w'; go_simp; with_reducible rfl
    rotate_left; ·simp only [Act.put, Z1, Z2, Z3, i64_w, i32_w]; rfl
    refine pure_ (i := 3) (N := some 34) (v := ?_) (a' := ?_) (Bz 30 0xf) rfl rfl (by kernel_rfl) (fun _ _ _ h => h) (Or.inl ⟨by rfl, ?_⟩) ?_ ?_
    rotate_left
    ·intro w'; go_simp; with_reducible rfl
    rotate_left; ·simp only [Act.put, Z1, Z2, Z3, i64_w, i32_w]; rfl
    refine take_ (i := 4) (N := some 35) (v := ?_) (a' := ?_) (Bz 30 0x1f) rfl rfl (by kernel_rfl) (fun _ _ _ h => h) (Or.inl ⟨by rfl, ?_⟩) hHeld ?_ ?_
    rotate_left
    ·rintro w' ⟨s0, s1, s2, s3, s4, s5⟩; go_simp; with_reducible rfl
    rotate_left; ·simp only [Act.put, Z1, Z2, Z3, i64_w, i32_w]; rfl
    refine pure_ (i := 5) (N := some 36) (v := ?_) (a' := ?_) (Bz 30 0x3f) rfl rfl (by kernel_rfl) (fun _ _ _ h => h) (Or.inl ⟨by rfl, ?_⟩) ?_ ?_
    rotate_left
    ·intro w'; go_simp; with_reducible rfl
    rotate_left; ·simp only [Act.put, Z1, Z2, Z3, i64_w, i32_w]; rfl
    refine pure_ (i := 6) (N := some 37) (v := ?_) (a' := ?_) (Bz 30 0x7f) rfl rfl (by kernel_rfl) (fun _ _ _ h => h) (Or.inl ⟨by rfl, ?_⟩) ?_ ?_
    rotate_left
    ·intro w'; go_simp; with_reducible rfl
    rotate_left; ·simp only [Act.put, Z1, Z2, Z3, i64_w, i32_w]; rfl
    refine pure_ (i := 7) (N := some 38) (v := ?_) (a' := ?_) (Bz 30 0xff) rfl rfl (by kernel_rfl) (fun _ _ _ h => h) (Or.inl ⟨by rfl, ?_⟩) ?_ ?_
    rotate_left
    ·intro w'; go_simp; with_reducible rfl
    rotate_left; ·simp only [Act.put, Z1, Z2, Z3, i64_w, i32_w]; rfl
    refine pure_ (i := 9) (N := some 40) (v := ?_) (a' := ?_) (Bz 30 0x2ff) rfl rfl (by kernel_rfl) (fun _ _ _ h => h) (Or.inl ⟨by rfl, ?_⟩) ?_ ?_
    rotate_left
    ·intro w'; go_simp; with_reducible rfl
    rotate_left; ·simp only [Act.put, Z1, Z2, Z3, i64_w, i32_w]; rfl
    refine pure_ (i := 10) (N := some 41) (v := ?_) (a' := ?_) (Bz 30 0x6ff) rfl rfl (by kernel_rfl) (fun _ _ _ h => h) (Or.inl ⟨by rfl, ?_⟩) ?_ ?_
    rotate_left
    ·intro w'; go_simp; with_reducible rfl
    rotate_left; ·simp only [Act.put, Z1, Z2, Z3, i64_w, i32_w]; rfl
    refine pure_ (i := 11) (N := some 42) (v := ?_) (a' := ?_) (Bz 30 0xeff) rfl rfl (by kernel_rfl) (fun _ _ _ h => h) (Or.inl ⟨by rfl, ?_⟩) ?_ ?_
    rotate_left
    ·intro w'; go_simp; with_reducible rfl
    rotate_left; ·simp only [Act.put, Z1, Z2, Z3, i64_w, i32_w]; rfl
    refine pure_ (i := 12) (N := some 43) (v := ?_) (a' := ?_) (Bz 30 0x1eff) rfl rfl (by kernel_rfl) (fun _ _ _ h => h) (Or.inl ⟨by rfl, ?_⟩) ?_ ?_
    rotate_left
    ·intro w'; go_simp; with_reducible rfl
    rotate_left; ·simp only [Act.put, Z1, Z2, Z3, i64_w, i32_w]; rfl
    refine take_ (i := 8) (N := some 39) (v := ?_) (a' := ?_) (Bz 30 0x1fff) rfl rfl (by kernel_rfl) (fun _ _ _ h => h) (Or.inl ⟨by rfl, ?_⟩) hHeld ?_ ?_
    rotate_left
    ·rintro w' ⟨s0, s1, s2, s3, s4, s5⟩; go_simp; with_reducible rfl
    rotate_left; ·simp only [Act.put, Z1, Z2, Z3, i64_w, i32_w]; rfl
    refine take_ (i := 13) (N := some 44) (v := ?_) (a' := ?_) (Bz 30 0x3fff) rfl rfl (by kernel_rfl) (fun _ _ _ h => h) (Or.inl ⟨by rfl, ?_⟩) hHeld ?_ ?_
    rotate_left
    ·rintro w' ⟨s0, s1, s2, s3, s4, s5⟩; go_simp; with_reducible rfl
    rotate_left; ·simp only [Act.put, Z1, Z2, Z3, i64_w, i32_w]; rfl
    refine pure_ (i := 14) (N := some 45) (v := ?_) (a' := ?_) (Bz 30 0x7fff) rfl rfl (by kernel_rfl) (fun _ _ _ h => h) (Or.inl ⟨by rfl, ?_⟩) ?_ ?_
    rotate_left
    ·intro w'; go_simp; with_reducible rfl
    rotate_left; ·simp only [Act.put, Z1, Z2, Z3, i64_w, i32_w]; rfl
    refine pure_ (i := 15) (N := some 46) (v := ?_) (a' := ?_) (Bz 30 0xffff) rfl rfl (by kernel_rfl) (fun _ _ _ h => h) (Or.inl ⟨by rfl, ?_⟩) ?_ ?_
    rotate_left
    ·intro w'; go_simp; with_reducible rfl
    rotate_left; ·simp only [Act.put, Z1, Z2, Z3, i64_w, i32_w]; rfl
    refine pure_ (i := 16) (N := some 47) (v := ?_) (a' := ?_) (Bz 30 0x1ffff) rfl rfl (by kernel_rfl) (fun _ _ _ h => h) (Or.inl ⟨by rfl, ?_⟩) ?_ ?_
    rotate_left
    ·intro w'; go_simp; with_reducible rfl
    rotate_left; ·simp only [Act.put, Z1, Z2, Z3, i64_w, i32_w]; rfl
    refine pure_ (i := 17) (N := some 48) (v := ?_) (a' := ?_) (Bz 30 0x3ffff) rfl rfl (by kernel_rfl) (fun _ _ _ h => h) (Or.inl ⟨by rfl, ?_⟩) ?_ ?_
    rotate_left
    ·intro w'; go_simp; with_reducible rfl
    rotate_left; ·simp only [Act.put, Z1, Z2, Z3, i64_w, i32_w]; rfl
    refine pure_ (i := 18) (N := some 49) (v := ?_) (a' := ?_) (Bz 30 0x7ffff) rfl rfl (by kernel_rfl) (fun _ _ _ h => h) (Or.inl ⟨by rfl, ?_⟩) ?_ ?_
    rotate_left
    ·intro w'; go_simp; with_reducible rfl
    rotate_left; ·simp only [Act.put, Z1, Z2, Z3, i64_w, i32_w]; rfl
    refine pure_ (i := 19) (N := some 50) (v := ?_) (a' := ?_) (Bz 30 0xfffff) rfl rfl (by kernel_rfl) (fun _ _ _ h => h) (Or.inl ⟨by rfl, ?_⟩) ?_ ?_
    rotate_left
    ·intro w'; go_simp; with_reducible rfl
    rotate_left; ·simp only [Act.put, Z1, Z2, Z3, i64_w, i32_w]; rfl
    refine pure_ (i := 20) (N := some 51) (v := ?_) (a' := ?_) (Bz 30 0x1fffff) rfl rfl (by kernel_rfl) (fun _ _ _ h => h) (Or.inl ⟨by rfl, ?_⟩) ?_ ?_
    rotate_left
    ·intro w'; go_simp; with_reducible rfl
    rotate_left; ·simp only [Act.put, Z1, Z2, Z3, i64_w, i32_w]; rfl
    refine pure_ (i := 21) (N := some 52) (v := ?_) (a' := ?_) (Bz 30 0x3fffff) rfl rfl (by kernel_rfl) (fun _ _ _ h => h) (Or.inl ⟨by rfl, ?_⟩) ?_ ?_
    rotate_left
    ·intro w'; go_simp; with_reducible rfl
    rotate_left; ·simp only [Act.put, Z1, Z2, Z3, i64_w, i32_w]; rfl
    refine take_ (i := 22) (N := some 53) (v := ?_) (a' := ?_) (Bz 30 0x7fffff) rfl rfl (by kernel_rfl) (fun _ _ _ h => h) (Or.inl ⟨by rfl, ?_⟩) hHeld ?_ ?_
    rotate_left
    ·rintro w' ⟨s0, s1, s2, s3, s4, s5⟩; go_simp; with_reducible rfl
    rotate_left; ·simp only [Act.put, Z1, Z2, Z3, i64_w, i32_w]; rfl
    refine pure_ (i := 23) (N := some 54) (v := ?_) (a' := ?_) (Bz 30 0xffffff) rfl rfl (by kernel_rfl) (fun _ _ _ h => h) (Or.inl ⟨by rfl, ?_⟩) ?_ ?_
    rotate_left
    ·intro w'; go_simp; with_reducible rfl
    rotate_left; ·simp only [Act.put, Z1, Z2, Z3, i64_w, i32_w]; rfl
    refine pure_ (i := 24) (N := some 55) (v := ?_) (a' := ?_) (Bz 30 0x1ffffff) rfl rfl (by kernel_rfl) (fun _ _ _ h => h) (Or.inl ⟨by rfl, ?_⟩) ?_ ?_
    rotate_left
    ·intro w'; go_simp; with_reducible rfl
    rotate_left; ·simp only [Act.put, Z1, Z2, Z3, i64_w, i32_w]; rfl
    refine pure_ (i := 25) (N := some 56) (v := undef) (a' := ?_) (Bz 30 0x3ffffff) rfl rfl (by kernel_rfl) (fun _ _ _ h => h) (Or.inr ⟨by rfl, rfl⟩) ?_ ?_
    rotate_left; ·simp only [Act.put, Z1, Z2, Z3, i64_w, i32_w]; rfl
    refine pure_ (i := 26) (N := some 57) (v := undef) (a' := ?_) (Bz 30 0x7ffffff) rfl rfl (by kernel_rfl) (fun _ _ _ h => h) (Or.inr ⟨by rfl, rfl⟩) ?_ ?_
    rotate_left; ·simp only [Act.put, Z1, Z2, Z3, i64_w, i32_w]; rfl
    refine pure_ (i := 27) (N := some 58) (v := undef) (a' := ?_) (Bz 30 0xfffffff) rfl rfl (by kernel_rfl) (fun _ _ _ h => h) (Or.inr ⟨by rfl, rfl⟩) ?_ ?_
    rotate_left; ·simp only [Act.put, Z1, Z2, Z3, i64_w, i32_w]; rfl
    refine pure_ (i := 28) (N := some 59) (v := ?_) (a' := ?_) (Bz 30 0x1fffffff) rfl rfl (by kernel_rfl) (fun _ _ _ h => h) (Or.inl ⟨by rfl, ?_⟩) ?_ ?_
    rotate_left
    ·intro w'; go_simp; with_reducible rfl
    rotate_left; ·simp only [Act.put, Z1, Z2, Z3, i64_w, i32_w]; rfl
    refine pure_ (i := 29) (N := some 60) (v := ?_) (a' := ?_) (Bz 30 0x3fffffff) rfl rfl (by kernel_rfl) (fun _ _ _ h => h) (Or.inl ⟨by rfl, ?_⟩) ?_ ?_
    rotate_left
    ·intro w'; go_simp; with_reducible rfl
    rotate_left; ·simp only [Act.put, Z1, Z2, Z3, i64_w, i32_w]; rfl
    refine done_ (by kernel_rfl) ?_
    clear c2 c3 x0 x1 x2 x3 hHeld
    go_wp2
    go_ret2
    exact ⟨false, by rw [HOB.out false]; exact ⟨rfl, HI7.out, HB7.out, HK7.out⟩⟩
  ·have k1b : (way == 1) = false := beq_false_of_ne k1
   by_cases k3 : way = 2
   ·have k3b : (way == 2) = true := by rw [k3]; rfl
    have HOBT := Aside0.mk (show L0.obs vk vn vq va true = ((M1.got vk vn vq va).record va, n1 + 1, 0) by unfold Lg.obs; rw [if_neg (by have := HU.out; omega), HRES.out, if_pos (Or.inr ⟨by rw [HWE.out]; exact k3, rfl⟩)])
    have HOBF := Aside0.mk (show L0.obs vk vn vq va false = (M1.got vk vn vq va, n1, 0) by unfold Lg.obs; rw [if_neg (by have := HU.out; omega), HRES.out, if_neg (fun h => h.elim (fun h => k1 (by rw [← HWE.out]; exact h.1)) (fun h => by cases h.2))])
    clear k1 k3
    have HI7 := Aside0.mk HI6.out.drew
    have HX7 := Aside0.mk (blk_drew HX6.out)
    have HB7 := Aside0.mk (below_drew1 HB6.out)
    have HK7 := Aside0.mk HK6.out.drew
    have HG7 := Aside0.mk (blk_drew HG6.out)
    refine start_ (n := 30) (S := fun w' => w'.cell? ⟨g, 2, none⟩ = some (.int .i64 way) ∧ w'.cell? ⟨g, 3, none⟩ = some (.int .i64 iv) ∧ w'.cell? ⟨gx, 0, none⟩ = some (.int .i64 vk) ∧ w'.cell? ⟨gx, 1, none⟩ = some (.int .i64 vn) ∧ w'.cell? ⟨gx, 2, none⟩ = some (.int .i64 vq) ∧ w'.cell? ⟨gx, 3, none⟩ = some (.int .i64 va)) (ds := []) #[Yn, Yn, Yn, Yn, Yn, Yn, Yn, Yn, Yn, Yn, Yn, Yn, Yn, Yn, Yn, Yn, Yn, Yn, Yn, Yn, Yn, Yn, Yn, Yn, Yn, Yn, Yn, Yn, Yn, Yn] (by kernel_rfl) rfl rfl ⟨c2, c3, x0, x1, x2, x3⟩ (fun hHeld => ?_)
    generalize w6.drew = w7 at HI7 HX7 HB7 HK7 HG7 hHeld ⊢
    refine pure_ (i := 0) (N := some 31) (v := ?_) (a' := ?_) (Bz 30 0x1) rfl rfl (by kernel_rfl) (fun _ _ _ h => h) (Or.inl ⟨by rfl, ?_⟩) ?_ ?_
    rotate_left
    ·intro w'; go_simp; with_reducible rfl
    rotate_left; ·simp only [Act.put, Z1, Z2, Z3, i64_w, i32_w]; rfl
    refine pure_ (i := 1) (N := some 32) (v := ?_) (a' := ?_) (Bz 30 0x3) rfl rfl (by kernel_rfl) (fun _ _ _ h => h) (Or.inl ⟨by rfl, ?_⟩) ?_ ?_
    rotate_left
    ·intro w'; go_simp; with_reducible rfl
    rotate_left; ·simp only [Act.put, Z1, Z2, Z3, i64_w, i32_w]; rfl
    refine pure_ (i := 2) (N := some 33) (v := ?_) (a' := ?_) (Bz 30 0x7) rfl rfl (by kernel_rfl) (fun _ _ _ h => h) (Or.inl ⟨by rfl, ?_⟩) ?_ ?_
    rotate_left
    ·intro w'; go_simp; with_reducible rfl
    rotate_left; ·simp only [Act.put, Z1, Z2, Z3, i64_w, i32_w]; rfl
    refine pure_ (i := 3) (N := some 34) (v := ?_) (a' := ?_) (Bz 30 0xf) rfl rfl (by kernel_rfl) (fun _ _ _ h => h) (Or.inl ⟨by rfl, ?_⟩) ?_ ?_
    rotate_left
    ·intro w'; go_simp; with_reducible rfl
    rotate_left; ·simp only [Act.put, Z1, Z2, Z3, i64_w, i32_w]; rfl
    refine take_ (i := 4) (N := some 35) (v := ?_) (a' := ?_) (Bz 30 0x1f) rfl rfl (by kernel_rfl) (fun _ _ _ h => h) (Or.inl ⟨by rfl, ?_⟩) hHeld ?_ ?_
    rotate_left
    ·rintro w' ⟨s0, s1, s2, s3, s4, s5⟩; go_simp; with_reducible rfl
    rotate_left; ·simp only [Act.put, Z1, Z2, Z3, i64_w, i32_w]; rfl
    refine pure_ (i := 5) (N := some 36) (v := ?_) (a' := ?_) (Bz 30 0x3f) rfl rfl (by kernel_rfl) (fun _ _ _ h => h) (Or.inl ⟨by rfl, ?_⟩) ?_ ?_
    rotate_left
    ·intro w'; go_simp; with_reducible rfl
    rotate_left; ·simp only [Act.put, Z1, Z2, Z3, i64_w, i32_w]; rfl
    refine pure_ (i := 6) (N := some 37) (v := ?_) (a' := ?_) (Bz 30 0x7f) rfl rfl (by kernel_rfl) (fun _ _ _ h => h) (Or.inl ⟨by rfl, ?_⟩) ?_ ?_
    rotate_left
    ·intro w'; go_simp; with_reducible rfl
    rotate_left; ·simp only [Act.put, Z1, Z2, Z3, i64_w, i32_w]; rfl
    refine pure_ (i := 7) (N := some 38) (v := undef) (a' := ?_) (Bz 30 0xff) rfl rfl (by kernel_rfl) (fun _ _ _ h => h) (Or.inr ⟨by rfl, rfl⟩) ?_ ?_
    rotate_left; ·simp only [Act.put, Z1, Z2, Z3, i64_w, i32_w]; rfl
    refine pure_ (i := 8) (N := some 39) (v := undef) (a' := ?_) (Bz 30 0x1ff) rfl rfl (by kernel_rfl) (fun _ _ _ h => h) (Or.inr ⟨by rfl, rfl⟩) ?_ ?_
    rotate_left; ·simp only [Act.put, Z1, Z2, Z3, i64_w, i32_w]; rfl
    refine pure_ (i := 9) (N := some 40) (v := undef) (a' := ?_) (Bz 30 0x3ff) rfl rfl (by kernel_rfl) (fun _ _ _ h => h) (Or.inr ⟨by rfl, rfl⟩) ?_ ?_
    rotate_left; ·simp only [Act.put, Z1, Z2, Z3, i64_w, i32_w]; rfl
    refine pure_ (i := 10) (N := some 41) (v := undef) (a' := ?_) (Bz 30 0x7ff) rfl rfl (by kernel_rfl) (fun _ _ _ h => h) (Or.inr ⟨by rfl, rfl⟩) ?_ ?_
    rotate_left; ·simp only [Act.put, Z1, Z2, Z3, i64_w, i32_w]; rfl
    refine pure_ (i := 11) (N := some 42) (v := undef) (a' := ?_) (Bz 30 0xfff) rfl rfl (by kernel_rfl) (fun _ _ _ h => h) (Or.inr ⟨by rfl, rfl⟩) ?_ ?_
    rotate_left; ·simp only [Act.put, Z1, Z2, Z3, i64_w, i32_w]; rfl
    refine pure_ (i := 12) (N := some 43) (v := undef) (a' := ?_) (Bz 30 0x1fff) rfl rfl (by kernel_rfl) (fun _ _ _ h => h) (Or.inr ⟨by rfl, rfl⟩) ?_ ?_
    rotate_left; ·simp only [Act.put, Z1, Z2, Z3, i64_w, i32_w]; rfl
    refine pure_ (i := 13) (N := some 44) (v := undef) (a' := ?_) (Bz 30 0x3fff) rfl rfl (by kernel_rfl) (fun _ _ _ h => h) (Or.inr ⟨by rfl, rfl⟩) ?_ ?_
    rotate_left; ·simp only [Act.put, Z1, Z2, Z3, i64_w, i32_w]; rfl
    refine pure_ (i := 14) (N := some 45) (v := undef) (a' := ?_) (Bz 30 0x7fff) rfl rfl (by kernel_rfl) (fun _ _ _ h => h) (Or.inr ⟨by rfl, rfl⟩) ?_ ?_
    rotate_left; ·simp only [Act.put, Z1, Z2, Z3, i64_w, i32_w]; rfl
    refine pure_ (i := 15) (N := some 46) (v := undef) (a' := ?_) (Bz 30 0xffff) rfl rfl (by kernel_rfl) (fun _ _ _ h => h) (Or.inr ⟨by rfl, rfl⟩) ?_ ?_
    rotate_left; ·simp only [Act.put, Z1, Z2, Z3, i64_w, i32_w]; rfl
    refine pure_ (i := 16) (N := some 47) (v := ?_) (a' := ?_) (Bz 30 0x1ffff) rfl rfl (by kernel_rfl) (fun _ _ _ h => h) (Or.inl ⟨by rfl, ?_⟩) ?_ ?_
    rotate_left
    ·intro w'; go_simp; with_reducible rfl
    rotate_left; ·simp only [Act.put, Z1, Z2, Z3, i64_w, i32_w]; rfl
    refine pure_ (i := 17) (N := some 48) (v := ?_) (a' := ?_) (Bz 30 0x3ffff) rfl rfl (by kernel_rfl) (fun _ _ _ h => h) (Or.inl ⟨by rfl, ?_⟩) ?_ ?_
    rotate_left
    ·intro w'; go_simp; with_reducible rfl
    rotate_left; ·simp only [Act.put, Z1, Z2, Z3, i64_w, i32_w]; rfl
    refine pure_ (i := 18) (N := some 49) (v := ?_) (a' := ?_) (Bz 30 0x7ffff) rfl rfl (by kernel_rfl) (fun _ _ _ h => h) (Or.inl ⟨by rfl, ?_⟩) ?_ ?_
    rotate_left
    ·intro w'; go_simp; with_reducible rfl
    rotate_left; ·simp only [Act.put, Z1, Z2, Z3, i64_w, i32_w]; rfl
    refine pure_ (i := 19) (N := some 50) (v := ?_) (a' := ?_) (Bz 30 0xfffff) rfl rfl (by kernel_rfl) (fun _ _ _ h => h) (Or.inl ⟨by rfl, ?_⟩) ?_ ?_
    rotate_left
    ·intro w'; go_simp; with_reducible rfl
    rotate_left; ·simp only [Act.put, Z1, Z2, Z3, i64_w, i32_w]; rfl
    refine pure_ (i := 20) (N := some 51) (v := ?_) (a' := ?_) (Bz 30 0x1fffff) rfl rfl (by kernel_rfl) (fun _ _ _ h => h) (Or.inl ⟨by rfl, ?_⟩) ?_ ?_
    rotate_left
    ·intro w'; go_simp; with_reducible rfl
    rotate_left; ·simp only [Act.put, Z1, Z2, Z3, i64_w, i32_w]; rfl
    refine pure_ (i := 21) (N := some 52) (v := ?_) (a' := ?_) (Bz 30 0x3fffff) rfl rfl (by kernel_rfl) (fun _ _ _ h => h) (Or.inl ⟨by rfl, ?_⟩) ?_ ?_
    rotate_left
    ·intro w'; go_simp; with_reducible rfl
    rotate_left; ·simp only [Act.put, Z1, Z2, Z3, i64_w, i32_w]; rfl
    refine take_ (i := 22) (N := some 53) (v := ?_) (a' := ?_) (Bz 30 0x7fffff) rfl rfl (by kernel_rfl) (fun _ _ _ h => h) (Or.inl ⟨by rfl, ?_⟩) hHeld ?_ ?_
    rotate_left
    ·rintro w' ⟨s0, s1, s2, s3, s4, s5⟩; go_simp; with_reducible rfl
    rotate_left; ·simp only [Act.put, Z1, Z2, Z3, i64_w, i32_w]; rfl
    refine pure_ (i := 23) (N := some 54) (v := ?_) (a' := ?_) (Bz 30 0xffffff) rfl rfl (by kernel_rfl) (fun _ _ _ h => h) (Or.inl ⟨by rfl, ?_⟩) ?_ ?_
    rotate_left
    ·intro w'; go_simp; with_reducible rfl
    rotate_left; ·simp only [Act.put, Z1, Z2, Z3, i64_w, i32_w]; rfl
    refine pure_ (i := 24) (N := some 55) (v := ?_) (a' := ?_) (Bz 30 0x1ffffff) rfl rfl (by kernel_rfl) (fun _ _ _ h => h) (Or.inl ⟨by rfl, ?_⟩) ?_ ?_
    rotate_left
    ·intro w'; go_simp; with_reducible rfl
    rotate_left; ·simp only [Act.put, Z1, Z2, Z3, i64_w, i32_w]; rfl
    refine pure_ (i := 25) (N := some 56) (v := ?_) (a' := ?_) (Bz 30 0x3ffffff) rfl rfl (by kernel_rfl) (fun _ _ _ h => h) (Or.inl ⟨by rfl, ?_⟩) ?_ ?_
    rotate_left
    ·intro w'; go_simp; with_reducible rfl
    rotate_left; ·simp only [Act.put, Z1, Z2, Z3, i64_w, i32_w]; rfl
    refine take_ (i := 26) (N := some 57) (v := ?_) (a' := ?_) (Bz 30 0x7ffffff) rfl rfl (by kernel_rfl) (fun _ _ _ h => h) (Or.inl ⟨by rfl, ?_⟩) hHeld ?_ ?_
    rotate_left
    ·rintro w' ⟨s0, s1, s2, s3, s4, s5⟩; go_simp; with_reducible rfl
    rotate_left; ·simp only [Act.put, Z1, Z2, Z3, i64_w, i32_w]; rfl
    refine one_ (i := 27) (N := some 58) #[Y, Y, Y, Y, Y, Y, Y, Y, Y, Y, Y, Y, Y, Y, Y, Y, Y, Y, Y, Y, Y, Y, Y, Y, Y, Y, Y, Y, Yn, Yn] rfl rfl (by kernel_rfl) (by decide) (fun K hK => ?_)
    refine goes_ Tryd.func27 (by kernel_rfl) rfl #[.pointer (some ⟨g, 0, none⟩), .agg #[.int .i64 vk, .int .i64 vn, .int .i64 vq, .int .i64 va]] (by rfl) rfl rfl (by simp only [List.map_toArray, List.map_cons, List.map_nil]; rfl) ?_
    with_reducible refine (differs_calls B g (M1.got vk vn vq va) vk vn vq va w7 HI7.out HLEN.out).mono ?_
    rintro e w8 ⟨d, rfl, hb⟩
    refine ⟨_, rfl, ?_⟩
    have HI8 := Aside0.mk (HI7.out.below hb)
    have HX8 := Aside0.mk (blk_below HX7.out hb)
    have HG8 := Aside0.mk (blk_below HG7.out hb)
    have HB8 := Aside0.mk (HB7.out.trans (hb.mono (Nat.le_trans HBS.out HK7.out.size)))
    have HK8 := Aside0.mk (HK7.out.trans (KeepL.of_below hb g))
    clear hb
    refine hK.out _ _ ⟨(blk_cell HG8.out 2).trans rfl, (blk_cell HG8.out 3).trans rfl, (blk_cell HX8.out 0).trans rfl, (blk_cell HX8.out 1).trans rfl, (blk_cell HX8.out 2).trans rfl, (blk_cell HX8.out 3).trans rfl⟩ (fun hHeld => ?_)
    clear hK K
    refine norm_ (a' := ?_) ?_ ?_
    rotate_left
    ·show Act.put _ (some 58) _ = _
     simp only [Act.put, Z1, Z2, Z3, i64_w, i32_w]
     rfl
    refine pure_ (i := 28) (N := some 59) (v := ?_) (a' := ?_) (Bz 30 0x1fffffff) rfl rfl (by kernel_rfl) (fun _ _ _ h => h) (Or.inl ⟨by rfl, ?_⟩) ?_ ?_
    rotate_left
    ·intro w'; go_simp; with_reducible rfl
    rotate_left; ·simp only [Act.put, Z1, Z2, Z3, i64_w, i32_w]; rfl
    refine pure_ (i := 29) (N := some 60) (v := ?_) (a' := ?_) (Bz 30 0x3fffffff) rfl rfl (by kernel_rfl) (fun _ _ _ h => h) (Or.inl ⟨by rfl, ?_⟩) ?_ ?_
    rotate_left
    ·intro w'; go_simp; with_reducible rfl
    rotate_left; ·simp only [Act.put, Z1, Z2, Z3, i64_w, i32_w]; rfl
    refine done_ (by kernel_rfl) ?_
    clear c2 c3 x0 x1 x2 x3 hHeld
    rcases Bool.eq_false_or_eq_true d with kd | kd
    ·subst kd
     have x3 := (blk_cell HX8.out 3).trans rfl
     go_wp2_with (go_at_call 28; (with_reducible refine (record_calls B g (M1.got vk vn vq va) va _ HI8.out (Nat.le_trans HBS.out HK8.out.size) HTOT.out HSZ.out HLEN.out).mono ?_); rintro e w9 ⟨rfl, hi, hb, hk⟩; have HI9 := Aside0.mk hi; have HB9 := Aside0.mk (HB8.out.trans hb); have HK9 := Aside0.mk (HK8.out.trans hk); clear hi hb hk)
     go_ret2
     exact ⟨true, by rw [HOBT.out]; exact ⟨by show Ending.returned (.tuple #[.int .i64 (wrap64 (n1 + 1)), .int .i64 0]) = _; rw [hn1], HI9.out, HB9.out, HK9.out⟩⟩
    ·subst kd
     go_wp2
     go_ret2
     exact ⟨false, by rw [HOBF.out]; exact ⟨rfl, HI8.out, HB8.out, HK8.out⟩⟩
   ·have k3b : (way == 2) = false := beq_false_of_ne k3
    have HOB := Aside0.mk (show ∀ d : Bool, L0.obs vk vn vq va d = (M1.got vk vn vq va, n1, 0) from fun d => by unfold Lg.obs; rw [if_neg (by have := HU.out; omega), HRES.out, if_neg (fun h => h.elim (fun h => k1 (by rw [← HWE.out]; exact h.1)) (fun h => k3 (by rw [← HWE.out]; exact h.1)))])
    clear k1 k3
    have HI7 := Aside0.mk HI6.out.drew
    have HX7 := Aside0.mk (blk_drew HX6.out)
    have HB7 := Aside0.mk (below_drew1 HB6.out)
    have HK7 := Aside0.mk HK6.out.drew
    have HG7 := Aside0.mk (blk_drew HG6.out)
    refine start_ (n := 30) (S := fun w' => w'.cell? ⟨g, 2, none⟩ = some (.int .i64 way) ∧ w'.cell? ⟨g, 3, none⟩ = some (.int .i64 iv) ∧ w'.cell? ⟨gx, 0, none⟩ = some (.int .i64 vk) ∧ w'.cell? ⟨gx, 1, none⟩ = some (.int .i64 vn) ∧ w'.cell? ⟨gx, 2, none⟩ = some (.int .i64 vq) ∧ w'.cell? ⟨gx, 3, none⟩ = some (.int .i64 va)) (ds := []) #[Yn, Yn, Yn, Yn, Yn, Yn, Yn, Yn, Yn, Yn, Yn, Yn, Yn, Yn, Yn, Yn, Yn, Yn, Yn, Yn, Yn, Yn, Yn, Yn, Yn, Yn, Yn, Yn, Yn, Yn] (by kernel_rfl) rfl rfl ⟨c2, c3, x0, x1, x2, x3⟩ (fun hHeld => ?_)
    generalize w6.drew = w7 at HI7 HX7 HB7 HK7 HG7 hHeld ⊢
    refine pure_ (i := 0) (N := some 31) (v := ?_) (a' := ?_) (Bz 30 0x1) rfl rfl (by kernel_rfl) (fun _ _ _ h => h) (Or.inl ⟨by rfl, ?_⟩) ?_ ?_
    rotate_left
    ·intro w'; go_simp; with_reducible rfl
    rotate_left; ·simp only [Act.put, Z1, Z2, Z3, i64_w, i32_w]; rfl
    refine pure_ (i := 1) (N := some 32) (v := ?_) (a' := ?_) (Bz 30 0x3) rfl rfl (by kernel_rfl) (fun _ _ _ h => h) (Or.inl ⟨by rfl, ?_⟩) ?_ ?_
    rotate_left
    ·intro w'; go_simp; with_reducible rfl
    rotate_left; ·simp only [Act.put, Z1, Z2, Z3, i64_w, i32_w]; rfl
    refine pure_ (i := 2) (N := some 33) (v := ?_) (a' := ?_) (Bz 30 0x7) rfl rfl (by kernel_rfl) (fun _ _ _ h => h) (Or.inl ⟨by rfl, ?_⟩) ?_ ?_
    rotate_left
    ·intro w'; go_simp; with_reducible rfl
    rotate_left; ·simp only [Act.put, Z1, Z2, Z3, i64_w, i32_w]; rfl
    refine pure_ (i := 3) (N := some 34) (v := ?_) (a' := ?_) (Bz 30 0xf) rfl rfl (by kernel_rfl) (fun _ _ _ h => h) (Or.inl ⟨by rfl, ?_⟩) ?_ ?_
    rotate_left
    ·intro w'; go_simp; with_reducible rfl
    rotate_left; ·simp only [Act.put, Z1, Z2, Z3, i64_w, i32_w]; rfl
    refine take_ (i := 4) (N := some 35) (v := ?_) (a' := ?_) (Bz 30 0x1f) rfl rfl (by kernel_rfl) (fun _ _ _ h => h) (Or.inl ⟨by rfl, ?_⟩) hHeld ?_ ?_
    rotate_left
    ·rintro w' ⟨s0, s1, s2, s3, s4, s5⟩; go_simp; with_reducible rfl
    rotate_left; ·simp only [Act.put, Z1, Z2, Z3, i64_w, i32_w]; rfl
    refine pure_ (i := 5) (N := some 36) (v := ?_) (a' := ?_) (Bz 30 0x3f) rfl rfl (by kernel_rfl) (fun _ _ _ h => h) (Or.inl ⟨by rfl, ?_⟩) ?_ ?_
    rotate_left
    ·intro w'; go_simp; with_reducible rfl
    rotate_left; ·simp only [Act.put, Z1, Z2, Z3, i64_w, i32_w]; rfl
    refine pure_ (i := 6) (N := some 37) (v := ?_) (a' := ?_) (Bz 30 0x7f) rfl rfl (by kernel_rfl) (fun _ _ _ h => h) (Or.inl ⟨by rfl, ?_⟩) ?_ ?_
    rotate_left
    ·intro w'; go_simp; with_reducible rfl
    rotate_left; ·simp only [Act.put, Z1, Z2, Z3, i64_w, i32_w]; rfl
    refine pure_ (i := 7) (N := some 38) (v := undef) (a' := ?_) (Bz 30 0xff) rfl rfl (by kernel_rfl) (fun _ _ _ h => h) (Or.inr ⟨by rfl, rfl⟩) ?_ ?_
    rotate_left; ·simp only [Act.put, Z1, Z2, Z3, i64_w, i32_w]; rfl
    refine pure_ (i := 8) (N := some 39) (v := undef) (a' := ?_) (Bz 30 0x1ff) rfl rfl (by kernel_rfl) (fun _ _ _ h => h) (Or.inr ⟨by rfl, rfl⟩) ?_ ?_
    rotate_left; ·simp only [Act.put, Z1, Z2, Z3, i64_w, i32_w]; rfl
    refine pure_ (i := 9) (N := some 40) (v := undef) (a' := ?_) (Bz 30 0x3ff) rfl rfl (by kernel_rfl) (fun _ _ _ h => h) (Or.inr ⟨by rfl, rfl⟩) ?_ ?_
    rotate_left; ·simp only [Act.put, Z1, Z2, Z3, i64_w, i32_w]; rfl
    refine pure_ (i := 10) (N := some 41) (v := undef) (a' := ?_) (Bz 30 0x7ff) rfl rfl (by kernel_rfl) (fun _ _ _ h => h) (Or.inr ⟨by rfl, rfl⟩) ?_ ?_
    rotate_left; ·simp only [Act.put, Z1, Z2, Z3, i64_w, i32_w]; rfl
    refine pure_ (i := 11) (N := some 42) (v := undef) (a' := ?_) (Bz 30 0xfff) rfl rfl (by kernel_rfl) (fun _ _ _ h => h) (Or.inr ⟨by rfl, rfl⟩) ?_ ?_
    rotate_left; ·simp only [Act.put, Z1, Z2, Z3, i64_w, i32_w]; rfl
    refine pure_ (i := 12) (N := some 43) (v := undef) (a' := ?_) (Bz 30 0x1fff) rfl rfl (by kernel_rfl) (fun _ _ _ h => h) (Or.inr ⟨by rfl, rfl⟩) ?_ ?_
    rotate_left; ·simp only [Act.put, Z1, Z2, Z3, i64_w, i32_w]; rfl
    refine pure_ (i := 13) (N := some 44) (v := undef) (a' := ?_) (Bz 30 0x3fff) rfl rfl (by kernel_rfl) (fun _ _ _ h => h) (Or.inr ⟨by rfl, rfl⟩) ?_ ?_
    rotate_left; ·simp only [Act.put, Z1, Z2, Z3, i64_w, i32_w]; rfl
    refine pure_ (i := 14) (N := some 45) (v := undef) (a' := ?_) (Bz 30 0x7fff) rfl rfl (by kernel_rfl) (fun _ _ _ h => h) (Or.inr ⟨by rfl, rfl⟩) ?_ ?_
    rotate_left; ·simp only [Act.put, Z1, Z2, Z3, i64_w, i32_w]; rfl
    refine pure_ (i := 15) (N := some 46) (v := undef) (a' := ?_) (Bz 30 0xffff) rfl rfl (by kernel_rfl) (fun _ _ _ h => h) (Or.inr ⟨by rfl, rfl⟩) ?_ ?_
    rotate_left; ·simp only [Act.put, Z1, Z2, Z3, i64_w, i32_w]; rfl
    refine pure_ (i := 16) (N := some 47) (v := ?_) (a' := ?_) (Bz 30 0x1ffff) rfl rfl (by kernel_rfl) (fun _ _ _ h => h) (Or.inl ⟨by rfl, ?_⟩) ?_ ?_
    rotate_left
    ·intro w'; go_simp; with_reducible rfl
    rotate_left; ·simp only [Act.put, Z1, Z2, Z3, i64_w, i32_w]; rfl
    refine pure_ (i := 17) (N := some 48) (v := ?_) (a' := ?_) (Bz 30 0x3ffff) rfl rfl (by kernel_rfl) (fun _ _ _ h => h) (Or.inl ⟨by rfl, ?_⟩) ?_ ?_
    rotate_left
    ·intro w'; go_simp; with_reducible rfl
    rotate_left; ·simp only [Act.put, Z1, Z2, Z3, i64_w, i32_w]; rfl
    refine pure_ (i := 18) (N := some 49) (v := ?_) (a' := ?_) (Bz 30 0x7ffff) rfl rfl (by kernel_rfl) (fun _ _ _ h => h) (Or.inl ⟨by rfl, ?_⟩) ?_ ?_
    rotate_left
    ·intro w'; go_simp; with_reducible rfl
    rotate_left; ·simp only [Act.put, Z1, Z2, Z3, i64_w, i32_w]; rfl
    refine pure_ (i := 19) (N := some 50) (v := ?_) (a' := ?_) (Bz 30 0xfffff) rfl rfl (by kernel_rfl) (fun _ _ _ h => h) (Or.inl ⟨by rfl, ?_⟩) ?_ ?_
    rotate_left
    ·intro w'; go_simp; with_reducible rfl
    rotate_left; ·simp only [Act.put, Z1, Z2, Z3, i64_w, i32_w]; rfl
    refine pure_ (i := 20) (N := some 51) (v := ?_) (a' := ?_) (Bz 30 0x1fffff) rfl rfl (by kernel_rfl) (fun _ _ _ h => h) (Or.inl ⟨by rfl, ?_⟩) ?_ ?_
    rotate_left
    ·intro w'; go_simp; with_reducible rfl
    rotate_left; ·simp only [Act.put, Z1, Z2, Z3, i64_w, i32_w]; rfl
    refine pure_ (i := 21) (N := some 52) (v := ?_) (a' := ?_) (Bz 30 0x3fffff) rfl rfl (by kernel_rfl) (fun _ _ _ h => h) (Or.inl ⟨by rfl, ?_⟩) ?_ ?_
    rotate_left
    ·intro w'; go_simp; with_reducible rfl
    rotate_left; ·simp only [Act.put, Z1, Z2, Z3, i64_w, i32_w]; rfl
    refine take_ (i := 22) (N := some 53) (v := ?_) (a' := ?_) (Bz 30 0x7fffff) rfl rfl (by kernel_rfl) (fun _ _ _ h => h) (Or.inl ⟨by rfl, ?_⟩) hHeld ?_ ?_
    rotate_left
    ·rintro w' ⟨s0, s1, s2, s3, s4, s5⟩; go_simp; with_reducible rfl
    rotate_left; ·simp only [Act.put, Z1, Z2, Z3, i64_w, i32_w]; rfl
    refine pure_ (i := 23) (N := some 54) (v := ?_) (a' := ?_) (Bz 30 0xffffff) rfl rfl (by kernel_rfl) (fun _ _ _ h => h) (Or.inl ⟨by rfl, ?_⟩) ?_ ?_
    rotate_left
    ·intro w'; go_simp; with_reducible rfl
    rotate_left; ·simp only [Act.put, Z1, Z2, Z3, i64_w, i32_w]; rfl
    refine pure_ (i := 24) (N := some 55) (v := ?_) (a' := ?_) (Bz 30 0x1ffffff) rfl rfl (by kernel_rfl) (fun _ _ _ h => h) (Or.inl ⟨by rfl, ?_⟩) ?_ ?_
    rotate_left
    ·intro w'; go_simp; with_reducible rfl
    rotate_left; ·simp only [Act.put, Z1, Z2, Z3, i64_w, i32_w]; rfl
    refine pure_ (i := 25) (N := some 56) (v := undef) (a' := ?_) (Bz 30 0x3ffffff) rfl rfl (by kernel_rfl) (fun _ _ _ h => h) (Or.inr ⟨by rfl, rfl⟩) ?_ ?_
    rotate_left; ·simp only [Act.put, Z1, Z2, Z3, i64_w, i32_w]; rfl
    refine pure_ (i := 26) (N := some 57) (v := undef) (a' := ?_) (Bz 30 0x7ffffff) rfl rfl (by kernel_rfl) (fun _ _ _ h => h) (Or.inr ⟨by rfl, rfl⟩) ?_ ?_
    rotate_left; ·simp only [Act.put, Z1, Z2, Z3, i64_w, i32_w]; rfl
    refine pure_ (i := 27) (N := some 58) (v := undef) (a' := ?_) (Bz 30 0xfffffff) rfl rfl (by kernel_rfl) (fun _ _ _ h => h) (Or.inr ⟨by rfl, rfl⟩) ?_ ?_
    rotate_left; ·simp only [Act.put, Z1, Z2, Z3, i64_w, i32_w]; rfl
    refine pure_ (i := 28) (N := some 59) (v := ?_) (a' := ?_) (Bz 30 0x1fffffff) rfl rfl (by kernel_rfl) (fun _ _ _ h => h) (Or.inl ⟨by rfl, ?_⟩) ?_ ?_
    rotate_left
    ·intro w'; go_simp; with_reducible rfl
    rotate_left; ·simp only [Act.put, Z1, Z2, Z3, i64_w, i32_w]; rfl
    refine pure_ (i := 29) (N := some 60) (v := ?_) (a' := ?_) (Bz 30 0x3fffffff) rfl rfl (by kernel_rfl) (fun _ _ _ h => h) (Or.inl ⟨by rfl, ?_⟩) ?_ ?_
    rotate_left
    ·intro w'; go_simp; with_reducible rfl
    rotate_left; ·simp only [Act.put, Z1, Z2, Z3, i64_w, i32_w]; rfl
    refine done_ (by kernel_rfl) ?_
    clear c2 c3 x0 x1 x2 x3 hHeld
    go_wp2
    go_ret2
    exact ⟨false, by rw [HOB.out false]; exact ⟨rfl, HI7.out, HB7.out, HK7.out⟩⟩
end Go.Proofs.YtbccjcdmpiolpaaDoor.T
end
section
namespace Go.Proofs.YtbccjcdmpiolpaaDoor.T
open Go.RowKit Go.Proofs.YtbccjcdmpiolpaaDoorW.PrintWords Go.Proofs.YtbccjcdmpiolpaaDoorW.PrintLast Go.Proofs.YtbccjcdmpiolpaaDoorW.PrintMore
set_option linter.unusedVariables false
set_option linter.unusedSimpArgs false
attribute [local go_sem] max2_int min2_int max_two min_two
inductive DoRes (L : Lg) (vk vn vq va : Int) : Int → Lg × Int × Int → Prop
 | obs (d : Bool) : DoRes L vk vn vq va 0 (L.obs vk vn vq va d)
 | tick : DoRes L vk vn vq va 1 (L.tick va)
 | trig {m : Int} (h0 : m ≠ 0) (h1 : m ≠ 1) : DoRes L vk vn vq va m ((L.trig va).1, 0, (L.trig va).2)
def DoPost (B g : Nat) (w : World) (L : Lg) (m vk vn vq va : Int) (e : Ending) (w' : World) : Prop := ∃ M, DoRes L vk vn vq va m M ∧ TickPost B g w M e w'
set_option maxHeartbeats 16000000 in
set_option maxRecDepth 100000 in
theorem do_calls (B g : Nat) (L : Lg) (m vk vn vq va : Int) (w : World) (h : LogAt B g L w) (hBS : B ≤ w.heap.size) (hok : OkL L) (hu : va ≤ 10000000000) :
  Calls Tryd.prog 11 #[.pointer (some ⟨g, 0, none⟩), .agg #[.int .i64 m, .int .i64 vk, .int .i64 vn, .int .i64 vq, .int .i64 va]] w fun e w' => DoPost B g w L m vk vn vq va e w' := by
 have HI := Aside0.mk h
 have HBS := Aside0.mk hBS
 have HOK := Aside0.mk hok
 have HU := Aside0.mk hu
 have HBL : ∀ {w1 w2 : World}, Below w.heap.size w w1 → Below B w1 w2 → Below B w w2 := fun h1 h2 => (h1.mono hBS).trans h2
 clear h hBS hok hu
 by_cases k0 : m = 0
 ·subst k0
  go_enter Tryd.func11, Tryd.ntmps11
  go_wp2_with (first | ((with_reducible refine gate_dst (N := 3) rfl ?_); refine box_event ?hg (N := 3) ?hd (cs := #[.int .i64 0, .int .i64 vk, .int .i64 vn, .int .i64 vq, .int .i64 va]) (t := 34) ?hr ?_; (case hd => rfl); (case hg => rfl); (case hr => first | (go_simp; done) | (go_simp; rfl)); intro gx hgx w1 hbox hb; have HX1 := Aside0.mk hbox; have HI1 := Aside0.mk (HI.out.below hb); have HB1 := Aside0.mk hb; have HK1 := Aside0.mk (KeepL.of_below hb g); have x0 := (blk_cell hbox 0).trans rfl; have x1 := (blk_cell hbox 1).trans rfl; have x2 := (blk_cell hbox 2).trans rfl; have x3 := (blk_cell hbox 3).trans rfl; have x4 := (blk_cell hbox 4).trans rfl; clear hb hbox hgx) | (go_at_call 15; (with_reducible refine (obs_calls B g L vk vn vq va _ HI1.out (Nat.le_trans HBS.out HK1.out.size) HOK.out HU.out).mono ?_); rintro e w2 ⟨d, rfl, hi, hb, hk⟩; have HI2 := Aside0.mk hi; have HB2 := Aside0.mk (HBL HB1.out hb); have HK2 := Aside0.mk (HK1.out.trans hk); clear hi hb hk))
  all_goals (go_ret2; exact ⟨_, DoRes.obs d, rfl, HI2.out, HB2.out, HK2.out⟩)
 by_cases k1 : m = 1
 ·subst k1
  clear k0
  go_enter Tryd.func11, Tryd.ntmps11
  go_wp2_with (first | ((with_reducible refine gate_dst (N := 3) rfl ?_); refine box_event ?hg (N := 3) ?hd (cs := #[.int .i64 1, .int .i64 vk, .int .i64 vn, .int .i64 vq, .int .i64 va]) (t := 34) ?hr ?_; (case hd => rfl); (case hg => rfl); (case hr => first | (go_simp; done) | (go_simp; rfl)); intro gx hgx w1 hbox hb; have HX1 := Aside0.mk hbox; have HI1 := Aside0.mk (HI.out.below hb); have HB1 := Aside0.mk hb; have HK1 := Aside0.mk (KeepL.of_below hb g); have x0 := (blk_cell hbox 0).trans rfl; have x1 := (blk_cell hbox 1).trans rfl; have x2 := (blk_cell hbox 2).trans rfl; have x3 := (blk_cell hbox 3).trans rfl; have x4 := (blk_cell hbox 4).trans rfl; clear hb hbox hgx) | (go_at_call 16; (with_reducible refine (tick_calls B g L va _ HI1.out (Nat.le_trans HBS.out HK1.out.size) HOK.out HU.out).mono ?_); rintro e w2 ⟨rfl, hi, hb, hk⟩; have HI2 := Aside0.mk hi; have HB2 := Aside0.mk (HBL HB1.out hb); have HK2 := Aside0.mk (HK1.out.trans hk); clear hi hb hk))
  all_goals (go_ret2; exact ⟨_, DoRes.tick, rfl, HI2.out, HB2.out, HK2.out⟩)
 have D := Aside0.mk (And.intro k0 k1)
 have f0 : decide (m = 0) = false := decide_eq_false k0
 have f1 : decide (m = 1) = false := decide_eq_false k1
 have f0P : (m = 0) = False := eq_false k0
 have f1P : (m = 1) = False := eq_false k1
 have f0B : (m == 0) = false := beq_false_of_ne k0
 have f1B : (m == 1) = false := beq_false_of_ne k1
 clear k0 k1
 go_enter Tryd.func11, Tryd.ntmps11
 go_wp2_with (first | ((with_reducible refine gate_dst (N := 3) rfl ?_); refine box_event ?hg (N := 3) ?hd (cs := #[.int .i64 m, .int .i64 vk, .int .i64 vn, .int .i64 vq, .int .i64 va]) (t := 34) ?hr ?_; (case hd => rfl); (case hg => rfl); (case hr => first | (go_simp; done) | (go_simp; rfl)); intro gx hgx w1 hbox hb; have HX1 := Aside0.mk hbox; have HI1 := Aside0.mk (HI.out.below hb); have HB1 := Aside0.mk hb; have HK1 := Aside0.mk (KeepL.of_below hb g); have x0 := (blk_cell hbox 0).trans rfl; have x1 := (blk_cell hbox 1).trans rfl; have x2 := (blk_cell hbox 2).trans rfl; have x3 := (blk_cell hbox 3).trans rfl; have x4 := (blk_cell hbox 4).trans rfl; clear hb hbox hgx) | (go_at_call 24; (with_reducible refine (trig_calls B g L va _ HI1.out (Nat.le_trans HBS.out HK1.out.size) HOK.out HU.out).mono ?_); rintro e w2 ⟨rfl, hi, hb, hk⟩; have HI2 := Aside0.mk hi; have HB2 := Aside0.mk (HBL HB1.out hb); have HK2 := Aside0.mk (HK1.out.trans hk); clear hi hb hk))
 all_goals (go_ret2; exact ⟨_, DoRes.trig D.out.1 D.out.2, rfl, HI2.out, HB2.out, HK2.out⟩)
end Go.Proofs.YtbccjcdmpiolpaaDoor.T
end
section
namespace Go.Proofs.YtbccjcdmpiolpaaDoor.T
open Go.RowKit Go.Proofs.YtbccjcdmpiolpaaDoor.Pure Go.Proofs.YtbccjcdmpiolpaaDoorW.PrintWords Go.Proofs.YtbccjcdmpiolpaaDoorW.PrintLast Go.Proofs.YtbccjcdmpiolpaaDoorW.PrintMore
set_option linter.unusedVariables false
set_option linter.unusedSimpArgs false
theorem row_of (now : Int) : ∀ (xs : List S44) (k b : Int), (∀ j (h : j < xs.length), xs[j].f0 = k + (j : Int)) → (∀ j (h : j < xs.length), xs[j].f1 ≤ now) → (∀ h : 0 < xs.length, b ≤ xs[0].f1) → (∀ j (h : j + 1 < xs.length), xs[j].f1 ≤ xs[j + 1].f1) → Row44 now k b xs
 | [], _, _, _, _, _, _ => trivial
 | x :: xs, k, b, h1, h2, h3, h4 => by
  have e0 : x.f0 = k + ((0 : Nat) : Int) := h1 0 (by simp)
  refine ⟨by omega, h3 (by simp), h2 0 (by simp), row_of now xs (k + 1) x.f1 (fun j h => ?_) (fun j h => h2 (j + 1) (by simp; omega)) (fun h => h4 0 (by simp; omega)) (fun j h => h4 (j + 1) (by simp; omega))⟩
  have e : xs[j].f0 = k + ((j + 1 : Nat) : Int) := h1 (j + 1) (by simp; omega)
  omega
theorem Hist.len_recs {L : Lg} {H : List S44} (h : Hist L H) (ok : OkL L) : (L.recs.length : Int) = mn L.total L.sz := by
 have e : L.recs.length = min L.sz.toNat H.length := by rw [h.recs]; exact lastN_len _ _
 have hl := h.len
 have hs := ok.s0
 unfold mn
 rcases Nat.le_total L.sz.toNat H.length with k | k
 ·rw [Nat.min_eq_left k] at e
  split <;> omega
 ·rw [Nat.min_eq_right k] at e
  split <;> omega
theorem Hist.at_ {L : Lg} {H : List S44} (h : Hist L H) (j : Nat) (hj : j < L.recs.length) : ∃ hi : H.length - L.recs.length + j < H.length, L.recs[j] = H[H.length - L.recs.length + j] := by
 have e : L.recs.length = min L.sz.toNat H.length := by rw [h.recs]; exact lastN_len _ _
 have hle : L.recs.length ≤ H.length := by rw [e]; exact Nat.min_le_right _ _
 have hi : H.length - L.recs.length + j < H.length := by omega
 have hq : H.length - L.sz.toNat = H.length - L.recs.length := by
  rcases Nat.le_total L.sz.toNat H.length with k | k
  ·rw [Nat.min_eq_left k] at e; omega
  ·rw [Nat.min_eq_right k] at e; omega
 refine ⟨hi, ?_⟩
 have h1 : L.recs[j]? = H[H.length - L.recs.length + j]? := by
  conv => lhs; rw [h.recs]
  unfold lastN
  rw [List.getElem?_drop, hq]
 rw [List.getElem?_eq_getElem hj, List.getElem?_eq_getElem hi] at h1
 injection h1
theorem Hist.le_ {L : Lg} {H : List S44} (h : Hist L H) : L.recs.length ≤ H.length := by
 rw [h.recs, lastN_len]
 exact Nat.min_le_right _ _
theorem Hist.num_ {L : Lg} {H : List S44} (h : Hist L H) (j : Nat) (hj : j < L.recs.length) : L.recs[j].f0 = L.total - (L.recs.length : Int) + 1 + (j : Int) ∧ L.recs[j].f4 = 0 ∧ L.recs[j].f1 ≤ L.now := by
 obtain ⟨hi, e⟩ := h.at_ j hj
 have hl := h.len
 have hle := h.le_
 have hn := h.num _ hi
 rw [e]
 exact ⟨by omega, hn.2, h.now _ hi⟩
theorem Hist.asc_ {L : Lg} {H : List S44} (h : Hist L H) (j : Nat) (hj : j + 1 < L.recs.length) : L.recs[j].f1 ≤ L.recs[j + 1].f1 := by
 obtain ⟨hi, e⟩ := h.at_ j (by omega)
 obtain ⟨hi2, e2⟩ := h.at_ (j + 1) hj
 rw [e, e2]
 exact h.asc _ hi2
structure Gd (x : S44) : Prop where
 b0 : 0 ≤ x.f1
 c0 : 0 ≤ x.f2.f0
 c1 : x.f2.f0 ≤ 3
 n0 : -1000000000000 ≤ x.f2.f1
 n1 : x.f2.f1 ≤ 1000000000000
 e0 : 0 ≤ x.f3
 e1 : x.f3 ≤ 15
structure Vl (k n q : Int) : Prop where
 c0 : 0 ≤ k
 c1 : k ≤ 3
 n0 : -1000000000000 ≤ n
 n1 : n ≤ 1000000000000
 e0 : 0 ≤ q
 e1 : q ≤ 15
structure LgI (nm pt : ByteArray) (way iv st sz : Int) (n : Int) (L : Lg) (H : List S44) : Prop where
 ok : OkL L
 hist : Hist L H
 nm : L.nm = nm
 pt : L.pt = pt
 way : L.way = way
 iv : L.iv = iv
 st : L.st = st
 sz : L.sz = sz
 gd : ∀ x ∈ H, Gd x
 val : L.valid = true → Vl L.vk L.vn L.q
 tot : L.total ≤ n + L.now
 now : L.now ≤ 1010000
theorem pass_le {L : Lg} {u : Int} (ok : OkL L) (hu : L.now ≤ u) : (L.pass u).2 ≤ u - L.now := by
 by_cases k : L.way = 1 ∧ L.valid = true
 ·have e : (L.pass u).2 = u / L.iv - L.now / L.iv := by unfold Lg.pass; rw [if_pos k]
  have hiv := ok.iv k.1
  rw [e]
  have h1 : u ≤ L.now + (u - L.now) * L.iv := by
   have := Int.mul_le_mul_of_nonneg_left (show (1 : Int) ≤ L.iv by omega) (show 0 ≤ u - L.now by omega)
   rw [Int.mul_one] at this
   omega
  have h2 : u / L.iv ≤ (L.now + (u - L.now) * L.iv) / L.iv := Int.ediv_le_ediv (by omega) h1
  rw [Int.add_mul_ediv_right _ _ (show L.iv ≠ 0 by omega)] at h2
  omega
 ·have e : (L.pass u).2 = 0 := by unfold Lg.pass; rw [if_neg k]
  omega
theorem mem_ix {P : S44 → Prop} {l : List S44} (h : ∀ i (hi : i < l.length), P l[i]) : ∀ x ∈ l, P x := fun x hx => by
 obtain ⟨i, hi, rfl⟩ := List.mem_iff_getElem.1 hx
 exact h i hi
section
variable {nm pt : ByteArray} {way iv st sz n : Int} {L : Lg} {H : List S44}
theorem LgI.up (h : LgI nm pt way iv st sz n L H) {m : Int} (hm : n ≤ m) : LgI nm pt way iv st sz m L H := ⟨h.ok, h.hist, h.nm, h.pt, h.way, h.iv, h.st, h.sz, h.gd, h.val, by have := h.tot; omega, h.now⟩
theorem LgI.pass (h : LgI nm pt way iv st sz n L H) (hn : n ≤ 1000) {u : Int} (h0 : L.now ≤ u) (h1 : u ≤ 1010000) : LgI nm pt way iv st sz n (L.pass u).1 (H ++ passN L u) := by
 have hu : L.now ≤ u ∧ u ≤ 10000000000 := ⟨h0, by omega⟩
 have po := pass_ok h.ok hu
 have hl := pass_le h.ok h0
 have ht := h.tot
 have hp := hist_pass h.hist h.ok hu
 refine ⟨ok_pass h.ok hu (by omega), hp.1, po.same.nm.trans h.nm, po.same.pt.trans h.pt, po.same.way.trans h.way, po.same.iv.trans h.iv, po.same.st.trans h.st, po.same.sz.trans h.sz, ?_, fun hv => ?_, ?_, ?_⟩
 ·intro x hx
  rcases List.mem_append.1 hx with hx | hx
  ·exact h.gd x hx
  ·suffices hs : ∀ y ∈ passN L u, Gd y from hs x hx
   by_cases k : L.way = 1 ∧ L.valid = true
   ·have hN : passN L u = news L.total (L.now / L.iv + 1) L.iv L.vk L.vn L.q (u / L.iv - L.now / L.iv).toNat := if_pos k
    have hiv := h.ok.iv k.1
    have hq : 0 ≤ L.now / L.iv := Int.ediv_nonneg h.ok.n0 (by omega)
    have hv := h.val k.2
    refine mem_ix (P := Gd) fun i hi => ?_
    rw [List.getElem_of_eq hN hi, news_get]
    exact ⟨Int.mul_nonneg (by omega) (by omega), hv.c0, hv.c1, hv.n0, hv.n1, hv.e0, hv.e1⟩
   ·have hN : passN L u = [] := if_neg k
    rw [hN]
    intro x hx
    cases hx
 ·have e1 := po.same.valid
  rw [po.same.vk, po.same.vn, po.same.q]
  exact h.val (by rw [e1] at hv; exact hv)
 ·rw [po.tot, po.same.now]
  show L.total + (L.pass u).2 ≤ n + u
  omega
 ·rw [po.same.now]
  exact h1
theorem LgI.got (h : LgI nm pt way iv st sz n L H) {k v q a : Int} (h0 : L.now ≤ a) (h1 : a ≤ 1010000) (hv : Vl k v q) : LgI nm pt way iv st sz n (L.got k v q a) H := by
 refine ⟨ok_got h.ok ⟨?_, by omega⟩, h.hist.same rfl rfl rfl h0, h.nm, h.pt, h.way, h.iv, h.st, h.sz, h.gd, fun _ => hv, ?_, h1⟩
 ·have := h.ok.n0; omega
 ·have := h.tot
  show L.total ≤ n + a
  omega
theorem LgI.rec1 (h : LgI nm pt way iv st sz n L H) (hn : n ≤ 1000) (hv : L.valid = true) {a : Int} (ha : a = L.now) : LgI nm pt way iv st sz (n + 1) (L.record a) (H ++ [L.rec1 a]) := by
 have v := h.val hv
 have ht := h.tot
 have hw := h.now
 refine ⟨ok_record h.ok (by omega), h.hist.one h.ok ha, h.nm, h.pt, h.way, h.iv, h.st, h.sz, ?_, fun _ => v, ?_, h.now⟩
 ·intro x hx
  rcases List.mem_append.1 hx with hx | hx
  ·exact h.gd x hx
  ·rw [List.mem_singleton.1 hx]
   exact ⟨by rw [ha]; exact h.ok.n0, v.c0, v.c1, v.n0, v.n1, v.e0, v.e1⟩
 ·show L.total + 1 ≤ n + 1 + L.now
  omega
theorem LgI.obs (h : LgI nm pt way iv st sz n L H) (hn : n ≤ 1000) {k v q a : Int} {d : Bool} (h1 : a ≤ 1010000) (hv : Vl k v q) : LgI nm pt way iv st sz (n + 1) (L.obs k v q a d).1 (H ++ obsN L k v q a d) := by
 unfold Lg.obs obsN
 by_cases k0 : a ≤ L.now
 ·rw [if_pos k0, if_pos k0, List.append_nil]
  exact h.up (by omega)
 rw [if_neg k0, if_neg k0]
 have hp := h.pass hn (u := a - 1) (by omega) (by omega)
 have po := pass_ok h.ok (u := a - 1) ⟨by omega, by omega⟩
 have hg := hp.got (k := k) (v := v) (q := q) (a := a) (by rw [po.same.now]; show a - 1 ≤ a; omega) h1 hv
 by_cases k1 : (L.way = 1 ∧ a % L.iv = 0) ∨ (L.way = 2 ∧ d = true)
 ·rw [if_pos k1, if_pos k1, ← List.append_assoc]
  exact hg.rec1 hn rfl rfl
 ·rw [if_neg k1, if_neg k1]
  exact hg.up (by omega)
theorem LgI.tick (h : LgI nm pt way iv st sz n L H) (hn : n ≤ 1000) {a : Int} (h1 : a ≤ 1010000) : LgI nm pt way iv st sz (n + 1) (L.tick a).1 (H ++ (if a < L.now then [] else passN L a)) := by
 unfold Lg.tick
 by_cases k0 : a < L.now
 ·rw [if_pos k0, if_pos k0, List.append_nil]
  exact h.up (by omega)
 rw [if_neg k0, if_neg k0]
 exact (h.pass hn (u := a) (by omega) h1).up (by omega)
theorem LgI.trig (h : LgI nm pt way iv st sz n L H) (hn : n ≤ 1000) {a : Int} (h1 : a ≤ 1010000) : ∃ N, LgI nm pt way iv st sz (n + 1) (L.trig a).1 (H ++ N) ∧ (((L.trig a).2 = 0 ∧ (L.trig a).1.total = L.total + 1) ∨ ((L.trig a).2 ≠ 0 ∧ (L.trig a).1.total = L.total)) := by
 unfold Lg.trig
 have h0 : LgI nm pt way iv st sz (n + 1) L (H ++ []) := by rw [List.append_nil]; exact h.up (by omega)
 by_cases k0 : a < L.now
 ·rw [if_pos k0]
  exact ⟨[], h0, Or.inr ⟨(show ¬ ((15 : Int) = 0) by decide), rfl⟩⟩
 rw [if_neg k0]
 by_cases k1 : L.way ≠ 3
 ·rw [if_pos k1]
  exact ⟨[], h0, Or.inr ⟨(show ¬ ((8 : Int) = 0) by decide), rfl⟩⟩
 rw [if_neg k1]
 by_cases k2 : L.valid = false
 ·rw [if_pos k2]
  exact ⟨[], h0, Or.inr ⟨(show ¬ ((9 : Int) = 0) by decide), rfl⟩⟩
 rw [if_neg k2]
 have hp := h.pass hn (u := a) (by omega) h1
 have po := pass_ok h.ok (u := a) ⟨by omega, by omega⟩
 have hw : ¬ (L.way = 1 ∧ L.valid = true) := fun q => k1 (by have := q.1; omega)
 have e2 : (L.pass a).2 = 0 := by unfold Lg.pass; rw [if_neg hw]
 have hv : (L.pass a).1.valid = true := by
  rw [po.same.valid]
  show L.valid = true
  cases hq : L.valid with
  | true => rfl
  | false => exact absurd hq k2
 refine ⟨passN L a ++ [(L.pass a).1.rec1 a], ?_, Or.inl ⟨rfl, ?_⟩⟩
 ·rw [← List.append_assoc]
  exact hp.rec1 hn hv (by rw [po.same.now])
 ·show (L.pass a).1.total + 1 = L.total + 1
  rw [po.tot, e2]
  omega
structure MvDone (L : Lg) (m : Int) (M : Lg × Int × Int) : Prop where
 tot : M.1.total = L.total + (if m = 2 ∧ M.2.2 = 0 then 1 else M.2.1)
 err : M.2.2 ≠ 0 → M.2.1 = 0
theorem LgI.done (h : LgI nm pt way iv st sz n L H) (hn : n ≤ 1000) {k v q a m : Int} {M : Lg × Int × Int} (hd : DoRes L k v q a m M) (hm : m ≤ 2) (hm0 : 0 ≤ m) (h1 : a ≤ 1010000) (hv : Vl k v q) : ∃ N, LgI nm pt way iv st sz (n + 1) M.1 (H ++ N) ∧ MvDone L m M := by
 have ht := h.tot
 have hw := h.now
 cases hd with
 | obs d =>
  refine ⟨_, h.obs hn h1 hv, ?_, ?_⟩
  ·rw [if_neg (fun q => absurd q.1 (by decide))]
   unfold Lg.obs
   by_cases k0 : a ≤ L.now
   ·rw [if_pos k0]
    show L.total = L.total + 0
    omega
   rw [if_neg k0]
   have po := pass_ok h.ok (u := a - 1) ⟨by omega, by omega⟩
   split
   ·show (L.pass (a - 1)).1.total + 1 = L.total + ((L.pass (a - 1)).2 + 1)
    rw [po.tot]
    omega
   ·show (L.pass (a - 1)).1.total = L.total + (L.pass (a - 1)).2
    exact po.tot
  ·unfold Lg.obs
   by_cases k0 : a ≤ L.now
   ·rw [if_pos k0]
    exact fun _ => rfl
   rw [if_neg k0]
   split <;> exact fun e => absurd rfl e
 | tick =>
  refine ⟨_, h.tick hn h1, ?_, ?_⟩
  ·rw [if_neg (fun q => absurd q.1 (by decide))]
   unfold Lg.tick
   by_cases k0 : a < L.now
   ·rw [if_pos k0]
    show L.total = L.total + 0
    omega
   rw [if_neg k0]
   exact (pass_ok h.ok (u := a) ⟨by omega, by omega⟩).tot
  ·unfold Lg.tick
   split
   ·exact fun _ => rfl
   ·exact fun e => absurd rfl e
 | trig g0 g1 =>
  have e2 : m = 2 := by omega
  obtain ⟨N, hl, hc⟩ := h.trig hn h1
  refine ⟨N, hl, ?_, fun _ => rfl⟩
  show (L.trig a).1.total = L.total + (if m = 2 ∧ (L.trig a).2 = 0 then 1 else 0)
  rcases hc with ⟨c1, c2⟩ | ⟨c1, c2⟩
  ·rw [if_pos ⟨e2, c1⟩, c2]
  ·rw [if_neg (fun q => c1 q.2), c2]
   omega
theorem LgI.restored (h : LgI nm pt way iv st sz n L H) (hn : n ≤ 1000) (hs : sz ≤ 1024) : restS (strOfNums (saveB L.total L.now L.recs)) sz = some (L.total, L.now, L.recs) := by
 have ht := h.tot
 have hw := h.now
 have hl := h.hist.len_recs h.ok
 have hll := h.ok.len
 rw [h.sz] at hl hll
 refine rest_str L.total L.now sz L.recs h.ok.t0 (by show L.total ≤ 6311433599; omega) h.ok.n0 (by show L.now ≤ 6311433599; omega) hl (by omega) ?_ ?_
 ·refine mem_ix (P := Good44) fun j hj => ?_
  obtain ⟨hi, e⟩ := h.hist.at_ j hj
  obtain ⟨u0, u1, u2⟩ := h.hist.num_ j hj
  have g := h.gd _ (List.getElem_mem hi)
  rw [← e] at g
  refine ⟨?_, by show L.recs[j].f0 ≤ 6311433599; omega, g.b0, by show L.recs[j].f1 ≤ 6311433599; omega, g.c0, g.c1, ⟨by have := g.n0; omega, by have := g.n1; omega⟩, g.e0, g.e1, u1⟩
  have hlt := h.hist.len
  have hle := h.hist.le_
  omega
 ·refine row_of L.now L.recs _ 0 (fun j hj => (h.hist.num_ j hj).1) (fun j hj => (h.hist.num_ j hj).2.2) (fun hj => ?_) (fun j hj => h.hist.asc_ j hj)
  obtain ⟨hi, e⟩ := h.hist.at_ 0 hj
  rw [e]
  exact (h.gd _ (List.getElem_mem hi)).b0
theorem LgI.again (h : LgI nm pt way iv st sz n L H) : LgI nm pt way iv st sz (n + 1) ⟨nm, pt, way, iv, st, sz, L.now, false, 0, 0, 0, 0, L.total, L.recs⟩ H := by
 have ok := h.ok
 have ht := h.tot
 refine ⟨⟨ok.n0, ok.n1, ok.t0, ok.t1, by have := ok.s0; rw [h.sz] at this; exact this, by have := ok.s1; rw [h.sz] at this; exact this, by have := ok.len; rw [h.sz] at this; exact this, by have := ok.iv; rw [h.way, h.iv] at this; exact this⟩, h.hist.same rfl rfl h.sz.symm (Int.le_refl _), rfl, rfl, rfl, rfl, rfl, rfl, h.gd, fun e => (by cases e), ?_, h.now⟩
 show L.total ≤ n + 1 + L.now
 omega
end
theorem LgI.new {nm pt : ByteArray} {way iv st sz a : Int} (h0 : 0 ≤ a) (h1 : a ≤ 1000000) (s0 : 1 ≤ sz) (s1 : sz ≤ 1024) (hi : way = 1 → 1 ≤ iv ∧ iv ≤ 86400) : LgI nm pt way iv st sz 0 ⟨nm, pt, way, iv, st, sz, a, false, 0, 0, 0, 0, 0, []⟩ [] := by
 refine ⟨⟨h0, by show a ≤ 10000000000; omega, Int.le_refl 0, (show (0 : Int) ≤ 100000000000000 by decide), s0, by show sz ≤ 1000000; omega, by show (0 : Int) ≤ sz; omega, fun e => ?_⟩, ⟨rfl, (show ([] : List S44) = lastN sz.toNat [] by unfold lastN; simp), fun i h => (by cases h), fun i h => (by cases h), fun i h => (by cases h)⟩, rfl, rfl, rfl, rfl, rfl, rfl, fun x h => (by cases h), fun e => (by cases e), by show (0 : Int) ≤ 0 + a; omega, by show a ≤ 1010000; omega⟩
 have := hi e
 exact ⟨this.1, by show iv ≤ 1000000; omega⟩
end Go.Proofs.YtbccjcdmpiolpaaDoor.T
end
section
namespace Go.Proofs.YtbccjcdmpiolpaaDoor.T
open Go.RowKit Go.Proofs.YtbccjcdmpiolpaaDoorW.PrintWords Go.Proofs.YtbccjcdmpiolpaaDoorW.PrintLast Go.Proofs.YtbccjcdmpiolpaaDoorW.PrintMore
attribute [local go_sem] max2_int min2_int max_two min_two max_three min_three max_four min_four
set_option linter.unusedVariables false
set_option linter.unusedSimpArgs false
def plenumref07_Lower.f (a0 : Int) : Option (Bool) := if a0 ≥ 97 then (some (decide (a0 ≤ 122))) else (some false)
set_option maxHeartbeats 8000000 in
set_option maxRecDepth 100000 in
theorem plenumref07_Lower.calls (a0 : Int) (r : Bool) (w : World) (hG : Glob w) (h : plenumref07_Lower.f a0 = some r) :
  Calls Tryd.prog 55 #[.int .u8 a0] w fun e w' => e = .returned (.bool r) ∧ Drawn0 w w' := by
 have HG := Aside0.mk hG
 clear hG
 have H : (if a0 ≥ 97 then (some (decide (a0 ≤ 122))) else (some false)) = some r := h
 clear h
 by_cases c2 : a0 ≥ 97
 ·rw [if_pos c2] at H
  have c2b0 : decide (97 ≤ a0) = true := decide_eq_true c2
  clear c2
  obtain rfl := Option.some.inj H
  go_enter Tryd.func55, Tryd.ntmps55
  go_wp2
  go_ret
  exact ⟨by first | rfl | (simp; done) | (simp [*]; done), by repeat (first | exact Drawn0.refl _ | apply Drawn0.step)⟩
 ·rw [if_neg c2] at H
  have c2b0 : decide (97 ≤ a0) = false := decide_eq_false c2
  clear c2
  obtain rfl := Option.some.inj H
  go_enter Tryd.func55, Tryd.ntmps55
  go_wp2
  go_ret
  exact ⟨by first | rfl | (simp; done) | (simp [*]; done), by repeat (first | exact Drawn0.refl _ | apply Drawn0.step)⟩
end Go.Proofs.YtbccjcdmpiolpaaDoor.T
end
section
namespace Go.Proofs.YtbccjcdmpiolpaaDoor.T
open Go.RowKit Go.Proofs.YtbccjcdmpiolpaaDoorW.PrintWords Go.Proofs.YtbccjcdmpiolpaaDoorW.PrintLast Go.Proofs.YtbccjcdmpiolpaaDoorW.PrintMore
attribute [local go_sem] max2_int min2_int max_two min_two max_three min_three max_four min_four
set_option linter.unusedVariables false
set_option linter.unusedSimpArgs false
def plenumref07_Digit.f (a0 : Int) : Option (Bool) := if a0 ≥ 48 then (some (decide (a0 ≤ 57))) else (some false)
set_option maxHeartbeats 8000000 in
set_option maxRecDepth 100000 in
theorem plenumref07_Digit.calls (a0 : Int) (r : Bool) (w : World) (hG : Glob w) (h : plenumref07_Digit.f a0 = some r) :
  Calls Tryd.prog 56 #[.int .u8 a0] w fun e w' => e = .returned (.bool r) ∧ Drawn0 w w' := by
 have HG := Aside0.mk hG
 clear hG
 have H : (if a0 ≥ 48 then (some (decide (a0 ≤ 57))) else (some false)) = some r := h
 clear h
 by_cases c2 : a0 ≥ 48
 ·rw [if_pos c2] at H
  have c2b0 : decide (48 ≤ a0) = true := decide_eq_true c2
  clear c2
  obtain rfl := Option.some.inj H
  go_enter Tryd.func56, Tryd.ntmps56
  go_wp2
  go_ret
  exact ⟨by first | rfl | (simp; done) | (simp [*]; done), by repeat (first | exact Drawn0.refl _ | apply Drawn0.step)⟩
 ·rw [if_neg c2] at H
  have c2b0 : decide (48 ≤ a0) = false := decide_eq_false c2
  clear c2
  obtain rfl := Option.some.inj H
  go_enter Tryd.func56, Tryd.ntmps56
  go_wp2
  go_ret
  exact ⟨by first | rfl | (simp; done) | (simp [*]; done), by repeat (first | exact Drawn0.refl _ | apply Drawn0.step)⟩
end Go.Proofs.YtbccjcdmpiolpaaDoor.T
end
section
namespace Go.Proofs.YtbccjcdmpiolpaaDoor.T
open Go.RowKit Go.Proofs.YtbccjcdmpiolpaaDoorW.PrintWords Go.Proofs.YtbccjcdmpiolpaaDoorW.PrintLast Go.Proofs.YtbccjcdmpiolpaaDoorW.PrintMore
attribute [local go_sem] max2_int min2_int max_two min_two max_three min_three max_four min_four
set_option linter.unusedVariables false
set_option linter.unusedSimpArgs false
mutual
def plenumref07_Name.j0 : Nat → ByteArray → Bool → Option (Bool)
 | 0, _, _ => none
 | k + 1, x0, x17 => if x17 = true then (some false) else (plenumref07_Name.l0 k x0 1)
def plenumref07_Name.l0 : Nat → ByteArray → Int → Option (Bool)
 | 0, _, _ => none
 | k + 1, x0, x3 => if x3 < (x0.size : Int) then (if 0 ≤ x3 then ((plenumref07_Lower.f (bt x0 x3)).bind fun t164 => (if t164 = true then (plenumref07_Name.l0 k x0 (wrap64 (x3 + 1))) else ((plenumref07_Digit.f (bt x0 x3)).bind fun t165 => (if t165 = true then (plenumref07_Name.l0 k x0 (wrap64 (x3 + 1))) else (if (bt x0 x3) = 95 then (plenumref07_Name.l0 k x0 (wrap64 (x3 + 1))) else (some false)))))) else (none)) else (some true)
end
def plenumref07_Name.f (k : Nat) (a0 : ByteArray) : Option (Bool) := if (a0.size : Int) < 1 then (plenumref07_Name.j0 k a0 true) else (if (a0.size : Int) > 24 then (plenumref07_Name.j0 k a0 true) else (if 0 < (a0.size : Int) then ((plenumref07_Lower.f (bt a0 0)).bind fun t163 => (plenumref07_Name.j0 k a0 (!t163))) else (none)))
set_option maxHeartbeats 8000000 in
set_option maxRecDepth 100000 in
theorem plenumref07_Name.calls (k : Nat) (a0 : ByteArray) (r : Bool) (w : World) (hG : Glob w) (h : plenumref07_Name.f k a0 = some r) :
  Calls Tryd.prog 30 #[.string a0] w fun e w' => e = .returned (.bool r) ∧ Drawn0 w w' := by
 have HG := Aside0.mk hG
 clear hG
 have H : (if (a0.size : Int) < 1 then (plenumref07_Name.j0 k a0 true) else (if (a0.size : Int) > 24 then (plenumref07_Name.j0 k a0 true) else (if 0 < (a0.size : Int) then ((plenumref07_Lower.f (bt a0 0)).bind fun t163 => (plenumref07_Name.j0 k a0 (!t163))) else (none)))) = some r := h
 clear h
 have HC2 := Aside0.mk H
 clear H
 go_enter Tryd.func30, Tryd.ntmps30
 go_upto_region 1 with (fail)
 go_cut [17] (fun v17 wc => ∃ (kq : Nat) (x17_1 : Bool), v17 = .bool x17_1 ∧ Aside0 (plenumref07_Name.j0 kq a0 x17_1 = some r) ∧ Aside0 (kq ≤ k) ∧ Drawn0 w wc)
 case first =>
  have H := HC2.out
  clear HC2
  by_cases c3 : (a0.size : Int) < 1
  ·rw [if_pos c3] at H
   have c3b0 : decide ((a0.size : Int) < 1) = true := decide_eq_true c3
   have c3b1 : decide (a0.size < 1) = true := decide_eq_true (by omega)
   clear c3
   (first | rw [c3b0] | (simp only [i64_w, i32_w]; rw [c3b0]) | skip)
   have H' := Aside0.mk H
   clear H
   go_wp2
   go_meet
   case rel => exact ⟨_, (true), (by first | rfl | (simp; done) | (simp [*]; done)), H', ⟨by first | omega | exact Nat.le_refl _⟩, by repeat (first | exact Drawn0.refl _ | apply Drawn0.step)⟩
  ·rw [if_neg c3] at H
   have c3b0 : decide ((a0.size : Int) < 1) = false := decide_eq_false c3
   have c3b1 : decide (a0.size < 1) = false := decide_eq_false (by omega)
   clear c3
   (first | rw [c3b0] | (simp only [i64_w, i32_w]; rw [c3b0]) | skip)
   by_cases c4 : (a0.size : Int) > 24
   ·rw [if_pos c4] at H
    have c4b0 : decide (24 < (a0.size : Int)) = true := decide_eq_true c4
    have c4b1 : decide (24 < a0.size) = true := decide_eq_true (by omega)
    clear c4
    have H' := Aside0.mk H
    clear H
    go_wp2
    go_meet
    case rel => exact ⟨_, (true), (by first | rfl | (simp; done) | (simp [*]; done)), H', ⟨by first | omega | exact Nat.le_refl _⟩, by repeat (first | exact Drawn0.refl _ | apply Drawn0.step)⟩
   ·rw [if_neg c4] at H
    have c4b0 : decide (24 < (a0.size : Int)) = false := decide_eq_false c4
    have c4b1 : decide (24 < a0.size) = false := decide_eq_false (by omega)
    clear c4
    by_cases c5 : 0 < (a0.size : Int)
    ·rw [if_pos c5] at H
     have c5b0 : decide (0 < (a0.size : Int)) = true := decide_eq_true c5
     have c5b1 : decide (0 < a0.size) = true := decide_eq_true (by omega)
     clear c5
     replace H := Option.bind_eq_some_iff.mp H
     obtain ⟨t163, A70, H⟩ := H
     replace H : (plenumref07_Name.j0 k a0 (!t163)) = some r := H
     have A7 := Aside0.mk A70
     clear A70
     have H' := Aside0.mk H
     clear H
     have p6 : 0 ≤ (0 : Int) := (by omega)
     have q6 : 0 < a0.size := (by have : (0 : Int) < (a0.size : Int) := of_decide_eq_true (by first | (with_reducible assumption) | assumption); omega)
     have hx6 : ∀ h : 0 < a0.size, ((a0[0]'h).toNat : Int) = bt a0 0 := bt_at a0 0
     clear p6
     have qi6 : (0 < (a0.size : Int)) = True := eq_true (of_decide_eq_true (by first | (with_reducible assumption) | assumption))
     replace q6 := eq_true q6
     go_wp2_with (first | (go_at_call 55; (with_reducible refine (plenumref07_Lower.calls (bt a0 0) t163 _ ?side99  A7.out).mono ?_); (case side99 => first | exact HG.out | exact Glob.below HG.out (by repeat (first | (with_reducible first | exact HB.out | apply below_alloc | apply pw_below_drewN | apply below_drew1) | exact HB.out))); rintro e w' ⟨rfl, ⟨nd, rfl⟩⟩))
     go_meet
     case rel => exact ⟨_, (!t163), (by first | rfl | (simp; done) | (simp [*]; done)), H', ⟨by first | omega | exact Nat.le_refl _⟩, by repeat (first | exact Drawn0.refl _ | apply Drawn0.step)⟩
    ·rw [if_neg c5] at H
     exact absurd H (by simp)
 case rest =>
  clear HC2
  try clear p2
  try clear c3
  try clear c3b0
  try clear c3b1
  try clear c4
  try clear c4b0
  try clear c4b1
  try clear c5
  try clear c5b0
  try clear c5b1
  try clear p6
  try clear q6
  try clear hx6
  try clear qi6
  try clear p6
  try clear q6
  obtain ⟨kq, x17_1, rfl, HA, HJ1, ⟨mc1, rfl⟩⟩ := hcut
  cases kq with
  | zero => exact absurd HA.out (by simp [plenumref07_Name.j0])
  | succ kj1 =>
   have H := HA.out
   clear HA
   simp only [plenumref07_Name.j0] at H
   by_cases c8 : x17_1 = true
   ·subst c8
    have H1 : (some false) = some r := by rw [if_pos rfl] at H; exact H
    clear H
    have H := H1
    clear H1
    obtain rfl := Option.some.inj H
    go_wp2
    go_ret
    exact ⟨by first | rfl | (simp; done) | (simp [*]; done), by repeat (first | exact Drawn0.refl _ | apply Drawn0.step)⟩
   ·replace c8 := Bool.eq_false_iff.mpr c8
    subst c8
    have H1 : (plenumref07_Name.l0 kj1 a0 1) = some r := by rw [if_neg (show ¬ (false = true) by decide)] at H; exact H
    clear H
    have H := H1
    clear H1
    have H' := Aside0.mk H
    clear H
    go_wp2
    go_loopg [3] kj1 (fun kq v3 w' => ∃ (x3_2 : Int), v3 = .int .i64 x3_2 ∧ Aside0 (plenumref07_Name.l0 kq a0 x3_2 = some r) ∧ Aside0 (kq ≤ kj1) ∧ Drawn0 w w')
    case atStart => exact ⟨(1), (by first | rfl | (simp; done) | (simp [*]; done)), H', ⟨Nat.le_refl _⟩, by repeat (first | exact Drawn0.refl _ | apply Drawn0.step)⟩
    case round =>
     clear H'
     try clear c1
     try clear p2
     try clear c3
     try clear c3b0
     try clear c3b1
     try clear c4
     try clear c4b0
     try clear c4b1
     try clear c5
     try clear c5b0
     try clear c5b1
     try clear p6
     try clear q6
     try clear hx6
     try clear qi6
     try clear c8
     try clear p2
     try clear p6
     try clear q6
     obtain ⟨x3_2, rfl, HA, HK2, ⟨m2, rfl⟩⟩ := hrel
     cases gk with
     | zero => exact absurd HA.out (by simp [plenumref07_Name.l0])
     | succ k2 =>
      have H := HA.out
      clear HA
      simp only [plenumref07_Name.l0] at H
      by_cases c9 : x3_2 < (a0.size : Int)
      ·rw [if_pos c9] at H
       have c9b0 : decide (x3_2 < (a0.size : Int)) = true := decide_eq_true c9
       clear c9
       by_cases c10 : 0 ≤ x3_2
       ·rw [if_pos c10] at H
        have c10b0 : decide (0 ≤ x3_2) = true := decide_eq_true c10
        clear c10
        replace H := Option.bind_eq_some_iff.mp H
        obtain ⟨t164, A120, H⟩ := H
        replace H : (if t164 = true then (plenumref07_Name.l0 k2 a0 (wrap64 (x3_2 + 1))) else ((plenumref07_Digit.f (bt a0 x3_2)).bind fun t165 => (if t165 = true then (plenumref07_Name.l0 k2 a0 (wrap64 (x3_2 + 1))) else (if (bt a0 x3_2) = 95 then (plenumref07_Name.l0 k2 a0 (wrap64 (x3_2 + 1))) else (some false))))) = some r := H
        have A12 := Aside0.mk A120
        clear A120
        by_cases c13 : t164 = true
        ·subst c13
         have H1 : (plenumref07_Name.l0 k2 a0 (wrap64 (x3_2 + 1))) = some r := by rw [if_pos rfl] at H; exact H
         clear H
         have H := H1
         clear H1
         have H' := Aside0.mk H
         clear H
         have p11 : 0 ≤ (x3_2 : Int) := of_decide_eq_true (by first | (with_reducible assumption) | assumption)
         have q11 : x3_2 < (a0.size : Int) := of_decide_eq_true (by first | (with_reducible assumption) | assumption)
         have hx11 := bt_at a0 x3_2
         replace p11 := eq_true p11
         replace q11 := eq_true q11
         go_wp2_with (first | ((with_reducible refine gate_callee (f := 55) rfl ?_); refine goesL_ (some 27) rfl rfl Tryd.func55 (by kernel_rfl) rfl #[.int .u8 (bt a0 x3_2)] rfl (by (try simp only [List.map_toArray, List.map_cons, List.map_nil]); first | done | rfl | (simp only [List.length_drop, List.length_take]; rfl)) ?_; (with_reducible refine (plenumref07_Lower.calls (bt a0 x3_2) true _ ?side99  A12.out).mono ?_); (case side99 => first | exact HG.out | exact Glob.below HG.out (by repeat (first | (with_reducible first | exact HB.out | apply below_alloc | apply pw_below_drewN | apply below_drew1) | exact HB.out))); rintro e w' ⟨rfl, ⟨nd, rfl⟩⟩; refine ⟨_, rfl, ?_⟩))
         go_roundg k2
         case measure => have := HJ1.out; have := HK2.out; omega
         case rel => exact ⟨(wrap64 (x3_2 + 1)), (by first | rfl | (simp; done) | (simp [*]; done)), H', ⟨by have := HJ1.out; have := HK2.out; omega⟩, by repeat (first | exact Drawn0.refl _ | apply Drawn0.step)⟩
        ·replace c13 := Bool.eq_false_iff.mpr c13
         subst c13
         have H1 : ((plenumref07_Digit.f (bt a0 x3_2)).bind fun t165 => (if t165 = true then (plenumref07_Name.l0 k2 a0 (wrap64 (x3_2 + 1))) else (if (bt a0 x3_2) = 95 then (plenumref07_Name.l0 k2 a0 (wrap64 (x3_2 + 1))) else (some false)))) = some r := by rw [if_neg (show ¬ (false = true) by decide)] at H; exact H
         clear H
         have H := H1
         clear H1
         replace H := Option.bind_eq_some_iff.mp H
         obtain ⟨t165, A150, H⟩ := H
         replace H : (if t165 = true then (plenumref07_Name.l0 k2 a0 (wrap64 (x3_2 + 1))) else (if (bt a0 x3_2) = 95 then (plenumref07_Name.l0 k2 a0 (wrap64 (x3_2 + 1))) else (some false))) = some r := H
         have A15 := Aside0.mk A150
         clear A150
         by_cases c16 : t165 = true
         ·subst c16
          have H1 : (plenumref07_Name.l0 k2 a0 (wrap64 (x3_2 + 1))) = some r := by rw [if_pos rfl] at H; exact H
          clear H
          have H := H1
          clear H1
          have H' := Aside0.mk H
          clear H
          have p11 : 0 ≤ (x3_2 : Int) := of_decide_eq_true (by first | (with_reducible assumption) | assumption)
          have q11 : x3_2 < (a0.size : Int) := of_decide_eq_true (by first | (with_reducible assumption) | assumption)
          have hx11 := bt_at a0 x3_2
          replace p11 := eq_true p11
          replace q11 := eq_true q11
          go_wp2_with (first | ((with_reducible refine gate_callee (f := 55) rfl ?_); refine goesL_ (some 27) rfl rfl Tryd.func55 (by kernel_rfl) rfl #[.int .u8 (bt a0 x3_2)] rfl (by (try simp only [List.map_toArray, List.map_cons, List.map_nil]); first | done | rfl | (simp only [List.length_drop, List.length_take]; rfl)) ?_; (with_reducible refine (plenumref07_Lower.calls (bt a0 x3_2) false _ ?side99  A12.out).mono ?_); (case side99 => first | exact HG.out | exact Glob.below HG.out (by repeat (first | (with_reducible first | exact HB.out | apply below_alloc | apply pw_below_drewN | apply below_drew1) | exact HB.out))); rintro e w' ⟨rfl, ⟨nd, rfl⟩⟩; refine ⟨_, rfl, ?_⟩; have p14 : 0 ≤ (x3_2 : Int) := of_decide_eq_true (by first | (with_reducible assumption) | assumption); have q14 : x3_2 < (a0.size : Int) := of_decide_eq_true (by first | (with_reducible assumption) | assumption); have hx14 := bt_at a0 x3_2; replace p14 := eq_true p14; replace q14 := eq_true q14) | (go_at_call 56; (with_reducible refine (plenumref07_Digit.calls (bt a0 x3_2) true _ ?side99  A15.out).mono ?_); (case side99 => first | exact HG.out | exact Glob.below HG.out (by repeat (first | (with_reducible first | exact HB.out | apply below_alloc | apply pw_below_drewN | apply below_drew1) | exact HB.out))); rintro e w' ⟨rfl, ⟨nd, rfl⟩⟩))
          go_roundg k2
          case measure => have := HJ1.out; have := HK2.out; omega
          case rel => exact ⟨(wrap64 (x3_2 + 1)), (by first | rfl | (simp; done) | (simp [*]; done)), H', ⟨by have := HJ1.out; have := HK2.out; omega⟩, by repeat (first | exact Drawn0.refl _ | apply Drawn0.step)⟩
         ·replace c16 := Bool.eq_false_iff.mpr c16
          subst c16
          have H1 : (if (bt a0 x3_2) = 95 then (plenumref07_Name.l0 k2 a0 (wrap64 (x3_2 + 1))) else (some false)) = some r := by rw [if_neg (show ¬ (false = true) by decide)] at H; exact H
          clear H
          have H := H1
          clear H1
          by_cases c18 : (bt a0 x3_2) = 95
          ·rw [if_pos c18] at H
           have c18b0 : ((bt a0 x3_2) == 95) = true := beq_iff_eq.mpr c18
           have c18b1 : ((bt a0 x3_2) != 95) = false := bne_eq_false_iff_eq.mpr c18
           clear c18
           have H' := Aside0.mk H
           clear H
           have p11 : 0 ≤ (x3_2 : Int) := of_decide_eq_true (by first | (with_reducible assumption) | assumption)
           have q11 : x3_2 < (a0.size : Int) := of_decide_eq_true (by first | (with_reducible assumption) | assumption)
           have hx11 := bt_at a0 x3_2
           replace p11 := eq_true p11
           replace q11 := eq_true q11
           go_wp2_with (first | ((with_reducible refine gate_callee (f := 55) rfl ?_); refine goesL_ (some 27) rfl rfl Tryd.func55 (by kernel_rfl) rfl #[.int .u8 (bt a0 x3_2)] rfl (by (try simp only [List.map_toArray, List.map_cons, List.map_nil]); first | done | rfl | (simp only [List.length_drop, List.length_take]; rfl)) ?_; (with_reducible refine (plenumref07_Lower.calls (bt a0 x3_2) false _ ?side99  A12.out).mono ?_); (case side99 => first | exact HG.out | exact Glob.below HG.out (by repeat (first | (with_reducible first | exact HB.out | apply below_alloc | apply pw_below_drewN | apply below_drew1) | exact HB.out))); rintro e w' ⟨rfl, ⟨nd, rfl⟩⟩; refine ⟨_, rfl, ?_⟩; have p14 : 0 ≤ (x3_2 : Int) := of_decide_eq_true (by first | (with_reducible assumption) | assumption); have q14 : x3_2 < (a0.size : Int) := of_decide_eq_true (by first | (with_reducible assumption) | assumption); have hx14 := bt_at a0 x3_2; replace p14 := eq_true p14; replace q14 := eq_true q14) | (go_at_call 56; (with_reducible refine (plenumref07_Digit.calls (bt a0 x3_2) false _ ?side99  A15.out).mono ?_); (case side99 => first | exact HG.out | exact Glob.below HG.out (by repeat (first | (with_reducible first | exact HB.out | apply below_alloc | apply pw_below_drewN | apply below_drew1) | exact HB.out))); rintro e w' ⟨rfl, ⟨nd, rfl⟩⟩; have p17 : 0 ≤ (x3_2 : Int) := of_decide_eq_true (by first | (with_reducible assumption) | assumption); have q17 : x3_2 < (a0.size : Int) := of_decide_eq_true (by first | (with_reducible assumption) | assumption); have hx17 := bt_at a0 x3_2; replace p17 := eq_true p17; replace q17 := eq_true q17))
           go_roundg k2
           case measure => have := HJ1.out; have := HK2.out; omega
           case rel => exact ⟨(wrap64 (x3_2 + 1)), (by first | rfl | (simp; done) | (simp [*]; done)), H', ⟨by have := HJ1.out; have := HK2.out; omega⟩, by repeat (first | exact Drawn0.refl _ | apply Drawn0.step)⟩
          ·rw [if_neg c18] at H
           have c18b0 : ((bt a0 x3_2) == 95) = false := beq_eq_false_iff_ne.mpr c18
           have c18b1 : ((bt a0 x3_2) != 95) = true := bne_iff_ne.mpr c18
           obtain rfl := Option.some.inj H
           have p11 : 0 ≤ (x3_2 : Int) := of_decide_eq_true (by first | (with_reducible assumption) | assumption)
           have q11 : x3_2 < (a0.size : Int) := of_decide_eq_true (by first | (with_reducible assumption) | assumption)
           have hx11 := bt_at a0 x3_2
           replace p11 := eq_true p11
           replace q11 := eq_true q11
           go_wp2_with (first | ((with_reducible refine gate_callee (f := 55) rfl ?_); refine goesL_ (some 27) rfl rfl Tryd.func55 (by kernel_rfl) rfl #[.int .u8 (bt a0 x3_2)] rfl (by (try simp only [List.map_toArray, List.map_cons, List.map_nil]); first | done | rfl | (simp only [List.length_drop, List.length_take]; rfl)) ?_; (with_reducible refine (plenumref07_Lower.calls (bt a0 x3_2) false _ ?side99  A12.out).mono ?_); (case side99 => first | exact HG.out | exact Glob.below HG.out (by repeat (first | (with_reducible first | exact HB.out | apply below_alloc | apply pw_below_drewN | apply below_drew1) | exact HB.out))); rintro e w' ⟨rfl, ⟨nd, rfl⟩⟩; refine ⟨_, rfl, ?_⟩; have p14 : 0 ≤ (x3_2 : Int) := of_decide_eq_true (by first | (with_reducible assumption) | assumption); have q14 : x3_2 < (a0.size : Int) := of_decide_eq_true (by first | (with_reducible assumption) | assumption); have hx14 := bt_at a0 x3_2; replace p14 := eq_true p14; replace q14 := eq_true q14) | (go_at_call 56; (with_reducible refine (plenumref07_Digit.calls (bt a0 x3_2) false _ ?side99  A15.out).mono ?_); (case side99 => first | exact HG.out | exact Glob.below HG.out (by repeat (first | (with_reducible first | exact HB.out | apply below_alloc | apply pw_below_drewN | apply below_drew1) | exact HB.out))); rintro e w' ⟨rfl, ⟨nd, rfl⟩⟩; have p17 : 0 ≤ (x3_2 : Int) := of_decide_eq_true (by first | (with_reducible assumption) | assumption); have q17 : x3_2 < (a0.size : Int) := of_decide_eq_true (by first | (with_reducible assumption) | assumption); have hx17 := bt_at a0 x3_2; replace p17 := eq_true p17; replace q17 := eq_true q17))
           go_ret
           exact ⟨by first | rfl | (simp; done) | (simp [*]; done), by repeat (first | exact Drawn0.refl _ | apply Drawn0.step)⟩
       ·rw [if_neg c10] at H
        exact absurd H (by simp)
      ·rw [if_neg c9] at H
       have c9b0 : decide (x3_2 < (a0.size : Int)) = false := decide_eq_false c9
       clear c9
       obtain rfl := Option.some.inj H
       go_wp2
       go_ret
       exact ⟨by first | rfl | (simp; done) | (simp [*]; done), by repeat (first | exact Drawn0.refl _ | apply Drawn0.step)⟩
end Go.Proofs.YtbccjcdmpiolpaaDoor.T
end
section
namespace Go.Proofs.YtbccjcdmpiolpaaDoor.T
open Go.RowKit Go.Proofs.YtbccjcdmpiolpaaDoorW.PrintWords Go.Proofs.YtbccjcdmpiolpaaDoorW.PrintLast Go.Proofs.YtbccjcdmpiolpaaDoorW.PrintMore
attribute [local go_sem] max2_int min2_int max_two min_two max_three min_three max_four min_four
set_option linter.unusedVariables false
set_option linter.unusedSimpArgs false
mutual
def plenumref41_Check.j0 : Nat → Bool → ByteArray → ByteArray → Int → Int → Int → Int → ByteArray → Int → Int → ByteArray → Int → Int → Int → List ByteArray → Int → Int → Int → Int → Option (Int)
 | 0, _, _, _, _, _, _, _, _, _, _, _, _, _, _, _, _, _, _, _ => none
 | k + 1, x5, x167000, x167001, x167002, x167003, x167004, x167005, x168000, x168001, x168002, x168003, x168004, x168005, x168006, x168007, x168008, x168009, x168010, x168011 => if x167002 = 1 then (if x5 = true then (if x167003 ≥ 1 then (if x167003 ≤ 86400 then (if x167004 = 0 then (some 0) else (some 6)) else (some 6)) else (some 6)) else (some 6)) else (if x167002 = 2 then (if x5 = true then (plenumref41_Check.j1 k (x167003 == 0) x167000 x167001 x167002 x167003 x167004 x167005 x168000 x168001 x168002 x168003 x168004 x168005 x168006 x168007 x168008 x168009 x168010 x168011) else (plenumref41_Check.j1 k false x167000 x167001 x167002 x167003 x167004 x167005 x168000 x168001 x168002 x168003 x168004 x168005 x168006 x168007 x168008 x168009 x168010 x168011)) else (if x167002 = 3 then (if x5 = true then (if x167003 = 0 then (if x167004 = 0 then (some 0) else (some 6)) else (some 6)) else (some 6)) else (some 1)))
def plenumref41_Check.j1 : Nat → Bool → ByteArray → ByteArray → Int → Int → Int → Int → ByteArray → Int → Int → ByteArray → Int → Int → Int → List ByteArray → Int → Int → Int → Int → Option (Int)
 | 0, _, _, _, _, _, _, _, _, _, _, _, _, _, _, _, _, _, _, _ => none
 | k + 1, x5, x167000, x167001, x167002, x167003, x167004, x167005, x168000, x168001, x168002, x168003, x168004, x168005, x168006, x168007, x168008, x168009, x168010, x168011 => if x168001 = 1 then (if x5 = true then (if x167004 ≥ 1 then (if x167004 ≤ 1000000000000 then (some 0) else (some 6)) else (some 6)) else (some 6)) else (if x5 = true then (if x167004 = 0 then (some 0) else (some 6)) else (some 6))
end
def plenumref41_Check.f (k : Nat) (a0_0 : ByteArray) (a0_1 : ByteArray) (a0_2 : Int) (a0_3 : Int) (a0_4 : Int) (a0_5 : Int) (a1_0 : ByteArray) (a1_1 : Int) (a1_2 : Int) (a1_3 : ByteArray) (a1_4 : Int) (a1_5 : Int) (a1_6 : Int) (l1_7 : List ByteArray) (a1_8 : Int) (a1_9 : Int) (a1_10 : Int) (a1_11 : Int) : Option (Int) := (plenumref07_Name.f k a0_0).bind fun t168 => (if t168 = true then (if a0_1.toList = a1_0.toList then (if a0_5 ≥ 1 then (plenumref41_Check.j0 k (decide (a0_5 ≤ 1024)) a0_0 a0_1 a0_2 a0_3 a0_4 a0_5 a1_0 a1_1 a1_2 a1_3 a1_4 a1_5 a1_6 l1_7 a1_8 a1_9 a1_10 a1_11) else (plenumref41_Check.j0 k false a0_0 a0_1 a0_2 a0_3 a0_4 a0_5 a1_0 a1_1 a1_2 a1_3 a1_4 a1_5 a1_6 l1_7 a1_8 a1_9 a1_10 a1_11)) else (some 3)) else (some 4))
set_option maxHeartbeats 8000000 in
set_option maxRecDepth 100000 in
theorem plenumref41_Check.calls (k : Nat) (a0_0 : ByteArray) (a0_1 : ByteArray) (a0_2 : Int) (a0_3 : Int) (a0_4 : Int) (a0_5 : Int) (a1_0 : ByteArray) (a1_1 : Int) (a1_2 : Int) (a1_3 : ByteArray) (a1_4 : Int) (a1_5 : Int) (a1_6 : Int) (A1_7 : Option Addr) (c1_7 : Nat) (l1_7 : List ByteArray) (a1_8 : Int) (a1_9 : Int) (a1_10 : Int) (a1_11 : Int) (r : Int) (w : World) (hG : Glob w) (hr1_7 : Kd.C Kd.string w A1_7 l1_7.length l1_7) (hc1_7 : l1_7.length ≤ c1_7) (h : plenumref41_Check.f k a0_0 a0_1 a0_2 a0_3 a0_4 a0_5 a1_0 a1_1 a1_2 a1_3 a1_4 a1_5 a1_6 l1_7 a1_8 a1_9 a1_10 a1_11 = some r) :
  Calls Tryd.prog 18 #[.agg #[.string a0_0, .string a0_1, .int .i64 a0_2, .int .i64 a0_3, .int .i64 a0_4, .int .i64 a0_5], .agg #[.string a1_0, .int .i64 a1_1, .int .i64 a1_2, .string a1_3, .int .i64 a1_4, .int .i64 a1_5, .int .i64 a1_6, .slice A1_7 l1_7.length c1_7, .int .i64 a1_8, .int .i64 a1_9, .int .i64 a1_10, .int .i64 a1_11]] w fun e w' => e = .returned (.int .i64 r) ∧ Below w.heap.size w w' := by
 have hu23 := Tryd.underlying23
 have hu51 := Tryd.underlying51
 have HG := Aside0.mk hG
 clear hG
 have HR1_7 := Aside0.mk hr1_7
 have HC1_7 := Aside0.mk hc1_7
 clear hr1_7 hc1_7
 have HB := Aside0.mk (Below.refl w.heap.size w)
 have H : ((plenumref07_Name.f k a0_0).bind fun t168 => (if t168 = true then (if a0_1.toList = a1_0.toList then (if a0_5 ≥ 1 then (plenumref41_Check.j0 k (decide (a0_5 ≤ 1024)) a0_0 a0_1 a0_2 a0_3 a0_4 a0_5 a1_0 a1_1 a1_2 a1_3 a1_4 a1_5 a1_6 l1_7 a1_8 a1_9 a1_10 a1_11) else (plenumref41_Check.j0 k false a0_0 a0_1 a0_2 a0_3 a0_4 a0_5 a1_0 a1_1 a1_2 a1_3 a1_4 a1_5 a1_6 l1_7 a1_8 a1_9 a1_10 a1_11)) else (some 3)) else (some 4))) = some r := h
 clear h
 replace H := Option.bind_eq_some_iff.mp H
 obtain ⟨t168, A30, H⟩ := H
 replace H : (if t168 = true then (if a0_1.toList = a1_0.toList then (if a0_5 ≥ 1 then (plenumref41_Check.j0 k (decide (a0_5 ≤ 1024)) a0_0 a0_1 a0_2 a0_3 a0_4 a0_5 a1_0 a1_1 a1_2 a1_3 a1_4 a1_5 a1_6 l1_7 a1_8 a1_9 a1_10 a1_11) else (plenumref41_Check.j0 k false a0_0 a0_1 a0_2 a0_3 a0_4 a0_5 a1_0 a1_1 a1_2 a1_3 a1_4 a1_5 a1_6 l1_7 a1_8 a1_9 a1_10 a1_11)) else (some 3)) else (some 4)) = some r := H
 have A3 := Aside0.mk A30
 clear A30
 by_cases c4 : t168 = true
 ·subst c4
  have H1 : (if a0_1.toList = a1_0.toList then (if a0_5 ≥ 1 then (plenumref41_Check.j0 k (decide (a0_5 ≤ 1024)) a0_0 a0_1 a0_2 a0_3 a0_4 a0_5 a1_0 a1_1 a1_2 a1_3 a1_4 a1_5 a1_6 l1_7 a1_8 a1_9 a1_10 a1_11) else (plenumref41_Check.j0 k false a0_0 a0_1 a0_2 a0_3 a0_4 a0_5 a1_0 a1_1 a1_2 a1_3 a1_4 a1_5 a1_6 l1_7 a1_8 a1_9 a1_10 a1_11)) else (some 3)) = some r := by rw [if_pos rfl] at H; exact H
  clear H
  have H := H1
  clear H1
  by_cases c5 : a0_1.toList = a1_0.toList
  ·rw [if_pos c5] at H
   have c5b0 : (a0_1.toList == a1_0.toList) = true := beq_iff_eq.mpr c5
   have c5b1 : (a0_1.toList != a1_0.toList) = false := bne_eq_false_iff_eq.mpr c5
   clear c5
   have HC6 := Aside0.mk H
   clear H
   go_enter Tryd.func18, Tryd.ntmps18
   go_upto_region 5 with (first | ((with_reducible refine gate_dst (N := 2) rfl ?_); refine box_event ?hg (N := 2) ?hd (cs := #[.string a0_0, .string a0_1, .int .i64 a0_2, .int .i64 a0_3, .int .i64 a0_4, .int .i64 a0_5]) (t := 23) ?hr ?_; (case hd => rfl); (case hg => rfl); (case hr => first | (go_simp; done) | (go_simp; rfl)); intro gb166 hg w7 hbox hb; have n0_ := Aside0.mk (below_step (by repeat (first | (with_reducible first | exact HB.out | apply below_alloc | apply pw_below_drewN | apply below_drew1) | exact HB.out)) hb); have n1_ := Aside0.mk (hbox); have n2_ := Aside0.mk ((by rw [hg]; exact (below_size (by repeat (first | (with_reducible first | exact HB.out | apply below_alloc | apply pw_below_drewN | apply below_drew1) | exact HB.out))) : w.heap.size ≤ gb166)); have n3_ := Aside0.mk ((by rw [hg]; exact (below_size (by repeat (first | (with_reducible first | exact HB.out | apply below_alloc | apply pw_below_drewN | apply below_drew1) | exact HB.out))) : w.heap.size ≤ gb166)); clear HB; have HB := n0_; have BK166 := n1_; have GW166 := n2_; have GE166 := n3_; clear n0_ n1_ n2_ n3_; clear hb hbox hg) | ((with_reducible refine gate_dst (N := 3) rfl ?_); refine box_event ?hg (N := 3) ?hd (cs := #[.string a1_0, .int .i64 a1_1, .int .i64 a1_2, .string a1_3, .int .i64 a1_4, .int .i64 a1_5, .int .i64 a1_6, .slice A1_7 l1_7.length c1_7, .int .i64 a1_8, .int .i64 a1_9, .int .i64 a1_10, .int .i64 a1_11]) (t := 51) ?hr ?_; (case hd => rfl); (case hg => rfl); (case hr => first | (go_simp; done) | (go_simp; rfl)); intro gb167 hg w8 hbox hb; have n0_ := Aside0.mk (blk_below (g := gb166) (o := .cells #[.string a0_0, .string a0_1, .int .i64 a0_2, .int .i64 a0_3, .int .i64 a0_4, .int .i64 a0_5] 23 (0, 0)) (by (with_reducible repeat (first | refine blk_drewN ?_ _ | refine blk_drew ?_ | refine blk_alloc ?_ _)); exact BK166.out) hb); have n1_ := Aside0.mk (below_step (by repeat (first | (with_reducible first | exact HB.out | apply below_alloc | apply pw_below_drewN | apply below_drew1 | refine below_set ?_ GE166.out) | exact HB.out)) hb); have n2_ := Aside0.mk (hbox); have n3_ := Aside0.mk ((by rw [hg]; exact (below_size (by repeat (first | (with_reducible first | exact HB.out | apply below_alloc | apply pw_below_drewN | apply below_drew1 | refine below_set ?_ GE166.out) | exact HB.out))) : w.heap.size ≤ gb167)); have n4_ := Aside0.mk ((by rw [hg]; exact (below_size (by repeat (first | (with_reducible first | exact HB.out | apply below_alloc | apply pw_below_drewN | apply below_drew1 | refine below_set ?_ GE166.out) | exact HB.out))) : w.heap.size ≤ gb167)); have n5_ := Aside0.mk ((by rw [hg]; exact Nat.ne_of_lt (blk_lt (g := gb166) (o := .cells #[.string a0_0, .string a0_1, .int .i64 a0_2, .int .i64 a0_3, .int .i64 a0_4, .int .i64 a0_5] 23 (0, 0)) (by (with_reducible repeat (first | refine blk_drewN ?_ _ | refine blk_drew ?_ | refine blk_alloc ?_ _)); exact BK166.out)) : gb166 ≠ gb167)); have n6_ := Aside0.mk ((by rw [hg]; exact Nat.ne_of_gt (blk_lt (g := gb166) (o := .cells #[.string a0_0, .string a0_1, .int .i64 a0_2, .int .i64 a0_3, .int .i64 a0_4, .int .i64 a0_5] 23 (0, 0)) (by (with_reducible repeat (first | refine blk_drewN ?_ _ | refine blk_drew ?_ | refine blk_alloc ?_ _)); exact BK166.out)) : gb167 ≠ gb166)); clear BK166; clear HB; have BK166 := n0_; have HB := n1_; have BK167 := n2_; have GW167 := n3_; have GE167 := n4_; have NB166_167 := n5_; have NB167_166 := n6_; clear n0_ n1_ n2_ n3_ n4_ n5_ n6_; clear hb hbox hg; have hnb9 := NB166_167.out; have hnc9 := NB167_166.out; have hcz10_0 : w8.cell? ⟨gb166, 0, none⟩ = some (.string a0_0) := (blk_cell BK166.out 0).trans rfl; have hcz10_1 : w8.cell? ⟨gb166, 1, none⟩ = some (.string a0_1) := (blk_cell BK166.out 1).trans rfl; have hcz10_2 : w8.cell? ⟨gb166, 2, none⟩ = some (.int .i64 a0_2) := (blk_cell BK166.out 2).trans rfl; have hcz10_3 : w8.cell? ⟨gb166, 3, none⟩ = some (.int .i64 a0_3) := (blk_cell BK166.out 3).trans rfl; have hcz10_4 : w8.cell? ⟨gb166, 4, none⟩ = some (.int .i64 a0_4) := (blk_cell BK166.out 4).trans rfl; have hcz10_5 : w8.cell? ⟨gb166, 5, none⟩ = some (.int .i64 a0_5) := (blk_cell BK166.out 5).trans rfl) | ((with_reducible refine gate_callee (f := 30) rfl ?_); refine goesL_ (some 8) rfl rfl Tryd.func30 (by kernel_rfl) rfl #[.string a0_0] rfl (by (try simp only [List.map_toArray, List.map_cons, List.map_nil]); first | done | rfl | (simp only [List.length_drop, List.length_take]; rfl)) ?_; (with_reducible refine (plenumref07_Name.calls k a0_0 true _ ?side99  A3.out).mono ?_); (case side99 => first | exact HG.out | exact Glob.below HG.out (by repeat (first | (with_reducible first | exact HB.out | apply below_alloc | apply pw_below_drewN | apply below_drew1 | refine below_set ?_ GE166.out | refine below_set ?_ GE167.out) | exact HB.out))); rintro e w' ⟨rfl, ⟨nd, rfl⟩⟩; refine ⟨_, rfl, ?_⟩; have hcz11_0 : w8.cell? ⟨gb167, 0, none⟩ = some (.string a1_0) := (blk_cell BK167.out 0).trans rfl; have hcz11_1 : w8.cell? ⟨gb167, 1, none⟩ = some (.int .i64 a1_1) := (blk_cell BK167.out 1).trans rfl; have hcz11_2 : w8.cell? ⟨gb167, 2, none⟩ = some (.int .i64 a1_2) := (blk_cell BK167.out 2).trans rfl; have hcz11_3 : w8.cell? ⟨gb167, 3, none⟩ = some (.string a1_3) := (blk_cell BK167.out 3).trans rfl; have hcz11_4 : w8.cell? ⟨gb167, 4, none⟩ = some (.int .i64 a1_4) := (blk_cell BK167.out 4).trans rfl; have hcz11_5 : w8.cell? ⟨gb167, 5, none⟩ = some (.int .i64 a1_5) := (blk_cell BK167.out 5).trans rfl; have hcz11_6 : w8.cell? ⟨gb167, 6, none⟩ = some (.int .i64 a1_6) := (blk_cell BK167.out 6).trans rfl; have hcz11_7 : w8.cell? ⟨gb167, 7, none⟩ = some (.slice A1_7 l1_7.length c1_7) := (blk_cell BK167.out 7).trans rfl; have hcz11_8 : w8.cell? ⟨gb167, 8, none⟩ = some (.int .i64 a1_8) := (blk_cell BK167.out 8).trans rfl; have hcz11_9 : w8.cell? ⟨gb167, 9, none⟩ = some (.int .i64 a1_9) := (blk_cell BK167.out 9).trans rfl; have hcz11_10 : w8.cell? ⟨gb167, 10, none⟩ = some (.int .i64 a1_10) := (blk_cell BK167.out 10).trans rfl; have hcz11_11 : w8.cell? ⟨gb167, 11, none⟩ = some (.int .i64 a1_11) := (blk_cell BK167.out 11).trans rfl))
   (try simp only [Act.put, List.setIfInBounds_toArray, List.set_cons_zero, List.set_cons_succ])
   go_cut [5] (fun v5 wc => ∃ (kq : Nat) (x5_5 : Bool), v5 = .bool x5_5 ∧ Aside0 (plenumref41_Check.j0 kq x5_5 a0_0 a0_1 a0_2 a0_3 a0_4 a0_5 a1_0 a1_1 a1_2 a1_3 a1_4 a1_5 a1_6 l1_7 a1_8 a1_9 a1_10 a1_11 = some r) ∧ Aside0 (kq ≤ k) ∧ Aside0 (wc.heap[gb166]? = some (.cells #[.string a0_0, .string a0_1, .int .i64 a0_2, .int .i64 a0_3, .int .i64 a0_4, .int .i64 a0_5] 23 (0, 0))) ∧ Aside0 (wc.heap[gb167]? = some (.cells #[.string a1_0, .int .i64 a1_1, .int .i64 a1_2, .string a1_3, .int .i64 a1_4, .int .i64 a1_5, .int .i64 a1_6, (.slice A1_7 l1_7.length c1_7), .int .i64 a1_8, .int .i64 a1_9, .int .i64 a1_10, .int .i64 a1_11] 51 (0, 0))) ∧ Aside0 (Below w.heap.size w wc))
   case first =>
    have H := HC6.out
    clear HC6
    by_cases c12 : a0_5 ≥ 1
    ·rw [if_pos c12] at H
     have c12b0 : decide (1 ≤ a0_5) = true := decide_eq_true c12
     clear c12
     (first | rw [c12b0] | (simp only [i64_w, i32_w]; rw [c12b0]) | skip)
     have H' := Aside0.mk H
     clear H
     have hnb13 := NB166_167.out
     have hnc13 := NB167_166.out
     have hcz14_0 : w8.cell? ⟨gb166, 0, none⟩ = some (.string a0_0) := (blk_cell BK166.out 0).trans rfl
     have hcz14_1 : w8.cell? ⟨gb166, 1, none⟩ = some (.string a0_1) := (blk_cell BK166.out 1).trans rfl
     have hcz14_2 : w8.cell? ⟨gb166, 2, none⟩ = some (.int .i64 a0_2) := (blk_cell BK166.out 2).trans rfl
     have hcz14_3 : w8.cell? ⟨gb166, 3, none⟩ = some (.int .i64 a0_3) := (blk_cell BK166.out 3).trans rfl
     have hcz14_4 : w8.cell? ⟨gb166, 4, none⟩ = some (.int .i64 a0_4) := (blk_cell BK166.out 4).trans rfl
     have hcz14_5 : w8.cell? ⟨gb166, 5, none⟩ = some (.int .i64 a0_5) := (blk_cell BK166.out 5).trans rfl
     go_wp2
     go_meet
     case rel => exact ⟨_, (decide (a0_5 ≤ 1024)), (by first | rfl | (simp; done) | (simp [*]; done)), H', ⟨by first | omega | exact Nat.le_refl _⟩, ⟨by (with_reducible repeat (first | refine blk_drewN ?_ _ | refine blk_drew ?_ | refine blk_alloc ?_ _)); exact BK166.out⟩, ⟨by (with_reducible repeat (first | refine blk_drewN ?_ _ | refine blk_drew ?_ | refine blk_alloc ?_ _)); exact BK167.out⟩, ⟨by repeat (first | (with_reducible first | exact HB.out | apply below_alloc | apply pw_below_drewN | apply below_drew1 | refine below_set ?_ GE166.out | refine below_set ?_ GE167.out) | exact HB.out)⟩⟩
    ·rw [if_neg c12] at H
     have c12b0 : decide (1 ≤ a0_5) = false := decide_eq_false c12
     clear c12
     (first | rw [c12b0] | (simp only [i64_w, i32_w]; rw [c12b0]) | skip)
     have H' := Aside0.mk H
     clear H
     have hnb15 := NB166_167.out
     have hnc15 := NB167_166.out
     have hcz16_0 : w8.cell? ⟨gb166, 0, none⟩ = some (.string a0_0) := (blk_cell BK166.out 0).trans rfl
     have hcz16_1 : w8.cell? ⟨gb166, 1, none⟩ = some (.string a0_1) := (blk_cell BK166.out 1).trans rfl
     have hcz16_2 : w8.cell? ⟨gb166, 2, none⟩ = some (.int .i64 a0_2) := (blk_cell BK166.out 2).trans rfl
     have hcz16_3 : w8.cell? ⟨gb166, 3, none⟩ = some (.int .i64 a0_3) := (blk_cell BK166.out 3).trans rfl
     have hcz16_4 : w8.cell? ⟨gb166, 4, none⟩ = some (.int .i64 a0_4) := (blk_cell BK166.out 4).trans rfl
     have hcz16_5 : w8.cell? ⟨gb166, 5, none⟩ = some (.int .i64 a0_5) := (blk_cell BK166.out 5).trans rfl
     go_wp2
     go_meet
     case rel => exact ⟨_, (false), (by first | rfl | (simp; done) | (simp [*]; done)), H', ⟨by first | omega | exact Nat.le_refl _⟩, ⟨by (with_reducible repeat (first | refine blk_drewN ?_ _ | refine blk_drew ?_ | refine blk_alloc ?_ _)); exact BK166.out⟩, ⟨by (with_reducible repeat (first | refine blk_drewN ?_ _ | refine blk_drew ?_ | refine blk_alloc ?_ _)); exact BK167.out⟩, ⟨by repeat (first | (with_reducible first | exact HB.out | apply below_alloc | apply pw_below_drewN | apply below_drew1 | refine below_set ?_ GE166.out | refine below_set ?_ GE167.out) | exact HB.out)⟩⟩
   case rest =>
    clear HC6
    try clear c1
    try clear p2
    try clear c3
    try clear c4
    try clear c5
    try clear c5b0
    try clear c5b1
    try clear c9
    try clear c12
    try clear c12b0
    try clear c13
    try clear c15
    try clear hcz10_0
    try clear hcz10_1
    try clear hcz10_2
    try clear hcz10_3
    try clear hcz10_4
    try clear hcz10_5
    try clear hcz11_0
    try clear hcz11_1
    try clear hcz11_10
    try clear hcz11_11
    try clear hcz11_2
    try clear hcz11_3
    try clear hcz11_4
    try clear hcz11_5
    try clear hcz11_6
    try clear hcz11_7
    try clear hcz11_8
    try clear hcz11_9
    try clear hcz14_0
    try clear hcz14_1
    try clear hcz14_2
    try clear hcz14_3
    try clear hcz14_4
    try clear hcz14_5
    try clear hcz16_0
    try clear hcz16_1
    try clear hcz16_2
    try clear hcz16_3
    try clear hcz16_4
    try clear hcz16_5
    try clear hfz10_0
    try clear hfz10_1
    try clear hfz10_2
    try clear hfz10_3
    try clear hfz10_4
    try clear hfz10_5
    try clear hfz11_0
    try clear hfz11_1
    try clear hfz11_10
    try clear hfz11_11
    try clear hfz11_2
    try clear hfz11_3
    try clear hfz11_4
    try clear hfz11_5
    try clear hfz11_6
    try clear hfz11_7
    try clear hfz11_8
    try clear hfz11_9
    try clear hfz14_0
    try clear hfz14_1
    try clear hfz14_2
    try clear hfz14_3
    try clear hfz14_4
    try clear hfz14_5
    try clear hfz16_0
    try clear hfz16_1
    try clear hfz16_2
    try clear hfz16_3
    try clear hfz16_4
    try clear hfz16_5
    obtain ⟨kq, x5_5, rfl, HA, HJ5, BK166, BK167, HB⟩ := hcut
    cases kq with
    | zero => exact absurd HA.out (by simp [plenumref41_Check.j0])
    | succ kj5 =>
     have H := HA.out
     clear HA
     simp only [plenumref41_Check.j0] at H
     by_cases c17 : a0_2 = 1
     ·rw [if_pos c17] at H
      have c17b0 : (a0_2 == 1) = true := beq_iff_eq.mpr c17
      have c17b1 : (a0_2 != 1) = false := bne_eq_false_iff_eq.mpr c17
      clear c17
      by_cases c18 : x5_5 = true
      ·subst c18
       have H1 : (if a0_3 ≥ 1 then (if a0_3 ≤ 86400 then (if a0_4 = 0 then (some 0) else (some 6)) else (some 6)) else (some 6)) = some r := by rw [if_pos rfl] at H; exact H
       clear H
       have H := H1
       clear H1
       by_cases c19 : a0_3 ≥ 1
       ·rw [if_pos c19] at H
        have c19b0 : decide (1 ≤ a0_3) = true := decide_eq_true c19
        clear c19
        by_cases c20 : a0_3 ≤ 86400
        ·rw [if_pos c20] at H
         have c20b0 : decide (a0_3 ≤ 86400) = true := decide_eq_true c20
         clear c20
         by_cases c21 : a0_4 = 0
         ·rw [if_pos c21] at H
          have c21b0 : (a0_4 == 0) = true := beq_iff_eq.mpr c21
          have c21b1 : (a0_4 != 0) = false := bne_eq_false_iff_eq.mpr c21
          clear c21
          obtain rfl := Option.some.inj H
          have hnb22 := NB166_167.out
          have hnc22 := NB167_166.out
          have hcz23_0 : wc.cell? ⟨gb166, 0, none⟩ = some (.string a0_0) := (blk_cell BK166.out 0).trans rfl
          have hcz23_1 : wc.cell? ⟨gb166, 1, none⟩ = some (.string a0_1) := (blk_cell BK166.out 1).trans rfl
          have hcz23_2 : wc.cell? ⟨gb166, 2, none⟩ = some (.int .i64 a0_2) := (blk_cell BK166.out 2).trans rfl
          have hcz23_3 : wc.cell? ⟨gb166, 3, none⟩ = some (.int .i64 a0_3) := (blk_cell BK166.out 3).trans rfl
          have hcz23_4 : wc.cell? ⟨gb166, 4, none⟩ = some (.int .i64 a0_4) := (blk_cell BK166.out 4).trans rfl
          have hcz23_5 : wc.cell? ⟨gb166, 5, none⟩ = some (.int .i64 a0_5) := (blk_cell BK166.out 5).trans rfl
          go_wp2
          go_ret
          exact ⟨by first | rfl | (simp [errW_none, errW_some] <;> rfl) | (simp [*, errW_none, errW_some] <;> rfl), by repeat (first | (with_reducible first | exact HB.out | apply below_alloc | apply pw_below_drewN | apply below_drew1 | refine below_set ?_ GE166.out | refine below_set ?_ GE167.out) | exact HB.out)⟩
         ·rw [if_neg c21] at H
          have c21b0 : (a0_4 == 0) = false := beq_eq_false_iff_ne.mpr c21
          have c21b1 : (a0_4 != 0) = true := bne_iff_ne.mpr c21
          obtain rfl := Option.some.inj H
          have hnb24 := NB166_167.out
          have hnc24 := NB167_166.out
          have hcz25_0 : wc.cell? ⟨gb166, 0, none⟩ = some (.string a0_0) := (blk_cell BK166.out 0).trans rfl
          have hcz25_1 : wc.cell? ⟨gb166, 1, none⟩ = some (.string a0_1) := (blk_cell BK166.out 1).trans rfl
          have hcz25_2 : wc.cell? ⟨gb166, 2, none⟩ = some (.int .i64 a0_2) := (blk_cell BK166.out 2).trans rfl
          have hcz25_3 : wc.cell? ⟨gb166, 3, none⟩ = some (.int .i64 a0_3) := (blk_cell BK166.out 3).trans rfl
          have hcz25_4 : wc.cell? ⟨gb166, 4, none⟩ = some (.int .i64 a0_4) := (blk_cell BK166.out 4).trans rfl
          have hcz25_5 : wc.cell? ⟨gb166, 5, none⟩ = some (.int .i64 a0_5) := (blk_cell BK166.out 5).trans rfl
          go_wp2
          go_ret
          exact ⟨by first | rfl | (simp [errW_none, errW_some] <;> rfl) | (simp [*, errW_none, errW_some] <;> rfl), by repeat (first | (with_reducible first | exact HB.out | apply below_alloc | apply pw_below_drewN | apply below_drew1 | refine below_set ?_ GE166.out | refine below_set ?_ GE167.out) | exact HB.out)⟩
        ·rw [if_neg c20] at H
         have c20b0 : decide (a0_3 ≤ 86400) = false := decide_eq_false c20
         clear c20
         obtain rfl := Option.some.inj H
         have hnb26 := NB166_167.out
         have hnc26 := NB167_166.out
         have hcz27_0 : wc.cell? ⟨gb166, 0, none⟩ = some (.string a0_0) := (blk_cell BK166.out 0).trans rfl
         have hcz27_1 : wc.cell? ⟨gb166, 1, none⟩ = some (.string a0_1) := (blk_cell BK166.out 1).trans rfl
         have hcz27_2 : wc.cell? ⟨gb166, 2, none⟩ = some (.int .i64 a0_2) := (blk_cell BK166.out 2).trans rfl
         have hcz27_3 : wc.cell? ⟨gb166, 3, none⟩ = some (.int .i64 a0_3) := (blk_cell BK166.out 3).trans rfl
         have hcz27_4 : wc.cell? ⟨gb166, 4, none⟩ = some (.int .i64 a0_4) := (blk_cell BK166.out 4).trans rfl
         have hcz27_5 : wc.cell? ⟨gb166, 5, none⟩ = some (.int .i64 a0_5) := (blk_cell BK166.out 5).trans rfl
         go_wp2
         go_ret
         exact ⟨by first | rfl | (simp [errW_none, errW_some] <;> rfl) | (simp [*, errW_none, errW_some] <;> rfl), by repeat (first | (with_reducible first | exact HB.out | apply below_alloc | apply pw_below_drewN | apply below_drew1 | refine below_set ?_ GE166.out | refine below_set ?_ GE167.out) | exact HB.out)⟩
       ·rw [if_neg c19] at H
        have c19b0 : decide (1 ≤ a0_3) = false := decide_eq_false c19
        clear c19
        obtain rfl := Option.some.inj H
        have hnb28 := NB166_167.out
        have hnc28 := NB167_166.out
        have hcz29_0 : wc.cell? ⟨gb166, 0, none⟩ = some (.string a0_0) := (blk_cell BK166.out 0).trans rfl
        have hcz29_1 : wc.cell? ⟨gb166, 1, none⟩ = some (.string a0_1) := (blk_cell BK166.out 1).trans rfl
        have hcz29_2 : wc.cell? ⟨gb166, 2, none⟩ = some (.int .i64 a0_2) := (blk_cell BK166.out 2).trans rfl
        have hcz29_3 : wc.cell? ⟨gb166, 3, none⟩ = some (.int .i64 a0_3) := (blk_cell BK166.out 3).trans rfl
        have hcz29_4 : wc.cell? ⟨gb166, 4, none⟩ = some (.int .i64 a0_4) := (blk_cell BK166.out 4).trans rfl
        have hcz29_5 : wc.cell? ⟨gb166, 5, none⟩ = some (.int .i64 a0_5) := (blk_cell BK166.out 5).trans rfl
        go_wp2
        go_ret
        exact ⟨by first | rfl | (simp [errW_none, errW_some] <;> rfl) | (simp [*, errW_none, errW_some] <;> rfl), by repeat (first | (with_reducible first | exact HB.out | apply below_alloc | apply pw_below_drewN | apply below_drew1 | refine below_set ?_ GE166.out | refine below_set ?_ GE167.out) | exact HB.out)⟩
      ·replace c18 := Bool.eq_false_iff.mpr c18
       subst c18
       have H1 : (some 6) = some r := by rw [if_neg (show ¬ (false = true) by decide)] at H; exact H
       clear H
       have H := H1
       clear H1
       obtain rfl := Option.some.inj H
       have hnb30 := NB166_167.out
       have hnc30 := NB167_166.out
       have hcz31_0 : wc.cell? ⟨gb166, 0, none⟩ = some (.string a0_0) := (blk_cell BK166.out 0).trans rfl
       have hcz31_1 : wc.cell? ⟨gb166, 1, none⟩ = some (.string a0_1) := (blk_cell BK166.out 1).trans rfl
       have hcz31_2 : wc.cell? ⟨gb166, 2, none⟩ = some (.int .i64 a0_2) := (blk_cell BK166.out 2).trans rfl
       have hcz31_3 : wc.cell? ⟨gb166, 3, none⟩ = some (.int .i64 a0_3) := (blk_cell BK166.out 3).trans rfl
       have hcz31_4 : wc.cell? ⟨gb166, 4, none⟩ = some (.int .i64 a0_4) := (blk_cell BK166.out 4).trans rfl
       have hcz31_5 : wc.cell? ⟨gb166, 5, none⟩ = some (.int .i64 a0_5) := (blk_cell BK166.out 5).trans rfl
       go_wp2
       go_ret
       exact ⟨by first | rfl | (simp [errW_none, errW_some] <;> rfl) | (simp [*, errW_none, errW_some] <;> rfl), by repeat (first | (with_reducible first | exact HB.out | apply below_alloc | apply pw_below_drewN | apply below_drew1 | refine below_set ?_ GE166.out | refine below_set ?_ GE167.out) | exact HB.out)⟩
     ·rw [if_neg c17] at H
      have c17b0 : (a0_2 == 1) = false := beq_eq_false_iff_ne.mpr c17
      have c17b1 : (a0_2 != 1) = true := bne_iff_ne.mpr c17
      by_cases c32 : a0_2 = 2
      ·rw [if_pos c32] at H
       have c32b0 : (a0_2 == 2) = true := beq_iff_eq.mpr c32
       have c32b1 : (a0_2 != 2) = false := bne_eq_false_iff_eq.mpr c32
       clear c32
       have HC33 := Aside0.mk H
       clear H
       have hnb34 := NB166_167.out
       have hnc34 := NB167_166.out
       have hcz35_0 : wc.cell? ⟨gb166, 0, none⟩ = some (.string a0_0) := (blk_cell BK166.out 0).trans rfl
       have hcz35_1 : wc.cell? ⟨gb166, 1, none⟩ = some (.string a0_1) := (blk_cell BK166.out 1).trans rfl
       have hcz35_2 : wc.cell? ⟨gb166, 2, none⟩ = some (.int .i64 a0_2) := (blk_cell BK166.out 2).trans rfl
       have hcz35_3 : wc.cell? ⟨gb166, 3, none⟩ = some (.int .i64 a0_3) := (blk_cell BK166.out 3).trans rfl
       have hcz35_4 : wc.cell? ⟨gb166, 4, none⟩ = some (.int .i64 a0_4) := (blk_cell BK166.out 4).trans rfl
       have hcz35_5 : wc.cell? ⟨gb166, 5, none⟩ = some (.int .i64 a0_5) := (blk_cell BK166.out 5).trans rfl
       go_upto_region 11 with (fail)
       go_cut [5] (fun v5 wc => ∃ (kq : Nat) (x5_32 : Bool), v5 = .bool x5_32 ∧ Aside0 (plenumref41_Check.j1 kq x5_32 a0_0 a0_1 a0_2 a0_3 a0_4 a0_5 a1_0 a1_1 a1_2 a1_3 a1_4 a1_5 a1_6 l1_7 a1_8 a1_9 a1_10 a1_11 = some r) ∧ Aside0 (kq ≤ kj5) ∧ Aside0 (wc.heap[gb166]? = some (.cells #[.string a0_0, .string a0_1, .int .i64 a0_2, .int .i64 a0_3, .int .i64 a0_4, .int .i64 a0_5] 23 (0, 0))) ∧ Aside0 (wc.heap[gb167]? = some (.cells #[.string a1_0, .int .i64 a1_1, .int .i64 a1_2, .string a1_3, .int .i64 a1_4, .int .i64 a1_5, .int .i64 a1_6, (.slice A1_7 l1_7.length c1_7), .int .i64 a1_8, .int .i64 a1_9, .int .i64 a1_10, .int .i64 a1_11] 51 (0, 0))) ∧ Aside0 (Below w.heap.size w wc))
       case first =>
        have H := HC33.out
        clear HC33
        by_cases c36 : x5_5 = true
        ·subst c36
         have H1 : (plenumref41_Check.j1 kj5 (a0_3 == 0) a0_0 a0_1 a0_2 a0_3 a0_4 a0_5 a1_0 a1_1 a1_2 a1_3 a1_4 a1_5 a1_6 l1_7 a1_8 a1_9 a1_10 a1_11) = some r := by rw [if_pos rfl] at H; exact H
         clear H
         have H := H1
         clear H1
         have H' := Aside0.mk H
         clear H
         have hnb37 := NB166_167.out
         have hnc37 := NB167_166.out
         have hcz38_0 : wc.cell? ⟨gb166, 0, none⟩ = some (.string a0_0) := (blk_cell BK166.out 0).trans rfl
         have hcz38_1 : wc.cell? ⟨gb166, 1, none⟩ = some (.string a0_1) := (blk_cell BK166.out 1).trans rfl
         have hcz38_2 : wc.cell? ⟨gb166, 2, none⟩ = some (.int .i64 a0_2) := (blk_cell BK166.out 2).trans rfl
         have hcz38_3 : wc.cell? ⟨gb166, 3, none⟩ = some (.int .i64 a0_3) := (blk_cell BK166.out 3).trans rfl
         have hcz38_4 : wc.cell? ⟨gb166, 4, none⟩ = some (.int .i64 a0_4) := (blk_cell BK166.out 4).trans rfl
         have hcz38_5 : wc.cell? ⟨gb166, 5, none⟩ = some (.int .i64 a0_5) := (blk_cell BK166.out 5).trans rfl
         go_wp2
         go_meet
         case rel => exact ⟨_, ((a0_3 == 0)), (by first | rfl | (simp; done) | (simp [*]; done)), H', ⟨by have := HJ5.out; first | omega | exact Nat.le_refl _⟩, ⟨by (with_reducible repeat (first | refine blk_drewN ?_ _ | refine blk_drew ?_ | refine blk_alloc ?_ _)); exact BK166.out⟩, ⟨by (with_reducible repeat (first | refine blk_drewN ?_ _ | refine blk_drew ?_ | refine blk_alloc ?_ _)); exact BK167.out⟩, ⟨by repeat (first | (with_reducible first | exact HB.out | apply below_alloc | apply pw_below_drewN | apply below_drew1 | refine below_set ?_ GE166.out | refine below_set ?_ GE167.out) | exact HB.out)⟩⟩
        ·replace c36 := Bool.eq_false_iff.mpr c36
         subst c36
         have H1 : (plenumref41_Check.j1 kj5 false a0_0 a0_1 a0_2 a0_3 a0_4 a0_5 a1_0 a1_1 a1_2 a1_3 a1_4 a1_5 a1_6 l1_7 a1_8 a1_9 a1_10 a1_11) = some r := by rw [if_neg (show ¬ (false = true) by decide)] at H; exact H
         clear H
         have H := H1
         clear H1
         have H' := Aside0.mk H
         clear H
         go_wp2
         go_meet
         case rel => exact ⟨_, (false), (by first | rfl | (simp; done) | (simp [*]; done)), H', ⟨by have := HJ5.out; first | omega | exact Nat.le_refl _⟩, ⟨by (with_reducible repeat (first | refine blk_drewN ?_ _ | refine blk_drew ?_ | refine blk_alloc ?_ _)); exact BK166.out⟩, ⟨by (with_reducible repeat (first | refine blk_drewN ?_ _ | refine blk_drew ?_ | refine blk_alloc ?_ _)); exact BK167.out⟩, ⟨by repeat (first | (with_reducible first | exact HB.out | apply below_alloc | apply pw_below_drewN | apply below_drew1 | refine below_set ?_ GE166.out | refine below_set ?_ GE167.out) | exact HB.out)⟩⟩
       case rest =>
        clear HC33
        try clear c1
        try clear c2
        try clear p2
        try clear c3
        try clear c4
        try clear c5
        try clear c5b0
        try clear c5b1
        try clear c9
        try clear c12
        try clear c12b0
        try clear c13
        try clear c15
        try clear c17
        try clear c17b0
        try clear c17b1
        try clear c18
        try clear c19
        try clear c19b0
        try clear c20
        try clear c20b0
        try clear c21
        try clear c21b0
        try clear c21b1
        try clear c22
        try clear c24
        try clear c26
        try clear c28
        try clear c30
        try clear c32
        try clear c32b0
        try clear c32b1
        try clear c34
        try clear c36
        try clear c37
        try clear hcz10_0
        try clear hcz10_1
        try clear hcz10_2
        try clear hcz10_3
        try clear hcz10_4
        try clear hcz10_5
        try clear hcz11_0
        try clear hcz11_1
        try clear hcz11_10
        try clear hcz11_11
        try clear hcz11_2
        try clear hcz11_3
        try clear hcz11_4
        try clear hcz11_5
        try clear hcz11_6
        try clear hcz11_7
        try clear hcz11_8
        try clear hcz11_9
        try clear hcz14_0
        try clear hcz14_1
        try clear hcz14_2
        try clear hcz14_3
        try clear hcz14_4
        try clear hcz14_5
        try clear hcz16_0
        try clear hcz16_1
        try clear hcz16_2
        try clear hcz16_3
        try clear hcz16_4
        try clear hcz16_5
        try clear hcz23_0
        try clear hcz23_1
        try clear hcz23_2
        try clear hcz23_3
        try clear hcz23_4
        try clear hcz23_5
        try clear hcz25_0
        try clear hcz25_1
        try clear hcz25_2
        try clear hcz25_3
        try clear hcz25_4
        try clear hcz25_5
        try clear hcz27_0
        try clear hcz27_1
        try clear hcz27_2
        try clear hcz27_3
        try clear hcz27_4
        try clear hcz27_5
        try clear hcz29_0
        try clear hcz29_1
        try clear hcz29_2
        try clear hcz29_3
        try clear hcz29_4
        try clear hcz29_5
        try clear hcz31_0
        try clear hcz31_1
        try clear hcz31_2
        try clear hcz31_3
        try clear hcz31_4
        try clear hcz31_5
        try clear hcz35_0
        try clear hcz35_1
        try clear hcz35_2
        try clear hcz35_3
        try clear hcz35_4
        try clear hcz35_5
        try clear hcz38_0
        try clear hcz38_1
        try clear hcz38_2
        try clear hcz38_3
        try clear hcz38_4
        try clear hcz38_5
        try clear hfz10_0
        try clear hfz10_1
        try clear hfz10_2
        try clear hfz10_3
        try clear hfz10_4
        try clear hfz10_5
        try clear hfz11_0
        try clear hfz11_1
        try clear hfz11_10
        try clear hfz11_11
        try clear hfz11_2
        try clear hfz11_3
        try clear hfz11_4
        try clear hfz11_5
        try clear hfz11_6
        try clear hfz11_7
        try clear hfz11_8
        try clear hfz11_9
        try clear hfz14_0
        try clear hfz14_1
        try clear hfz14_2
        try clear hfz14_3
        try clear hfz14_4
        try clear hfz14_5
        try clear hfz16_0
        try clear hfz16_1
        try clear hfz16_2
        try clear hfz16_3
        try clear hfz16_4
        try clear hfz16_5
        try clear hfz23_0
        try clear hfz23_1
        try clear hfz23_2
        try clear hfz23_3
        try clear hfz23_4
        try clear hfz23_5
        try clear hfz25_0
        try clear hfz25_1
        try clear hfz25_2
        try clear hfz25_3
        try clear hfz25_4
        try clear hfz25_5
        try clear hfz27_0
        try clear hfz27_1
        try clear hfz27_2
        try clear hfz27_3
        try clear hfz27_4
        try clear hfz27_5
        try clear hfz29_0
        try clear hfz29_1
        try clear hfz29_2
        try clear hfz29_3
        try clear hfz29_4
        try clear hfz29_5
        try clear hfz31_0
        try clear hfz31_1
        try clear hfz31_2
        try clear hfz31_3
        try clear hfz31_4
        try clear hfz31_5
        try clear hfz35_0
        try clear hfz35_1
        try clear hfz35_2
        try clear hfz35_3
        try clear hfz35_4
        try clear hfz35_5
        try clear hfz38_0
        try clear hfz38_1
        try clear hfz38_2
        try clear hfz38_3
        try clear hfz38_4
        try clear hfz38_5
        try clear p2
        obtain ⟨kq, x5_32, rfl, HA, HJ32, BK166, BK167, HB⟩ := hcut
        cases kq with
        | zero => exact absurd HA.out (by simp [plenumref41_Check.j1])
        | succ kj32 =>
         have H := HA.out
         clear HA
         simp only [plenumref41_Check.j1] at H
         by_cases c39 : a1_1 = 1
         ·rw [if_pos c39] at H
          have c39b0 : (a1_1 == 1) = true := beq_iff_eq.mpr c39
          have c39b1 : (a1_1 != 1) = false := bne_eq_false_iff_eq.mpr c39
          clear c39
          by_cases c40 : x5_32 = true
          ·subst c40
           have H1 : (if a0_4 ≥ 1 then (if a0_4 ≤ 1000000000000 then (some 0) else (some 6)) else (some 6)) = some r := by rw [if_pos rfl] at H; exact H
           clear H
           have H := H1
           clear H1
           by_cases c41 : a0_4 ≥ 1
           ·rw [if_pos c41] at H
            have c41b0 : decide (1 ≤ a0_4) = true := decide_eq_true c41
            clear c41
            by_cases c42 : a0_4 ≤ 1000000000000
            ·rw [if_pos c42] at H
             have c42b0 : decide (a0_4 ≤ 1000000000000) = true := decide_eq_true c42
             clear c42
             obtain rfl := Option.some.inj H
             have hnb43 := NB167_166.out
             have hnc43 := NB166_167.out
             have hcz44_0 : wc.cell? ⟨gb167, 0, none⟩ = some (.string a1_0) := (blk_cell BK167.out 0).trans rfl
             have hcz44_1 : wc.cell? ⟨gb167, 1, none⟩ = some (.int .i64 a1_1) := (blk_cell BK167.out 1).trans rfl
             have hcz44_2 : wc.cell? ⟨gb167, 2, none⟩ = some (.int .i64 a1_2) := (blk_cell BK167.out 2).trans rfl
             have hcz44_3 : wc.cell? ⟨gb167, 3, none⟩ = some (.string a1_3) := (blk_cell BK167.out 3).trans rfl
             have hcz44_4 : wc.cell? ⟨gb167, 4, none⟩ = some (.int .i64 a1_4) := (blk_cell BK167.out 4).trans rfl
             have hcz44_5 : wc.cell? ⟨gb167, 5, none⟩ = some (.int .i64 a1_5) := (blk_cell BK167.out 5).trans rfl
             have hcz44_6 : wc.cell? ⟨gb167, 6, none⟩ = some (.int .i64 a1_6) := (blk_cell BK167.out 6).trans rfl
             have hcz44_7 : wc.cell? ⟨gb167, 7, none⟩ = some (.slice A1_7 l1_7.length c1_7) := (blk_cell BK167.out 7).trans rfl
             have hcz44_8 : wc.cell? ⟨gb167, 8, none⟩ = some (.int .i64 a1_8) := (blk_cell BK167.out 8).trans rfl
             have hcz44_9 : wc.cell? ⟨gb167, 9, none⟩ = some (.int .i64 a1_9) := (blk_cell BK167.out 9).trans rfl
             have hcz44_10 : wc.cell? ⟨gb167, 10, none⟩ = some (.int .i64 a1_10) := (blk_cell BK167.out 10).trans rfl
             have hcz44_11 : wc.cell? ⟨gb167, 11, none⟩ = some (.int .i64 a1_11) := (blk_cell BK167.out 11).trans rfl
             have hcz45_0 : wc.cell? ⟨gb166, 0, none⟩ = some (.string a0_0) := (blk_cell BK166.out 0).trans rfl
             have hcz45_1 : wc.cell? ⟨gb166, 1, none⟩ = some (.string a0_1) := (blk_cell BK166.out 1).trans rfl
             have hcz45_2 : wc.cell? ⟨gb166, 2, none⟩ = some (.int .i64 a0_2) := (blk_cell BK166.out 2).trans rfl
             have hcz45_3 : wc.cell? ⟨gb166, 3, none⟩ = some (.int .i64 a0_3) := (blk_cell BK166.out 3).trans rfl
             have hcz45_4 : wc.cell? ⟨gb166, 4, none⟩ = some (.int .i64 a0_4) := (blk_cell BK166.out 4).trans rfl
             have hcz45_5 : wc.cell? ⟨gb166, 5, none⟩ = some (.int .i64 a0_5) := (blk_cell BK166.out 5).trans rfl
             go_wp2
             go_ret
             exact ⟨by first | rfl | (simp [errW_none, errW_some] <;> rfl) | (simp [*, errW_none, errW_some] <;> rfl), by repeat (first | (with_reducible first | exact HB.out | apply below_alloc | apply pw_below_drewN | apply below_drew1 | refine below_set ?_ GE166.out | refine below_set ?_ GE167.out) | exact HB.out)⟩
            ·rw [if_neg c42] at H
             have c42b0 : decide (a0_4 ≤ 1000000000000) = false := decide_eq_false c42
             clear c42
             obtain rfl := Option.some.inj H
             have hnb46 := NB167_166.out
             have hnc46 := NB166_167.out
             have hcz47_0 : wc.cell? ⟨gb167, 0, none⟩ = some (.string a1_0) := (blk_cell BK167.out 0).trans rfl
             have hcz47_1 : wc.cell? ⟨gb167, 1, none⟩ = some (.int .i64 a1_1) := (blk_cell BK167.out 1).trans rfl
             have hcz47_2 : wc.cell? ⟨gb167, 2, none⟩ = some (.int .i64 a1_2) := (blk_cell BK167.out 2).trans rfl
             have hcz47_3 : wc.cell? ⟨gb167, 3, none⟩ = some (.string a1_3) := (blk_cell BK167.out 3).trans rfl
             have hcz47_4 : wc.cell? ⟨gb167, 4, none⟩ = some (.int .i64 a1_4) := (blk_cell BK167.out 4).trans rfl
             have hcz47_5 : wc.cell? ⟨gb167, 5, none⟩ = some (.int .i64 a1_5) := (blk_cell BK167.out 5).trans rfl
             have hcz47_6 : wc.cell? ⟨gb167, 6, none⟩ = some (.int .i64 a1_6) := (blk_cell BK167.out 6).trans rfl
             have hcz47_7 : wc.cell? ⟨gb167, 7, none⟩ = some (.slice A1_7 l1_7.length c1_7) := (blk_cell BK167.out 7).trans rfl
             have hcz47_8 : wc.cell? ⟨gb167, 8, none⟩ = some (.int .i64 a1_8) := (blk_cell BK167.out 8).trans rfl
             have hcz47_9 : wc.cell? ⟨gb167, 9, none⟩ = some (.int .i64 a1_9) := (blk_cell BK167.out 9).trans rfl
             have hcz47_10 : wc.cell? ⟨gb167, 10, none⟩ = some (.int .i64 a1_10) := (blk_cell BK167.out 10).trans rfl
             have hcz47_11 : wc.cell? ⟨gb167, 11, none⟩ = some (.int .i64 a1_11) := (blk_cell BK167.out 11).trans rfl
             have hcz48_0 : wc.cell? ⟨gb166, 0, none⟩ = some (.string a0_0) := (blk_cell BK166.out 0).trans rfl
             have hcz48_1 : wc.cell? ⟨gb166, 1, none⟩ = some (.string a0_1) := (blk_cell BK166.out 1).trans rfl
             have hcz48_2 : wc.cell? ⟨gb166, 2, none⟩ = some (.int .i64 a0_2) := (blk_cell BK166.out 2).trans rfl
             have hcz48_3 : wc.cell? ⟨gb166, 3, none⟩ = some (.int .i64 a0_3) := (blk_cell BK166.out 3).trans rfl
             have hcz48_4 : wc.cell? ⟨gb166, 4, none⟩ = some (.int .i64 a0_4) := (blk_cell BK166.out 4).trans rfl
             have hcz48_5 : wc.cell? ⟨gb166, 5, none⟩ = some (.int .i64 a0_5) := (blk_cell BK166.out 5).trans rfl
             go_wp2
             go_ret
             exact ⟨by first | rfl | (simp [errW_none, errW_some] <;> rfl) | (simp [*, errW_none, errW_some] <;> rfl), by repeat (first | (with_reducible first | exact HB.out | apply below_alloc | apply pw_below_drewN | apply below_drew1 | refine below_set ?_ GE166.out | refine below_set ?_ GE167.out) | exact HB.out)⟩
           ·rw [if_neg c41] at H
            have c41b0 : decide (1 ≤ a0_4) = false := decide_eq_false c41
            clear c41
            obtain rfl := Option.some.inj H
            have hnb49 := NB167_166.out
            have hnc49 := NB166_167.out
            have hcz50_0 : wc.cell? ⟨gb167, 0, none⟩ = some (.string a1_0) := (blk_cell BK167.out 0).trans rfl
            have hcz50_1 : wc.cell? ⟨gb167, 1, none⟩ = some (.int .i64 a1_1) := (blk_cell BK167.out 1).trans rfl
            have hcz50_2 : wc.cell? ⟨gb167, 2, none⟩ = some (.int .i64 a1_2) := (blk_cell BK167.out 2).trans rfl
            have hcz50_3 : wc.cell? ⟨gb167, 3, none⟩ = some (.string a1_3) := (blk_cell BK167.out 3).trans rfl
            have hcz50_4 : wc.cell? ⟨gb167, 4, none⟩ = some (.int .i64 a1_4) := (blk_cell BK167.out 4).trans rfl
            have hcz50_5 : wc.cell? ⟨gb167, 5, none⟩ = some (.int .i64 a1_5) := (blk_cell BK167.out 5).trans rfl
            have hcz50_6 : wc.cell? ⟨gb167, 6, none⟩ = some (.int .i64 a1_6) := (blk_cell BK167.out 6).trans rfl
            have hcz50_7 : wc.cell? ⟨gb167, 7, none⟩ = some (.slice A1_7 l1_7.length c1_7) := (blk_cell BK167.out 7).trans rfl
            have hcz50_8 : wc.cell? ⟨gb167, 8, none⟩ = some (.int .i64 a1_8) := (blk_cell BK167.out 8).trans rfl
            have hcz50_9 : wc.cell? ⟨gb167, 9, none⟩ = some (.int .i64 a1_9) := (blk_cell BK167.out 9).trans rfl
            have hcz50_10 : wc.cell? ⟨gb167, 10, none⟩ = some (.int .i64 a1_10) := (blk_cell BK167.out 10).trans rfl
            have hcz50_11 : wc.cell? ⟨gb167, 11, none⟩ = some (.int .i64 a1_11) := (blk_cell BK167.out 11).trans rfl
            have hcz51_0 : wc.cell? ⟨gb166, 0, none⟩ = some (.string a0_0) := (blk_cell BK166.out 0).trans rfl
            have hcz51_1 : wc.cell? ⟨gb166, 1, none⟩ = some (.string a0_1) := (blk_cell BK166.out 1).trans rfl
            have hcz51_2 : wc.cell? ⟨gb166, 2, none⟩ = some (.int .i64 a0_2) := (blk_cell BK166.out 2).trans rfl
            have hcz51_3 : wc.cell? ⟨gb166, 3, none⟩ = some (.int .i64 a0_3) := (blk_cell BK166.out 3).trans rfl
            have hcz51_4 : wc.cell? ⟨gb166, 4, none⟩ = some (.int .i64 a0_4) := (blk_cell BK166.out 4).trans rfl
            have hcz51_5 : wc.cell? ⟨gb166, 5, none⟩ = some (.int .i64 a0_5) := (blk_cell BK166.out 5).trans rfl
            go_wp2
            go_ret
            exact ⟨by first | rfl | (simp [errW_none, errW_some] <;> rfl) | (simp [*, errW_none, errW_some] <;> rfl), by repeat (first | (with_reducible first | exact HB.out | apply below_alloc | apply pw_below_drewN | apply below_drew1 | refine below_set ?_ GE166.out | refine below_set ?_ GE167.out) | exact HB.out)⟩
          ·replace c40 := Bool.eq_false_iff.mpr c40
           subst c40
           have H1 : (some 6) = some r := by rw [if_neg (show ¬ (false = true) by decide)] at H; exact H
           clear H
           have H := H1
           clear H1
           obtain rfl := Option.some.inj H
           have hnb52 := NB167_166.out
           have hnc52 := NB166_167.out
           have hcz53_0 : wc.cell? ⟨gb167, 0, none⟩ = some (.string a1_0) := (blk_cell BK167.out 0).trans rfl
           have hcz53_1 : wc.cell? ⟨gb167, 1, none⟩ = some (.int .i64 a1_1) := (blk_cell BK167.out 1).trans rfl
           have hcz53_2 : wc.cell? ⟨gb167, 2, none⟩ = some (.int .i64 a1_2) := (blk_cell BK167.out 2).trans rfl
           have hcz53_3 : wc.cell? ⟨gb167, 3, none⟩ = some (.string a1_3) := (blk_cell BK167.out 3).trans rfl
           have hcz53_4 : wc.cell? ⟨gb167, 4, none⟩ = some (.int .i64 a1_4) := (blk_cell BK167.out 4).trans rfl
           have hcz53_5 : wc.cell? ⟨gb167, 5, none⟩ = some (.int .i64 a1_5) := (blk_cell BK167.out 5).trans rfl
           have hcz53_6 : wc.cell? ⟨gb167, 6, none⟩ = some (.int .i64 a1_6) := (blk_cell BK167.out 6).trans rfl
           have hcz53_7 : wc.cell? ⟨gb167, 7, none⟩ = some (.slice A1_7 l1_7.length c1_7) := (blk_cell BK167.out 7).trans rfl
           have hcz53_8 : wc.cell? ⟨gb167, 8, none⟩ = some (.int .i64 a1_8) := (blk_cell BK167.out 8).trans rfl
           have hcz53_9 : wc.cell? ⟨gb167, 9, none⟩ = some (.int .i64 a1_9) := (blk_cell BK167.out 9).trans rfl
           have hcz53_10 : wc.cell? ⟨gb167, 10, none⟩ = some (.int .i64 a1_10) := (blk_cell BK167.out 10).trans rfl
           have hcz53_11 : wc.cell? ⟨gb167, 11, none⟩ = some (.int .i64 a1_11) := (blk_cell BK167.out 11).trans rfl
           go_wp2
           go_ret
           exact ⟨by first | rfl | (simp [errW_none, errW_some] <;> rfl) | (simp [*, errW_none, errW_some] <;> rfl), by repeat (first | (with_reducible first | exact HB.out | apply below_alloc | apply pw_below_drewN | apply below_drew1 | refine below_set ?_ GE166.out | refine below_set ?_ GE167.out) | exact HB.out)⟩
         ·rw [if_neg c39] at H
          have c39b0 : (a1_1 == 1) = false := beq_eq_false_iff_ne.mpr c39
          have c39b1 : (a1_1 != 1) = true := bne_iff_ne.mpr c39
          by_cases c54 : x5_32 = true
          ·subst c54
           have H1 : (if a0_4 = 0 then (some 0) else (some 6)) = some r := by rw [if_pos rfl] at H; exact H
           clear H
           have H := H1
           clear H1
           by_cases c55 : a0_4 = 0
           ·rw [if_pos c55] at H
            have c55b0 : (a0_4 == 0) = true := beq_iff_eq.mpr c55
            have c55b1 : (a0_4 != 0) = false := bne_eq_false_iff_eq.mpr c55
            clear c55
            obtain rfl := Option.some.inj H
            have hnb56 := NB167_166.out
            have hnc56 := NB166_167.out
            have hcz57_0 : wc.cell? ⟨gb167, 0, none⟩ = some (.string a1_0) := (blk_cell BK167.out 0).trans rfl
            have hcz57_1 : wc.cell? ⟨gb167, 1, none⟩ = some (.int .i64 a1_1) := (blk_cell BK167.out 1).trans rfl
            have hcz57_2 : wc.cell? ⟨gb167, 2, none⟩ = some (.int .i64 a1_2) := (blk_cell BK167.out 2).trans rfl
            have hcz57_3 : wc.cell? ⟨gb167, 3, none⟩ = some (.string a1_3) := (blk_cell BK167.out 3).trans rfl
            have hcz57_4 : wc.cell? ⟨gb167, 4, none⟩ = some (.int .i64 a1_4) := (blk_cell BK167.out 4).trans rfl
            have hcz57_5 : wc.cell? ⟨gb167, 5, none⟩ = some (.int .i64 a1_5) := (blk_cell BK167.out 5).trans rfl
            have hcz57_6 : wc.cell? ⟨gb167, 6, none⟩ = some (.int .i64 a1_6) := (blk_cell BK167.out 6).trans rfl
            have hcz57_7 : wc.cell? ⟨gb167, 7, none⟩ = some (.slice A1_7 l1_7.length c1_7) := (blk_cell BK167.out 7).trans rfl
            have hcz57_8 : wc.cell? ⟨gb167, 8, none⟩ = some (.int .i64 a1_8) := (blk_cell BK167.out 8).trans rfl
            have hcz57_9 : wc.cell? ⟨gb167, 9, none⟩ = some (.int .i64 a1_9) := (blk_cell BK167.out 9).trans rfl
            have hcz57_10 : wc.cell? ⟨gb167, 10, none⟩ = some (.int .i64 a1_10) := (blk_cell BK167.out 10).trans rfl
            have hcz57_11 : wc.cell? ⟨gb167, 11, none⟩ = some (.int .i64 a1_11) := (blk_cell BK167.out 11).trans rfl
            have hcz58_0 : wc.cell? ⟨gb166, 0, none⟩ = some (.string a0_0) := (blk_cell BK166.out 0).trans rfl
            have hcz58_1 : wc.cell? ⟨gb166, 1, none⟩ = some (.string a0_1) := (blk_cell BK166.out 1).trans rfl
            have hcz58_2 : wc.cell? ⟨gb166, 2, none⟩ = some (.int .i64 a0_2) := (blk_cell BK166.out 2).trans rfl
            have hcz58_3 : wc.cell? ⟨gb166, 3, none⟩ = some (.int .i64 a0_3) := (blk_cell BK166.out 3).trans rfl
            have hcz58_4 : wc.cell? ⟨gb166, 4, none⟩ = some (.int .i64 a0_4) := (blk_cell BK166.out 4).trans rfl
            have hcz58_5 : wc.cell? ⟨gb166, 5, none⟩ = some (.int .i64 a0_5) := (blk_cell BK166.out 5).trans rfl
            go_wp2
            go_ret
            exact ⟨by first | rfl | (simp [errW_none, errW_some] <;> rfl) | (simp [*, errW_none, errW_some] <;> rfl), by repeat (first | (with_reducible first | exact HB.out | apply below_alloc | apply pw_below_drewN | apply below_drew1 | refine below_set ?_ GE166.out | refine below_set ?_ GE167.out) | exact HB.out)⟩
           ·rw [if_neg c55] at H
            have c55b0 : (a0_4 == 0) = false := beq_eq_false_iff_ne.mpr c55
            have c55b1 : (a0_4 != 0) = true := bne_iff_ne.mpr c55
            obtain rfl := Option.some.inj H
            have hnb59 := NB167_166.out
            have hnc59 := NB166_167.out
            have hcz60_0 : wc.cell? ⟨gb167, 0, none⟩ = some (.string a1_0) := (blk_cell BK167.out 0).trans rfl
            have hcz60_1 : wc.cell? ⟨gb167, 1, none⟩ = some (.int .i64 a1_1) := (blk_cell BK167.out 1).trans rfl
            have hcz60_2 : wc.cell? ⟨gb167, 2, none⟩ = some (.int .i64 a1_2) := (blk_cell BK167.out 2).trans rfl
            have hcz60_3 : wc.cell? ⟨gb167, 3, none⟩ = some (.string a1_3) := (blk_cell BK167.out 3).trans rfl
            have hcz60_4 : wc.cell? ⟨gb167, 4, none⟩ = some (.int .i64 a1_4) := (blk_cell BK167.out 4).trans rfl
            have hcz60_5 : wc.cell? ⟨gb167, 5, none⟩ = some (.int .i64 a1_5) := (blk_cell BK167.out 5).trans rfl
            have hcz60_6 : wc.cell? ⟨gb167, 6, none⟩ = some (.int .i64 a1_6) := (blk_cell BK167.out 6).trans rfl
            have hcz60_7 : wc.cell? ⟨gb167, 7, none⟩ = some (.slice A1_7 l1_7.length c1_7) := (blk_cell BK167.out 7).trans rfl
            have hcz60_8 : wc.cell? ⟨gb167, 8, none⟩ = some (.int .i64 a1_8) := (blk_cell BK167.out 8).trans rfl
            have hcz60_9 : wc.cell? ⟨gb167, 9, none⟩ = some (.int .i64 a1_9) := (blk_cell BK167.out 9).trans rfl
            have hcz60_10 : wc.cell? ⟨gb167, 10, none⟩ = some (.int .i64 a1_10) := (blk_cell BK167.out 10).trans rfl
            have hcz60_11 : wc.cell? ⟨gb167, 11, none⟩ = some (.int .i64 a1_11) := (blk_cell BK167.out 11).trans rfl
            have hcz61_0 : wc.cell? ⟨gb166, 0, none⟩ = some (.string a0_0) := (blk_cell BK166.out 0).trans rfl
            have hcz61_1 : wc.cell? ⟨gb166, 1, none⟩ = some (.string a0_1) := (blk_cell BK166.out 1).trans rfl
            have hcz61_2 : wc.cell? ⟨gb166, 2, none⟩ = some (.int .i64 a0_2) := (blk_cell BK166.out 2).trans rfl
            have hcz61_3 : wc.cell? ⟨gb166, 3, none⟩ = some (.int .i64 a0_3) := (blk_cell BK166.out 3).trans rfl
            have hcz61_4 : wc.cell? ⟨gb166, 4, none⟩ = some (.int .i64 a0_4) := (blk_cell BK166.out 4).trans rfl
            have hcz61_5 : wc.cell? ⟨gb166, 5, none⟩ = some (.int .i64 a0_5) := (blk_cell BK166.out 5).trans rfl
            go_wp2
            go_ret
            exact ⟨by first | rfl | (simp [errW_none, errW_some] <;> rfl) | (simp [*, errW_none, errW_some] <;> rfl), by repeat (first | (with_reducible first | exact HB.out | apply below_alloc | apply pw_below_drewN | apply below_drew1 | refine below_set ?_ GE166.out | refine below_set ?_ GE167.out) | exact HB.out)⟩
          ·replace c54 := Bool.eq_false_iff.mpr c54
           subst c54
           have H1 : (some 6) = some r := by rw [if_neg (show ¬ (false = true) by decide)] at H; exact H
           clear H
           have H := H1
           clear H1
           obtain rfl := Option.some.inj H
           have hnb62 := NB167_166.out
           have hnc62 := NB166_167.out
           have hcz63_0 : wc.cell? ⟨gb167, 0, none⟩ = some (.string a1_0) := (blk_cell BK167.out 0).trans rfl
           have hcz63_1 : wc.cell? ⟨gb167, 1, none⟩ = some (.int .i64 a1_1) := (blk_cell BK167.out 1).trans rfl
           have hcz63_2 : wc.cell? ⟨gb167, 2, none⟩ = some (.int .i64 a1_2) := (blk_cell BK167.out 2).trans rfl
           have hcz63_3 : wc.cell? ⟨gb167, 3, none⟩ = some (.string a1_3) := (blk_cell BK167.out 3).trans rfl
           have hcz63_4 : wc.cell? ⟨gb167, 4, none⟩ = some (.int .i64 a1_4) := (blk_cell BK167.out 4).trans rfl
           have hcz63_5 : wc.cell? ⟨gb167, 5, none⟩ = some (.int .i64 a1_5) := (blk_cell BK167.out 5).trans rfl
           have hcz63_6 : wc.cell? ⟨gb167, 6, none⟩ = some (.int .i64 a1_6) := (blk_cell BK167.out 6).trans rfl
           have hcz63_7 : wc.cell? ⟨gb167, 7, none⟩ = some (.slice A1_7 l1_7.length c1_7) := (blk_cell BK167.out 7).trans rfl
           have hcz63_8 : wc.cell? ⟨gb167, 8, none⟩ = some (.int .i64 a1_8) := (blk_cell BK167.out 8).trans rfl
           have hcz63_9 : wc.cell? ⟨gb167, 9, none⟩ = some (.int .i64 a1_9) := (blk_cell BK167.out 9).trans rfl
           have hcz63_10 : wc.cell? ⟨gb167, 10, none⟩ = some (.int .i64 a1_10) := (blk_cell BK167.out 10).trans rfl
           have hcz63_11 : wc.cell? ⟨gb167, 11, none⟩ = some (.int .i64 a1_11) := (blk_cell BK167.out 11).trans rfl
           go_wp2
           go_ret
           exact ⟨by first | rfl | (simp [errW_none, errW_some] <;> rfl) | (simp [*, errW_none, errW_some] <;> rfl), by repeat (first | (with_reducible first | exact HB.out | apply below_alloc | apply pw_below_drewN | apply below_drew1 | refine below_set ?_ GE166.out | refine below_set ?_ GE167.out) | exact HB.out)⟩
      ·rw [if_neg c32] at H
       have c32b0 : (a0_2 == 2) = false := beq_eq_false_iff_ne.mpr c32
       have c32b1 : (a0_2 != 2) = true := bne_iff_ne.mpr c32
       by_cases c64 : a0_2 = 3
       ·rw [if_pos c64] at H
        have c64b0 : (a0_2 == 3) = true := beq_iff_eq.mpr c64
        have c64b1 : (a0_2 != 3) = false := bne_eq_false_iff_eq.mpr c64
        clear c64
        by_cases c65 : x5_5 = true
        ·subst c65
         have H1 : (if a0_3 = 0 then (if a0_4 = 0 then (some 0) else (some 6)) else (some 6)) = some r := by rw [if_pos rfl] at H; exact H
         clear H
         have H := H1
         clear H1
         by_cases c66 : a0_3 = 0
         ·rw [if_pos c66] at H
          have c66b0 : (a0_3 == 0) = true := beq_iff_eq.mpr c66
          have c66b1 : (a0_3 != 0) = false := bne_eq_false_iff_eq.mpr c66
          clear c66
          by_cases c67 : a0_4 = 0
          ·rw [if_pos c67] at H
           have c67b0 : (a0_4 == 0) = true := beq_iff_eq.mpr c67
           have c67b1 : (a0_4 != 0) = false := bne_eq_false_iff_eq.mpr c67
           clear c67
           obtain rfl := Option.some.inj H
           have hnb68 := NB166_167.out
           have hnc68 := NB167_166.out
           have hcz69_0 : wc.cell? ⟨gb166, 0, none⟩ = some (.string a0_0) := (blk_cell BK166.out 0).trans rfl
           have hcz69_1 : wc.cell? ⟨gb166, 1, none⟩ = some (.string a0_1) := (blk_cell BK166.out 1).trans rfl
           have hcz69_2 : wc.cell? ⟨gb166, 2, none⟩ = some (.int .i64 a0_2) := (blk_cell BK166.out 2).trans rfl
           have hcz69_3 : wc.cell? ⟨gb166, 3, none⟩ = some (.int .i64 a0_3) := (blk_cell BK166.out 3).trans rfl
           have hcz69_4 : wc.cell? ⟨gb166, 4, none⟩ = some (.int .i64 a0_4) := (blk_cell BK166.out 4).trans rfl
           have hcz69_5 : wc.cell? ⟨gb166, 5, none⟩ = some (.int .i64 a0_5) := (blk_cell BK166.out 5).trans rfl
           go_wp2
           go_ret
           exact ⟨by first | rfl | (simp [errW_none, errW_some] <;> rfl) | (simp [*, errW_none, errW_some] <;> rfl), by repeat (first | (with_reducible first | exact HB.out | apply below_alloc | apply pw_below_drewN | apply below_drew1 | refine below_set ?_ GE166.out | refine below_set ?_ GE167.out) | exact HB.out)⟩
          ·rw [if_neg c67] at H
           have c67b0 : (a0_4 == 0) = false := beq_eq_false_iff_ne.mpr c67
           have c67b1 : (a0_4 != 0) = true := bne_iff_ne.mpr c67
           obtain rfl := Option.some.inj H
           have hnb70 := NB166_167.out
           have hnc70 := NB167_166.out
           have hcz71_0 : wc.cell? ⟨gb166, 0, none⟩ = some (.string a0_0) := (blk_cell BK166.out 0).trans rfl
           have hcz71_1 : wc.cell? ⟨gb166, 1, none⟩ = some (.string a0_1) := (blk_cell BK166.out 1).trans rfl
           have hcz71_2 : wc.cell? ⟨gb166, 2, none⟩ = some (.int .i64 a0_2) := (blk_cell BK166.out 2).trans rfl
           have hcz71_3 : wc.cell? ⟨gb166, 3, none⟩ = some (.int .i64 a0_3) := (blk_cell BK166.out 3).trans rfl
           have hcz71_4 : wc.cell? ⟨gb166, 4, none⟩ = some (.int .i64 a0_4) := (blk_cell BK166.out 4).trans rfl
           have hcz71_5 : wc.cell? ⟨gb166, 5, none⟩ = some (.int .i64 a0_5) := (blk_cell BK166.out 5).trans rfl
           go_wp2
           go_ret
           exact ⟨by first | rfl | (simp [errW_none, errW_some] <;> rfl) | (simp [*, errW_none, errW_some] <;> rfl), by repeat (first | (with_reducible first | exact HB.out | apply below_alloc | apply pw_below_drewN | apply below_drew1 | refine below_set ?_ GE166.out | refine below_set ?_ GE167.out) | exact HB.out)⟩
         ·rw [if_neg c66] at H
          have c66b0 : (a0_3 == 0) = false := beq_eq_false_iff_ne.mpr c66
          have c66b1 : (a0_3 != 0) = true := bne_iff_ne.mpr c66
          obtain rfl := Option.some.inj H
          have hnb72 := NB166_167.out
          have hnc72 := NB167_166.out
          have hcz73_0 : wc.cell? ⟨gb166, 0, none⟩ = some (.string a0_0) := (blk_cell BK166.out 0).trans rfl
          have hcz73_1 : wc.cell? ⟨gb166, 1, none⟩ = some (.string a0_1) := (blk_cell BK166.out 1).trans rfl
          have hcz73_2 : wc.cell? ⟨gb166, 2, none⟩ = some (.int .i64 a0_2) := (blk_cell BK166.out 2).trans rfl
          have hcz73_3 : wc.cell? ⟨gb166, 3, none⟩ = some (.int .i64 a0_3) := (blk_cell BK166.out 3).trans rfl
          have hcz73_4 : wc.cell? ⟨gb166, 4, none⟩ = some (.int .i64 a0_4) := (blk_cell BK166.out 4).trans rfl
          have hcz73_5 : wc.cell? ⟨gb166, 5, none⟩ = some (.int .i64 a0_5) := (blk_cell BK166.out 5).trans rfl
          go_wp2
          go_ret
          exact ⟨by first | rfl | (simp [errW_none, errW_some] <;> rfl) | (simp [*, errW_none, errW_some] <;> rfl), by repeat (first | (with_reducible first | exact HB.out | apply below_alloc | apply pw_below_drewN | apply below_drew1 | refine below_set ?_ GE166.out | refine below_set ?_ GE167.out) | exact HB.out)⟩
        ·replace c65 := Bool.eq_false_iff.mpr c65
         subst c65
         have H1 : (some 6) = some r := by rw [if_neg (show ¬ (false = true) by decide)] at H; exact H
         clear H
         have H := H1
         clear H1
         obtain rfl := Option.some.inj H
         have hnb74 := NB166_167.out
         have hnc74 := NB167_166.out
         have hcz75_0 : wc.cell? ⟨gb166, 0, none⟩ = some (.string a0_0) := (blk_cell BK166.out 0).trans rfl
         have hcz75_1 : wc.cell? ⟨gb166, 1, none⟩ = some (.string a0_1) := (blk_cell BK166.out 1).trans rfl
         have hcz75_2 : wc.cell? ⟨gb166, 2, none⟩ = some (.int .i64 a0_2) := (blk_cell BK166.out 2).trans rfl
         have hcz75_3 : wc.cell? ⟨gb166, 3, none⟩ = some (.int .i64 a0_3) := (blk_cell BK166.out 3).trans rfl
         have hcz75_4 : wc.cell? ⟨gb166, 4, none⟩ = some (.int .i64 a0_4) := (blk_cell BK166.out 4).trans rfl
         have hcz75_5 : wc.cell? ⟨gb166, 5, none⟩ = some (.int .i64 a0_5) := (blk_cell BK166.out 5).trans rfl
         go_wp2
         go_ret
         exact ⟨by first | rfl | (simp [errW_none, errW_some] <;> rfl) | (simp [*, errW_none, errW_some] <;> rfl), by repeat (first | (with_reducible first | exact HB.out | apply below_alloc | apply pw_below_drewN | apply below_drew1 | refine below_set ?_ GE166.out | refine below_set ?_ GE167.out) | exact HB.out)⟩
       ·rw [if_neg c64] at H
        have c64b0 : (a0_2 == 3) = false := beq_eq_false_iff_ne.mpr c64
        have c64b1 : (a0_2 != 3) = true := bne_iff_ne.mpr c64
        obtain rfl := Option.some.inj H
        have hnb76 := NB166_167.out
        have hnc76 := NB167_166.out
        have hcz77_0 : wc.cell? ⟨gb166, 0, none⟩ = some (.string a0_0) := (blk_cell BK166.out 0).trans rfl
        have hcz77_1 : wc.cell? ⟨gb166, 1, none⟩ = some (.string a0_1) := (blk_cell BK166.out 1).trans rfl
        have hcz77_2 : wc.cell? ⟨gb166, 2, none⟩ = some (.int .i64 a0_2) := (blk_cell BK166.out 2).trans rfl
        have hcz77_3 : wc.cell? ⟨gb166, 3, none⟩ = some (.int .i64 a0_3) := (blk_cell BK166.out 3).trans rfl
        have hcz77_4 : wc.cell? ⟨gb166, 4, none⟩ = some (.int .i64 a0_4) := (blk_cell BK166.out 4).trans rfl
        have hcz77_5 : wc.cell? ⟨gb166, 5, none⟩ = some (.int .i64 a0_5) := (blk_cell BK166.out 5).trans rfl
        go_wp2
        go_ret
        exact ⟨by first | rfl | (simp [errW_none, errW_some] <;> rfl) | (simp [*, errW_none, errW_some] <;> rfl), by repeat (first | (with_reducible first | exact HB.out | apply below_alloc | apply pw_below_drewN | apply below_drew1 | refine below_set ?_ GE166.out | refine below_set ?_ GE167.out) | exact HB.out)⟩
  ·rw [if_neg c5] at H
   have c5b0 : (a0_1.toList == a1_0.toList) = false := beq_eq_false_iff_ne.mpr c5
   have c5b1 : (a0_1.toList != a1_0.toList) = true := bne_iff_ne.mpr c5
   obtain rfl := Option.some.inj H
   go_enter Tryd.func18, Tryd.ntmps18
   go_wp2_with (first | ((with_reducible refine gate_dst (N := 2) rfl ?_); refine box_event ?hg (N := 2) ?hd (cs := #[.string a0_0, .string a0_1, .int .i64 a0_2, .int .i64 a0_3, .int .i64 a0_4, .int .i64 a0_5]) (t := 23) ?hr ?_; (case hd => rfl); (case hg => rfl); (case hr => first | (go_simp; done) | (go_simp; rfl)); intro gb166 hg w78 hbox hb; have n0_ := Aside0.mk (below_step (by repeat (first | (with_reducible first | exact HB.out | apply below_alloc | apply pw_below_drewN | apply below_drew1) | exact HB.out)) hb); have n1_ := Aside0.mk (hbox); have n2_ := Aside0.mk ((by rw [hg]; exact (below_size (by repeat (first | (with_reducible first | exact HB.out | apply below_alloc | apply pw_below_drewN | apply below_drew1) | exact HB.out))) : w.heap.size ≤ gb166)); have n3_ := Aside0.mk ((by rw [hg]; exact (below_size (by repeat (first | (with_reducible first | exact HB.out | apply below_alloc | apply pw_below_drewN | apply below_drew1) | exact HB.out))) : w.heap.size ≤ gb166)); clear HB; have HB := n0_; have BK166 := n1_; have GW166 := n2_; have GE166 := n3_; clear n0_ n1_ n2_ n3_; clear hb hbox hg) | ((with_reducible refine gate_dst (N := 3) rfl ?_); refine box_event ?hg (N := 3) ?hd (cs := #[.string a1_0, .int .i64 a1_1, .int .i64 a1_2, .string a1_3, .int .i64 a1_4, .int .i64 a1_5, .int .i64 a1_6, .slice A1_7 l1_7.length c1_7, .int .i64 a1_8, .int .i64 a1_9, .int .i64 a1_10, .int .i64 a1_11]) (t := 51) ?hr ?_; (case hd => rfl); (case hg => rfl); (case hr => first | (go_simp; done) | (go_simp; rfl)); intro gb167 hg w79 hbox hb; have n0_ := Aside0.mk (blk_below (g := gb166) (o := .cells #[.string a0_0, .string a0_1, .int .i64 a0_2, .int .i64 a0_3, .int .i64 a0_4, .int .i64 a0_5] 23 (0, 0)) (by (with_reducible repeat (first | refine blk_drewN ?_ _ | refine blk_drew ?_ | refine blk_alloc ?_ _)); exact BK166.out) hb); have n1_ := Aside0.mk (below_step (by repeat (first | (with_reducible first | exact HB.out | apply below_alloc | apply pw_below_drewN | apply below_drew1 | refine below_set ?_ GE166.out) | exact HB.out)) hb); have n2_ := Aside0.mk (hbox); have n3_ := Aside0.mk ((by rw [hg]; exact (below_size (by repeat (first | (with_reducible first | exact HB.out | apply below_alloc | apply pw_below_drewN | apply below_drew1 | refine below_set ?_ GE166.out) | exact HB.out))) : w.heap.size ≤ gb167)); have n4_ := Aside0.mk ((by rw [hg]; exact (below_size (by repeat (first | (with_reducible first | exact HB.out | apply below_alloc | apply pw_below_drewN | apply below_drew1 | refine below_set ?_ GE166.out) | exact HB.out))) : w.heap.size ≤ gb167)); have n5_ := Aside0.mk ((by rw [hg]; exact Nat.ne_of_lt (blk_lt (g := gb166) (o := .cells #[.string a0_0, .string a0_1, .int .i64 a0_2, .int .i64 a0_3, .int .i64 a0_4, .int .i64 a0_5] 23 (0, 0)) (by (with_reducible repeat (first | refine blk_drewN ?_ _ | refine blk_drew ?_ | refine blk_alloc ?_ _)); exact BK166.out)) : gb166 ≠ gb167)); have n6_ := Aside0.mk ((by rw [hg]; exact Nat.ne_of_gt (blk_lt (g := gb166) (o := .cells #[.string a0_0, .string a0_1, .int .i64 a0_2, .int .i64 a0_3, .int .i64 a0_4, .int .i64 a0_5] 23 (0, 0)) (by (with_reducible repeat (first | refine blk_drewN ?_ _ | refine blk_drew ?_ | refine blk_alloc ?_ _)); exact BK166.out)) : gb167 ≠ gb166)); clear BK166; clear HB; have BK166 := n0_; have HB := n1_; have BK167 := n2_; have GW167 := n3_; have GE167 := n4_; have NB166_167 := n5_; have NB167_166 := n6_; clear n0_ n1_ n2_ n3_ n4_ n5_ n6_; clear hb hbox hg; have hnb80 := NB166_167.out; have hnc80 := NB167_166.out; have hcz81_0 : w79.cell? ⟨gb166, 0, none⟩ = some (.string a0_0) := (blk_cell BK166.out 0).trans rfl; have hcz81_1 : w79.cell? ⟨gb166, 1, none⟩ = some (.string a0_1) := (blk_cell BK166.out 1).trans rfl; have hcz81_2 : w79.cell? ⟨gb166, 2, none⟩ = some (.int .i64 a0_2) := (blk_cell BK166.out 2).trans rfl; have hcz81_3 : w79.cell? ⟨gb166, 3, none⟩ = some (.int .i64 a0_3) := (blk_cell BK166.out 3).trans rfl; have hcz81_4 : w79.cell? ⟨gb166, 4, none⟩ = some (.int .i64 a0_4) := (blk_cell BK166.out 4).trans rfl; have hcz81_5 : w79.cell? ⟨gb166, 5, none⟩ = some (.int .i64 a0_5) := (blk_cell BK166.out 5).trans rfl) | ((with_reducible refine gate_callee (f := 30) rfl ?_); refine goesL_ (some 8) rfl rfl Tryd.func30 (by kernel_rfl) rfl #[.string a0_0] rfl (by (try simp only [List.map_toArray, List.map_cons, List.map_nil]); first | done | rfl | (simp only [List.length_drop, List.length_take]; rfl)) ?_; (with_reducible refine (plenumref07_Name.calls k a0_0 true _ ?side99  A3.out).mono ?_); (case side99 => first | exact HG.out | exact Glob.below HG.out (by repeat (first | (with_reducible first | exact HB.out | apply below_alloc | apply pw_below_drewN | apply below_drew1 | refine below_set ?_ GE166.out | refine below_set ?_ GE167.out) | exact HB.out))); rintro e w' ⟨rfl, ⟨nd, rfl⟩⟩; refine ⟨_, rfl, ?_⟩; have hcz82_0 : w79.cell? ⟨gb167, 0, none⟩ = some (.string a1_0) := (blk_cell BK167.out 0).trans rfl; have hcz82_1 : w79.cell? ⟨gb167, 1, none⟩ = some (.int .i64 a1_1) := (blk_cell BK167.out 1).trans rfl; have hcz82_2 : w79.cell? ⟨gb167, 2, none⟩ = some (.int .i64 a1_2) := (blk_cell BK167.out 2).trans rfl; have hcz82_3 : w79.cell? ⟨gb167, 3, none⟩ = some (.string a1_3) := (blk_cell BK167.out 3).trans rfl; have hcz82_4 : w79.cell? ⟨gb167, 4, none⟩ = some (.int .i64 a1_4) := (blk_cell BK167.out 4).trans rfl; have hcz82_5 : w79.cell? ⟨gb167, 5, none⟩ = some (.int .i64 a1_5) := (blk_cell BK167.out 5).trans rfl; have hcz82_6 : w79.cell? ⟨gb167, 6, none⟩ = some (.int .i64 a1_6) := (blk_cell BK167.out 6).trans rfl; have hcz82_7 : w79.cell? ⟨gb167, 7, none⟩ = some (.slice A1_7 l1_7.length c1_7) := (blk_cell BK167.out 7).trans rfl; have hcz82_8 : w79.cell? ⟨gb167, 8, none⟩ = some (.int .i64 a1_8) := (blk_cell BK167.out 8).trans rfl; have hcz82_9 : w79.cell? ⟨gb167, 9, none⟩ = some (.int .i64 a1_9) := (blk_cell BK167.out 9).trans rfl; have hcz82_10 : w79.cell? ⟨gb167, 10, none⟩ = some (.int .i64 a1_10) := (blk_cell BK167.out 10).trans rfl; have hcz82_11 : w79.cell? ⟨gb167, 11, none⟩ = some (.int .i64 a1_11) := (blk_cell BK167.out 11).trans rfl))
   go_ret
   exact ⟨by first | rfl | (simp [errW_none, errW_some] <;> rfl) | (simp [*, errW_none, errW_some] <;> rfl), by repeat (first | (with_reducible first | exact HB.out | apply below_alloc | apply pw_below_drewN | apply below_drew1 | refine below_set ?_ GE166.out | refine below_set ?_ GE167.out) | exact HB.out)⟩
 ·replace c4 := Bool.eq_false_iff.mpr c4
  subst c4
  have H1 : (some 4) = some r := by rw [if_neg (show ¬ (false = true) by decide)] at H; exact H
  clear H
  have H := H1
  clear H1
  obtain rfl := Option.some.inj H
  go_enter Tryd.func18, Tryd.ntmps18
  go_wp2_with (first | ((with_reducible refine gate_dst (N := 2) rfl ?_); refine box_event ?hg (N := 2) ?hd (cs := #[.string a0_0, .string a0_1, .int .i64 a0_2, .int .i64 a0_3, .int .i64 a0_4, .int .i64 a0_5]) (t := 23) ?hr ?_; (case hd => rfl); (case hg => rfl); (case hr => first | (go_simp; done) | (go_simp; rfl)); intro gb166 hg w83 hbox hb; have n0_ := Aside0.mk (below_step (by repeat (first | (with_reducible first | exact HB.out | apply below_alloc | apply pw_below_drewN | apply below_drew1) | exact HB.out)) hb); have n1_ := Aside0.mk (hbox); have n2_ := Aside0.mk ((by rw [hg]; exact (below_size (by repeat (first | (with_reducible first | exact HB.out | apply below_alloc | apply pw_below_drewN | apply below_drew1) | exact HB.out))) : w.heap.size ≤ gb166)); have n3_ := Aside0.mk ((by rw [hg]; exact (below_size (by repeat (first | (with_reducible first | exact HB.out | apply below_alloc | apply pw_below_drewN | apply below_drew1) | exact HB.out))) : w.heap.size ≤ gb166)); clear HB; have HB := n0_; have BK166 := n1_; have GW166 := n2_; have GE166 := n3_; clear n0_ n1_ n2_ n3_; clear hb hbox hg) | ((with_reducible refine gate_dst (N := 3) rfl ?_); refine box_event ?hg (N := 3) ?hd (cs := #[.string a1_0, .int .i64 a1_1, .int .i64 a1_2, .string a1_3, .int .i64 a1_4, .int .i64 a1_5, .int .i64 a1_6, .slice A1_7 l1_7.length c1_7, .int .i64 a1_8, .int .i64 a1_9, .int .i64 a1_10, .int .i64 a1_11]) (t := 51) ?hr ?_; (case hd => rfl); (case hg => rfl); (case hr => first | (go_simp; done) | (go_simp; rfl)); intro gb167 hg w84 hbox hb; have n0_ := Aside0.mk (blk_below (g := gb166) (o := .cells #[.string a0_0, .string a0_1, .int .i64 a0_2, .int .i64 a0_3, .int .i64 a0_4, .int .i64 a0_5] 23 (0, 0)) (by (with_reducible repeat (first | refine blk_drewN ?_ _ | refine blk_drew ?_ | refine blk_alloc ?_ _)); exact BK166.out) hb); have n1_ := Aside0.mk (below_step (by repeat (first | (with_reducible first | exact HB.out | apply below_alloc | apply pw_below_drewN | apply below_drew1 | refine below_set ?_ GE166.out) | exact HB.out)) hb); have n2_ := Aside0.mk (hbox); have n3_ := Aside0.mk ((by rw [hg]; exact (below_size (by repeat (first | (with_reducible first | exact HB.out | apply below_alloc | apply pw_below_drewN | apply below_drew1 | refine below_set ?_ GE166.out) | exact HB.out))) : w.heap.size ≤ gb167)); have n4_ := Aside0.mk ((by rw [hg]; exact (below_size (by repeat (first | (with_reducible first | exact HB.out | apply below_alloc | apply pw_below_drewN | apply below_drew1 | refine below_set ?_ GE166.out) | exact HB.out))) : w.heap.size ≤ gb167)); have n5_ := Aside0.mk ((by rw [hg]; exact Nat.ne_of_lt (blk_lt (g := gb166) (o := .cells #[.string a0_0, .string a0_1, .int .i64 a0_2, .int .i64 a0_3, .int .i64 a0_4, .int .i64 a0_5] 23 (0, 0)) (by (with_reducible repeat (first | refine blk_drewN ?_ _ | refine blk_drew ?_ | refine blk_alloc ?_ _)); exact BK166.out)) : gb166 ≠ gb167)); have n6_ := Aside0.mk ((by rw [hg]; exact Nat.ne_of_gt (blk_lt (g := gb166) (o := .cells #[.string a0_0, .string a0_1, .int .i64 a0_2, .int .i64 a0_3, .int .i64 a0_4, .int .i64 a0_5] 23 (0, 0)) (by (with_reducible repeat (first | refine blk_drewN ?_ _ | refine blk_drew ?_ | refine blk_alloc ?_ _)); exact BK166.out)) : gb167 ≠ gb166)); clear BK166; clear HB; have BK166 := n0_; have HB := n1_; have BK167 := n2_; have GW167 := n3_; have GE167 := n4_; have NB166_167 := n5_; have NB167_166 := n6_; clear n0_ n1_ n2_ n3_ n4_ n5_ n6_; clear hb hbox hg; have hnb85 := NB166_167.out; have hnc85 := NB167_166.out; have hcz86_0 : w84.cell? ⟨gb166, 0, none⟩ = some (.string a0_0) := (blk_cell BK166.out 0).trans rfl; have hcz86_1 : w84.cell? ⟨gb166, 1, none⟩ = some (.string a0_1) := (blk_cell BK166.out 1).trans rfl; have hcz86_2 : w84.cell? ⟨gb166, 2, none⟩ = some (.int .i64 a0_2) := (blk_cell BK166.out 2).trans rfl; have hcz86_3 : w84.cell? ⟨gb166, 3, none⟩ = some (.int .i64 a0_3) := (blk_cell BK166.out 3).trans rfl; have hcz86_4 : w84.cell? ⟨gb166, 4, none⟩ = some (.int .i64 a0_4) := (blk_cell BK166.out 4).trans rfl; have hcz86_5 : w84.cell? ⟨gb166, 5, none⟩ = some (.int .i64 a0_5) := (blk_cell BK166.out 5).trans rfl) | ((with_reducible refine gate_callee (f := 30) rfl ?_); refine goesL_ (some 8) rfl rfl Tryd.func30 (by kernel_rfl) rfl #[.string a0_0] rfl (by (try simp only [List.map_toArray, List.map_cons, List.map_nil]); first | done | rfl | (simp only [List.length_drop, List.length_take]; rfl)) ?_; (with_reducible refine (plenumref07_Name.calls k a0_0 false _ ?side99  A3.out).mono ?_); (case side99 => first | exact HG.out | exact Glob.below HG.out (by repeat (first | (with_reducible first | exact HB.out | apply below_alloc | apply pw_below_drewN | apply below_drew1 | refine below_set ?_ GE166.out | refine below_set ?_ GE167.out) | exact HB.out))); rintro e w' ⟨rfl, ⟨nd, rfl⟩⟩; refine ⟨_, rfl, ?_⟩))
  go_ret
  exact ⟨by first | rfl | (simp [errW_none, errW_some] <;> rfl) | (simp [*, errW_none, errW_some] <;> rfl), by repeat (first | (with_reducible first | exact HB.out | apply below_alloc | apply pw_below_drewN | apply below_drew1 | refine below_set ?_ GE166.out | refine below_set ?_ GE167.out) | exact HB.out)⟩
end Go.Proofs.YtbccjcdmpiolpaaDoor.T
end
