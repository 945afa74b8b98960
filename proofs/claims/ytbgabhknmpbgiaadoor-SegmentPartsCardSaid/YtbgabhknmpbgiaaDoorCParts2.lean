/- SegmentPartsCard: one part of the proof that the law answers true for every input, and that its arguments read afterwards as before. No condition. -/
import Derived.Test.YtbgabhknmpbgiaaDoorCParts1
section
namespace Go.Proofs.YtbgabhknmpbgiaaDoor.Pure
open Go.RowKit Go.Proofs.YtbgabhknmpbgiaaDoor.S Go.Proofs.YtbgabhknmpbgiaaDoorW.PrintWords Go.Proofs.YtbgabhknmpbgiaaDoorW.PrintLast Go.Proofs.YtbgabhknmpbgiaaDoorW.PrintMore
set_option linter.unusedVariables false
def beH (V : Int) : Nat → List Int
 | 0 => []
 | n + 1 => (V / 256 ^ n % 256) :: beH V n
theorem beH_length (V : Int) (n : Nat) : (beH V n).length = n := by
 induction n with
 | zero => rfl
 | succ n ih => simp [beH, ih]
theorem beH_snoc (V : Int) (n : Nat) : beH V (n + 1) = beH (V / 256) n ++ [V % 256] := by
 induction n with
 | zero => simp [beH]
 | succ n ih =>
  rw [beH, ih, beH, List.cons_append]
  congr 2
  rw [Int.pow_succ, Int.mul_comm, Int.ediv_ediv_of_nonneg (by decide)]
theorem beL_eq (n : Nat) : ∀ V : Int, beL V n = beH V n := by
 induction n with
 | zero => intro V; rfl
 | succ n ih => intro V; rw [beL, ih, beH_snoc]
theorem number_loop (x : Int) : ∀ (d k : Nat) (acc : List Int), acc.length + d ≤ 100 → d ≤ 8 → codec_number.l0 (k + d + 1) x acc ((d : Int) - 1) = some (acc ++ beH x d) := by
 intro d
 induction d with
 | zero =>
  intro k acc h1 h2
  rw [show k + 0 + 1 = k + 1 by omega, codec_number.l0, if_neg (by omega)]
  simp [beH]
 | succ d ih =>
  intro k acc h1 h2
  have e : shr .u64 x (wrap64 (8 * (d : Int))) = x / 256 ^ d := by
   unfold shr
   rw [w64 (by omega) (by omega), show (8 * (d : Int)).toNat = 8 * d by omega, Nat.min_eq_left (by show 8 * d ≤ 64; omega), Int.pow_mul]
   rfl
  rw [show k + (d + 1) + 1 = (k + d + 1) + 1 by omega, show ((d + 1 : Nat) : Int) - 1 = (d : Int) by omega, codec_number.l0, if_pos (by omega), if_pos (by rw [w64 (by omega) (by omega)]; omega), if_pos (by omega), e, w64 (by omega) (by omega), ih k _ (by simp; omega) (by omega)]
  simp [beH]
theorem number_eq (k : Nat) (tag x : Int) (n : Nat) (h1 : 1 ≤ n) (hn : n ≤ 8) (ht : 0 ≤ tag ∧ tag ≤ 64) : codec_number.f (k + 10) tag x (n : Int) = some ((tag + (n : Int)) :: beH x n) := by
 unfold codec_number.f
 have := number_loop x n (k + 10 - n - 1) [tag + (n : Int)] (by simp; omega) hn
 rw [show k + 10 - n - 1 + n + 1 = k + 10 by omega] at this
 rw [w64 (by omega) (by omega), show (tag + (n : Int) % 256) % 256 = tag + (n : Int) by omega, this]
 rfl
def uB (n : Int) : List Int := (16 + nb n) :: beL n (nb n).toNat
def sB (n : Int) : List Int := (32 + ss n) :: beL n (ss n).toNat
theorem beH_wrap (V : Int) (n : Nat) (hn : n ≤ 8) : beH (IntKind.u64.wrap V) n = beH V n := by
 have key : ∀ i : Nat, i ≤ 7 → IntKind.u64.wrap V / 256 ^ i % 256 = V / 256 ^ i % 256 := fun i hi => by
  rw [u64w]
  obtain rfl | rfl | rfl | rfl | rfl | rfl | rfl | rfl : i = 0 ∨ i = 1 ∨ i = 2 ∨ i = 3 ∨ i = 4 ∨ i = 5 ∨ i = 6 ∨ i = 7 := by omega
  all_goals simp only [Int.reducePow]
  all_goals omega
 induction n with
 | zero => rfl
 | succ n ih => rw [beH, beH, ih (by omega), key n (by omega)]
theorem numUn (k : Nat) (n : Int) (h0 : 0 ≤ n) (h1 : n < 18446744073709551616) : codec_number.f (k + 10) 16 n (nb n) = some (uB n) := by
 have hr := nb_range n
 obtain ⟨m, hm⟩ : ∃ m : Nat, nb n = (m : Int) := ⟨(nb n).toNat, by omega⟩
 unfold uB
 rw [hm, number_eq k 16 n m (by omega) (by omega) (by omega), show ((m : Int)).toNat = m from rfl, beL_eq]
theorem numSg (k : Nat) (n : Int) (h0 : -9223372036854775808 ≤ n) (h1 : n ≤ 9223372036854775807) : codec_number.f (k + 10) 32 (IntKind.u64.wrap n) (ss n) = some (sB n) := by
 have hr := ss_range n h0 h1
 obtain ⟨m, hm⟩ : ∃ m : Nat, ss n = (m : Int) := ⟨(ss n).toNat, by omega⟩
 unfold sB
 rw [hm, number_eq k 32 _ m (by omega) (by omega) (by omega), show ((m : Int)).toNat = m from rfl, beL_eq, beH_wrap n m (by omega)]
theorem uB_len (n : Int) : (uB n).length ≤ 9 := by
 have := nb_range n
 simp [uB, beL_length]
 omega
theorem sB_len (n : Int) (h0 : -9223372036854775808 ≤ n) (h1 : n ≤ 9223372036854775807) : (sB n).length ≤ 9 := by
 have := ss_range n h0 h1
 simp [sB, beL_length]
 omega
theorem strOfNums_app (a b : List Int) : strOfNums (a ++ b) = strOfNums a ++ strOfNums b := by
 apply ByteArray.ext
 rw [ByteArray.data_append]
 simp [strOfNums]
theorem strOfNums_bytes (s : ByteArray) : strOfNums (bytesOf s) = s := by
 apply ByteArray.ext
 apply Array.toList_inj.mp
 show ((bytesOf s).map fun n => UInt8.ofNat n.toNat) = s.data.toList
 unfold bytesOf
 rw [List.map_map]
 conv => rhs; rw [← List.map_id s.data.toList]
 refine List.map_congr_left (fun b _ => ?_)
 show UInt8.ofNat ((b.toNat : Int)).toNat = b
 simp
theorem refText (k : Nat) (s : ByteArray) (hs : s.size ≤ 65535) : plenumref02_Text.f (k + 8) s = some (strOfNums ([48] ++ uB (s.size : Int) ++ bytesOf s)) := by
 unfold plenumref02_Text.f
 rw [u64w, Int.emod_eq_of_lt (by omega) (by omega), refU_eq k _ (by omega) (by omega), Option.bind_some]
 have hl := uB_len (s.size : Int)
 have hz : (strOfNums (uB (s.size : Int))).size ≤ 9 := by rw [strOfNums_size]; exact hl
 have e : ((16 + nb (s.size : Int)) :: beL (s.size : Int) (nb (s.size : Int)).toNat) = uB (s.size : Int) := rfl
 rw [e, if_pos (by omega), if_pos (by omega), strOfNums_app, strOfNums_app, strOfNums_bytes]
 rfl
theorem refHead (k : Nat) (n : Int) (hn : 0 ≤ n ∧ n ≤ 65535) : plenumref02_Head.f (k + 8) n = some (strOfNums ([64] ++ uB n)) := by
 unfold plenumref02_Head.f
 rw [u64w, Int.emod_eq_of_lt (by omega) (by omega), refU_eq k _ (by omega) (by omega), Option.bind_some]
 have hl := uB_len n
 have hz : (strOfNums (uB n)).size ≤ 9 := by rw [strOfNums_size]; exact hl
 have e : ((16 + nb n) :: beL n (nb n).toNat) = uB n := rfl
 rw [e, if_pos (by omega), strOfNums_app]
 rfl
end Go.Proofs.YtbgabhknmpbgiaaDoor.Pure
end
section
namespace Go.Proofs.YtbgabhknmpbgiaaDoor.S
open Go.RowKit Go.Proofs.YtbgabhknmpbgiaaDoorW.PrintWords Go.Proofs.YtbgabhknmpbgiaaDoorW.PrintLast Go.Proofs.YtbgabhknmpbgiaaDoorW.PrintMore
attribute [local go_sem] max2_int min2_int max_two min_two max_three min_three max_four min_four
set_option linter.unusedVariables false
set_option linter.unusedSimpArgs false
def segment_in.f (a0 : Int) (a1 : Int) (a2 : Int) : Option (Bool) := if a0 ≥ a1 then (some (decide (a0 ≤ a2))) else (some false)
set_option maxHeartbeats 8000000 in
set_option maxRecDepth 100000 in
theorem segment_in.calls (a0 : Int) (a1 : Int) (a2 : Int) (r : Bool) (w : World) (hG : Glob w) (h : segment_in.f a0 a1 a2 = some r) :
  Calls Tryd.prog 58 #[.int .i64 a0, .int .i64 a1, .int .i64 a2] w fun e w' => e = .returned (.bool r) ∧ Drawn0 w w' := by
 have HG := Aside0.mk hG
 clear hG
 have H : (if a0 ≥ a1 then (some (decide (a0 ≤ a2))) else (some false)) = some r := h
 clear h
 by_cases c4 : a0 ≥ a1
 ·rw [if_pos c4] at H
  have c4b0 : decide (a1 ≤ a0) = true := decide_eq_true c4
  clear c4
  obtain rfl := Option.some.inj H
  go_enter Tryd.func58, Tryd.ntmps58
  go_wp2
  go_ret
  exact ⟨by first | rfl | (simp; done) | (simp [*]; done), by repeat (first | exact Drawn0.refl _ | apply Drawn0.step)⟩
 ·rw [if_neg c4] at H
  have c4b0 : decide (a1 ≤ a0) = false := decide_eq_false c4
  clear c4
  obtain rfl := Option.some.inj H
  go_enter Tryd.func58, Tryd.ntmps58
  go_wp2
  go_ret
  exact ⟨by first | rfl | (simp; done) | (simp [*]; done), by repeat (first | exact Drawn0.refl _ | apply Drawn0.step)⟩
end Go.Proofs.YtbgabhknmpbgiaaDoor.S
end
section
namespace Go.Proofs.YtbgabhknmpbgiaaDoor.S
open Go.RowKit Go.Proofs.YtbgabhknmpbgiaaDoorW.PrintWords Go.Proofs.YtbgabhknmpbgiaaDoorW.PrintLast Go.Proofs.YtbgabhknmpbgiaaDoorW.PrintMore
attribute [local go_sem] max2_int min2_int max_two min_two max_three min_three max_four min_four
set_option linter.unusedVariables false
set_option linter.unusedSimpArgs false
mutual
def segment_Check.j0 : Nat → Bool → Int → Int → Int → Bool → Int → ByteArray → Option (Int)
 | 0, _, _, _, _, _, _, _ => none
 | k + 1, x3, x102000, x102001, x102002, x102003, x102004, x102005 => if x3 = true then ((segment_in.f x102001 0 255).bind fun t105 => (segment_Check.j1 k (!t105) x102000 x102001 x102002 x102003 x102004 x102005)) else (segment_Check.j1 k true x102000 x102001 x102002 x102003 x102004 x102005)
def segment_Check.j1 : Nat → Bool → Int → Int → Int → Bool → Int → ByteArray → Option (Int)
 | 0, _, _, _, _, _, _, _ => none
 | k + 1, x36, x102000, x102001, x102002, x102003, x102004, x102005 => if x36 = true then (some 6) else (if x102000 = 1 then (segment_Check.j2 k (decide ((x102005.size : Int) > 400)) x102000 x102001 x102002 x102003 x102004 x102005) else (segment_Check.j2 k false x102000 x102001 x102002 x102003 x102004 x102005))
def segment_Check.j2 : Nat → Bool → Int → Int → Int → Bool → Int → ByteArray → Option (Int)
 | 0, _, _, _, _, _, _, _ => none
 | k + 1, x45, x102000, x102001, x102002, x102003, x102004, x102005 => if x45 = true then (some 7) else (if x102000 = 1 then (some 0) else (if x102003 = true then (some 10) else (if x102005.toList = ([] : List UInt8) then (some 0) else (some 10))))
end
def segment_Check.f (k : Nat) (a0_0 : Int) (a0_1 : Int) (a0_2 : Int) (a0_3 : Bool) (a0_4 : Int) (a0_5 : ByteArray) : Option (Int) := if a0_0 = 1 then ((segment_in.f a0_2 0 63).bind fun t102 => (if t102 = true then ((segment_in.f a0_4 1 16).bind fun t103 => (segment_Check.j0 k t103 a0_0 a0_1 a0_2 a0_3 a0_4 a0_5)) else (segment_Check.j0 k false a0_0 a0_1 a0_2 a0_3 a0_4 a0_5))) else (if a0_0 = 2 then ((segment_in.f a0_2 (-1) 63).bind fun t104 => (if t104 = true then (segment_Check.j0 k (a0_4 == 0) a0_0 a0_1 a0_2 a0_3 a0_4 a0_5) else (segment_Check.j0 k false a0_0 a0_1 a0_2 a0_3 a0_4 a0_5))) else (if a0_0 = 3 then (if a0_2 = 0 then (segment_Check.j0 k (a0_4 == 0) a0_0 a0_1 a0_2 a0_3 a0_4 a0_5) else (segment_Check.j0 k false a0_0 a0_1 a0_2 a0_3 a0_4 a0_5)) else (some 3)))
set_option maxHeartbeats 8000000 in
set_option maxRecDepth 100000 in
theorem segment_Check.calls (k : Nat) (a0_0 : Int) (a0_1 : Int) (a0_2 : Int) (a0_3 : Bool) (a0_4 : Int) (a0_5 : ByteArray) (r : Int) (w : World) (hG : Glob w) (h : segment_Check.f k a0_0 a0_1 a0_2 a0_3 a0_4 a0_5 = some r) :
  Calls Tryd.prog 16 #[.agg #[.int .i64 a0_0, .int .i64 a0_1, .int .i64 a0_2, .bool a0_3, .int .i64 a0_4, .string a0_5]] w fun e w' => e = .returned (.int .i64 r) ∧ Below w.heap.size w w' := by
 have hu23 := Tryd.underlying23
 have HG := Aside0.mk hG
 clear hG
 have HB := Aside0.mk (Below.refl w.heap.size w)
 have H : (if a0_0 = 1 then ((segment_in.f a0_2 0 63).bind fun t102 => (if t102 = true then ((segment_in.f a0_4 1 16).bind fun t103 => (segment_Check.j0 k t103 a0_0 a0_1 a0_2 a0_3 a0_4 a0_5)) else (segment_Check.j0 k false a0_0 a0_1 a0_2 a0_3 a0_4 a0_5))) else (if a0_0 = 2 then ((segment_in.f a0_2 (-1) 63).bind fun t104 => (if t104 = true then (segment_Check.j0 k (a0_4 == 0) a0_0 a0_1 a0_2 a0_3 a0_4 a0_5) else (segment_Check.j0 k false a0_0 a0_1 a0_2 a0_3 a0_4 a0_5))) else (if a0_0 = 3 then (if a0_2 = 0 then (segment_Check.j0 k (a0_4 == 0) a0_0 a0_1 a0_2 a0_3 a0_4 a0_5) else (segment_Check.j0 k false a0_0 a0_1 a0_2 a0_3 a0_4 a0_5)) else (some 3)))) = some r := h
 clear h
 have HC2 := Aside0.mk H
 clear H
 go_enter Tryd.func16, Tryd.ntmps16
 go_upto_block 0 with (first | ((with_reducible refine gate_dst (N := 1) rfl ?_); (try (refine gate_guard (by rfl) ?_; dsimp only)); refine box_event ?hg (N := 1) ?hd (cs := #[.int .i64 a0_0, .int .i64 a0_1, .int .i64 a0_2, .bool a0_3, .int .i64 a0_4, .string a0_5]) (t := 23) ?hr ?_; (case hd => rfl); (case hg => rfl); (case hr => first | (go_simp; done) | (go_simp; rfl)); intro gb101 hg w3 hbox hb; have n0_ := Aside0.mk (below_step (by repeat (first | (with_reducible first | exact HB.out | apply below_alloc | apply pw_below_drewN | apply below_drew1) | exact HB.out)) hb); have n1_ := Aside0.mk (hbox); have n2_ := Aside0.mk ((by rw [hg]; exact (below_size (by repeat (first | (with_reducible first | exact HB.out | apply below_alloc | apply pw_below_drewN | apply below_drew1) | exact HB.out))) : w.heap.size ≤ gb101)); have n3_ := Aside0.mk ((by rw [hg]; exact (below_size (by repeat (first | (with_reducible first | exact HB.out | apply below_alloc | apply pw_below_drewN | apply below_drew1) | exact HB.out))) : w.heap.size ≤ gb101)); clear HB; have HB := n0_; have BK101 := n1_; have GW101 := n2_; have GE101 := n3_; clear n0_ n1_ n2_ n3_; clear hb hbox hg; have hcz4_0 : w3.cell? ⟨gb101, 0, none⟩ = some (.int .i64 a0_0) := (blk_cell BK101.out 0).trans rfl; have hcz4_1 : w3.cell? ⟨gb101, 1, none⟩ = some (.int .i64 a0_1) := (blk_cell BK101.out 1).trans rfl; have hcz4_2 : w3.cell? ⟨gb101, 2, none⟩ = some (.int .i64 a0_2) := (blk_cell BK101.out 2).trans rfl; have hcz4_3 : w3.cell? ⟨gb101, 3, none⟩ = some (.bool a0_3) := (blk_cell BK101.out 3).trans rfl; have hcz4_4 : w3.cell? ⟨gb101, 4, none⟩ = some (.int .i64 a0_4) := (blk_cell BK101.out 4).trans rfl; have hcz4_5 : w3.cell? ⟨gb101, 5, none⟩ = some (.string a0_5) := (blk_cell BK101.out 5).trans rfl; have hfz4_0 := blk_frozen BK101.out 0; have hfz4_1 := blk_frozen BK101.out 1; have hfz4_2 := blk_frozen BK101.out 2; have hfz4_3 := blk_frozen BK101.out 3; have hfz4_4 := blk_frozen BK101.out 4; have hfz4_5 := blk_frozen BK101.out 5))
 (try simp only [Act.put, List.setIfInBounds_toArray, List.set_cons_zero, List.set_cons_succ])
 go_cut [3] (fun v3 wc => ∃ (kq : Nat) (x3_1 : Bool), v3 = .bool x3_1 ∧ Aside0 (segment_Check.j0 kq x3_1 a0_0 a0_1 a0_2 a0_3 a0_4 a0_5 = some r) ∧ Aside0 (kq ≤ k) ∧ Aside0 (wc.heap[gb101]? = some (.cells #[.int .i64 a0_0, .int .i64 a0_1, .int .i64 a0_2, .bool a0_3, .int .i64 a0_4, .string a0_5] 23 (0, 0))) ∧ Aside0 (Below w.heap.size w wc))
 case first =>
  have H := HC2.out
  clear HC2
  by_cases c5 : a0_0 = 1
  ·rw [if_pos c5] at H
   have c5b0 : (a0_0 == 1) = true := beq_iff_eq.mpr c5
   have c5b1 : (a0_0 != 1) = false := bne_eq_false_iff_eq.mpr c5
   clear c5
   (first | rw [c5b0] | (simp only [i64_w, i32_w]; rw [c5b0]) | skip)
   replace H := Option.bind_eq_some_iff.mp H
   obtain ⟨t102, A60, H⟩ := H
   replace H : (if t102 = true then ((segment_in.f a0_4 1 16).bind fun t103 => (segment_Check.j0 k t103 a0_0 a0_1 a0_2 a0_3 a0_4 a0_5)) else (segment_Check.j0 k false a0_0 a0_1 a0_2 a0_3 a0_4 a0_5)) = some r := H
   have A6 := Aside0.mk A60
   clear A60
   by_cases c7 : t102 = true
   ·subst c7
    have H1 : ((segment_in.f a0_4 1 16).bind fun t103 => (segment_Check.j0 k t103 a0_0 a0_1 a0_2 a0_3 a0_4 a0_5)) = some r := by rw [if_pos rfl] at H; exact H
    clear H
    have H := H1
    clear H1
    replace H := Option.bind_eq_some_iff.mp H
    obtain ⟨t103, A80, H⟩ := H
    replace H : (segment_Check.j0 k t103 a0_0 a0_1 a0_2 a0_3 a0_4 a0_5) = some r := H
    have A8 := Aside0.mk A80
    clear A80
    have H' := Aside0.mk H
    clear H
    have hcz9_0 : w3.cell? ⟨gb101, 0, none⟩ = some (.int .i64 a0_0) := (blk_cell BK101.out 0).trans rfl
    have hcz9_1 : w3.cell? ⟨gb101, 1, none⟩ = some (.int .i64 a0_1) := (blk_cell BK101.out 1).trans rfl
    have hcz9_2 : w3.cell? ⟨gb101, 2, none⟩ = some (.int .i64 a0_2) := (blk_cell BK101.out 2).trans rfl
    have hcz9_3 : w3.cell? ⟨gb101, 3, none⟩ = some (.bool a0_3) := (blk_cell BK101.out 3).trans rfl
    have hcz9_4 : w3.cell? ⟨gb101, 4, none⟩ = some (.int .i64 a0_4) := (blk_cell BK101.out 4).trans rfl
    have hcz9_5 : w3.cell? ⟨gb101, 5, none⟩ = some (.string a0_5) := (blk_cell BK101.out 5).trans rfl
    have hfz9_0 := blk_frozen BK101.out 0
    have hfz9_1 := blk_frozen BK101.out 1
    have hfz9_2 := blk_frozen BK101.out 2
    have hfz9_3 := blk_frozen BK101.out 3
    have hfz9_4 := blk_frozen BK101.out 4
    have hfz9_5 := blk_frozen BK101.out 5
    go_wp2_with (first | ((with_reducible refine gate_callee (f := 58) rfl ?_); refine goesL_ (some 10) rfl rfl Tryd.func58 (by kernel_rfl) rfl #[.int .i64 a0_2, .int .i64 0, .int .i64 63] rfl (by (try simp only [List.map_toArray, List.map_cons, List.map_nil]); first | done | rfl | (simp only [List.length_drop, List.length_take]; rfl)) ?_; (with_reducible refine (segment_in.calls a0_2 0 63 true _ ?side99  A6.out).mono ?_); (case side99 => first | exact HG.out | exact Glob.below HG.out (by repeat (first | (with_reducible first | exact HB.out | apply below_alloc | apply pw_below_drewN | apply below_drew1 | refine below_set ?_ GE101.out) | exact HB.out))); rintro e w' ⟨rfl, ⟨nd, rfl⟩⟩; refine ⟨_, rfl, ?_⟩) | (go_at_call 58; (with_reducible refine (segment_in.calls a0_4 1 16 t103 _ ?side99  A8.out).mono ?_); (case side99 => first | exact HG.out | exact Glob.below HG.out (by repeat (first | (with_reducible first | exact HB.out | apply below_alloc | apply pw_below_drewN | apply below_drew1 | refine below_set ?_ GE101.out) | exact HB.out))); rintro e w' ⟨rfl, ⟨nd, rfl⟩⟩))
    go_meet
    case rel => exact ⟨_, (t103), (by first | rfl | (simp; done) | (simp [*]; done)), H', ⟨by first | omega | exact Nat.le_refl _⟩, ⟨by (with_reducible repeat (first | refine blk_drewN ?_ _ | refine blk_drew ?_ | refine blk_alloc ?_ _)); exact BK101.out⟩, ⟨by repeat (first | (with_reducible first | exact HB.out | apply below_alloc | apply pw_below_drewN | apply below_drew1 | refine below_set ?_ GE101.out) | exact HB.out)⟩⟩
   ·replace c7 := Bool.eq_false_iff.mpr c7
    subst c7
    have H1 : (segment_Check.j0 k false a0_0 a0_1 a0_2 a0_3 a0_4 a0_5) = some r := by rw [if_neg (show ¬ (false = true) by decide)] at H; exact H
    clear H
    have H := H1
    clear H1
    have H' := Aside0.mk H
    clear H
    have hcz10_0 : w3.cell? ⟨gb101, 0, none⟩ = some (.int .i64 a0_0) := (blk_cell BK101.out 0).trans rfl
    have hcz10_1 : w3.cell? ⟨gb101, 1, none⟩ = some (.int .i64 a0_1) := (blk_cell BK101.out 1).trans rfl
    have hcz10_2 : w3.cell? ⟨gb101, 2, none⟩ = some (.int .i64 a0_2) := (blk_cell BK101.out 2).trans rfl
    have hcz10_3 : w3.cell? ⟨gb101, 3, none⟩ = some (.bool a0_3) := (blk_cell BK101.out 3).trans rfl
    have hcz10_4 : w3.cell? ⟨gb101, 4, none⟩ = some (.int .i64 a0_4) := (blk_cell BK101.out 4).trans rfl
    have hcz10_5 : w3.cell? ⟨gb101, 5, none⟩ = some (.string a0_5) := (blk_cell BK101.out 5).trans rfl
    have hfz10_0 := blk_frozen BK101.out 0
    have hfz10_1 := blk_frozen BK101.out 1
    have hfz10_2 := blk_frozen BK101.out 2
    have hfz10_3 := blk_frozen BK101.out 3
    have hfz10_4 := blk_frozen BK101.out 4
    have hfz10_5 := blk_frozen BK101.out 5
    go_wp2_with (first | ((with_reducible refine gate_callee (f := 58) rfl ?_); refine goesL_ (some 10) rfl rfl Tryd.func58 (by kernel_rfl) rfl #[.int .i64 a0_2, .int .i64 0, .int .i64 63] rfl (by (try simp only [List.map_toArray, List.map_cons, List.map_nil]); first | done | rfl | (simp only [List.length_drop, List.length_take]; rfl)) ?_; (with_reducible refine (segment_in.calls a0_2 0 63 false _ ?side99  A6.out).mono ?_); (case side99 => first | exact HG.out | exact Glob.below HG.out (by repeat (first | (with_reducible first | exact HB.out | apply below_alloc | apply pw_below_drewN | apply below_drew1 | refine below_set ?_ GE101.out) | exact HB.out))); rintro e w' ⟨rfl, ⟨nd, rfl⟩⟩; refine ⟨_, rfl, ?_⟩))
    go_meet
    case rel => exact ⟨_, (false), (by first | rfl | (simp; done) | (simp [*]; done)), H', ⟨by first | omega | exact Nat.le_refl _⟩, ⟨by (with_reducible repeat (first | refine blk_drewN ?_ _ | refine blk_drew ?_ | refine blk_alloc ?_ _)); exact BK101.out⟩, ⟨by repeat (first | (with_reducible first | exact HB.out | apply below_alloc | apply pw_below_drewN | apply below_drew1 | refine below_set ?_ GE101.out) | exact HB.out)⟩⟩
  ·rw [if_neg c5] at H
   have c5b0 : (a0_0 == 1) = false := beq_eq_false_iff_ne.mpr c5
   have c5b1 : (a0_0 != 1) = true := bne_iff_ne.mpr c5
   (first | rw [c5b0] | (simp only [i64_w, i32_w]; rw [c5b0]) | skip)
   by_cases c11 : a0_0 = 2
   ·rw [if_pos c11] at H
    have c11b0 : (a0_0 == 2) = true := beq_iff_eq.mpr c11
    have c11b1 : (a0_0 != 2) = false := bne_eq_false_iff_eq.mpr c11
    clear c11
    replace H := Option.bind_eq_some_iff.mp H
    obtain ⟨t104, A120, H⟩ := H
    replace H : (if t104 = true then (segment_Check.j0 k (a0_4 == 0) a0_0 a0_1 a0_2 a0_3 a0_4 a0_5) else (segment_Check.j0 k false a0_0 a0_1 a0_2 a0_3 a0_4 a0_5)) = some r := H
    have A12 := Aside0.mk A120
    clear A120
    by_cases c13 : t104 = true
    ·subst c13
     have H1 : (segment_Check.j0 k (a0_4 == 0) a0_0 a0_1 a0_2 a0_3 a0_4 a0_5) = some r := by rw [if_pos rfl] at H; exact H
     clear H
     have H := H1
     clear H1
     have H' := Aside0.mk H
     clear H
     have hcz14_0 : w3.cell? ⟨gb101, 0, none⟩ = some (.int .i64 a0_0) := (blk_cell BK101.out 0).trans rfl
     have hcz14_1 : w3.cell? ⟨gb101, 1, none⟩ = some (.int .i64 a0_1) := (blk_cell BK101.out 1).trans rfl
     have hcz14_2 : w3.cell? ⟨gb101, 2, none⟩ = some (.int .i64 a0_2) := (blk_cell BK101.out 2).trans rfl
     have hcz14_3 : w3.cell? ⟨gb101, 3, none⟩ = some (.bool a0_3) := (blk_cell BK101.out 3).trans rfl
     have hcz14_4 : w3.cell? ⟨gb101, 4, none⟩ = some (.int .i64 a0_4) := (blk_cell BK101.out 4).trans rfl
     have hcz14_5 : w3.cell? ⟨gb101, 5, none⟩ = some (.string a0_5) := (blk_cell BK101.out 5).trans rfl
     have hfz14_0 := blk_frozen BK101.out 0
     have hfz14_1 := blk_frozen BK101.out 1
     have hfz14_2 := blk_frozen BK101.out 2
     have hfz14_3 := blk_frozen BK101.out 3
     have hfz14_4 := blk_frozen BK101.out 4
     have hfz14_5 := blk_frozen BK101.out 5
     go_wp2_with (first | ((with_reducible refine gate_callee (f := 58) rfl ?_); refine goesL_ (some 20) rfl rfl Tryd.func58 (by kernel_rfl) rfl #[.int .i64 a0_2, .int .i64 (-1), .int .i64 63] rfl (by (try simp only [List.map_toArray, List.map_cons, List.map_nil]); first | done | rfl | (simp only [List.length_drop, List.length_take]; rfl)) ?_; (with_reducible refine (segment_in.calls a0_2 (-1) 63 true _ ?side99  A12.out).mono ?_); (case side99 => first | exact HG.out | exact Glob.below HG.out (by repeat (first | (with_reducible first | exact HB.out | apply below_alloc | apply pw_below_drewN | apply below_drew1 | refine below_set ?_ GE101.out) | exact HB.out))); rintro e w' ⟨rfl, ⟨nd, rfl⟩⟩; refine ⟨_, rfl, ?_⟩))
     go_meet
     case rel => exact ⟨_, ((a0_4 == 0)), (by first | rfl | (simp; done) | (simp [*]; done)), H', ⟨by first | omega | exact Nat.le_refl _⟩, ⟨by (with_reducible repeat (first | refine blk_drewN ?_ _ | refine blk_drew ?_ | refine blk_alloc ?_ _)); exact BK101.out⟩, ⟨by repeat (first | (with_reducible first | exact HB.out | apply below_alloc | apply pw_below_drewN | apply below_drew1 | refine below_set ?_ GE101.out) | exact HB.out)⟩⟩
    ·replace c13 := Bool.eq_false_iff.mpr c13
     subst c13
     have H1 : (segment_Check.j0 k false a0_0 a0_1 a0_2 a0_3 a0_4 a0_5) = some r := by rw [if_neg (show ¬ (false = true) by decide)] at H; exact H
     clear H
     have H := H1
     clear H1
     have H' := Aside0.mk H
     clear H
     have hcz15_0 : w3.cell? ⟨gb101, 0, none⟩ = some (.int .i64 a0_0) := (blk_cell BK101.out 0).trans rfl
     have hcz15_1 : w3.cell? ⟨gb101, 1, none⟩ = some (.int .i64 a0_1) := (blk_cell BK101.out 1).trans rfl
     have hcz15_2 : w3.cell? ⟨gb101, 2, none⟩ = some (.int .i64 a0_2) := (blk_cell BK101.out 2).trans rfl
     have hcz15_3 : w3.cell? ⟨gb101, 3, none⟩ = some (.bool a0_3) := (blk_cell BK101.out 3).trans rfl
     have hcz15_4 : w3.cell? ⟨gb101, 4, none⟩ = some (.int .i64 a0_4) := (blk_cell BK101.out 4).trans rfl
     have hcz15_5 : w3.cell? ⟨gb101, 5, none⟩ = some (.string a0_5) := (blk_cell BK101.out 5).trans rfl
     have hfz15_0 := blk_frozen BK101.out 0
     have hfz15_1 := blk_frozen BK101.out 1
     have hfz15_2 := blk_frozen BK101.out 2
     have hfz15_3 := blk_frozen BK101.out 3
     have hfz15_4 := blk_frozen BK101.out 4
     have hfz15_5 := blk_frozen BK101.out 5
     go_wp2_with (first | ((with_reducible refine gate_callee (f := 58) rfl ?_); refine goesL_ (some 20) rfl rfl Tryd.func58 (by kernel_rfl) rfl #[.int .i64 a0_2, .int .i64 (-1), .int .i64 63] rfl (by (try simp only [List.map_toArray, List.map_cons, List.map_nil]); first | done | rfl | (simp only [List.length_drop, List.length_take]; rfl)) ?_; (with_reducible refine (segment_in.calls a0_2 (-1) 63 false _ ?side99  A12.out).mono ?_); (case side99 => first | exact HG.out | exact Glob.below HG.out (by repeat (first | (with_reducible first | exact HB.out | apply below_alloc | apply pw_below_drewN | apply below_drew1 | refine below_set ?_ GE101.out) | exact HB.out))); rintro e w' ⟨rfl, ⟨nd, rfl⟩⟩; refine ⟨_, rfl, ?_⟩))
     go_meet
     case rel => exact ⟨_, (false), (by first | rfl | (simp; done) | (simp [*]; done)), H', ⟨by first | omega | exact Nat.le_refl _⟩, ⟨by (with_reducible repeat (first | refine blk_drewN ?_ _ | refine blk_drew ?_ | refine blk_alloc ?_ _)); exact BK101.out⟩, ⟨by repeat (first | (with_reducible first | exact HB.out | apply below_alloc | apply pw_below_drewN | apply below_drew1 | refine below_set ?_ GE101.out) | exact HB.out)⟩⟩
   ·rw [if_neg c11] at H
    have c11b0 : (a0_0 == 2) = false := beq_eq_false_iff_ne.mpr c11
    have c11b1 : (a0_0 != 2) = true := bne_iff_ne.mpr c11
    by_cases c16 : a0_0 = 3
    ·rw [if_pos c16] at H
     have c16b0 : (a0_0 == 3) = true := beq_iff_eq.mpr c16
     have c16b1 : (a0_0 != 3) = false := bne_eq_false_iff_eq.mpr c16
     clear c16
     by_cases c17 : a0_2 = 0
     ·rw [if_pos c17] at H
      have c17b0 : (a0_2 == 0) = true := beq_iff_eq.mpr c17
      have c17b1 : (a0_2 != 0) = false := bne_eq_false_iff_eq.mpr c17
      clear c17
      have H' := Aside0.mk H
      clear H
      have hcz18_0 : w3.cell? ⟨gb101, 0, none⟩ = some (.int .i64 a0_0) := (blk_cell BK101.out 0).trans rfl
      have hcz18_1 : w3.cell? ⟨gb101, 1, none⟩ = some (.int .i64 a0_1) := (blk_cell BK101.out 1).trans rfl
      have hcz18_2 : w3.cell? ⟨gb101, 2, none⟩ = some (.int .i64 a0_2) := (blk_cell BK101.out 2).trans rfl
      have hcz18_3 : w3.cell? ⟨gb101, 3, none⟩ = some (.bool a0_3) := (blk_cell BK101.out 3).trans rfl
      have hcz18_4 : w3.cell? ⟨gb101, 4, none⟩ = some (.int .i64 a0_4) := (blk_cell BK101.out 4).trans rfl
      have hcz18_5 : w3.cell? ⟨gb101, 5, none⟩ = some (.string a0_5) := (blk_cell BK101.out 5).trans rfl
      have hfz18_0 := blk_frozen BK101.out 0
      have hfz18_1 := blk_frozen BK101.out 1
      have hfz18_2 := blk_frozen BK101.out 2
      have hfz18_3 := blk_frozen BK101.out 3
      have hfz18_4 := blk_frozen BK101.out 4
      have hfz18_5 := blk_frozen BK101.out 5
      go_wp2
      go_meet
      case rel => exact ⟨_, ((a0_4 == 0)), (by first | rfl | (simp; done) | (simp [*]; done)), H', ⟨by first | omega | exact Nat.le_refl _⟩, ⟨by (with_reducible repeat (first | refine blk_drewN ?_ _ | refine blk_drew ?_ | refine blk_alloc ?_ _)); exact BK101.out⟩, ⟨by repeat (first | (with_reducible first | exact HB.out | apply below_alloc | apply pw_below_drewN | apply below_drew1 | refine below_set ?_ GE101.out) | exact HB.out)⟩⟩
     ·rw [if_neg c17] at H
      have c17b0 : (a0_2 == 0) = false := beq_eq_false_iff_ne.mpr c17
      have c17b1 : (a0_2 != 0) = true := bne_iff_ne.mpr c17
      have H' := Aside0.mk H
      clear H
      have hcz19_0 : w3.cell? ⟨gb101, 0, none⟩ = some (.int .i64 a0_0) := (blk_cell BK101.out 0).trans rfl
      have hcz19_1 : w3.cell? ⟨gb101, 1, none⟩ = some (.int .i64 a0_1) := (blk_cell BK101.out 1).trans rfl
      have hcz19_2 : w3.cell? ⟨gb101, 2, none⟩ = some (.int .i64 a0_2) := (blk_cell BK101.out 2).trans rfl
      have hcz19_3 : w3.cell? ⟨gb101, 3, none⟩ = some (.bool a0_3) := (blk_cell BK101.out 3).trans rfl
      have hcz19_4 : w3.cell? ⟨gb101, 4, none⟩ = some (.int .i64 a0_4) := (blk_cell BK101.out 4).trans rfl
      have hcz19_5 : w3.cell? ⟨gb101, 5, none⟩ = some (.string a0_5) := (blk_cell BK101.out 5).trans rfl
      have hfz19_0 := blk_frozen BK101.out 0
      have hfz19_1 := blk_frozen BK101.out 1
      have hfz19_2 := blk_frozen BK101.out 2
      have hfz19_3 := blk_frozen BK101.out 3
      have hfz19_4 := blk_frozen BK101.out 4
      have hfz19_5 := blk_frozen BK101.out 5
      go_wp2
      go_meet
      case rel => exact ⟨_, (false), (by first | rfl | (simp; done) | (simp [*]; done)), H', ⟨by first | omega | exact Nat.le_refl _⟩, ⟨by (with_reducible repeat (first | refine blk_drewN ?_ _ | refine blk_drew ?_ | refine blk_alloc ?_ _)); exact BK101.out⟩, ⟨by repeat (first | (with_reducible first | exact HB.out | apply below_alloc | apply pw_below_drewN | apply below_drew1 | refine below_set ?_ GE101.out) | exact HB.out)⟩⟩
    ·rw [if_neg c16] at H
     have c16b0 : (a0_0 == 3) = false := beq_eq_false_iff_ne.mpr c16
     have c16b1 : (a0_0 != 3) = true := bne_iff_ne.mpr c16
     obtain rfl := Option.some.inj H
     go_wp2
     go_ret
     exact ⟨by first | rfl | (simp [errW_none, errW_some] <;> rfl) | (simp [*, errW_none, errW_some] <;> rfl), by repeat (first | (with_reducible first | exact HB.out | apply below_alloc | apply pw_below_drewN | apply below_drew1 | refine below_set ?_ GE101.out) | exact HB.out)⟩
 case rest =>
  clear HC2
  try clear c1
  try clear p2
  try clear c5
  try clear c5b0
  try clear c5b1
  try clear c7
  try clear c11
  try clear c11b0
  try clear c11b1
  try clear c13
  try clear c16
  try clear c16b0
  try clear c16b1
  try clear c17
  try clear c17b0
  try clear c17b1
  try clear hcz10_0
  try clear hcz10_1
  try clear hcz10_2
  try clear hcz10_3
  try clear hcz10_4
  try clear hcz10_5
  try clear hcz14_0
  try clear hcz14_1
  try clear hcz14_2
  try clear hcz14_3
  try clear hcz14_4
  try clear hcz14_5
  try clear hcz15_0
  try clear hcz15_1
  try clear hcz15_2
  try clear hcz15_3
  try clear hcz15_4
  try clear hcz15_5
  try clear hcz18_0
  try clear hcz18_1
  try clear hcz18_2
  try clear hcz18_3
  try clear hcz18_4
  try clear hcz18_5
  try clear hcz19_0
  try clear hcz19_1
  try clear hcz19_2
  try clear hcz19_3
  try clear hcz19_4
  try clear hcz19_5
  try clear hcz4_0
  try clear hcz4_1
  try clear hcz4_2
  try clear hcz4_3
  try clear hcz4_4
  try clear hcz4_5
  try clear hcz9_0
  try clear hcz9_1
  try clear hcz9_2
  try clear hcz9_3
  try clear hcz9_4
  try clear hcz9_5
  try clear hfz10_0
  try clear hfz10_1
  try clear hfz10_2
  try clear hfz10_3
  try clear hfz10_4
  try clear hfz10_5
  try clear hfz14_0
  try clear hfz14_1
  try clear hfz14_2
  try clear hfz14_3
  try clear hfz14_4
  try clear hfz14_5
  try clear hfz15_0
  try clear hfz15_1
  try clear hfz15_2
  try clear hfz15_3
  try clear hfz15_4
  try clear hfz15_5
  try clear hfz18_0
  try clear hfz18_1
  try clear hfz18_2
  try clear hfz18_3
  try clear hfz18_4
  try clear hfz18_5
  try clear hfz19_0
  try clear hfz19_1
  try clear hfz19_2
  try clear hfz19_3
  try clear hfz19_4
  try clear hfz19_5
  try clear hfz4_0
  try clear hfz4_1
  try clear hfz4_2
  try clear hfz4_3
  try clear hfz4_4
  try clear hfz4_5
  try clear hfz9_0
  try clear hfz9_1
  try clear hfz9_2
  try clear hfz9_3
  try clear hfz9_4
  try clear hfz9_5
  obtain ⟨kq, x3_1, rfl, HA, HJ1, BK101, HB⟩ := hcut
  cases kq with
  | zero => exact absurd HA.out (by simp [segment_Check.j0])
  | succ kj1 =>
   have H := HA.out
   clear HA
   simp only [segment_Check.j0] at H
   have HC20 := Aside0.mk H
   clear H
   go_upto_region 10 with (fail)
   go_cut [36] (fun v36 wc => ∃ (kq : Nat) (x36_19 : Bool), v36 = .bool x36_19 ∧ Aside0 (segment_Check.j1 kq x36_19 a0_0 a0_1 a0_2 a0_3 a0_4 a0_5 = some r) ∧ Aside0 (kq ≤ kj1) ∧ Aside0 (wc.heap[gb101]? = some (.cells #[.int .i64 a0_0, .int .i64 a0_1, .int .i64 a0_2, .bool a0_3, .int .i64 a0_4, .string a0_5] 23 (0, 0))) ∧ Aside0 (Below w.heap.size w wc))
   case first =>
    have H := HC20.out
    clear HC20
    by_cases c21 : x3_1 = true
    ·subst c21
     have H1 : ((segment_in.f a0_1 0 255).bind fun t105 => (segment_Check.j1 kj1 (!t105) a0_0 a0_1 a0_2 a0_3 a0_4 a0_5)) = some r := by rw [if_pos rfl] at H; exact H
     clear H
     have H := H1
     clear H1
     replace H := Option.bind_eq_some_iff.mp H
     obtain ⟨t105, A220, H⟩ := H
     replace H : (segment_Check.j1 kj1 (!t105) a0_0 a0_1 a0_2 a0_3 a0_4 a0_5) = some r := H
     have A22 := Aside0.mk A220
     clear A220
     have H' := Aside0.mk H
     clear H
     have hcz23_0 : wc.cell? ⟨gb101, 0, none⟩ = some (.int .i64 a0_0) := (blk_cell BK101.out 0).trans rfl
     have hcz23_1 : wc.cell? ⟨gb101, 1, none⟩ = some (.int .i64 a0_1) := (blk_cell BK101.out 1).trans rfl
     have hcz23_2 : wc.cell? ⟨gb101, 2, none⟩ = some (.int .i64 a0_2) := (blk_cell BK101.out 2).trans rfl
     have hcz23_3 : wc.cell? ⟨gb101, 3, none⟩ = some (.bool a0_3) := (blk_cell BK101.out 3).trans rfl
     have hcz23_4 : wc.cell? ⟨gb101, 4, none⟩ = some (.int .i64 a0_4) := (blk_cell BK101.out 4).trans rfl
     have hcz23_5 : wc.cell? ⟨gb101, 5, none⟩ = some (.string a0_5) := (blk_cell BK101.out 5).trans rfl
     have hfz23_0 := blk_frozen BK101.out 0
     have hfz23_1 := blk_frozen BK101.out 1
     have hfz23_2 := blk_frozen BK101.out 2
     have hfz23_3 := blk_frozen BK101.out 3
     have hfz23_4 := blk_frozen BK101.out 4
     have hfz23_5 := blk_frozen BK101.out 5
     go_wp2_with (first | (go_at_call 58; (with_reducible refine (segment_in.calls a0_1 0 255 t105 _ ?side99  A22.out).mono ?_); (case side99 => first | exact HG.out | exact Glob.below HG.out (by repeat (first | (with_reducible first | exact HB.out | apply below_alloc | apply pw_below_drewN | apply below_drew1 | refine below_set ?_ GE101.out) | exact HB.out))); rintro e w' ⟨rfl, ⟨nd, rfl⟩⟩))
     go_meet
     case rel => exact ⟨_, (!t105), (by first | rfl | (simp; done) | (simp [*]; done)), H', ⟨by have := HJ1.out; first | omega | exact Nat.le_refl _⟩, ⟨by (with_reducible repeat (first | refine blk_drewN ?_ _ | refine blk_drew ?_ | refine blk_alloc ?_ _)); exact BK101.out⟩, ⟨by repeat (first | (with_reducible first | exact HB.out | apply below_alloc | apply pw_below_drewN | apply below_drew1 | refine below_set ?_ GE101.out) | exact HB.out)⟩⟩
    ·replace c21 := Bool.eq_false_iff.mpr c21
     subst c21
     have H1 : (segment_Check.j1 kj1 true a0_0 a0_1 a0_2 a0_3 a0_4 a0_5) = some r := by rw [if_neg (show ¬ (false = true) by decide)] at H; exact H
     clear H
     have H := H1
     clear H1
     have H' := Aside0.mk H
     clear H
     go_wp2
     go_meet
     case rel => exact ⟨_, (true), (by first | rfl | (simp; done) | (simp [*]; done)), H', ⟨by have := HJ1.out; first | omega | exact Nat.le_refl _⟩, ⟨by (with_reducible repeat (first | refine blk_drewN ?_ _ | refine blk_drew ?_ | refine blk_alloc ?_ _)); exact BK101.out⟩, ⟨by repeat (first | (with_reducible first | exact HB.out | apply below_alloc | apply pw_below_drewN | apply below_drew1 | refine below_set ?_ GE101.out) | exact HB.out)⟩⟩
   case rest =>
    clear HC20
    try clear c1
    try clear c2
    try clear p2
    try clear c5
    try clear c5b0
    try clear c5b1
    try clear c7
    try clear c11
    try clear c11b0
    try clear c11b1
    try clear c13
    try clear c16
    try clear c16b0
    try clear c16b1
    try clear c17
    try clear c17b0
    try clear c17b1
    try clear c21
    try clear hcz10_0
    try clear hcz10_1
    try clear hcz10_2
    try clear hcz10_3
    try clear hcz10_4
    try clear hcz10_5
    try clear hcz14_0
    try clear hcz14_1
    try clear hcz14_2
    try clear hcz14_3
    try clear hcz14_4
    try clear hcz14_5
    try clear hcz15_0
    try clear hcz15_1
    try clear hcz15_2
    try clear hcz15_3
    try clear hcz15_4
    try clear hcz15_5
    try clear hcz18_0
    try clear hcz18_1
    try clear hcz18_2
    try clear hcz18_3
    try clear hcz18_4
    try clear hcz18_5
    try clear hcz19_0
    try clear hcz19_1
    try clear hcz19_2
    try clear hcz19_3
    try clear hcz19_4
    try clear hcz19_5
    try clear hcz23_0
    try clear hcz23_1
    try clear hcz23_2
    try clear hcz23_3
    try clear hcz23_4
    try clear hcz23_5
    try clear hcz4_0
    try clear hcz4_1
    try clear hcz4_2
    try clear hcz4_3
    try clear hcz4_4
    try clear hcz4_5
    try clear hcz9_0
    try clear hcz9_1
    try clear hcz9_2
    try clear hcz9_3
    try clear hcz9_4
    try clear hcz9_5
    try clear hfz10_0
    try clear hfz10_1
    try clear hfz10_2
    try clear hfz10_3
    try clear hfz10_4
    try clear hfz10_5
    try clear hfz14_0
    try clear hfz14_1
    try clear hfz14_2
    try clear hfz14_3
    try clear hfz14_4
    try clear hfz14_5
    try clear hfz15_0
    try clear hfz15_1
    try clear hfz15_2
    try clear hfz15_3
    try clear hfz15_4
    try clear hfz15_5
    try clear hfz18_0
    try clear hfz18_1
    try clear hfz18_2
    try clear hfz18_3
    try clear hfz18_4
    try clear hfz18_5
    try clear hfz19_0
    try clear hfz19_1
    try clear hfz19_2
    try clear hfz19_3
    try clear hfz19_4
    try clear hfz19_5
    try clear hfz23_0
    try clear hfz23_1
    try clear hfz23_2
    try clear hfz23_3
    try clear hfz23_4
    try clear hfz23_5
    try clear hfz4_0
    try clear hfz4_1
    try clear hfz4_2
    try clear hfz4_3
    try clear hfz4_4
    try clear hfz4_5
    try clear hfz9_0
    try clear hfz9_1
    try clear hfz9_2
    try clear hfz9_3
    try clear hfz9_4
    try clear hfz9_5
    try clear p2
    obtain ⟨kq, x36_19, rfl, HA, HJ19, BK101, HB⟩ := hcut
    cases kq with
    | zero => exact absurd HA.out (by simp [segment_Check.j1])
    | succ kj19 =>
     have H := HA.out
     clear HA
     simp only [segment_Check.j1] at H
     by_cases c24 : x36_19 = true
     ·subst c24
      have H1 : (some 6) = some r := by rw [if_pos rfl] at H; exact H
      clear H
      have H := H1
      clear H1
      obtain rfl := Option.some.inj H
      go_wp2
      go_ret
      exact ⟨by first | rfl | (simp [errW_none, errW_some] <;> rfl) | (simp [*, errW_none, errW_some] <;> rfl), by repeat (first | (with_reducible first | exact HB.out | apply below_alloc | apply pw_below_drewN | apply below_drew1 | refine below_set ?_ GE101.out) | exact HB.out)⟩
     ·replace c24 := Bool.eq_false_iff.mpr c24
      subst c24
      have H1 : (if a0_0 = 1 then (segment_Check.j2 kj19 (decide ((a0_5.size : Int) > 400)) a0_0 a0_1 a0_2 a0_3 a0_4 a0_5) else (segment_Check.j2 kj19 false a0_0 a0_1 a0_2 a0_3 a0_4 a0_5)) = some r := by rw [if_neg (show ¬ (false = true) by decide)] at H; exact H
      clear H
      have H := H1
      clear H1
      have HC25 := Aside0.mk H
      clear H
      go_upto_region 12 with (fail)
      go_cut [45] (fun v45 wc => ∃ (kq : Nat) (x45_24 : Bool), v45 = .bool x45_24 ∧ Aside0 (segment_Check.j2 kq x45_24 a0_0 a0_1 a0_2 a0_3 a0_4 a0_5 = some r) ∧ Aside0 (kq ≤ kj19) ∧ Aside0 (wc.heap[gb101]? = some (.cells #[.int .i64 a0_0, .int .i64 a0_1, .int .i64 a0_2, .bool a0_3, .int .i64 a0_4, .string a0_5] 23 (0, 0))) ∧ Aside0 (Below w.heap.size w wc))
      case first =>
       have H := HC25.out
       clear HC25
       by_cases c26 : a0_0 = 1
       ·rw [if_pos c26] at H
        have c26b0 : (a0_0 == 1) = true := beq_iff_eq.mpr c26
        have c26b1 : (a0_0 != 1) = false := bne_eq_false_iff_eq.mpr c26
        clear c26
        (first | rw [c26b0] | (simp only [i64_w, i32_w]; rw [c26b0]) | skip)
        have H' := Aside0.mk H
        clear H
        have hcz27_0 : wc.cell? ⟨gb101, 0, none⟩ = some (.int .i64 a0_0) := (blk_cell BK101.out 0).trans rfl
        have hcz27_1 : wc.cell? ⟨gb101, 1, none⟩ = some (.int .i64 a0_1) := (blk_cell BK101.out 1).trans rfl
        have hcz27_2 : wc.cell? ⟨gb101, 2, none⟩ = some (.int .i64 a0_2) := (blk_cell BK101.out 2).trans rfl
        have hcz27_3 : wc.cell? ⟨gb101, 3, none⟩ = some (.bool a0_3) := (blk_cell BK101.out 3).trans rfl
        have hcz27_4 : wc.cell? ⟨gb101, 4, none⟩ = some (.int .i64 a0_4) := (blk_cell BK101.out 4).trans rfl
        have hcz27_5 : wc.cell? ⟨gb101, 5, none⟩ = some (.string a0_5) := (blk_cell BK101.out 5).trans rfl
        have hfz27_0 := blk_frozen BK101.out 0
        have hfz27_1 := blk_frozen BK101.out 1
        have hfz27_2 := blk_frozen BK101.out 2
        have hfz27_3 := blk_frozen BK101.out 3
        have hfz27_4 := blk_frozen BK101.out 4
        have hfz27_5 := blk_frozen BK101.out 5
        go_wp2
        go_meet
        case rel => exact ⟨_, (decide ((a0_5.size : Int) > 400)), (by first | rfl | (simp; done) | (simp [*]; done)), H', ⟨by have := HJ1.out; have := HJ19.out; first | omega | exact Nat.le_refl _⟩, ⟨by (with_reducible repeat (first | refine blk_drewN ?_ _ | refine blk_drew ?_ | refine blk_alloc ?_ _)); exact BK101.out⟩, ⟨by repeat (first | (with_reducible first | exact HB.out | apply below_alloc | apply pw_below_drewN | apply below_drew1 | refine below_set ?_ GE101.out) | exact HB.out)⟩⟩
       ·rw [if_neg c26] at H
        have c26b0 : (a0_0 == 1) = false := beq_eq_false_iff_ne.mpr c26
        have c26b1 : (a0_0 != 1) = true := bne_iff_ne.mpr c26
        (first | rw [c26b0] | (simp only [i64_w, i32_w]; rw [c26b0]) | skip)
        have H' := Aside0.mk H
        clear H
        have hcz28_0 : wc.cell? ⟨gb101, 0, none⟩ = some (.int .i64 a0_0) := (blk_cell BK101.out 0).trans rfl
        have hcz28_1 : wc.cell? ⟨gb101, 1, none⟩ = some (.int .i64 a0_1) := (blk_cell BK101.out 1).trans rfl
        have hcz28_2 : wc.cell? ⟨gb101, 2, none⟩ = some (.int .i64 a0_2) := (blk_cell BK101.out 2).trans rfl
        have hcz28_3 : wc.cell? ⟨gb101, 3, none⟩ = some (.bool a0_3) := (blk_cell BK101.out 3).trans rfl
        have hcz28_4 : wc.cell? ⟨gb101, 4, none⟩ = some (.int .i64 a0_4) := (blk_cell BK101.out 4).trans rfl
        have hcz28_5 : wc.cell? ⟨gb101, 5, none⟩ = some (.string a0_5) := (blk_cell BK101.out 5).trans rfl
        have hfz28_0 := blk_frozen BK101.out 0
        have hfz28_1 := blk_frozen BK101.out 1
        have hfz28_2 := blk_frozen BK101.out 2
        have hfz28_3 := blk_frozen BK101.out 3
        have hfz28_4 := blk_frozen BK101.out 4
        have hfz28_5 := blk_frozen BK101.out 5
        go_wp2
        go_meet
        case rel => exact ⟨_, (false), (by first | rfl | (simp; done) | (simp [*]; done)), H', ⟨by have := HJ1.out; have := HJ19.out; first | omega | exact Nat.le_refl _⟩, ⟨by (with_reducible repeat (first | refine blk_drewN ?_ _ | refine blk_drew ?_ | refine blk_alloc ?_ _)); exact BK101.out⟩, ⟨by repeat (first | (with_reducible first | exact HB.out | apply below_alloc | apply pw_below_drewN | apply below_drew1 | refine below_set ?_ GE101.out) | exact HB.out)⟩⟩
      case rest =>
       clear HC25
       try clear c1
       try clear c2
       try clear p2
       try clear c5
       try clear c5b0
       try clear c5b1
       try clear c7
       try clear c11
       try clear c11b0
       try clear c11b1
       try clear c13
       try clear c16
       try clear c16b0
       try clear c16b1
       try clear c17
       try clear c17b0
       try clear c17b1
       try clear c21
       try clear c24
       try clear c26
       try clear c26b0
       try clear c26b1
       try clear hcz10_0
       try clear hcz10_1
       try clear hcz10_2
       try clear hcz10_3
       try clear hcz10_4
       try clear hcz10_5
       try clear hcz14_0
       try clear hcz14_1
       try clear hcz14_2
       try clear hcz14_3
       try clear hcz14_4
       try clear hcz14_5
       try clear hcz15_0
       try clear hcz15_1
       try clear hcz15_2
       try clear hcz15_3
       try clear hcz15_4
       try clear hcz15_5
       try clear hcz18_0
       try clear hcz18_1
       try clear hcz18_2
       try clear hcz18_3
       try clear hcz18_4
       try clear hcz18_5
       try clear hcz19_0
       try clear hcz19_1
       try clear hcz19_2
       try clear hcz19_3
       try clear hcz19_4
       try clear hcz19_5
       try clear hcz23_0
       try clear hcz23_1
       try clear hcz23_2
       try clear hcz23_3
       try clear hcz23_4
       try clear hcz23_5
       try clear hcz27_0
       try clear hcz27_1
       try clear hcz27_2
       try clear hcz27_3
       try clear hcz27_4
       try clear hcz27_5
       try clear hcz28_0
       try clear hcz28_1
       try clear hcz28_2
       try clear hcz28_3
       try clear hcz28_4
       try clear hcz28_5
       try clear hcz4_0
       try clear hcz4_1
       try clear hcz4_2
       try clear hcz4_3
       try clear hcz4_4
       try clear hcz4_5
       try clear hcz9_0
       try clear hcz9_1
       try clear hcz9_2
       try clear hcz9_3
       try clear hcz9_4
       try clear hcz9_5
       try clear hfz10_0
       try clear hfz10_1
       try clear hfz10_2
       try clear hfz10_3
       try clear hfz10_4
       try clear hfz10_5
       try clear hfz14_0
       try clear hfz14_1
       try clear hfz14_2
       try clear hfz14_3
       try clear hfz14_4
       try clear hfz14_5
       try clear hfz15_0
       try clear hfz15_1
       try clear hfz15_2
       try clear hfz15_3
       try clear hfz15_4
       try clear hfz15_5
       try clear hfz18_0
       try clear hfz18_1
       try clear hfz18_2
       try clear hfz18_3
       try clear hfz18_4
       try clear hfz18_5
       try clear hfz19_0
       try clear hfz19_1
       try clear hfz19_2
       try clear hfz19_3
       try clear hfz19_4
       try clear hfz19_5
       try clear hfz23_0
       try clear hfz23_1
       try clear hfz23_2
       try clear hfz23_3
       try clear hfz23_4
       try clear hfz23_5
       try clear hfz27_0
       try clear hfz27_1
       try clear hfz27_2
       try clear hfz27_3
       try clear hfz27_4
       try clear hfz27_5
       try clear hfz28_0
       try clear hfz28_1
       try clear hfz28_2
       try clear hfz28_3
       try clear hfz28_4
       try clear hfz28_5
       try clear hfz4_0
       try clear hfz4_1
       try clear hfz4_2
       try clear hfz4_3
       try clear hfz4_4
       try clear hfz4_5
       try clear hfz9_0
       try clear hfz9_1
       try clear hfz9_2
       try clear hfz9_3
       try clear hfz9_4
       try clear hfz9_5
       try clear p2
       obtain ⟨kq, x45_24, rfl, HA, HJ24, BK101, HB⟩ := hcut
       cases kq with
       | zero => exact absurd HA.out (by simp [segment_Check.j2])
       | succ kj24 =>
        have H := HA.out
        clear HA
        simp only [segment_Check.j2] at H
        by_cases c29 : x45_24 = true
        ·subst c29
         have H1 : (some 7) = some r := by rw [if_pos rfl] at H; exact H
         clear H
         have H := H1
         clear H1
         obtain rfl := Option.some.inj H
         go_wp2
         go_ret
         exact ⟨by first | rfl | (simp [errW_none, errW_some] <;> rfl) | (simp [*, errW_none, errW_some] <;> rfl), by repeat (first | (with_reducible first | exact HB.out | apply below_alloc | apply pw_below_drewN | apply below_drew1 | refine below_set ?_ GE101.out) | exact HB.out)⟩
        ·replace c29 := Bool.eq_false_iff.mpr c29
         subst c29
         have H1 : (if a0_0 = 1 then (some 0) else (if a0_3 = true then (some 10) else (if a0_5.toList = ([] : List UInt8) then (some 0) else (some 10)))) = some r := by rw [if_neg (show ¬ (false = true) by decide)] at H; exact H
         clear H
         have H := H1
         clear H1
         by_cases c30 : a0_0 = 1
         ·rw [if_pos c30] at H
          have c30b0 : (a0_0 == 1) = true := beq_iff_eq.mpr c30
          have c30b1 : (a0_0 != 1) = false := bne_eq_false_iff_eq.mpr c30
          clear c30
          obtain rfl := Option.some.inj H
          have hcz31_0 : wc.cell? ⟨gb101, 0, none⟩ = some (.int .i64 a0_0) := (blk_cell BK101.out 0).trans rfl
          have hcz31_1 : wc.cell? ⟨gb101, 1, none⟩ = some (.int .i64 a0_1) := (blk_cell BK101.out 1).trans rfl
          have hcz31_2 : wc.cell? ⟨gb101, 2, none⟩ = some (.int .i64 a0_2) := (blk_cell BK101.out 2).trans rfl
          have hcz31_3 : wc.cell? ⟨gb101, 3, none⟩ = some (.bool a0_3) := (blk_cell BK101.out 3).trans rfl
          have hcz31_4 : wc.cell? ⟨gb101, 4, none⟩ = some (.int .i64 a0_4) := (blk_cell BK101.out 4).trans rfl
          have hcz31_5 : wc.cell? ⟨gb101, 5, none⟩ = some (.string a0_5) := (blk_cell BK101.out 5).trans rfl
          have hfz31_0 := blk_frozen BK101.out 0
          have hfz31_1 := blk_frozen BK101.out 1
          have hfz31_2 := blk_frozen BK101.out 2
          have hfz31_3 := blk_frozen BK101.out 3
          have hfz31_4 := blk_frozen BK101.out 4
          have hfz31_5 := blk_frozen BK101.out 5
          go_wp2
          go_ret
          exact ⟨by first | rfl | (simp [errW_none, errW_some] <;> rfl) | (simp [*, errW_none, errW_some] <;> rfl), by repeat (first | (with_reducible first | exact HB.out | apply below_alloc | apply pw_below_drewN | apply below_drew1 | refine below_set ?_ GE101.out) | exact HB.out)⟩
         ·rw [if_neg c30] at H
          have c30b0 : (a0_0 == 1) = false := beq_eq_false_iff_ne.mpr c30
          have c30b1 : (a0_0 != 1) = true := bne_iff_ne.mpr c30
          by_cases c32 : a0_3 = true
          ·subst c32
           have H1 : (some 10) = some r := by rw [if_pos rfl] at H; exact H
           clear H
           have H := H1
           clear H1
           obtain rfl := Option.some.inj H
           have hcz33_0 : wc.cell? ⟨gb101, 0, none⟩ = some (.int .i64 a0_0) := (blk_cell BK101.out 0).trans rfl
           have hcz33_1 : wc.cell? ⟨gb101, 1, none⟩ = some (.int .i64 a0_1) := (blk_cell BK101.out 1).trans rfl
           have hcz33_2 : wc.cell? ⟨gb101, 2, none⟩ = some (.int .i64 a0_2) := (blk_cell BK101.out 2).trans rfl
           have hcz33_3 : wc.cell? ⟨gb101, 3, none⟩ = some (.bool true) := (blk_cell BK101.out 3).trans rfl
           have hcz33_4 : wc.cell? ⟨gb101, 4, none⟩ = some (.int .i64 a0_4) := (blk_cell BK101.out 4).trans rfl
           have hcz33_5 : wc.cell? ⟨gb101, 5, none⟩ = some (.string a0_5) := (blk_cell BK101.out 5).trans rfl
           have hfz33_0 := blk_frozen BK101.out 0
           have hfz33_1 := blk_frozen BK101.out 1
           have hfz33_2 := blk_frozen BK101.out 2
           have hfz33_3 := blk_frozen BK101.out 3
           have hfz33_4 := blk_frozen BK101.out 4
           have hfz33_5 := blk_frozen BK101.out 5
           go_wp2
           go_ret
           exact ⟨by first | rfl | (simp [errW_none, errW_some] <;> rfl) | (simp [*, errW_none, errW_some] <;> rfl), by repeat (first | (with_reducible first | exact HB.out | apply below_alloc | apply pw_below_drewN | apply below_drew1 | refine below_set ?_ GE101.out) | exact HB.out)⟩
          ·replace c32 := Bool.eq_false_iff.mpr c32
           subst c32
           have H1 : (if a0_5.toList = ([] : List UInt8) then (some 0) else (some 10)) = some r := by rw [if_neg (show ¬ (false = true) by decide)] at H; exact H
           clear H
           have H := H1
           clear H1
           by_cases c34 : a0_5.toList = ([] : List UInt8)
           ·rw [if_pos c34] at H
            have c34b0 : (a0_5.toList == ([] : List UInt8)) = true := beq_iff_eq.mpr c34
            have c34b1 : (a0_5.toList != ([] : List UInt8)) = false := bne_eq_false_iff_eq.mpr c34
            clear c34
            obtain rfl := Option.some.inj H
            have hcz35_0 : wc.cell? ⟨gb101, 0, none⟩ = some (.int .i64 a0_0) := (blk_cell BK101.out 0).trans rfl
            have hcz35_1 : wc.cell? ⟨gb101, 1, none⟩ = some (.int .i64 a0_1) := (blk_cell BK101.out 1).trans rfl
            have hcz35_2 : wc.cell? ⟨gb101, 2, none⟩ = some (.int .i64 a0_2) := (blk_cell BK101.out 2).trans rfl
            have hcz35_3 : wc.cell? ⟨gb101, 3, none⟩ = some (.bool false) := (blk_cell BK101.out 3).trans rfl
            have hcz35_4 : wc.cell? ⟨gb101, 4, none⟩ = some (.int .i64 a0_4) := (blk_cell BK101.out 4).trans rfl
            have hcz35_5 : wc.cell? ⟨gb101, 5, none⟩ = some (.string a0_5) := (blk_cell BK101.out 5).trans rfl
            have hfz35_0 := blk_frozen BK101.out 0
            have hfz35_1 := blk_frozen BK101.out 1
            have hfz35_2 := blk_frozen BK101.out 2
            have hfz35_3 := blk_frozen BK101.out 3
            have hfz35_4 := blk_frozen BK101.out 4
            have hfz35_5 := blk_frozen BK101.out 5
            go_wp2
            go_ret
            exact ⟨by first | rfl | (simp [errW_none, errW_some] <;> rfl) | (simp [*, errW_none, errW_some] <;> rfl), by repeat (first | (with_reducible first | exact HB.out | apply below_alloc | apply pw_below_drewN | apply below_drew1 | refine below_set ?_ GE101.out) | exact HB.out)⟩
           ·rw [if_neg c34] at H
            have c34b0 : (a0_5.toList == ([] : List UInt8)) = false := beq_eq_false_iff_ne.mpr c34
            have c34b1 : (a0_5.toList != ([] : List UInt8)) = true := bne_iff_ne.mpr c34
            obtain rfl := Option.some.inj H
            have hcz36_0 : wc.cell? ⟨gb101, 0, none⟩ = some (.int .i64 a0_0) := (blk_cell BK101.out 0).trans rfl
            have hcz36_1 : wc.cell? ⟨gb101, 1, none⟩ = some (.int .i64 a0_1) := (blk_cell BK101.out 1).trans rfl
            have hcz36_2 : wc.cell? ⟨gb101, 2, none⟩ = some (.int .i64 a0_2) := (blk_cell BK101.out 2).trans rfl
            have hcz36_3 : wc.cell? ⟨gb101, 3, none⟩ = some (.bool false) := (blk_cell BK101.out 3).trans rfl
            have hcz36_4 : wc.cell? ⟨gb101, 4, none⟩ = some (.int .i64 a0_4) := (blk_cell BK101.out 4).trans rfl
            have hcz36_5 : wc.cell? ⟨gb101, 5, none⟩ = some (.string a0_5) := (blk_cell BK101.out 5).trans rfl
            have hfz36_0 := blk_frozen BK101.out 0
            have hfz36_1 := blk_frozen BK101.out 1
            have hfz36_2 := blk_frozen BK101.out 2
            have hfz36_3 := blk_frozen BK101.out 3
            have hfz36_4 := blk_frozen BK101.out 4
            have hfz36_5 := blk_frozen BK101.out 5
            go_wp2
            go_ret
            exact ⟨by first | rfl | (simp [errW_none, errW_some] <;> rfl) | (simp [*, errW_none, errW_some] <;> rfl), by repeat (first | (with_reducible first | exact HB.out | apply below_alloc | apply pw_below_drewN | apply below_drew1 | refine below_set ?_ GE101.out) | exact HB.out)⟩
end Go.Proofs.YtbgabhknmpbgiaaDoor.S
end
section
namespace Go.Proofs.YtbgabhknmpbgiaaDoor.S
open Go.RowKit Go.Proofs.YtbgabhknmpbgiaaDoorW.PrintWords Go.Proofs.YtbgabhknmpbgiaaDoorW.PrintLast Go.Proofs.YtbgabhknmpbgiaaDoorW.PrintMore
attribute [local go_sem] max2_int min2_int max_two min_two max_three min_three max_four min_four
set_option linter.unusedVariables false
set_option linter.unusedSimpArgs false
mutual
def plenumref49_Check.j0 : Nat → Bool → Int → Int → Int → Bool → Int → ByteArray → Option (Int)
 | 0, _, _, _, _, _, _, _ => none
 | k + 1, x10, x174000, x174001, x174002, x174003, x174004, x174005 => if x10 = true then (some 3) else (if x174001 < 0 then (plenumref49_Check.j1 k true x174000 x174001 x174002 x174003 x174004 x174005) else (plenumref49_Check.j1 k (decide (x174001 > 255)) x174000 x174001 x174002 x174003 x174004 x174005))
def plenumref49_Check.j1 : Nat → Bool → Int → Int → Int → Bool → Int → ByteArray → Option (Int)
 | 0, _, _, _, _, _, _, _ => none
 | k + 1, x18, x174000, x174001, x174002, x174003, x174004, x174005 => if x18 = true then (some 6) else (if x174000 = 1 then (if x174002 < 0 then (plenumref49_Check.j2 k true x174000 x174001 x174002 x174003 x174004 x174005) else (if x174002 ≥ 64 then (plenumref49_Check.j2 k true x174000 x174001 x174002 x174003 x174004 x174005) else (if x174004 < 1 then (plenumref49_Check.j2 k true x174000 x174001 x174002 x174003 x174004 x174005) else (plenumref49_Check.j2 k (decide (x174004 > 16)) x174000 x174001 x174002 x174003 x174004 x174005)))) else (if x174000 = 2 then (if x174002 < (-1) then (plenumref49_Check.j3 k true x174000 x174001 x174002 x174003 x174004 x174005) else (if x174002 ≥ 64 then (plenumref49_Check.j3 k true x174000 x174001 x174002 x174003 x174004 x174005) else (plenumref49_Check.j3 k (x174004 != 0) x174000 x174001 x174002 x174003 x174004 x174005))) else (if x174002 = 0 then (plenumref49_Check.j4 k (x174004 != 0) x174000 x174001 x174002 x174003 x174004 x174005) else (plenumref49_Check.j4 k true x174000 x174001 x174002 x174003 x174004 x174005))))
def plenumref49_Check.j2 : Nat → Bool → Int → Int → Int → Bool → Int → ByteArray → Option (Int)
 | 0, _, _, _, _, _, _, _ => none
 | k + 1, x48, x174000, x174001, x174002, x174003, x174004, x174005 => if x48 = true then (some 6) else (if (x174005.size : Int) > 400 then (some 7) else (some 0))
def plenumref49_Check.j3 : Nat → Bool → Int → Int → Int → Bool → Int → ByteArray → Option (Int)
 | 0, _, _, _, _, _, _, _ => none
 | k + 1, x67, x174000, x174001, x174002, x174003, x174004, x174005 => if x67 = true then (some 6) else (if x174003 = true then (some 10) else (if x174005.toList = ([] : List UInt8) then (some 0) else (some 10)))
def plenumref49_Check.j4 : Nat → Bool → Int → Int → Int → Bool → Int → ByteArray → Option (Int)
 | 0, _, _, _, _, _, _, _ => none
 | k + 1, x28, x174000, x174001, x174002, x174003, x174004, x174005 => if x28 = true then (some 6) else (if x174003 = true then (some 10) else (if x174005.toList = ([] : List UInt8) then (some 0) else (some 10)))
end
def plenumref49_Check.f (k : Nat) (a0_0 : Int) (a0_1 : Int) (a0_2 : Int) (a0_3 : Bool) (a0_4 : Int) (a0_5 : ByteArray) : Option (Int) := if a0_0 < 1 then (plenumref49_Check.j0 k true a0_0 a0_1 a0_2 a0_3 a0_4 a0_5) else (plenumref49_Check.j0 k (decide (a0_0 > 3)) a0_0 a0_1 a0_2 a0_3 a0_4 a0_5)
set_option maxHeartbeats 8000000 in
set_option maxRecDepth 100000 in
theorem plenumref49_Check.calls (k : Nat) (a0_0 : Int) (a0_1 : Int) (a0_2 : Int) (a0_3 : Bool) (a0_4 : Int) (a0_5 : ByteArray) (r : Int) (w : World) (hG : Glob w) (h : plenumref49_Check.f k a0_0 a0_1 a0_2 a0_3 a0_4 a0_5 = some r) :
  Calls Tryd.prog 11 #[.agg #[.int .i64 a0_0, .int .i64 a0_1, .int .i64 a0_2, .bool a0_3, .int .i64 a0_4, .string a0_5]] w fun e w' => e = .returned (.int .i64 r) ∧ Below w.heap.size w w' := by
 have hu27 := Tryd.underlying27
 have HG := Aside0.mk hG
 clear hG
 have HB := Aside0.mk (Below.refl w.heap.size w)
 have H : (if a0_0 < 1 then (plenumref49_Check.j0 k true a0_0 a0_1 a0_2 a0_3 a0_4 a0_5) else (plenumref49_Check.j0 k (decide (a0_0 > 3)) a0_0 a0_1 a0_2 a0_3 a0_4 a0_5)) = some r := h
 clear h
 have HC2 := Aside0.mk H
 clear H
 go_enter Tryd.func11, Tryd.ntmps11
 go_upto_region 1 with (first | ((with_reducible refine gate_dst (N := 1) rfl ?_); refine box_event ?hg (N := 1) ?hd (cs := #[.int .i64 a0_0, .int .i64 a0_1, .int .i64 a0_2, .bool a0_3, .int .i64 a0_4, .string a0_5]) (t := 27) ?hr ?_; (case hd => rfl); (case hg => rfl); (case hr => first | (go_simp; done) | (go_simp; rfl)); intro gb173 hg w3 hbox hb; have n0_ := Aside0.mk (below_step (by repeat (first | (with_reducible first | exact HB.out | apply below_alloc | apply pw_below_drewN | apply below_drew1) | exact HB.out)) hb); have n1_ := Aside0.mk (hbox); have n2_ := Aside0.mk ((by rw [hg]; exact (below_size (by repeat (first | (with_reducible first | exact HB.out | apply below_alloc | apply pw_below_drewN | apply below_drew1) | exact HB.out))) : w.heap.size ≤ gb173)); have n3_ := Aside0.mk ((by rw [hg]; exact (below_size (by repeat (first | (with_reducible first | exact HB.out | apply below_alloc | apply pw_below_drewN | apply below_drew1) | exact HB.out))) : w.heap.size ≤ gb173)); clear HB; have HB := n0_; have BK173 := n1_; have GW173 := n2_; have GE173 := n3_; clear n0_ n1_ n2_ n3_; clear hb hbox hg))
 (try simp only [Act.put, List.setIfInBounds_toArray, List.set_cons_zero, List.set_cons_succ])
 go_cut [10] (fun v10 wc => ∃ (kq : Nat) (x10_1 : Bool), v10 = .bool x10_1 ∧ Aside0 (plenumref49_Check.j0 kq x10_1 a0_0 a0_1 a0_2 a0_3 a0_4 a0_5 = some r) ∧ Aside0 (kq ≤ k) ∧ Aside0 (wc.heap[gb173]? = some (.cells #[.int .i64 a0_0, .int .i64 a0_1, .int .i64 a0_2, .bool a0_3, .int .i64 a0_4, .string a0_5] 27 (0, 0))) ∧ Aside0 (Below w.heap.size w wc))
 case first =>
  have H := HC2.out
  clear HC2
  by_cases c4 : a0_0 < 1
  ·rw [if_pos c4] at H
   have c4b0 : decide (a0_0 < 1) = true := decide_eq_true c4
   clear c4
   (first | rw [c4b0] | (simp only [i64_w, i32_w]; rw [c4b0]) | skip)
   have H' := Aside0.mk H
   clear H
   have hcz5_0 : w3.cell? ⟨gb173, 0, none⟩ = some (.int .i64 a0_0) := (blk_cell BK173.out 0).trans rfl
   have hcz5_1 : w3.cell? ⟨gb173, 1, none⟩ = some (.int .i64 a0_1) := (blk_cell BK173.out 1).trans rfl
   have hcz5_2 : w3.cell? ⟨gb173, 2, none⟩ = some (.int .i64 a0_2) := (blk_cell BK173.out 2).trans rfl
   have hcz5_3 : w3.cell? ⟨gb173, 3, none⟩ = some (.bool a0_3) := (blk_cell BK173.out 3).trans rfl
   have hcz5_4 : w3.cell? ⟨gb173, 4, none⟩ = some (.int .i64 a0_4) := (blk_cell BK173.out 4).trans rfl
   have hcz5_5 : w3.cell? ⟨gb173, 5, none⟩ = some (.string a0_5) := (blk_cell BK173.out 5).trans rfl
   have hfz5_0 := blk_frozen BK173.out 0
   have hfz5_1 := blk_frozen BK173.out 1
   have hfz5_2 := blk_frozen BK173.out 2
   have hfz5_3 := blk_frozen BK173.out 3
   have hfz5_4 := blk_frozen BK173.out 4
   have hfz5_5 := blk_frozen BK173.out 5
   go_wp2
   go_meet
   case rel => exact ⟨_, (true), (by first | rfl | (simp; done) | (simp [*]; done)), H', ⟨by first | omega | exact Nat.le_refl _⟩, ⟨by (with_reducible repeat (first | refine blk_drewN ?_ _ | refine blk_drew ?_ | refine blk_alloc ?_ _)); exact BK173.out⟩, ⟨by repeat (first | (with_reducible first | exact HB.out | apply below_alloc | apply pw_below_drewN | apply below_drew1 | refine below_set ?_ GE173.out) | exact HB.out)⟩⟩
  ·rw [if_neg c4] at H
   have c4b0 : decide (a0_0 < 1) = false := decide_eq_false c4
   clear c4
   (first | rw [c4b0] | (simp only [i64_w, i32_w]; rw [c4b0]) | skip)
   have H' := Aside0.mk H
   clear H
   have hcz6_0 : w3.cell? ⟨gb173, 0, none⟩ = some (.int .i64 a0_0) := (blk_cell BK173.out 0).trans rfl
   have hcz6_1 : w3.cell? ⟨gb173, 1, none⟩ = some (.int .i64 a0_1) := (blk_cell BK173.out 1).trans rfl
   have hcz6_2 : w3.cell? ⟨gb173, 2, none⟩ = some (.int .i64 a0_2) := (blk_cell BK173.out 2).trans rfl
   have hcz6_3 : w3.cell? ⟨gb173, 3, none⟩ = some (.bool a0_3) := (blk_cell BK173.out 3).trans rfl
   have hcz6_4 : w3.cell? ⟨gb173, 4, none⟩ = some (.int .i64 a0_4) := (blk_cell BK173.out 4).trans rfl
   have hcz6_5 : w3.cell? ⟨gb173, 5, none⟩ = some (.string a0_5) := (blk_cell BK173.out 5).trans rfl
   have hfz6_0 := blk_frozen BK173.out 0
   have hfz6_1 := blk_frozen BK173.out 1
   have hfz6_2 := blk_frozen BK173.out 2
   have hfz6_3 := blk_frozen BK173.out 3
   have hfz6_4 := blk_frozen BK173.out 4
   have hfz6_5 := blk_frozen BK173.out 5
   go_wp2
   go_meet
   case rel => exact ⟨_, (decide (a0_0 > 3)), (by first | rfl | (simp; done) | (simp [*]; done)), H', ⟨by first | omega | exact Nat.le_refl _⟩, ⟨by (with_reducible repeat (first | refine blk_drewN ?_ _ | refine blk_drew ?_ | refine blk_alloc ?_ _)); exact BK173.out⟩, ⟨by repeat (first | (with_reducible first | exact HB.out | apply below_alloc | apply pw_below_drewN | apply below_drew1 | refine below_set ?_ GE173.out) | exact HB.out)⟩⟩
 case rest =>
  clear HC2
  try clear c1
  try clear p2
  try clear c4
  try clear c4b0
  try clear hcz5_0
  try clear hcz5_1
  try clear hcz5_2
  try clear hcz5_3
  try clear hcz5_4
  try clear hcz5_5
  try clear hcz6_0
  try clear hcz6_1
  try clear hcz6_2
  try clear hcz6_3
  try clear hcz6_4
  try clear hcz6_5
  try clear hfz5_0
  try clear hfz5_1
  try clear hfz5_2
  try clear hfz5_3
  try clear hfz5_4
  try clear hfz5_5
  try clear hfz6_0
  try clear hfz6_1
  try clear hfz6_2
  try clear hfz6_3
  try clear hfz6_4
  try clear hfz6_5
  obtain ⟨kq, x10_1, rfl, HA, HJ1, BK173, HB⟩ := hcut
  cases kq with
  | zero => exact absurd HA.out (by simp [plenumref49_Check.j0])
  | succ kj1 =>
   have H := HA.out
   clear HA
   simp only [plenumref49_Check.j0] at H
   by_cases c7 : x10_1 = true
   ·subst c7
    have H1 : (some 3) = some r := by rw [if_pos rfl] at H; exact H
    clear H
    have H := H1
    clear H1
    obtain rfl := Option.some.inj H
    go_wp2
    go_ret
    exact ⟨by first | rfl | (simp [errW_none, errW_some] <;> rfl) | (simp [*, errW_none, errW_some] <;> rfl), by repeat (first | (with_reducible first | exact HB.out | apply below_alloc | apply pw_below_drewN | apply below_drew1 | refine below_set ?_ GE173.out) | exact HB.out)⟩
   ·replace c7 := Bool.eq_false_iff.mpr c7
    subst c7
    have H1 : (if a0_1 < 0 then (plenumref49_Check.j1 kj1 true a0_0 a0_1 a0_2 a0_3 a0_4 a0_5) else (plenumref49_Check.j1 kj1 (decide (a0_1 > 255)) a0_0 a0_1 a0_2 a0_3 a0_4 a0_5)) = some r := by rw [if_neg (show ¬ (false = true) by decide)] at H; exact H
    clear H
    have H := H1
    clear H1
    have HC8 := Aside0.mk H
    clear H
    go_upto_region 3 with (fail)
    go_cut [18] (fun v18 wc => ∃ (kq : Nat) (x18_7 : Bool), v18 = .bool x18_7 ∧ Aside0 (plenumref49_Check.j1 kq x18_7 a0_0 a0_1 a0_2 a0_3 a0_4 a0_5 = some r) ∧ Aside0 (kq ≤ kj1) ∧ Aside0 (wc.heap[gb173]? = some (.cells #[.int .i64 a0_0, .int .i64 a0_1, .int .i64 a0_2, .bool a0_3, .int .i64 a0_4, .string a0_5] 27 (0, 0))) ∧ Aside0 (Below w.heap.size w wc))
    case first =>
     have H := HC8.out
     clear HC8
     by_cases c9 : a0_1 < 0
     ·rw [if_pos c9] at H
      have c9b0 : decide (a0_1 < 0) = true := decide_eq_true c9
      clear c9
      (first | rw [c9b0] | (simp only [i64_w, i32_w]; rw [c9b0]) | skip)
      have H' := Aside0.mk H
      clear H
      have hcz10_0 : wc.cell? ⟨gb173, 0, none⟩ = some (.int .i64 a0_0) := (blk_cell BK173.out 0).trans rfl
      have hcz10_1 : wc.cell? ⟨gb173, 1, none⟩ = some (.int .i64 a0_1) := (blk_cell BK173.out 1).trans rfl
      have hcz10_2 : wc.cell? ⟨gb173, 2, none⟩ = some (.int .i64 a0_2) := (blk_cell BK173.out 2).trans rfl
      have hcz10_3 : wc.cell? ⟨gb173, 3, none⟩ = some (.bool a0_3) := (blk_cell BK173.out 3).trans rfl
      have hcz10_4 : wc.cell? ⟨gb173, 4, none⟩ = some (.int .i64 a0_4) := (blk_cell BK173.out 4).trans rfl
      have hcz10_5 : wc.cell? ⟨gb173, 5, none⟩ = some (.string a0_5) := (blk_cell BK173.out 5).trans rfl
      have hfz10_0 := blk_frozen BK173.out 0
      have hfz10_1 := blk_frozen BK173.out 1
      have hfz10_2 := blk_frozen BK173.out 2
      have hfz10_3 := blk_frozen BK173.out 3
      have hfz10_4 := blk_frozen BK173.out 4
      have hfz10_5 := blk_frozen BK173.out 5
      go_wp2
      go_meet
      case rel => exact ⟨_, (true), (by first | rfl | (simp; done) | (simp [*]; done)), H', ⟨by have := HJ1.out; first | omega | exact Nat.le_refl _⟩, ⟨by (with_reducible repeat (first | refine blk_drewN ?_ _ | refine blk_drew ?_ | refine blk_alloc ?_ _)); exact BK173.out⟩, ⟨by repeat (first | (with_reducible first | exact HB.out | apply below_alloc | apply pw_below_drewN | apply below_drew1 | refine below_set ?_ GE173.out) | exact HB.out)⟩⟩
     ·rw [if_neg c9] at H
      have c9b0 : decide (a0_1 < 0) = false := decide_eq_false c9
      clear c9
      (first | rw [c9b0] | (simp only [i64_w, i32_w]; rw [c9b0]) | skip)
      have H' := Aside0.mk H
      clear H
      have hcz11_0 : wc.cell? ⟨gb173, 0, none⟩ = some (.int .i64 a0_0) := (blk_cell BK173.out 0).trans rfl
      have hcz11_1 : wc.cell? ⟨gb173, 1, none⟩ = some (.int .i64 a0_1) := (blk_cell BK173.out 1).trans rfl
      have hcz11_2 : wc.cell? ⟨gb173, 2, none⟩ = some (.int .i64 a0_2) := (blk_cell BK173.out 2).trans rfl
      have hcz11_3 : wc.cell? ⟨gb173, 3, none⟩ = some (.bool a0_3) := (blk_cell BK173.out 3).trans rfl
      have hcz11_4 : wc.cell? ⟨gb173, 4, none⟩ = some (.int .i64 a0_4) := (blk_cell BK173.out 4).trans rfl
      have hcz11_5 : wc.cell? ⟨gb173, 5, none⟩ = some (.string a0_5) := (blk_cell BK173.out 5).trans rfl
      have hfz11_0 := blk_frozen BK173.out 0
      have hfz11_1 := blk_frozen BK173.out 1
      have hfz11_2 := blk_frozen BK173.out 2
      have hfz11_3 := blk_frozen BK173.out 3
      have hfz11_4 := blk_frozen BK173.out 4
      have hfz11_5 := blk_frozen BK173.out 5
      go_wp2
      go_meet
      case rel => exact ⟨_, (decide (a0_1 > 255)), (by first | rfl | (simp; done) | (simp [*]; done)), H', ⟨by have := HJ1.out; first | omega | exact Nat.le_refl _⟩, ⟨by (with_reducible repeat (first | refine blk_drewN ?_ _ | refine blk_drew ?_ | refine blk_alloc ?_ _)); exact BK173.out⟩, ⟨by repeat (first | (with_reducible first | exact HB.out | apply below_alloc | apply pw_below_drewN | apply below_drew1 | refine below_set ?_ GE173.out) | exact HB.out)⟩⟩
    case rest =>
     clear HC8
     try clear c1
     try clear p2
     try clear c4
     try clear c4b0
     try clear c7
     try clear c9
     try clear c9b0
     try clear c11
     try clear hcz10_0
     try clear hcz10_1
     try clear hcz10_2
     try clear hcz10_3
     try clear hcz10_4
     try clear hcz10_5
     try clear hcz11_0
     try clear hcz11_1
     try clear hcz11_2
     try clear hcz11_3
     try clear hcz11_4
     try clear hcz11_5
     try clear hcz5_0
     try clear hcz5_1
     try clear hcz5_2
     try clear hcz5_3
     try clear hcz5_4
     try clear hcz5_5
     try clear hcz6_0
     try clear hcz6_1
     try clear hcz6_2
     try clear hcz6_3
     try clear hcz6_4
     try clear hcz6_5
     try clear hfz10_0
     try clear hfz10_1
     try clear hfz10_2
     try clear hfz10_3
     try clear hfz10_4
     try clear hfz10_5
     try clear hfz11_0
     try clear hfz11_1
     try clear hfz11_2
     try clear hfz11_3
     try clear hfz11_4
     try clear hfz11_5
     try clear hfz5_0
     try clear hfz5_1
     try clear hfz5_2
     try clear hfz5_3
     try clear hfz5_4
     try clear hfz5_5
     try clear hfz6_0
     try clear hfz6_1
     try clear hfz6_2
     try clear hfz6_3
     try clear hfz6_4
     try clear hfz6_5
     try clear p2
     obtain ⟨kq, x18_7, rfl, HA, HJ7, BK173, HB⟩ := hcut
     cases kq with
     | zero => exact absurd HA.out (by simp [plenumref49_Check.j1])
     | succ kj7 =>
      have H := HA.out
      clear HA
      simp only [plenumref49_Check.j1] at H
      by_cases c12 : x18_7 = true
      ·subst c12
       have H1 : (some 6) = some r := by rw [if_pos rfl] at H; exact H
       clear H
       have H := H1
       clear H1
       obtain rfl := Option.some.inj H
       go_wp2
       go_ret
       exact ⟨by first | rfl | (simp [errW_none, errW_some] <;> rfl) | (simp [*, errW_none, errW_some] <;> rfl), by repeat (first | (with_reducible first | exact HB.out | apply below_alloc | apply pw_below_drewN | apply below_drew1 | refine below_set ?_ GE173.out) | exact HB.out)⟩
      ·replace c12 := Bool.eq_false_iff.mpr c12
       subst c12
       have H1 : (if a0_0 = 1 then (if a0_2 < 0 then (plenumref49_Check.j2 kj7 true a0_0 a0_1 a0_2 a0_3 a0_4 a0_5) else (if a0_2 ≥ 64 then (plenumref49_Check.j2 kj7 true a0_0 a0_1 a0_2 a0_3 a0_4 a0_5) else (if a0_4 < 1 then (plenumref49_Check.j2 kj7 true a0_0 a0_1 a0_2 a0_3 a0_4 a0_5) else (plenumref49_Check.j2 kj7 (decide (a0_4 > 16)) a0_0 a0_1 a0_2 a0_3 a0_4 a0_5)))) else (if a0_0 = 2 then (if a0_2 < (-1) then (plenumref49_Check.j3 kj7 true a0_0 a0_1 a0_2 a0_3 a0_4 a0_5) else (if a0_2 ≥ 64 then (plenumref49_Check.j3 kj7 true a0_0 a0_1 a0_2 a0_3 a0_4 a0_5) else (plenumref49_Check.j3 kj7 (a0_4 != 0) a0_0 a0_1 a0_2 a0_3 a0_4 a0_5))) else (if a0_2 = 0 then (plenumref49_Check.j4 kj7 (a0_4 != 0) a0_0 a0_1 a0_2 a0_3 a0_4 a0_5) else (plenumref49_Check.j4 kj7 true a0_0 a0_1 a0_2 a0_3 a0_4 a0_5)))) = some r := by rw [if_neg (show ¬ (false = true) by decide)] at H; exact H
       clear H
       have H := H1
       clear H1
       by_cases c13 : a0_0 = 1
       ·rw [if_pos c13] at H
        have c13b0 : (a0_0 == 1) = true := beq_iff_eq.mpr c13
        have c13b1 : (a0_0 != 1) = false := bne_eq_false_iff_eq.mpr c13
        clear c13
        have HC14 := Aside0.mk H
        clear H
        have hcz15_0 : wc.cell? ⟨gb173, 0, none⟩ = some (.int .i64 a0_0) := (blk_cell BK173.out 0).trans rfl
        have hcz15_1 : wc.cell? ⟨gb173, 1, none⟩ = some (.int .i64 a0_1) := (blk_cell BK173.out 1).trans rfl
        have hcz15_2 : wc.cell? ⟨gb173, 2, none⟩ = some (.int .i64 a0_2) := (blk_cell BK173.out 2).trans rfl
        have hcz15_3 : wc.cell? ⟨gb173, 3, none⟩ = some (.bool a0_3) := (blk_cell BK173.out 3).trans rfl
        have hcz15_4 : wc.cell? ⟨gb173, 4, none⟩ = some (.int .i64 a0_4) := (blk_cell BK173.out 4).trans rfl
        have hcz15_5 : wc.cell? ⟨gb173, 5, none⟩ = some (.string a0_5) := (blk_cell BK173.out 5).trans rfl
        have hfz15_0 := blk_frozen BK173.out 0
        have hfz15_1 := blk_frozen BK173.out 1
        have hfz15_2 := blk_frozen BK173.out 2
        have hfz15_3 := blk_frozen BK173.out 3
        have hfz15_4 := blk_frozen BK173.out 4
        have hfz15_5 := blk_frozen BK173.out 5
        go_upto_region 9 with (fail)
        go_cut [48] (fun v48 wc => ∃ (kq : Nat) (x48_13 : Bool), v48 = .bool x48_13 ∧ Aside0 (plenumref49_Check.j2 kq x48_13 a0_0 a0_1 a0_2 a0_3 a0_4 a0_5 = some r) ∧ Aside0 (kq ≤ kj7) ∧ Aside0 (wc.heap[gb173]? = some (.cells #[.int .i64 a0_0, .int .i64 a0_1, .int .i64 a0_2, .bool a0_3, .int .i64 a0_4, .string a0_5] 27 (0, 0))) ∧ Aside0 (Below w.heap.size w wc))
        case first =>
         have H := HC14.out
         clear HC14
         by_cases c16 : a0_2 < 0
         ·rw [if_pos c16] at H
          have c16b0 : decide (a0_2 < 0) = true := decide_eq_true c16
          clear c16
          (first | rw [c16b0] | (simp only [i64_w, i32_w]; rw [c16b0]) | skip)
          have H' := Aside0.mk H
          clear H
          have hcz17_0 : wc.cell? ⟨gb173, 0, none⟩ = some (.int .i64 a0_0) := (blk_cell BK173.out 0).trans rfl
          have hcz17_1 : wc.cell? ⟨gb173, 1, none⟩ = some (.int .i64 a0_1) := (blk_cell BK173.out 1).trans rfl
          have hcz17_2 : wc.cell? ⟨gb173, 2, none⟩ = some (.int .i64 a0_2) := (blk_cell BK173.out 2).trans rfl
          have hcz17_3 : wc.cell? ⟨gb173, 3, none⟩ = some (.bool a0_3) := (blk_cell BK173.out 3).trans rfl
          have hcz17_4 : wc.cell? ⟨gb173, 4, none⟩ = some (.int .i64 a0_4) := (blk_cell BK173.out 4).trans rfl
          have hcz17_5 : wc.cell? ⟨gb173, 5, none⟩ = some (.string a0_5) := (blk_cell BK173.out 5).trans rfl
          have hfz17_0 := blk_frozen BK173.out 0
          have hfz17_1 := blk_frozen BK173.out 1
          have hfz17_2 := blk_frozen BK173.out 2
          have hfz17_3 := blk_frozen BK173.out 3
          have hfz17_4 := blk_frozen BK173.out 4
          have hfz17_5 := blk_frozen BK173.out 5
          go_wp2
          go_meet
          case rel => exact ⟨_, (true), (by first | rfl | (simp; done) | (simp [*]; done)), H', ⟨by have := HJ1.out; have := HJ7.out; first | omega | exact Nat.le_refl _⟩, ⟨by (with_reducible repeat (first | refine blk_drewN ?_ _ | refine blk_drew ?_ | refine blk_alloc ?_ _)); exact BK173.out⟩, ⟨by repeat (first | (with_reducible first | exact HB.out | apply below_alloc | apply pw_below_drewN | apply below_drew1 | refine below_set ?_ GE173.out) | exact HB.out)⟩⟩
         ·rw [if_neg c16] at H
          have c16b0 : decide (a0_2 < 0) = false := decide_eq_false c16
          clear c16
          (first | rw [c16b0] | (simp only [i64_w, i32_w]; rw [c16b0]) | skip)
          by_cases c18 : a0_2 ≥ 64
          ·rw [if_pos c18] at H
           have c18b0 : decide (64 ≤ a0_2) = true := decide_eq_true c18
           clear c18
           have H' := Aside0.mk H
           clear H
           have hcz19_0 : wc.cell? ⟨gb173, 0, none⟩ = some (.int .i64 a0_0) := (blk_cell BK173.out 0).trans rfl
           have hcz19_1 : wc.cell? ⟨gb173, 1, none⟩ = some (.int .i64 a0_1) := (blk_cell BK173.out 1).trans rfl
           have hcz19_2 : wc.cell? ⟨gb173, 2, none⟩ = some (.int .i64 a0_2) := (blk_cell BK173.out 2).trans rfl
           have hcz19_3 : wc.cell? ⟨gb173, 3, none⟩ = some (.bool a0_3) := (blk_cell BK173.out 3).trans rfl
           have hcz19_4 : wc.cell? ⟨gb173, 4, none⟩ = some (.int .i64 a0_4) := (blk_cell BK173.out 4).trans rfl
           have hcz19_5 : wc.cell? ⟨gb173, 5, none⟩ = some (.string a0_5) := (blk_cell BK173.out 5).trans rfl
           have hfz19_0 := blk_frozen BK173.out 0
           have hfz19_1 := blk_frozen BK173.out 1
           have hfz19_2 := blk_frozen BK173.out 2
           have hfz19_3 := blk_frozen BK173.out 3
           have hfz19_4 := blk_frozen BK173.out 4
           have hfz19_5 := blk_frozen BK173.out 5
           go_wp2
           go_meet
           case rel => exact ⟨_, (true), (by first | rfl | (simp; done) | (simp [*]; done)), H', ⟨by have := HJ1.out; have := HJ7.out; first | omega | exact Nat.le_refl _⟩, ⟨by (with_reducible repeat (first | refine blk_drewN ?_ _ | refine blk_drew ?_ | refine blk_alloc ?_ _)); exact BK173.out⟩, ⟨by repeat (first | (with_reducible first | exact HB.out | apply below_alloc | apply pw_below_drewN | apply below_drew1 | refine below_set ?_ GE173.out) | exact HB.out)⟩⟩
          ·rw [if_neg c18] at H
           have c18b0 : decide (64 ≤ a0_2) = false := decide_eq_false c18
           clear c18
           by_cases c20 : a0_4 < 1
           ·rw [if_pos c20] at H
            have c20b0 : decide (a0_4 < 1) = true := decide_eq_true c20
            clear c20
            have H' := Aside0.mk H
            clear H
            have hcz21_0 : wc.cell? ⟨gb173, 0, none⟩ = some (.int .i64 a0_0) := (blk_cell BK173.out 0).trans rfl
            have hcz21_1 : wc.cell? ⟨gb173, 1, none⟩ = some (.int .i64 a0_1) := (blk_cell BK173.out 1).trans rfl
            have hcz21_2 : wc.cell? ⟨gb173, 2, none⟩ = some (.int .i64 a0_2) := (blk_cell BK173.out 2).trans rfl
            have hcz21_3 : wc.cell? ⟨gb173, 3, none⟩ = some (.bool a0_3) := (blk_cell BK173.out 3).trans rfl
            have hcz21_4 : wc.cell? ⟨gb173, 4, none⟩ = some (.int .i64 a0_4) := (blk_cell BK173.out 4).trans rfl
            have hcz21_5 : wc.cell? ⟨gb173, 5, none⟩ = some (.string a0_5) := (blk_cell BK173.out 5).trans rfl
            have hfz21_0 := blk_frozen BK173.out 0
            have hfz21_1 := blk_frozen BK173.out 1
            have hfz21_2 := blk_frozen BK173.out 2
            have hfz21_3 := blk_frozen BK173.out 3
            have hfz21_4 := blk_frozen BK173.out 4
            have hfz21_5 := blk_frozen BK173.out 5
            go_wp2
            go_meet
            case rel => exact ⟨_, (true), (by first | rfl | (simp; done) | (simp [*]; done)), H', ⟨by have := HJ1.out; have := HJ7.out; first | omega | exact Nat.le_refl _⟩, ⟨by (with_reducible repeat (first | refine blk_drewN ?_ _ | refine blk_drew ?_ | refine blk_alloc ?_ _)); exact BK173.out⟩, ⟨by repeat (first | (with_reducible first | exact HB.out | apply below_alloc | apply pw_below_drewN | apply below_drew1 | refine below_set ?_ GE173.out) | exact HB.out)⟩⟩
           ·rw [if_neg c20] at H
            have c20b0 : decide (a0_4 < 1) = false := decide_eq_false c20
            clear c20
            have H' := Aside0.mk H
            clear H
            have hcz22_0 : wc.cell? ⟨gb173, 0, none⟩ = some (.int .i64 a0_0) := (blk_cell BK173.out 0).trans rfl
            have hcz22_1 : wc.cell? ⟨gb173, 1, none⟩ = some (.int .i64 a0_1) := (blk_cell BK173.out 1).trans rfl
            have hcz22_2 : wc.cell? ⟨gb173, 2, none⟩ = some (.int .i64 a0_2) := (blk_cell BK173.out 2).trans rfl
            have hcz22_3 : wc.cell? ⟨gb173, 3, none⟩ = some (.bool a0_3) := (blk_cell BK173.out 3).trans rfl
            have hcz22_4 : wc.cell? ⟨gb173, 4, none⟩ = some (.int .i64 a0_4) := (blk_cell BK173.out 4).trans rfl
            have hcz22_5 : wc.cell? ⟨gb173, 5, none⟩ = some (.string a0_5) := (blk_cell BK173.out 5).trans rfl
            have hfz22_0 := blk_frozen BK173.out 0
            have hfz22_1 := blk_frozen BK173.out 1
            have hfz22_2 := blk_frozen BK173.out 2
            have hfz22_3 := blk_frozen BK173.out 3
            have hfz22_4 := blk_frozen BK173.out 4
            have hfz22_5 := blk_frozen BK173.out 5
            go_wp2
            go_meet
            case rel => exact ⟨_, (decide (a0_4 > 16)), (by first | rfl | (simp; done) | (simp [*]; done)), H', ⟨by have := HJ1.out; have := HJ7.out; first | omega | exact Nat.le_refl _⟩, ⟨by (with_reducible repeat (first | refine blk_drewN ?_ _ | refine blk_drew ?_ | refine blk_alloc ?_ _)); exact BK173.out⟩, ⟨by repeat (first | (with_reducible first | exact HB.out | apply below_alloc | apply pw_below_drewN | apply below_drew1 | refine below_set ?_ GE173.out) | exact HB.out)⟩⟩
        case rest =>
         clear HC14
         try clear c1
         try clear c2
         try clear p2
         try clear c4
         try clear c4b0
         try clear c7
         try clear c9
         try clear c9b0
         try clear c11
         try clear c12
         try clear c13
         try clear c13b0
         try clear c13b1
         try clear c16
         try clear c16b0
         try clear c18
         try clear c18b0
         try clear c20
         try clear c20b0
         try clear hcz10_0
         try clear hcz10_1
         try clear hcz10_2
         try clear hcz10_3
         try clear hcz10_4
         try clear hcz10_5
         try clear hcz11_0
         try clear hcz11_1
         try clear hcz11_2
         try clear hcz11_3
         try clear hcz11_4
         try clear hcz11_5
         try clear hcz15_0
         try clear hcz15_1
         try clear hcz15_2
         try clear hcz15_3
         try clear hcz15_4
         try clear hcz15_5
         try clear hcz17_0
         try clear hcz17_1
         try clear hcz17_2
         try clear hcz17_3
         try clear hcz17_4
         try clear hcz17_5
         try clear hcz19_0
         try clear hcz19_1
         try clear hcz19_2
         try clear hcz19_3
         try clear hcz19_4
         try clear hcz19_5
         try clear hcz21_0
         try clear hcz21_1
         try clear hcz21_2
         try clear hcz21_3
         try clear hcz21_4
         try clear hcz21_5
         try clear hcz22_0
         try clear hcz22_1
         try clear hcz22_2
         try clear hcz22_3
         try clear hcz22_4
         try clear hcz22_5
         try clear hcz5_0
         try clear hcz5_1
         try clear hcz5_2
         try clear hcz5_3
         try clear hcz5_4
         try clear hcz5_5
         try clear hcz6_0
         try clear hcz6_1
         try clear hcz6_2
         try clear hcz6_3
         try clear hcz6_4
         try clear hcz6_5
         try clear hfz10_0
         try clear hfz10_1
         try clear hfz10_2
         try clear hfz10_3
         try clear hfz10_4
         try clear hfz10_5
         try clear hfz11_0
         try clear hfz11_1
         try clear hfz11_2
         try clear hfz11_3
         try clear hfz11_4
         try clear hfz11_5
         try clear hfz15_0
         try clear hfz15_1
         try clear hfz15_2
         try clear hfz15_3
         try clear hfz15_4
         try clear hfz15_5
         try clear hfz17_0
         try clear hfz17_1
         try clear hfz17_2
         try clear hfz17_3
         try clear hfz17_4
         try clear hfz17_5
         try clear hfz19_0
         try clear hfz19_1
         try clear hfz19_2
         try clear hfz19_3
         try clear hfz19_4
         try clear hfz19_5
         try clear hfz21_0
         try clear hfz21_1
         try clear hfz21_2
         try clear hfz21_3
         try clear hfz21_4
         try clear hfz21_5
         try clear hfz22_0
         try clear hfz22_1
         try clear hfz22_2
         try clear hfz22_3
         try clear hfz22_4
         try clear hfz22_5
         try clear hfz5_0
         try clear hfz5_1
         try clear hfz5_2
         try clear hfz5_3
         try clear hfz5_4
         try clear hfz5_5
         try clear hfz6_0
         try clear hfz6_1
         try clear hfz6_2
         try clear hfz6_3
         try clear hfz6_4
         try clear hfz6_5
         try clear p2
         obtain ⟨kq, x48_13, rfl, HA, HJ13, BK173, HB⟩ := hcut
         cases kq with
         | zero => exact absurd HA.out (by simp [plenumref49_Check.j2])
         | succ kj13 =>
          have H := HA.out
          clear HA
          simp only [plenumref49_Check.j2] at H
          by_cases c23 : x48_13 = true
          ·subst c23
           have H1 : (some 6) = some r := by rw [if_pos rfl] at H; exact H
           clear H
           have H := H1
           clear H1
           obtain rfl := Option.some.inj H
           go_wp2
           go_ret
           exact ⟨by first | rfl | (simp [errW_none, errW_some] <;> rfl) | (simp [*, errW_none, errW_some] <;> rfl), by repeat (first | (with_reducible first | exact HB.out | apply below_alloc | apply pw_below_drewN | apply below_drew1 | refine below_set ?_ GE173.out) | exact HB.out)⟩
          ·replace c23 := Bool.eq_false_iff.mpr c23
           subst c23
           have H1 : (if (a0_5.size : Int) > 400 then (some 7) else (some 0)) = some r := by rw [if_neg (show ¬ (false = true) by decide)] at H; exact H
           clear H
           have H := H1
           clear H1
           by_cases c24 : (a0_5.size : Int) > 400
           ·rw [if_pos c24] at H
            have c24b0 : decide (400 < (a0_5.size : Int)) = true := decide_eq_true c24
            have c24b1 : decide (400 < a0_5.size) = true := decide_eq_true (by omega)
            clear c24
            obtain rfl := Option.some.inj H
            have hcz25_0 : wc.cell? ⟨gb173, 0, none⟩ = some (.int .i64 a0_0) := (blk_cell BK173.out 0).trans rfl
            have hcz25_1 : wc.cell? ⟨gb173, 1, none⟩ = some (.int .i64 a0_1) := (blk_cell BK173.out 1).trans rfl
            have hcz25_2 : wc.cell? ⟨gb173, 2, none⟩ = some (.int .i64 a0_2) := (blk_cell BK173.out 2).trans rfl
            have hcz25_3 : wc.cell? ⟨gb173, 3, none⟩ = some (.bool a0_3) := (blk_cell BK173.out 3).trans rfl
            have hcz25_4 : wc.cell? ⟨gb173, 4, none⟩ = some (.int .i64 a0_4) := (blk_cell BK173.out 4).trans rfl
            have hcz25_5 : wc.cell? ⟨gb173, 5, none⟩ = some (.string a0_5) := (blk_cell BK173.out 5).trans rfl
            have hfz25_0 := blk_frozen BK173.out 0
            have hfz25_1 := blk_frozen BK173.out 1
            have hfz25_2 := blk_frozen BK173.out 2
            have hfz25_3 := blk_frozen BK173.out 3
            have hfz25_4 := blk_frozen BK173.out 4
            have hfz25_5 := blk_frozen BK173.out 5
            go_wp2
            go_ret
            exact ⟨by first | rfl | (simp [errW_none, errW_some] <;> rfl) | (simp [*, errW_none, errW_some] <;> rfl), by repeat (first | (with_reducible first | exact HB.out | apply below_alloc | apply pw_below_drewN | apply below_drew1 | refine below_set ?_ GE173.out) | exact HB.out)⟩
           ·rw [if_neg c24] at H
            have c24b0 : decide (400 < (a0_5.size : Int)) = false := decide_eq_false c24
            have c24b1 : decide (400 < a0_5.size) = false := decide_eq_false (by omega)
            clear c24
            obtain rfl := Option.some.inj H
            have hcz26_0 : wc.cell? ⟨gb173, 0, none⟩ = some (.int .i64 a0_0) := (blk_cell BK173.out 0).trans rfl
            have hcz26_1 : wc.cell? ⟨gb173, 1, none⟩ = some (.int .i64 a0_1) := (blk_cell BK173.out 1).trans rfl
            have hcz26_2 : wc.cell? ⟨gb173, 2, none⟩ = some (.int .i64 a0_2) := (blk_cell BK173.out 2).trans rfl
            have hcz26_3 : wc.cell? ⟨gb173, 3, none⟩ = some (.bool a0_3) := (blk_cell BK173.out 3).trans rfl
            have hcz26_4 : wc.cell? ⟨gb173, 4, none⟩ = some (.int .i64 a0_4) := (blk_cell BK173.out 4).trans rfl
            have hcz26_5 : wc.cell? ⟨gb173, 5, none⟩ = some (.string a0_5) := (blk_cell BK173.out 5).trans rfl
            have hfz26_0 := blk_frozen BK173.out 0
            have hfz26_1 := blk_frozen BK173.out 1
            have hfz26_2 := blk_frozen BK173.out 2
            have hfz26_3 := blk_frozen BK173.out 3
            have hfz26_4 := blk_frozen BK173.out 4
            have hfz26_5 := blk_frozen BK173.out 5
            go_wp2
            go_ret
            exact ⟨by first | rfl | (simp [errW_none, errW_some] <;> rfl) | (simp [*, errW_none, errW_some] <;> rfl), by repeat (first | (with_reducible first | exact HB.out | apply below_alloc | apply pw_below_drewN | apply below_drew1 | refine below_set ?_ GE173.out) | exact HB.out)⟩
       ·rw [if_neg c13] at H
        have c13b0 : (a0_0 == 1) = false := beq_eq_false_iff_ne.mpr c13
        have c13b1 : (a0_0 != 1) = true := bne_iff_ne.mpr c13
        by_cases c27 : a0_0 = 2
        ·rw [if_pos c27] at H
         have c27b0 : (a0_0 == 2) = true := beq_iff_eq.mpr c27
         have c27b1 : (a0_0 != 2) = false := bne_eq_false_iff_eq.mpr c27
         clear c27
         have HC28 := Aside0.mk H
         clear H
         have hcz29_0 : wc.cell? ⟨gb173, 0, none⟩ = some (.int .i64 a0_0) := (blk_cell BK173.out 0).trans rfl
         have hcz29_1 : wc.cell? ⟨gb173, 1, none⟩ = some (.int .i64 a0_1) := (blk_cell BK173.out 1).trans rfl
         have hcz29_2 : wc.cell? ⟨gb173, 2, none⟩ = some (.int .i64 a0_2) := (blk_cell BK173.out 2).trans rfl
         have hcz29_3 : wc.cell? ⟨gb173, 3, none⟩ = some (.bool a0_3) := (blk_cell BK173.out 3).trans rfl
         have hcz29_4 : wc.cell? ⟨gb173, 4, none⟩ = some (.int .i64 a0_4) := (blk_cell BK173.out 4).trans rfl
         have hcz29_5 : wc.cell? ⟨gb173, 5, none⟩ = some (.string a0_5) := (blk_cell BK173.out 5).trans rfl
         have hfz29_0 := blk_frozen BK173.out 0
         have hfz29_1 := blk_frozen BK173.out 1
         have hfz29_2 := blk_frozen BK173.out 2
         have hfz29_3 := blk_frozen BK173.out 3
         have hfz29_4 := blk_frozen BK173.out 4
         have hfz29_5 := blk_frozen BK173.out 5
         go_upto_region 15 with (fail)
         go_cut [67] (fun v67 wc => ∃ (kq : Nat) (x67_27 : Bool), v67 = .bool x67_27 ∧ Aside0 (plenumref49_Check.j3 kq x67_27 a0_0 a0_1 a0_2 a0_3 a0_4 a0_5 = some r) ∧ Aside0 (kq ≤ kj7) ∧ Aside0 (wc.heap[gb173]? = some (.cells #[.int .i64 a0_0, .int .i64 a0_1, .int .i64 a0_2, .bool a0_3, .int .i64 a0_4, .string a0_5] 27 (0, 0))) ∧ Aside0 (Below w.heap.size w wc))
         case first =>
          have H := HC28.out
          clear HC28
          by_cases c30 : a0_2 < (-1)
          ·rw [if_pos c30] at H
           have c30b0 : decide (a0_2 < (-1)) = true := decide_eq_true c30
           clear c30
           (first | rw [c30b0] | (simp only [i64_w, i32_w]; rw [c30b0]) | skip)
           have H' := Aside0.mk H
           clear H
           have hcz31_0 : wc.cell? ⟨gb173, 0, none⟩ = some (.int .i64 a0_0) := (blk_cell BK173.out 0).trans rfl
           have hcz31_1 : wc.cell? ⟨gb173, 1, none⟩ = some (.int .i64 a0_1) := (blk_cell BK173.out 1).trans rfl
           have hcz31_2 : wc.cell? ⟨gb173, 2, none⟩ = some (.int .i64 a0_2) := (blk_cell BK173.out 2).trans rfl
           have hcz31_3 : wc.cell? ⟨gb173, 3, none⟩ = some (.bool a0_3) := (blk_cell BK173.out 3).trans rfl
           have hcz31_4 : wc.cell? ⟨gb173, 4, none⟩ = some (.int .i64 a0_4) := (blk_cell BK173.out 4).trans rfl
           have hcz31_5 : wc.cell? ⟨gb173, 5, none⟩ = some (.string a0_5) := (blk_cell BK173.out 5).trans rfl
           have hfz31_0 := blk_frozen BK173.out 0
           have hfz31_1 := blk_frozen BK173.out 1
           have hfz31_2 := blk_frozen BK173.out 2
           have hfz31_3 := blk_frozen BK173.out 3
           have hfz31_4 := blk_frozen BK173.out 4
           have hfz31_5 := blk_frozen BK173.out 5
           go_wp2
           go_meet
           case rel => exact ⟨_, (true), (by first | rfl | (simp; done) | (simp [*]; done)), H', ⟨by have := HJ1.out; have := HJ7.out; first | omega | exact Nat.le_refl _⟩, ⟨by (with_reducible repeat (first | refine blk_drewN ?_ _ | refine blk_drew ?_ | refine blk_alloc ?_ _)); exact BK173.out⟩, ⟨by repeat (first | (with_reducible first | exact HB.out | apply below_alloc | apply pw_below_drewN | apply below_drew1 | refine below_set ?_ GE173.out) | exact HB.out)⟩⟩
          ·rw [if_neg c30] at H
           have c30b0 : decide (a0_2 < (-1)) = false := decide_eq_false c30
           clear c30
           (first | rw [c30b0] | (simp only [i64_w, i32_w]; rw [c30b0]) | skip)
           by_cases c32 : a0_2 ≥ 64
           ·rw [if_pos c32] at H
            have c32b0 : decide (64 ≤ a0_2) = true := decide_eq_true c32
            clear c32
            have H' := Aside0.mk H
            clear H
            have hcz33_0 : wc.cell? ⟨gb173, 0, none⟩ = some (.int .i64 a0_0) := (blk_cell BK173.out 0).trans rfl
            have hcz33_1 : wc.cell? ⟨gb173, 1, none⟩ = some (.int .i64 a0_1) := (blk_cell BK173.out 1).trans rfl
            have hcz33_2 : wc.cell? ⟨gb173, 2, none⟩ = some (.int .i64 a0_2) := (blk_cell BK173.out 2).trans rfl
            have hcz33_3 : wc.cell? ⟨gb173, 3, none⟩ = some (.bool a0_3) := (blk_cell BK173.out 3).trans rfl
            have hcz33_4 : wc.cell? ⟨gb173, 4, none⟩ = some (.int .i64 a0_4) := (blk_cell BK173.out 4).trans rfl
            have hcz33_5 : wc.cell? ⟨gb173, 5, none⟩ = some (.string a0_5) := (blk_cell BK173.out 5).trans rfl
            have hfz33_0 := blk_frozen BK173.out 0
            have hfz33_1 := blk_frozen BK173.out 1
            have hfz33_2 := blk_frozen BK173.out 2
            have hfz33_3 := blk_frozen BK173.out 3
            have hfz33_4 := blk_frozen BK173.out 4
            have hfz33_5 := blk_frozen BK173.out 5
            go_wp2
            go_meet
            case rel => exact ⟨_, (true), (by first | rfl | (simp; done) | (simp [*]; done)), H', ⟨by have := HJ1.out; have := HJ7.out; first | omega | exact Nat.le_refl _⟩, ⟨by (with_reducible repeat (first | refine blk_drewN ?_ _ | refine blk_drew ?_ | refine blk_alloc ?_ _)); exact BK173.out⟩, ⟨by repeat (first | (with_reducible first | exact HB.out | apply below_alloc | apply pw_below_drewN | apply below_drew1 | refine below_set ?_ GE173.out) | exact HB.out)⟩⟩
           ·rw [if_neg c32] at H
            have c32b0 : decide (64 ≤ a0_2) = false := decide_eq_false c32
            clear c32
            have H' := Aside0.mk H
            clear H
            have hcz34_0 : wc.cell? ⟨gb173, 0, none⟩ = some (.int .i64 a0_0) := (blk_cell BK173.out 0).trans rfl
            have hcz34_1 : wc.cell? ⟨gb173, 1, none⟩ = some (.int .i64 a0_1) := (blk_cell BK173.out 1).trans rfl
            have hcz34_2 : wc.cell? ⟨gb173, 2, none⟩ = some (.int .i64 a0_2) := (blk_cell BK173.out 2).trans rfl
            have hcz34_3 : wc.cell? ⟨gb173, 3, none⟩ = some (.bool a0_3) := (blk_cell BK173.out 3).trans rfl
            have hcz34_4 : wc.cell? ⟨gb173, 4, none⟩ = some (.int .i64 a0_4) := (blk_cell BK173.out 4).trans rfl
            have hcz34_5 : wc.cell? ⟨gb173, 5, none⟩ = some (.string a0_5) := (blk_cell BK173.out 5).trans rfl
            have hfz34_0 := blk_frozen BK173.out 0
            have hfz34_1 := blk_frozen BK173.out 1
            have hfz34_2 := blk_frozen BK173.out 2
            have hfz34_3 := blk_frozen BK173.out 3
            have hfz34_4 := blk_frozen BK173.out 4
            have hfz34_5 := blk_frozen BK173.out 5
            go_wp2
            go_meet
            case rel => exact ⟨_, ((a0_4 != 0)), (by first | rfl | (simp; done) | (simp [*]; done)), H', ⟨by have := HJ1.out; have := HJ7.out; first | omega | exact Nat.le_refl _⟩, ⟨by (with_reducible repeat (first | refine blk_drewN ?_ _ | refine blk_drew ?_ | refine blk_alloc ?_ _)); exact BK173.out⟩, ⟨by repeat (first | (with_reducible first | exact HB.out | apply below_alloc | apply pw_below_drewN | apply below_drew1 | refine below_set ?_ GE173.out) | exact HB.out)⟩⟩
         case rest =>
          clear HC28
          try clear c1
          try clear c2
          try clear p2
          try clear c3
          try clear c4
          try clear c4b0
          try clear c7
          try clear c9
          try clear c9b0
          try clear c11
          try clear c12
          try clear c13
          try clear c13b0
          try clear c13b1
          try clear c16
          try clear c16b0
          try clear c18
          try clear c18b0
          try clear c20
          try clear c20b0
          try clear c23
          try clear c24
          try clear c24b0
          try clear c24b1
          try clear c27
          try clear c27b0
          try clear c27b1
          try clear c30
          try clear c30b0
          try clear c32
          try clear c32b0
          try clear hcz10_0
          try clear hcz10_1
          try clear hcz10_2
          try clear hcz10_3
          try clear hcz10_4
          try clear hcz10_5
          try clear hcz11_0
          try clear hcz11_1
          try clear hcz11_2
          try clear hcz11_3
          try clear hcz11_4
          try clear hcz11_5
          try clear hcz15_0
          try clear hcz15_1
          try clear hcz15_2
          try clear hcz15_3
          try clear hcz15_4
          try clear hcz15_5
          try clear hcz17_0
          try clear hcz17_1
          try clear hcz17_2
          try clear hcz17_3
          try clear hcz17_4
          try clear hcz17_5
          try clear hcz19_0
          try clear hcz19_1
          try clear hcz19_2
          try clear hcz19_3
          try clear hcz19_4
          try clear hcz19_5
          try clear hcz21_0
          try clear hcz21_1
          try clear hcz21_2
          try clear hcz21_3
          try clear hcz21_4
          try clear hcz21_5
          try clear hcz22_0
          try clear hcz22_1
          try clear hcz22_2
          try clear hcz22_3
          try clear hcz22_4
          try clear hcz22_5
          try clear hcz25_0
          try clear hcz25_1
          try clear hcz25_2
          try clear hcz25_3
          try clear hcz25_4
          try clear hcz25_5
          try clear hcz26_0
          try clear hcz26_1
          try clear hcz26_2
          try clear hcz26_3
          try clear hcz26_4
          try clear hcz26_5
          try clear hcz29_0
          try clear hcz29_1
          try clear hcz29_2
          try clear hcz29_3
          try clear hcz29_4
          try clear hcz29_5
          try clear hcz31_0
          try clear hcz31_1
          try clear hcz31_2
          try clear hcz31_3
          try clear hcz31_4
          try clear hcz31_5
          try clear hcz33_0
          try clear hcz33_1
          try clear hcz33_2
          try clear hcz33_3
          try clear hcz33_4
          try clear hcz33_5
          try clear hcz34_0
          try clear hcz34_1
          try clear hcz34_2
          try clear hcz34_3
          try clear hcz34_4
          try clear hcz34_5
          try clear hcz5_0
          try clear hcz5_1
          try clear hcz5_2
          try clear hcz5_3
          try clear hcz5_4
          try clear hcz5_5
          try clear hcz6_0
          try clear hcz6_1
          try clear hcz6_2
          try clear hcz6_3
          try clear hcz6_4
          try clear hcz6_5
          try clear hfz10_0
          try clear hfz10_1
          try clear hfz10_2
          try clear hfz10_3
          try clear hfz10_4
          try clear hfz10_5
          try clear hfz11_0
          try clear hfz11_1
          try clear hfz11_2
          try clear hfz11_3
          try clear hfz11_4
          try clear hfz11_5
          try clear hfz15_0
          try clear hfz15_1
          try clear hfz15_2
          try clear hfz15_3
          try clear hfz15_4
          try clear hfz15_5
          try clear hfz17_0
          try clear hfz17_1
          try clear hfz17_2
          try clear hfz17_3
          try clear hfz17_4
          try clear hfz17_5
          try clear hfz19_0
          try clear hfz19_1
          try clear hfz19_2
          try clear hfz19_3
          try clear hfz19_4
          try clear hfz19_5
          try clear hfz21_0
          try clear hfz21_1
          try clear hfz21_2
          try clear hfz21_3
          try clear hfz21_4
          try clear hfz21_5
          try clear hfz22_0
          try clear hfz22_1
          try clear hfz22_2
          try clear hfz22_3
          try clear hfz22_4
          try clear hfz22_5
          try clear hfz25_0
          try clear hfz25_1
          try clear hfz25_2
          try clear hfz25_3
          try clear hfz25_4
          try clear hfz25_5
          try clear hfz26_0
          try clear hfz26_1
          try clear hfz26_2
          try clear hfz26_3
          try clear hfz26_4
          try clear hfz26_5
          try clear hfz29_0
          try clear hfz29_1
          try clear hfz29_2
          try clear hfz29_3
          try clear hfz29_4
          try clear hfz29_5
          try clear hfz31_0
          try clear hfz31_1
          try clear hfz31_2
          try clear hfz31_3
          try clear hfz31_4
          try clear hfz31_5
          try clear hfz33_0
          try clear hfz33_1
          try clear hfz33_2
          try clear hfz33_3
          try clear hfz33_4
          try clear hfz33_5
          try clear hfz34_0
          try clear hfz34_1
          try clear hfz34_2
          try clear hfz34_3
          try clear hfz34_4
          try clear hfz34_5
          try clear hfz5_0
          try clear hfz5_1
          try clear hfz5_2
          try clear hfz5_3
          try clear hfz5_4
          try clear hfz5_5
          try clear hfz6_0
          try clear hfz6_1
          try clear hfz6_2
          try clear hfz6_3
          try clear hfz6_4
          try clear hfz6_5
          try clear p2
          obtain ⟨kq, x67_27, rfl, HA, HJ27, BK173, HB⟩ := hcut
          cases kq with
          | zero => exact absurd HA.out (by simp [plenumref49_Check.j3])
          | succ kj27 =>
           have H := HA.out
           clear HA
           simp only [plenumref49_Check.j3] at H
           by_cases c35 : x67_27 = true
           ·subst c35
            have H1 : (some 6) = some r := by rw [if_pos rfl] at H; exact H
            clear H
            have H := H1
            clear H1
            obtain rfl := Option.some.inj H
            go_wp2
            go_ret
            exact ⟨by first | rfl | (simp [errW_none, errW_some] <;> rfl) | (simp [*, errW_none, errW_some] <;> rfl), by repeat (first | (with_reducible first | exact HB.out | apply below_alloc | apply pw_below_drewN | apply below_drew1 | refine below_set ?_ GE173.out) | exact HB.out)⟩
           ·replace c35 := Bool.eq_false_iff.mpr c35
            subst c35
            have H1 : (if a0_3 = true then (some 10) else (if a0_5.toList = ([] : List UInt8) then (some 0) else (some 10))) = some r := by rw [if_neg (show ¬ (false = true) by decide)] at H; exact H
            clear H
            have H := H1
            clear H1
            by_cases c36 : a0_3 = true
            ·subst c36
             have H1 : (some 10) = some r := by rw [if_pos rfl] at H; exact H
             clear H
             have H := H1
             clear H1
             obtain rfl := Option.some.inj H
             have hcz37_0 : wc.cell? ⟨gb173, 0, none⟩ = some (.int .i64 a0_0) := (blk_cell BK173.out 0).trans rfl
             have hcz37_1 : wc.cell? ⟨gb173, 1, none⟩ = some (.int .i64 a0_1) := (blk_cell BK173.out 1).trans rfl
             have hcz37_2 : wc.cell? ⟨gb173, 2, none⟩ = some (.int .i64 a0_2) := (blk_cell BK173.out 2).trans rfl
             have hcz37_3 : wc.cell? ⟨gb173, 3, none⟩ = some (.bool true) := (blk_cell BK173.out 3).trans rfl
             have hcz37_4 : wc.cell? ⟨gb173, 4, none⟩ = some (.int .i64 a0_4) := (blk_cell BK173.out 4).trans rfl
             have hcz37_5 : wc.cell? ⟨gb173, 5, none⟩ = some (.string a0_5) := (blk_cell BK173.out 5).trans rfl
             have hfz37_0 := blk_frozen BK173.out 0
             have hfz37_1 := blk_frozen BK173.out 1
             have hfz37_2 := blk_frozen BK173.out 2
             have hfz37_3 := blk_frozen BK173.out 3
             have hfz37_4 := blk_frozen BK173.out 4
             have hfz37_5 := blk_frozen BK173.out 5
             go_wp2
             go_ret
             exact ⟨by first | rfl | (simp [errW_none, errW_some] <;> rfl) | (simp [*, errW_none, errW_some] <;> rfl), by repeat (first | (with_reducible first | exact HB.out | apply below_alloc | apply pw_below_drewN | apply below_drew1 | refine below_set ?_ GE173.out) | exact HB.out)⟩
            ·replace c36 := Bool.eq_false_iff.mpr c36
             subst c36
             have H1 : (if a0_5.toList = ([] : List UInt8) then (some 0) else (some 10)) = some r := by rw [if_neg (show ¬ (false = true) by decide)] at H; exact H
             clear H
             have H := H1
             clear H1
             by_cases c38 : a0_5.toList = ([] : List UInt8)
             ·rw [if_pos c38] at H
              have c38b0 : (a0_5.toList == ([] : List UInt8)) = true := beq_iff_eq.mpr c38
              have c38b1 : (a0_5.toList != ([] : List UInt8)) = false := bne_eq_false_iff_eq.mpr c38
              clear c38
              obtain rfl := Option.some.inj H
              have hcz39_0 : wc.cell? ⟨gb173, 0, none⟩ = some (.int .i64 a0_0) := (blk_cell BK173.out 0).trans rfl
              have hcz39_1 : wc.cell? ⟨gb173, 1, none⟩ = some (.int .i64 a0_1) := (blk_cell BK173.out 1).trans rfl
              have hcz39_2 : wc.cell? ⟨gb173, 2, none⟩ = some (.int .i64 a0_2) := (blk_cell BK173.out 2).trans rfl
              have hcz39_3 : wc.cell? ⟨gb173, 3, none⟩ = some (.bool false) := (blk_cell BK173.out 3).trans rfl
              have hcz39_4 : wc.cell? ⟨gb173, 4, none⟩ = some (.int .i64 a0_4) := (blk_cell BK173.out 4).trans rfl
              have hcz39_5 : wc.cell? ⟨gb173, 5, none⟩ = some (.string a0_5) := (blk_cell BK173.out 5).trans rfl
              have hfz39_0 := blk_frozen BK173.out 0
              have hfz39_1 := blk_frozen BK173.out 1
              have hfz39_2 := blk_frozen BK173.out 2
              have hfz39_3 := blk_frozen BK173.out 3
              have hfz39_4 := blk_frozen BK173.out 4
              have hfz39_5 := blk_frozen BK173.out 5
              go_wp2
              go_ret
              exact ⟨by first | rfl | (simp [errW_none, errW_some] <;> rfl) | (simp [*, errW_none, errW_some] <;> rfl), by repeat (first | (with_reducible first | exact HB.out | apply below_alloc | apply pw_below_drewN | apply below_drew1 | refine below_set ?_ GE173.out) | exact HB.out)⟩
             ·rw [if_neg c38] at H
              have c38b0 : (a0_5.toList == ([] : List UInt8)) = false := beq_eq_false_iff_ne.mpr c38
              have c38b1 : (a0_5.toList != ([] : List UInt8)) = true := bne_iff_ne.mpr c38
              obtain rfl := Option.some.inj H
              have hcz40_0 : wc.cell? ⟨gb173, 0, none⟩ = some (.int .i64 a0_0) := (blk_cell BK173.out 0).trans rfl
              have hcz40_1 : wc.cell? ⟨gb173, 1, none⟩ = some (.int .i64 a0_1) := (blk_cell BK173.out 1).trans rfl
              have hcz40_2 : wc.cell? ⟨gb173, 2, none⟩ = some (.int .i64 a0_2) := (blk_cell BK173.out 2).trans rfl
              have hcz40_3 : wc.cell? ⟨gb173, 3, none⟩ = some (.bool false) := (blk_cell BK173.out 3).trans rfl
              have hcz40_4 : wc.cell? ⟨gb173, 4, none⟩ = some (.int .i64 a0_4) := (blk_cell BK173.out 4).trans rfl
              have hcz40_5 : wc.cell? ⟨gb173, 5, none⟩ = some (.string a0_5) := (blk_cell BK173.out 5).trans rfl
              have hfz40_0 := blk_frozen BK173.out 0
              have hfz40_1 := blk_frozen BK173.out 1
              have hfz40_2 := blk_frozen BK173.out 2
              have hfz40_3 := blk_frozen BK173.out 3
              have hfz40_4 := blk_frozen BK173.out 4
              have hfz40_5 := blk_frozen BK173.out 5
              go_wp2
              go_ret
              exact ⟨by first | rfl | (simp [errW_none, errW_some] <;> rfl) | (simp [*, errW_none, errW_some] <;> rfl), by repeat (first | (with_reducible first | exact HB.out | apply below_alloc | apply pw_below_drewN | apply below_drew1 | refine below_set ?_ GE173.out) | exact HB.out)⟩
        ·rw [if_neg c27] at H
         have c27b0 : (a0_0 == 2) = false := beq_eq_false_iff_ne.mpr c27
         have c27b1 : (a0_0 != 2) = true := bne_iff_ne.mpr c27
         have HC41 := Aside0.mk H
         clear H
         have hcz42_0 : wc.cell? ⟨gb173, 0, none⟩ = some (.int .i64 a0_0) := (blk_cell BK173.out 0).trans rfl
         have hcz42_1 : wc.cell? ⟨gb173, 1, none⟩ = some (.int .i64 a0_1) := (blk_cell BK173.out 1).trans rfl
         have hcz42_2 : wc.cell? ⟨gb173, 2, none⟩ = some (.int .i64 a0_2) := (blk_cell BK173.out 2).trans rfl
         have hcz42_3 : wc.cell? ⟨gb173, 3, none⟩ = some (.bool a0_3) := (blk_cell BK173.out 3).trans rfl
         have hcz42_4 : wc.cell? ⟨gb173, 4, none⟩ = some (.int .i64 a0_4) := (blk_cell BK173.out 4).trans rfl
         have hcz42_5 : wc.cell? ⟨gb173, 5, none⟩ = some (.string a0_5) := (blk_cell BK173.out 5).trans rfl
         have hfz42_0 := blk_frozen BK173.out 0
         have hfz42_1 := blk_frozen BK173.out 1
         have hfz42_2 := blk_frozen BK173.out 2
         have hfz42_3 := blk_frozen BK173.out 3
         have hfz42_4 := blk_frozen BK173.out 4
         have hfz42_5 := blk_frozen BK173.out 5
         go_upto_region 6 with (fail)
         go_cut [28] (fun v28 wc => ∃ (kq : Nat) (x28_40 : Bool), v28 = .bool x28_40 ∧ Aside0 (plenumref49_Check.j4 kq x28_40 a0_0 a0_1 a0_2 a0_3 a0_4 a0_5 = some r) ∧ Aside0 (kq ≤ kj7) ∧ Aside0 (wc.heap[gb173]? = some (.cells #[.int .i64 a0_0, .int .i64 a0_1, .int .i64 a0_2, .bool a0_3, .int .i64 a0_4, .string a0_5] 27 (0, 0))) ∧ Aside0 (Below w.heap.size w wc))
         case first =>
          have H := HC41.out
          clear HC41
          by_cases c43 : a0_2 = 0
          ·rw [if_pos c43] at H
           have c43b0 : (a0_2 == 0) = true := beq_iff_eq.mpr c43
           have c43b1 : (a0_2 != 0) = false := bne_eq_false_iff_eq.mpr c43
           clear c43
           (first | rw [c43b0] | (simp only [i64_w, i32_w]; rw [c43b0]) | skip)
           have H' := Aside0.mk H
           clear H
           have hcz44_0 : wc.cell? ⟨gb173, 0, none⟩ = some (.int .i64 a0_0) := (blk_cell BK173.out 0).trans rfl
           have hcz44_1 : wc.cell? ⟨gb173, 1, none⟩ = some (.int .i64 a0_1) := (blk_cell BK173.out 1).trans rfl
           have hcz44_2 : wc.cell? ⟨gb173, 2, none⟩ = some (.int .i64 a0_2) := (blk_cell BK173.out 2).trans rfl
           have hcz44_3 : wc.cell? ⟨gb173, 3, none⟩ = some (.bool a0_3) := (blk_cell BK173.out 3).trans rfl
           have hcz44_4 : wc.cell? ⟨gb173, 4, none⟩ = some (.int .i64 a0_4) := (blk_cell BK173.out 4).trans rfl
           have hcz44_5 : wc.cell? ⟨gb173, 5, none⟩ = some (.string a0_5) := (blk_cell BK173.out 5).trans rfl
           have hfz44_0 := blk_frozen BK173.out 0
           have hfz44_1 := blk_frozen BK173.out 1
           have hfz44_2 := blk_frozen BK173.out 2
           have hfz44_3 := blk_frozen BK173.out 3
           have hfz44_4 := blk_frozen BK173.out 4
           have hfz44_5 := blk_frozen BK173.out 5
           go_wp2
           go_meet
           case rel => exact ⟨_, ((a0_4 != 0)), (by first | rfl | (simp; done) | (simp [*]; done)), H', ⟨by have := HJ1.out; have := HJ7.out; first | omega | exact Nat.le_refl _⟩, ⟨by (with_reducible repeat (first | refine blk_drewN ?_ _ | refine blk_drew ?_ | refine blk_alloc ?_ _)); exact BK173.out⟩, ⟨by repeat (first | (with_reducible first | exact HB.out | apply below_alloc | apply pw_below_drewN | apply below_drew1 | refine below_set ?_ GE173.out) | exact HB.out)⟩⟩
          ·rw [if_neg c43] at H
           have c43b0 : (a0_2 == 0) = false := beq_eq_false_iff_ne.mpr c43
           have c43b1 : (a0_2 != 0) = true := bne_iff_ne.mpr c43
           (first | rw [c43b0] | (simp only [i64_w, i32_w]; rw [c43b0]) | skip)
           have H' := Aside0.mk H
           clear H
           have hcz45_0 : wc.cell? ⟨gb173, 0, none⟩ = some (.int .i64 a0_0) := (blk_cell BK173.out 0).trans rfl
           have hcz45_1 : wc.cell? ⟨gb173, 1, none⟩ = some (.int .i64 a0_1) := (blk_cell BK173.out 1).trans rfl
           have hcz45_2 : wc.cell? ⟨gb173, 2, none⟩ = some (.int .i64 a0_2) := (blk_cell BK173.out 2).trans rfl
           have hcz45_3 : wc.cell? ⟨gb173, 3, none⟩ = some (.bool a0_3) := (blk_cell BK173.out 3).trans rfl
           have hcz45_4 : wc.cell? ⟨gb173, 4, none⟩ = some (.int .i64 a0_4) := (blk_cell BK173.out 4).trans rfl
           have hcz45_5 : wc.cell? ⟨gb173, 5, none⟩ = some (.string a0_5) := (blk_cell BK173.out 5).trans rfl
           have hfz45_0 := blk_frozen BK173.out 0
           have hfz45_1 := blk_frozen BK173.out 1
           have hfz45_2 := blk_frozen BK173.out 2
           have hfz45_3 := blk_frozen BK173.out 3
           have hfz45_4 := blk_frozen BK173.out 4
           have hfz45_5 := blk_frozen BK173.out 5
           go_wp2
           go_meet
           case rel => exact ⟨_, (true), (by first | rfl | (simp; done) | (simp [*]; done)), H', ⟨by have := HJ1.out; have := HJ7.out; first | omega | exact Nat.le_refl _⟩, ⟨by (with_reducible repeat (first | refine blk_drewN ?_ _ | refine blk_drew ?_ | refine blk_alloc ?_ _)); exact BK173.out⟩, ⟨by repeat (first | (with_reducible first | exact HB.out | apply below_alloc | apply pw_below_drewN | apply below_drew1 | refine below_set ?_ GE173.out) | exact HB.out)⟩⟩
         case rest =>
          clear HC41
          try clear c1
          try clear c2
          try clear p2
          try clear c3
          try clear c4
          try clear c4b0
          try clear c7
          try clear c9
          try clear c9b0
          try clear c11
          try clear c12
          try clear c13
          try clear c13b0
          try clear c13b1
          try clear c16
          try clear c16b0
          try clear c18
          try clear c18b0
          try clear c20
          try clear c20b0
          try clear c23
          try clear c24
          try clear c24b0
          try clear c24b1
          try clear c27
          try clear c27b0
          try clear c27b1
          try clear c30
          try clear c30b0
          try clear c32
          try clear c32b0
          try clear c35
          try clear c36
          try clear c38
          try clear c38b0
          try clear c38b1
          try clear c43
          try clear c43b0
          try clear c43b1
          try clear hcz10_0
          try clear hcz10_1
          try clear hcz10_2
          try clear hcz10_3
          try clear hcz10_4
          try clear hcz10_5
          try clear hcz11_0
          try clear hcz11_1
          try clear hcz11_2
          try clear hcz11_3
          try clear hcz11_4
          try clear hcz11_5
          try clear hcz15_0
          try clear hcz15_1
          try clear hcz15_2
          try clear hcz15_3
          try clear hcz15_4
          try clear hcz15_5
          try clear hcz17_0
          try clear hcz17_1
          try clear hcz17_2
          try clear hcz17_3
          try clear hcz17_4
          try clear hcz17_5
          try clear hcz19_0
          try clear hcz19_1
          try clear hcz19_2
          try clear hcz19_3
          try clear hcz19_4
          try clear hcz19_5
          try clear hcz21_0
          try clear hcz21_1
          try clear hcz21_2
          try clear hcz21_3
          try clear hcz21_4
          try clear hcz21_5
          try clear hcz22_0
          try clear hcz22_1
          try clear hcz22_2
          try clear hcz22_3
          try clear hcz22_4
          try clear hcz22_5
          try clear hcz25_0
          try clear hcz25_1
          try clear hcz25_2
          try clear hcz25_3
          try clear hcz25_4
          try clear hcz25_5
          try clear hcz26_0
          try clear hcz26_1
          try clear hcz26_2
          try clear hcz26_3
          try clear hcz26_4
          try clear hcz26_5
          try clear hcz29_0
          try clear hcz29_1
          try clear hcz29_2
          try clear hcz29_3
          try clear hcz29_4
          try clear hcz29_5
          try clear hcz31_0
          try clear hcz31_1
          try clear hcz31_2
          try clear hcz31_3
          try clear hcz31_4
          try clear hcz31_5
          try clear hcz33_0
          try clear hcz33_1
          try clear hcz33_2
          try clear hcz33_3
          try clear hcz33_4
          try clear hcz33_5
          try clear hcz34_0
          try clear hcz34_1
          try clear hcz34_2
          try clear hcz34_3
          try clear hcz34_4
          try clear hcz34_5
          try clear hcz37_0
          try clear hcz37_1
          try clear hcz37_2
          try clear hcz37_3
          try clear hcz37_4
          try clear hcz37_5
          try clear hcz39_0
          try clear hcz39_1
          try clear hcz39_2
          try clear hcz39_3
          try clear hcz39_4
          try clear hcz39_5
          try clear hcz40_0
          try clear hcz40_1
          try clear hcz40_2
          try clear hcz40_3
          try clear hcz40_4
          try clear hcz40_5
          try clear hcz42_0
          try clear hcz42_1
          try clear hcz42_2
          try clear hcz42_3
          try clear hcz42_4
          try clear hcz42_5
          try clear hcz44_0
          try clear hcz44_1
          try clear hcz44_2
          try clear hcz44_3
          try clear hcz44_4
          try clear hcz44_5
          try clear hcz45_0
          try clear hcz45_1
          try clear hcz45_2
          try clear hcz45_3
          try clear hcz45_4
          try clear hcz45_5
          try clear hcz5_0
          try clear hcz5_1
          try clear hcz5_2
          try clear hcz5_3
          try clear hcz5_4
          try clear hcz5_5
          try clear hcz6_0
          try clear hcz6_1
          try clear hcz6_2
          try clear hcz6_3
          try clear hcz6_4
          try clear hcz6_5
          try clear hfz10_0
          try clear hfz10_1
          try clear hfz10_2
          try clear hfz10_3
          try clear hfz10_4
          try clear hfz10_5
          try clear hfz11_0
          try clear hfz11_1
          try clear hfz11_2
          try clear hfz11_3
          try clear hfz11_4
          try clear hfz11_5
          try clear hfz15_0
          try clear hfz15_1
          try clear hfz15_2
          try clear hfz15_3
          try clear hfz15_4
          try clear hfz15_5
          try clear hfz17_0
          try clear hfz17_1
          try clear hfz17_2
          try clear hfz17_3
          try clear hfz17_4
          try clear hfz17_5
          try clear hfz19_0
          try clear hfz19_1
          try clear hfz19_2
          try clear hfz19_3
          try clear hfz19_4
          try clear hfz19_5
          try clear hfz21_0
          try clear hfz21_1
          try clear hfz21_2
          try clear hfz21_3
          try clear hfz21_4
          try clear hfz21_5
          try clear hfz22_0
          try clear hfz22_1
          try clear hfz22_2
          try clear hfz22_3
          try clear hfz22_4
          try clear hfz22_5
          try clear hfz25_0
          try clear hfz25_1
          try clear hfz25_2
          try clear hfz25_3
          try clear hfz25_4
          try clear hfz25_5
          try clear hfz26_0
          try clear hfz26_1
          try clear hfz26_2
          try clear hfz26_3
          try clear hfz26_4
          try clear hfz26_5
          try clear hfz29_0
          try clear hfz29_1
          try clear hfz29_2
          try clear hfz29_3
          try clear hfz29_4
          try clear hfz29_5
          try clear hfz31_0
          try clear hfz31_1
          try clear hfz31_2
          try clear hfz31_3
          try clear hfz31_4
          try clear hfz31_5
          try clear hfz33_0
          try clear hfz33_1
          try clear hfz33_2
          try clear hfz33_3
          try clear hfz33_4
          try clear hfz33_5
          try clear hfz34_0
          try clear hfz34_1
          try clear hfz34_2
          try clear hfz34_3
          try clear hfz34_4
          try clear hfz34_5
          try clear hfz37_0
          try clear hfz37_1
          try clear hfz37_2
          try clear hfz37_3
          try clear hfz37_4
          try clear hfz37_5
          try clear hfz39_0
          try clear hfz39_1
          try clear hfz39_2
          try clear hfz39_3
          try clear hfz39_4
          try clear hfz39_5
          try clear hfz40_0
          try clear hfz40_1
          try clear hfz40_2
          try clear hfz40_3
          try clear hfz40_4
          try clear hfz40_5
          try clear hfz42_0
          try clear hfz42_1
          try clear hfz42_2
          try clear hfz42_3
          try clear hfz42_4
          try clear hfz42_5
          try clear hfz44_0
          try clear hfz44_1
          try clear hfz44_2
          try clear hfz44_3
          try clear hfz44_4
          try clear hfz44_5
          try clear hfz45_0
          try clear hfz45_1
          try clear hfz45_2
          try clear hfz45_3
          try clear hfz45_4
          try clear hfz45_5
          try clear hfz5_0
          try clear hfz5_1
          try clear hfz5_2
          try clear hfz5_3
          try clear hfz5_4
          try clear hfz5_5
          try clear hfz6_0
          try clear hfz6_1
          try clear hfz6_2
          try clear hfz6_3
          try clear hfz6_4
          try clear hfz6_5
          try clear p2
          obtain ⟨kq, x28_40, rfl, HA, HJ40, BK173, HB⟩ := hcut
          cases kq with
          | zero => exact absurd HA.out (by simp [plenumref49_Check.j4])
          | succ kj40 =>
           have H := HA.out
           clear HA
           simp only [plenumref49_Check.j4] at H
           by_cases c46 : x28_40 = true
           ·subst c46
            have H1 : (some 6) = some r := by rw [if_pos rfl] at H; exact H
            clear H
            have H := H1
            clear H1
            obtain rfl := Option.some.inj H
            go_wp2
            go_ret
            exact ⟨by first | rfl | (simp [errW_none, errW_some] <;> rfl) | (simp [*, errW_none, errW_some] <;> rfl), by repeat (first | (with_reducible first | exact HB.out | apply below_alloc | apply pw_below_drewN | apply below_drew1 | refine below_set ?_ GE173.out) | exact HB.out)⟩
           ·replace c46 := Bool.eq_false_iff.mpr c46
            subst c46
            have H1 : (if a0_3 = true then (some 10) else (if a0_5.toList = ([] : List UInt8) then (some 0) else (some 10))) = some r := by rw [if_neg (show ¬ (false = true) by decide)] at H; exact H
            clear H
            have H := H1
            clear H1
            by_cases c47 : a0_3 = true
            ·subst c47
             have H1 : (some 10) = some r := by rw [if_pos rfl] at H; exact H
             clear H
             have H := H1
             clear H1
             obtain rfl := Option.some.inj H
             have hcz48_0 : wc.cell? ⟨gb173, 0, none⟩ = some (.int .i64 a0_0) := (blk_cell BK173.out 0).trans rfl
             have hcz48_1 : wc.cell? ⟨gb173, 1, none⟩ = some (.int .i64 a0_1) := (blk_cell BK173.out 1).trans rfl
             have hcz48_2 : wc.cell? ⟨gb173, 2, none⟩ = some (.int .i64 a0_2) := (blk_cell BK173.out 2).trans rfl
             have hcz48_3 : wc.cell? ⟨gb173, 3, none⟩ = some (.bool true) := (blk_cell BK173.out 3).trans rfl
             have hcz48_4 : wc.cell? ⟨gb173, 4, none⟩ = some (.int .i64 a0_4) := (blk_cell BK173.out 4).trans rfl
             have hcz48_5 : wc.cell? ⟨gb173, 5, none⟩ = some (.string a0_5) := (blk_cell BK173.out 5).trans rfl
             have hfz48_0 := blk_frozen BK173.out 0
             have hfz48_1 := blk_frozen BK173.out 1
             have hfz48_2 := blk_frozen BK173.out 2
             have hfz48_3 := blk_frozen BK173.out 3
             have hfz48_4 := blk_frozen BK173.out 4
             have hfz48_5 := blk_frozen BK173.out 5
             go_wp2
             go_ret
             exact ⟨by first | rfl | (simp [errW_none, errW_some] <;> rfl) | (simp [*, errW_none, errW_some] <;> rfl), by repeat (first | (with_reducible first | exact HB.out | apply below_alloc | apply pw_below_drewN | apply below_drew1 | refine below_set ?_ GE173.out) | exact HB.out)⟩
            ·replace c47 := Bool.eq_false_iff.mpr c47
             subst c47
             have H1 : (if a0_5.toList = ([] : List UInt8) then (some 0) else (some 10)) = some r := by rw [if_neg (show ¬ (false = true) by decide)] at H; exact H
             clear H
             have H := H1
             clear H1
             by_cases c49 : a0_5.toList = ([] : List UInt8)
             ·rw [if_pos c49] at H
              have c49b0 : (a0_5.toList == ([] : List UInt8)) = true := beq_iff_eq.mpr c49
              have c49b1 : (a0_5.toList != ([] : List UInt8)) = false := bne_eq_false_iff_eq.mpr c49
              clear c49
              obtain rfl := Option.some.inj H
              have hcz50_0 : wc.cell? ⟨gb173, 0, none⟩ = some (.int .i64 a0_0) := (blk_cell BK173.out 0).trans rfl
              have hcz50_1 : wc.cell? ⟨gb173, 1, none⟩ = some (.int .i64 a0_1) := (blk_cell BK173.out 1).trans rfl
              have hcz50_2 : wc.cell? ⟨gb173, 2, none⟩ = some (.int .i64 a0_2) := (blk_cell BK173.out 2).trans rfl
              have hcz50_3 : wc.cell? ⟨gb173, 3, none⟩ = some (.bool false) := (blk_cell BK173.out 3).trans rfl
              have hcz50_4 : wc.cell? ⟨gb173, 4, none⟩ = some (.int .i64 a0_4) := (blk_cell BK173.out 4).trans rfl
              have hcz50_5 : wc.cell? ⟨gb173, 5, none⟩ = some (.string a0_5) := (blk_cell BK173.out 5).trans rfl
              have hfz50_0 := blk_frozen BK173.out 0
              have hfz50_1 := blk_frozen BK173.out 1
              have hfz50_2 := blk_frozen BK173.out 2
              have hfz50_3 := blk_frozen BK173.out 3
              have hfz50_4 := blk_frozen BK173.out 4
              have hfz50_5 := blk_frozen BK173.out 5
              go_wp2
              go_ret
              exact ⟨by first | rfl | (simp [errW_none, errW_some] <;> rfl) | (simp [*, errW_none, errW_some] <;> rfl), by repeat (first | (with_reducible first | exact HB.out | apply below_alloc | apply pw_below_drewN | apply below_drew1 | refine below_set ?_ GE173.out) | exact HB.out)⟩
             ·rw [if_neg c49] at H
              have c49b0 : (a0_5.toList == ([] : List UInt8)) = false := beq_eq_false_iff_ne.mpr c49
              have c49b1 : (a0_5.toList != ([] : List UInt8)) = true := bne_iff_ne.mpr c49
              obtain rfl := Option.some.inj H
              have hcz51_0 : wc.cell? ⟨gb173, 0, none⟩ = some (.int .i64 a0_0) := (blk_cell BK173.out 0).trans rfl
              have hcz51_1 : wc.cell? ⟨gb173, 1, none⟩ = some (.int .i64 a0_1) := (blk_cell BK173.out 1).trans rfl
              have hcz51_2 : wc.cell? ⟨gb173, 2, none⟩ = some (.int .i64 a0_2) := (blk_cell BK173.out 2).trans rfl
              have hcz51_3 : wc.cell? ⟨gb173, 3, none⟩ = some (.bool false) := (blk_cell BK173.out 3).trans rfl
              have hcz51_4 : wc.cell? ⟨gb173, 4, none⟩ = some (.int .i64 a0_4) := (blk_cell BK173.out 4).trans rfl
              have hcz51_5 : wc.cell? ⟨gb173, 5, none⟩ = some (.string a0_5) := (blk_cell BK173.out 5).trans rfl
              have hfz51_0 := blk_frozen BK173.out 0
              have hfz51_1 := blk_frozen BK173.out 1
              have hfz51_2 := blk_frozen BK173.out 2
              have hfz51_3 := blk_frozen BK173.out 3
              have hfz51_4 := blk_frozen BK173.out 4
              have hfz51_5 := blk_frozen BK173.out 5
              go_wp2
              go_ret
              exact ⟨by first | rfl | (simp [errW_none, errW_some] <;> rfl) | (simp [*, errW_none, errW_some] <;> rfl), by repeat (first | (with_reducible first | exact HB.out | apply below_alloc | apply pw_below_drewN | apply below_drew1 | refine below_set ?_ GE173.out) | exact HB.out)⟩
end Go.Proofs.YtbgabhknmpbgiaaDoor.S
end
section
namespace Go.Proofs.YtbgabhknmpbgiaaDoor.Pure
open Go.RowKit Go.Proofs.YtbgabhknmpbgiaaDoor.S Go.Proofs.YtbgabhknmpbgiaaDoorW.PrintWords Go.Proofs.YtbgabhknmpbgiaaDoorW.PrintLast Go.Proofs.YtbgabhknmpbgiaaDoorW.PrintMore
set_option linter.unusedVariables false
theorem seg_in (a lo hi : Int) : segment_in.f a lo hi = some (decide (lo ≤ a ∧ a ≤ hi)) := by
 unfold segment_in.f
 by_cases h : a ≥ lo
 ·rw [if_pos h]
  congr 1
  by_cases h2 : a ≤ hi
  ·rw [decide_eq_true h2, decide_eq_true ⟨h, h2⟩]
  ·rw [decide_eq_false h2, decide_eq_false (fun q => h2 q.2)]
 ·rw [if_neg h, decide_eq_false (fun q => h q.1)]
def chk (k i n : Int) (m : Bool) (wd : Int) (t : ByteArray) : Int :=
 if k = 1 then (if (0 ≤ n ∧ n ≤ 63) ∧ (1 ≤ wd ∧ wd ≤ 16) ∧ (0 ≤ i ∧ i ≤ 255) then (if (t.size : Int) > 400 then 7 else 0) else 6)
 else if k = 2 then (if (-1 ≤ n ∧ n ≤ 63) ∧ wd = 0 ∧ (0 ≤ i ∧ i ≤ 255) then (if m = true then 10 else if t.toList = ([] : List UInt8) then 0 else 10) else 6)
 else if k = 3 then (if n = 0 ∧ wd = 0 ∧ (0 ≤ i ∧ i ≤ 255) then (if m = true then 10 else if t.toList = ([] : List UInt8) then 0 else 10) else 6)
 else 3
set_option maxHeartbeats 4000000 in
theorem chkP (K : Nat) (k i n : Int) (m : Bool) (wd : Int) (t : ByteArray) : segment_Check.f (K + 4) k i n m wd t = some (chk k i n m wd t) := by
 unfold segment_Check.f chk
 simp only [seg_in, Option.bind_some]
 simp only [segment_Check.j0, segment_Check.j1, segment_Check.j2, seg_in, Option.bind_some]
 simp only [decide_eq_true_eq, beq_iff_eq, Bool.not_eq_true', decide_eq_false_iff_not]
 repeat' split
 all_goals first | rfl | (exfalso; omega) | (exfalso; simp_all; done) | (exfalso; simp_all; omega) | skip
set_option maxHeartbeats 4000000 in
theorem chkR (K : Nat) (k i n : Int) (m : Bool) (wd : Int) (t : ByteArray) : plenumref49_Check.f (K + 4) k i n m wd t = some (chk k i n m wd t) := by
 unfold plenumref49_Check.f chk
 simp only [plenumref49_Check.j0, plenumref49_Check.j1, plenumref49_Check.j2, plenumref49_Check.j3, plenumref49_Check.j4]
 simp only [decide_eq_true_eq, bne_iff_ne, ne_eq, if_true]
 repeat' split
 all_goals first | rfl | (exfalso; omega) | (exfalso; simp_all; done) | (exfalso; simp_all; omega) | skip
theorem chk_ok {k i n : Int} {m : Bool} {wd : Int} {t : ByteArray} (h : chk k i n m wd t = 0) : 1 ≤ k ∧ k ≤ 3 ∧ 0 ≤ i ∧ i ≤ 255 ∧ -1 ≤ n ∧ n ≤ 63 ∧ 0 ≤ wd ∧ wd ≤ 16 ∧ t.size ≤ 400 := by
 unfold chk at h
 have hz : t.toList = ([] : List UInt8) → t.size = 0 := fun e => by
  rw [ByteArray.toList_eq] at e
  have : t.data.toList.length = 0 := by rw [e]; rfl
  rwa [Array.length_toList] at this
 repeat' split at h
 all_goals first | omega | (exfalso; revert h; decide) | (rename_i a b; have := hz b; omega) | (rename_i a b c; have := hz c; omega)
end Go.Proofs.YtbgabhknmpbgiaaDoor.Pure
end
section
namespace Go.Proofs.YtbgabhknmpbgiaaDoor.Pure
open Go.RowKit Go.Proofs.YtbgabhknmpbgiaaDoor.S Go.Proofs.YtbgabhknmpbgiaaDoorW.PrintWords Go.Proofs.YtbgabhknmpbgiaaDoorW.PrintLast Go.Proofs.YtbgabhknmpbgiaaDoorW.PrintMore
set_option linter.unusedVariables false
set_option linter.unusedSimpArgs false
theorem refRU_loop (s : ByteArray) (p : Int) (n : Nat) (hp : 0 ≤ p) (h8 : n ≤ 8) (hn : p + 1 + (n : Int) ≤ (s.size : Int)) (hz : s.size ≤ 140737488355327) :
  ∀ (d i : Nat), i + d = n → ∀ k, plenumref02_ReadUnsigned.l0 (k + d + 9) p (s.extract (p + 1).toNat (p + 1 + (n : Int)).toNat) true (beN s (p + 1) i) i =
   some (opt3 (if nb (beN s (p + 1) n) = (n : Int) then some (beN s (p + 1) n, p + 1 + (n : Int)) else none)) := by
 have hs : ((s.extract (p + 1).toNat (p + 1 + (n : Int)).toNat).size : Int) = (n : Int) := by rw [ext_size _ _ _ (by omega) (by omega)]; omega
 intro d
 induction d with
 | zero =>
  intro i hi k
  obtain rfl : i = n := by omega
  have hr := beN_range s (p + 1) i
  have hlt : beN s (p + 1) i < 256 ^ 8 := beN_lt h8
  simp only [Int.reducePow] at hlt
  rw [show k + 0 + 9 = (k + 8) + 1 by omega]
  rw [plenumref02_ReadUnsigned.l0, hs, if_neg (by omega), if_pos rfl, refU_eq _ _ hr.1 (by omega)]
  rw [Option.bind_some]
  have hnb := nb_range (beN s (p + 1) i)
  have hsz : ((strOfNums ((16 + nb (beN s (p + 1) i)) :: beL (beN s (p + 1) i) (nb (beN s (p + 1) i)).toNat)).size : Int) = 1 + nb (beN s (p + 1) i) := by
   rw [strOfNums_size, List.length_cons, beL_length]; omega
  generalize strOfNums ((16 + nb (beN s (p + 1) i)) :: beL (beN s (p + 1) i) (nb (beN s (p + 1) i)).toNat) = enc at hsz ⊢
  have w1 : wrap64 ((i : Int) + 1) = (i : Int) + 1 := w64 (by omega) (by omega)
  have w2 : wrap64 (wrap64 (p + 1) + (i : Int)) = p + 1 + (i : Int) := by rw [w64 (n := p + 1) (by omega) (by omega), w64 (by omega) (by omega)]
  by_cases c : nb (beN s (p + 1) i) = (i : Int)
  ·rw [if_pos c, if_pos (by omega), w2, opt3]
  ·rw [if_neg c, if_neg (by omega), opt3]
 | succ d ih =>
  intro i hi k
  have hr := beN_range s (p + 1) i
  have hlt : beN s (p + 1) i < 256 ^ 7 := beN_lt (by omega)
  simp only [Int.reducePow] at hlt
  have hb := bt_range s (p + 1 + (i : Int))
  have hbt : bt (s.extract (p + 1).toNat (p + 1 + (n : Int)).toNat) (i : Int) = bt s (p + 1 + (i : Int)) := by
   rw [bt_ext _ _ _ _ (by omega) (by omega) (by omega) (by omega)]
   congr 1
   omega
  rw [show k + (d + 1) + 9 = (k + d + 9) + 1 by omega]
  rw [plenumref02_ReadUnsigned.l0, hs, if_pos (by omega), if_pos (by omega), hbt, w64 (n := (i : Int) + 1) (by omega) (by omega), u64w, u64w,
   Int.emod_eq_of_lt (b := 18446744073709551616) (a := beN s (p + 1) i * 256) (by omega) (by omega), Int.emod_eq_of_lt (b := 18446744073709551616) (a := bt s (p + 1 + (i : Int))) (by omega) (by omega), or_u64 _ _ hr.1 (by omega) hb.1 (by omega)]
  have := ih (i + 1) (by omega) k
  rw [show ((i + 1 : Nat) : Int) = (i : Int) + 1 by omega, show beN s (p + 1) (i + 1) = beN s (p + 1) i * 256 + bt s (p + 1 + (i : Int)) from rfl] at this
  exact this
theorem refRU_eq (k : Nat) (s : ByteArray) (p : Int) (hp : 0 ≤ p) (hz : s.size ≤ 140737488355327) : plenumref02_ReadUnsigned.f (k + 18) s p = some (opt3 (uS s p)) := by
 unfold plenumref02_ReadUnsigned.f uS
 rw [show k + 18 = (k + 16) + 2 from rfl, refNumber_eq _ s p 16 (Or.inl rfl) hp hz]
 simp only [Option.bind_some]
 by_cases c : numS s p 16 = true
 ·rw [if_pos c]
  have h := (numS_16 hp).1 c
  have hc := cnt_of (Or.inl h.1)
  have := refRU_loop s p (cnt s p) hp (by omega) h.2 hz (cnt s p) 0 (by omega) (k + 9 - cnt s p)
  rw [show k + 9 - cnt s p + cnt s p + 9 = k + 16 + 2 by omega] at this
  refine this.trans ?_
  show some (opt3 (if nb (val s p) = (cnt s p : Int) then some (val s p, p + 1 + (cnt s p : Int)) else none)) = _
  by_cases c2 : nb (val s p) = (cnt s p : Int)
  ·rw [if_pos c2, if_pos ⟨h.1, h.2, c2⟩]
  ·rw [if_neg c2, if_neg (fun h' => c2 h'.2.2)]
 ·rw [if_neg c, if_neg (fun h' => c ((numS_16 hp).2 ⟨h'.1, h'.2.1⟩))]
  show plenumref02_ReadUnsigned.l0 ((k + 17) + 1) p (⟨#[]⟩ : ByteArray) false 0 0 = _
  rw [plenumref02_ReadUnsigned.l0]
  rfl
end Go.Proofs.YtbgabhknmpbgiaaDoor.Pure
end
section
namespace Go.Proofs.YtbgabhknmpbgiaaDoor.Pure
open Go.RowKit Go.Proofs.YtbgabhknmpbgiaaDoor.S Go.Proofs.YtbgabhknmpbgiaaDoorW.PrintWords Go.Proofs.YtbgabhknmpbgiaaDoorW.PrintLast Go.Proofs.YtbgabhknmpbgiaaDoorW.PrintMore
set_option linter.unusedVariables false
set_option linter.unusedSimpArgs false
def sx (s : ByteArray) (q : Int) : Nat → Int
 | 0 => if bt s q ≥ 128 then -1 else 0
 | i + 1 => sgn (i + 1) (beN s q (i + 1))
theorem sgn_or (i : Nat) (V : Int) : (sgn (i + 1) V = V ∧ V < 128 * 256 ^ i) ∨ (sgn (i + 1) V = V - 256 ^ i * 256 ∧ 128 * 256 ^ i ≤ V) := by
 have e : sgn (i + 1) V = if V < 128 * 256 ^ i then V else V - 256 ^ i * 256 := by unfold sgn; rw [Int.pow_succ]; rfl
 rw [e]
 by_cases c : V < 128 * 256 ^ i
 ·rw [if_pos c]; exact Or.inl ⟨rfl, c⟩
 ·rw [if_neg c]; exact Or.inr ⟨rfl, by omega⟩
theorem beN_succ (s : ByteArray) (q : Int) (n : Nat) : beN s q (n + 1) = beN s q n * 256 + bt s (q + (n : Int)) := rfl
theorem sx_step (s : ByteArray) (q : Int) (i : Nat) : sx s q (i + 1) = sx s q i * 256 + bt s (q + (i : Int)) := by
 have hb := bt_range s (q + (i : Int))
 cases i with
 | zero =>
  have e : q + ((0 : Nat) : Int) = q := by omega
  rw [e] at hb ⊢
  have h1 : beN s q 1 = bt s q := by rw [beN_succ, e]; show (0 : Int) * 256 + _ = _; omega
  have h2 := sgn_or 0 (beN s q 1)
  rw [h1] at h2
  have h3 : sx s q (0 + 1) = sgn (0 + 1) (bt s q) := by rw [← h1]; rfl
  have h4 : sx s q 0 = if bt s q ≥ 128 then -1 else 0 := rfl
  rw [h3, h4]
  simp only [Int.reducePow] at h2
  split <;> omega
 | succ i =>
  have h1 := beN_succ s q (i + 1)
  have h2 := sgn_or (i + 1) (beN s q (i + 1 + 1))
  have h3 := sgn_or i (beN s q (i + 1))
  have h4 : sx s q (i + 1 + 1) = sgn (i + 1 + 1) (beN s q (i + 1 + 1)) := rfl
  have h5 : sx s q (i + 1) = sgn (i + 1) (beN s q (i + 1)) := rfl
  rw [h4, h5]
  rw [Int.pow_succ (256 : Int) i] at h2
  generalize (256 : Int) ^ i = P at *
  omega
theorem sx_range (s : ByteArray) (q : Int) (i : Nat) (h : i ≤ 7) : -9223372036854775808 ≤ sx s q i * 256 ∧ sx s q i * 256 ≤ 9223372036854775807 := by
 cases i with
 | zero => simp only [sx]; split <;> omega
 | succ i =>
  have hr := beN_range s q (i + 1)
  simp only [sx, sgn]
  obtain rfl | rfl | rfl | rfl | rfl | rfl | rfl : i = 0 ∨ i = 1 ∨ i = 2 ∨ i = 3 ∨ i = 4 ∨ i = 5 ∨ i = 6 := by omega
  all_goals simp only [Int.reducePow, Nat.reduceSub, Nat.reduceAdd] at hr ⊢
  all_goals split <;> omega
theorem refRS_loop (s : ByteArray) (p : Int) (n : Nat) (hp : 0 ≤ p) (h1 : 1 ≤ n) (h8 : n ≤ 8) (hn : p + 1 + (n : Int) ≤ (s.size : Int)) (hz : s.size ≤ 140737488355327) :
  ∀ (d i : Nat), i + d = n → ∀ k, plenumref02_ReadSigned.l0 (k + d + 9) p (s.extract (p + 1).toNat (p + 1 + (n : Int)).toNat) true (sx s (p + 1) i) i =
   some (opt3 (if ss (sx s (p + 1) n) = (n : Int) then some (sx s (p + 1) n, p + 1 + (n : Int)) else none)) := by
 have hs : ((s.extract (p + 1).toNat (p + 1 + (n : Int)).toNat).size : Int) = (n : Int) := by rw [ext_size _ _ _ (by omega) (by omega)]; omega
 intro d
 induction d with
 | zero =>
  intro i hi k
  obtain rfl : i = n := by omega
  have hr : -9223372036854775808 ≤ sx s (p + 1) i ∧ sx s (p + 1) i ≤ 9223372036854775807 := by
   obtain ⟨m, rfl⟩ : ∃ m, i = m + 1 := ⟨i - 1, by omega⟩
   exact sgn_range h1 h8 (beN_range _ _ _)
  rw [show k + 0 + 9 = (k + 8) + 1 by omega]
  rw [plenumref02_ReadSigned.l0, hs, if_neg (by omega), if_pos rfl, refS_eq _ _ hr.1 hr.2]
  rw [Option.bind_some]
  have hnb := ss_range (sx s (p + 1) i) hr.1 hr.2
  have hsz : ((strOfNums ((32 + ss (sx s (p + 1) i)) :: beL (sx s (p + 1) i) (ss (sx s (p + 1) i)).toNat)).size : Int) = 1 + ss (sx s (p + 1) i) := by
   rw [strOfNums_size, List.length_cons, beL_length]; omega
  generalize strOfNums ((32 + ss (sx s (p + 1) i)) :: beL (sx s (p + 1) i) (ss (sx s (p + 1) i)).toNat) = enc at hsz ⊢
  have w1 : wrap64 ((i : Int) + 1) = (i : Int) + 1 := w64 (by omega) (by omega)
  have w2 : wrap64 (wrap64 (p + 1) + (i : Int)) = p + 1 + (i : Int) := by rw [w64 (n := p + 1) (by omega) (by omega), w64 (by omega) (by omega)]
  by_cases c : ss (sx s (p + 1) i) = (i : Int)
  ·rw [if_pos c, if_pos (by omega), w2, opt3]
  ·rw [if_neg c, if_neg (by omega), opt3]
 | succ d ih =>
  intro i hi k
  have hr := sx_range s (p + 1) i (by omega)
  have hb := bt_range s (p + 1 + (i : Int))
  have hbt : bt (s.extract (p + 1).toNat (p + 1 + (n : Int)).toNat) (i : Int) = bt s (p + 1 + (i : Int)) := by
   rw [bt_ext _ _ _ _ (by omega) (by omega) (by omega) (by omega)]
   congr 1
   omega
  rw [show k + (d + 1) + 9 = (k + d + 9) + 1 by omega]
  rw [plenumref02_ReadSigned.l0, hs, if_pos (by omega), if_pos (by omega), hbt, w64 (n := (i : Int) + 1) (by omega) (by omega), w64 (n := bt s (p + 1 + (i : Int))) (by omega) (by omega),
   w64 (n := sx s (p + 1) i * 256) hr.1 hr.2, or_i64 _ _ hr.1 hr.2 hb.1 (by omega), ← sx_step]
  have := ih (i + 1) (by omega) k
  rw [show ((i + 1 : Nat) : Int) = (i : Int) + 1 by omega] at this
  exact this
theorem refRS_eq (k : Nat) (s : ByteArray) (p : Int) (hp : 0 ≤ p) (hz : s.size ≤ 140737488355327) : plenumref02_ReadSigned.f (k + 20) s p = some (opt3 (sS s p)) := by
 unfold plenumref02_ReadSigned.f sS
 rw [show k + 20 = (k + 18) + 2 from rfl, refNumber_eq _ s p 32 (Or.inr rfl) hp hz]
 rw [Option.bind_some]
 by_cases c : numS s p 32 = true
 ·rw [if_pos c]
  have h := (numS_32 hp).1 c
  have hc := cnt_of (Or.inr h.1)
  have hs : ((s.extract (p + 1).toNat (p + 1 + (cnt s p : Int)).toNat).size : Int) = (cnt s p : Int) := by rw [ext_size _ _ _ (by omega) (by omega)]; omega
  have hb0 : bt (s.extract (p + 1).toNat (p + 1 + (cnt s p : Int)).toNat) 0 = bt s (p + 1) := by
   rw [bt_ext _ _ _ _ (by omega) (by omega) (by omega) (by omega)]
   congr 1
   omega
  have := refRS_loop s p (cnt s p) hp hc.1 hc.2 h.2 hz (cnt s p) 0 (by omega) (k + 9 - cnt s p)
  rw [show k + 9 - cnt s p + cnt s p + 9 = k + 18 by omega] at this
  have e : sx s (p + 1) (cnt s p) = sgn (cnt s p) (val s p) := by
   obtain ⟨m, hm⟩ : ∃ m, cnt s p = m + 1 := ⟨cnt s p - 1, by omega⟩
   unfold val
   rw [hm]
   rfl
  rw [e] at this
  rw [if_pos rfl, hs, if_pos (by omega), hb0]
  rw [show k + 18 + 2 = (k + 18 + 1) + 1 from rfl, plenumref02_ReadSigned.j0]
  have hfin : plenumref02_ReadSigned.l0 (k + 18) p (s.extract (p + 1).toNat (p + 1 + (cnt s p : Int)).toNat) true (if bt s (p + 1) ≥ 128 then -1 else 0) 0 =
    some (opt3 (if kindS s p = 4 ∧ p + 1 + (cnt s p : Int) ≤ (s.size : Int) ∧ ss (sgn (cnt s p) (val s p)) = (cnt s p : Int) then some (sgn (cnt s p) (val s p), p + 1 + (cnt s p : Int)) else none)) := by
   refine this.trans ?_
   by_cases c2 : ss (sgn (cnt s p) (val s p)) = (cnt s p : Int)
   ·rw [if_pos c2, if_pos ⟨h.1, h.2, c2⟩]
   ·rw [if_neg c2, if_neg (fun h' => c2 h'.2.2)]
  by_cases c3 : bt s (p + 1) ≥ 128
  ·rw [decide_eq_true c3, if_pos rfl, plenumref02_ReadSigned.j1]
   rw [if_pos c3] at hfin
   exact hfin
  ·rw [decide_eq_false c3, if_neg (by decide), plenumref02_ReadSigned.j1]
   rw [if_neg c3] at hfin
   exact hfin
 ·rw [if_neg c, if_neg (c := (((⟨#[]⟩ : ByteArray), false) : ByteArray × Bool).2 = true) (by decide), if_neg (fun h' => c ((numS_32 hp).2 ⟨h'.1, h'.2.1⟩))]
  rw [show k + 18 + 2 = (k + 17 + 1 + 1) + 1 from rfl, plenumref02_ReadSigned.j0, if_neg (by decide), plenumref02_ReadSigned.j1, plenumref02_ReadSigned.l0, if_neg (by decide), if_neg (by decide), opt3]
theorem rawS3 (s : ByteArray) (p : Int) : (∀ v e, uS s p = some (v, e) → rawS s p 3 = (v, e, true)) ∧ (uS s p = none → (rawS s p 3).2.2 = false) := by
 unfold uS rawS
 refine ⟨fun v e h => ?_, fun h => ?_⟩
 ·split at h
  ·rename_i c
   obtain ⟨rfl, rfl⟩ := Prod.mk.inj (Option.some.inj h)
   rw [if_pos c.1, if_neg (by omega), if_pos rfl, c.2.2]
   simp
  ·cases h
 ·split at h
  ·cases h
  ·rename_i c
   by_cases c1 : kindS s p = 3
   ·rw [if_pos c1]
    by_cases c2 : p + 1 + (cnt s p : Int) > (s.size : Int)
    ·rw [if_pos c2]
    ·rw [if_neg c2, if_pos rfl]
     show (nb (val s p) == (cnt s p : Int)) = false
     rw [beq_eq_false_iff_ne]
     exact fun h' => c ⟨c1, by omega, h'⟩
   ·rw [if_neg c1]
theorem rawS4 (s : ByteArray) (p : Int) : (∀ v e, sS s p = some (v, e) → rawS s p 4 = (IntKind.u64.wrap v, e, true)) ∧ (sS s p = none → (rawS s p 4).2.2 = false) := by
 unfold sS rawS
 refine ⟨fun v e h => ?_, fun h => ?_⟩
 ·split at h
  ·rename_i c
   obtain ⟨rfl, rfl⟩ := Prod.mk.inj (Option.some.inj h)
   rw [if_pos c.1, if_neg (by omega), if_neg (by decide), c.2.2]
   simp
  ·cases h
 ·split at h
  ·cases h
  ·rename_i c
   by_cases c1 : kindS s p = 4
   ·rw [if_pos c1]
    by_cases c2 : p + 1 + (cnt s p : Int) > (s.size : Int)
    ·rw [if_pos c2]
    ·rw [if_neg c2, if_neg (by decide)]
     show (ss (sgn (cnt s p) (val s p)) == (cnt s p : Int)) = false
     rw [beq_eq_false_iff_ne]
     exact fun h' => c ⟨c1, by omega, h'⟩
   ·rw [if_neg c1]
theorem uS_some {s : ByteArray} {p v e : Int} (h : uS s p = some (v, e)) : 0 ≤ p ∧ p + 1 < e ∧ e ≤ (s.size : Int) ∧ 0 ≤ v ∧ v < 18446744073709551616 := by
 unfold uS at h
 split at h
 ·rename_i c
  obtain ⟨rfl, rfl⟩ := Prod.mk.inj (Option.some.inj h)
  have hc := cnt_of (Or.inl c.1)
  have hk := kindS_in (s := s) (p := p) (by omega)
  have hr := beN_range s (p + 1) (cnt s p)
  have hlt : beN s (p + 1) (cnt s p) < 256 ^ 8 := beN_lt hc.2
  simp only [Int.reducePow] at hlt
  unfold val
  omega
 ·cases h
theorem sS_some {s : ByteArray} {p v e : Int} (h : sS s p = some (v, e)) : 0 ≤ p ∧ p + 1 < e ∧ e ≤ (s.size : Int) ∧ -9223372036854775808 ≤ v ∧ v ≤ 9223372036854775807 := by
 unfold sS at h
 split at h
 ·rename_i c
  obtain ⟨rfl, rfl⟩ := Prod.mk.inj (Option.some.inj h)
  have hc := cnt_of (Or.inr c.1)
  have hk := kindS_in (s := s) (p := p) (by omega)
  have hr := sgn_range hc.1 hc.2 (beN_range s (p + 1) (cnt s p))
  unfold val
  omega
 ·cases h
def tS (s : ByteArray) (p : Int) : Option (ByteArray × Int) :=
 if kindS s p = 5 then match uS s (p + 1) with
  | some (v, e) => if v > 65535 then none else if v > (s.size : Int) - e then none else some (s.extract e.toNat (e + v).toNat, e + v)
  | none => none
 else none
def lS (s : ByteArray) (p : Int) : Option (Int × Int) :=
 if kindS s p = 6 then match uS s (p + 1) with
  | some (v, e) => if v > 65535 then none else some (v, e)
  | none => none
 else none
def optT (o : Option (ByteArray × Int)) : ByteArray × Int × Bool := match o with | some (v, e) => (v, e, true) | none => ((⟨#[]⟩ : ByteArray), 0, false)
theorem text_eq (k : Nat) (s : ByteArray) (p : Int) (hz : s.size ≤ 140737488355327) : codec_text.f (k + 12) s p = some (optT (tS s p)) := by
 unfold codec_text.f tS
 rw [show k + 12 = (k + 9) + 3 from rfl, kind_eq, Option.bind_some]
 by_cases c : kindS s p = 5
 ·have hk := kindS_in (s := s) (p := p) (by omega)
  rw [if_pos c, if_pos c, show k + 9 + 3 = k + 12 from rfl, w64 (n := p + 1) (by omega) (by omega), raw_eq _ _ _ _ (Or.inl rfl) hz, Option.bind_some]
  cases hu : uS s (p + 1) with
  | none =>
   rw [(rawS3 s (p + 1)).2 hu, if_neg (by decide)]
   rfl
  | some ve =>
   obtain ⟨v, e⟩ := ve
   have hb := uS_some hu
   show _ = some (optT (if v > 65535 then none else if v > (s.size : Int) - e then none else some (s.extract e.toNat (e + v).toNat, e + v)))
   rw [(rawS3 s (p + 1)).1 v e hu, if_pos (show ((v, e, true) : Int × Int × Bool).2.2 = true from rfl), show ((v, e, true) : Int × Int × Bool).1 = v from rfl, show ((v, e, true) : Int × Int × Bool).2.1 = e from rfl]
   by_cases c1 : v > 65535
   ·rw [if_pos c1, if_pos c1]; rfl
   ·rw [if_neg c1, if_neg c1, w64 (n := v) (by omega) (by omega), w64 (n := (s.size : Int) - e) (by omega) (by omega), w64 (n := e + v) (by omega) (by omega)]
    by_cases c2 : v > (s.size : Int) - e
    ·rw [if_pos c2, if_pos c2]; rfl
    ·rw [if_neg c2, if_neg c2, if_pos (by omega), if_pos (by omega), if_pos (by omega)]; rfl
 ·rw [if_neg c, if_neg c]; rfl
theorem list_eq (k : Nat) (s : ByteArray) (p : Int) (hz : s.size ≤ 140737488355327) : codec_list.f (k + 12) s p = some (opt3 (lS s p)) := by
 unfold codec_list.f lS
 rw [show k + 12 = (k + 9) + 3 from rfl, kind_eq, Option.bind_some]
 by_cases c : kindS s p = 6
 ·have hk := kindS_in (s := s) (p := p) (by omega)
  rw [if_pos c, if_pos c, show k + 9 + 3 = k + 12 from rfl, w64 (n := p + 1) (by omega) (by omega), raw_eq _ _ _ _ (Or.inl rfl) hz, Option.bind_some]
  cases hu : uS s (p + 1) with
  | none =>
   rw [(rawS3 s (p + 1)).2 hu, if_neg (by decide)]
   rfl
  | some ve =>
   obtain ⟨v, e⟩ := ve
   have hb := uS_some hu
   show _ = some (opt3 (if v > 65535 then none else some (v, e)))
   rw [(rawS3 s (p + 1)).1 v e hu, if_pos (show ((v, e, true) : Int × Int × Bool).2.2 = true from rfl), show ((v, e, true) : Int × Int × Bool).1 = v from rfl, show ((v, e, true) : Int × Int × Bool).2.1 = e from rfl]
   by_cases c1 : v > 65535
   ·rw [if_pos c1, if_pos c1]; rfl
   ·rw [if_neg c1, if_neg c1, w64 (n := v) (by omega) (by omega)]; rfl
 ·rw [if_neg c, if_neg c]; rfl
theorem kd5 {b : Int} : kd b = 5 ↔ b = 48 := by unfold kd; omega
theorem kd6 {b : Int} : kd b = 6 ↔ b = 64 := by unfold kd; omega
theorem refRT_eq (k : Nat) (s : ByteArray) (p : Int) (hp : 0 ≤ p) (hz : s.size ≤ 140737488355327) : plenumref02_ReadText.f (k + 19) s p = some (optT (tS s p)) := by
 unfold plenumref02_ReadText.f tS
 rw [show k + 19 = (k + 18) + 1 from rfl, plenumref02_ReadText.j0, plenumref02_ReadText.j0]
 by_cases c0 : p ≥ (s.size : Int)
 ·rw [if_pos c0, if_pos rfl, if_neg (by unfold kindS; rw [if_pos (Or.inr c0)]; decide)]; rfl
 ·have hk : kindS s p = kd (bt s p) := by unfold kindS; rw [if_neg (by omega)]
  rw [if_neg c0, if_pos hp, if_pos (by omega), hk]
  by_cases c : bt s p = 48
  ·rw [if_neg (by simp [c]), if_pos (kd5.2 c), w64 (n := p + 1) (by omega) (by omega), refRU_eq _ _ _ (by omega) hz, Option.bind_some]
   cases hu : uS s (p + 1) with
   | none => rfl
   | some ve =>
    obtain ⟨v, e⟩ := ve
    have hb := uS_some hu
    show _ = some (optT (if v > 65535 then none else if v > (s.size : Int) - e then none else some (s.extract e.toNat (e + v).toNat, e + v)))
    rw [show opt3 (some (v, e)) = (v, e, true) from rfl, if_pos (show ((v, e, true) : Int × Int × Bool).2.2 = true from rfl), show ((v, e, true) : Int × Int × Bool).1 = v from rfl, show ((v, e, true) : Int × Int × Bool).2.1 = e from rfl]
    by_cases c1 : v > 65535
    ·rw [if_pos c1, if_pos c1]; rfl
    ·rw [if_neg c1, if_neg c1, w64 (n := v) (by omega) (by omega), w64 (n := (s.size : Int) - e) (by omega) (by omega), w64 (n := e + v) (by omega) (by omega)]
     by_cases c2 : v > (s.size : Int) - e
     ·rw [if_pos c2, if_pos c2]; rfl
     ·rw [if_neg c2, if_neg c2, if_pos (by omega), if_pos (by omega), if_pos (by omega)]; rfl
  ·rw [if_pos (by simp [c]), if_neg (fun h => c (kd5.1 h))]; rfl
theorem refRH_eq (k : Nat) (s : ByteArray) (p : Int) (hp : 0 ≤ p) (hz : s.size ≤ 140737488355327) : plenumref02_ReadHead.f (k + 19) s p = some (opt3 (lS s p)) := by
 unfold plenumref02_ReadHead.f lS
 rw [show k + 19 = (k + 18) + 1 from rfl, plenumref02_ReadHead.j0, plenumref02_ReadHead.j0]
 by_cases c0 : p ≥ (s.size : Int)
 ·rw [if_pos c0, if_pos rfl, if_neg (by unfold kindS; rw [if_pos (Or.inr c0)]; decide)]; rfl
 ·have hk : kindS s p = kd (bt s p) := by unfold kindS; rw [if_neg (by omega)]
  rw [if_neg c0, if_pos hp, if_pos (by omega), hk]
  by_cases c : bt s p = 64
  ·rw [if_neg (by simp [c]), if_pos (kd6.2 c), w64 (n := p + 1) (by omega) (by omega), refRU_eq _ _ _ (by omega) hz, Option.bind_some]
   cases hu : uS s (p + 1) with
   | none => rfl
   | some ve =>
    obtain ⟨v, e⟩ := ve
    have hb := uS_some hu
    show _ = some (opt3 (if v > 65535 then none else some (v, e)))
    rw [show opt3 (some (v, e)) = (v, e, true) from rfl, if_pos (show ((v, e, true) : Int × Int × Bool).2.2 = true from rfl), show ((v, e, true) : Int × Int × Bool).1 = v from rfl, show ((v, e, true) : Int × Int × Bool).2.1 = e from rfl]
    by_cases c1 : v > 65535
    ·rw [if_pos c1, if_pos c1]; rfl
    ·rw [if_neg c1, if_neg c1, w64 (n := v) (by omega) (by omega)]; rfl
  ·rw [if_pos (by simp [c]), if_neg (fun h => c (kd6.1 h))]; rfl
end Go.Proofs.YtbgabhknmpbgiaaDoor.Pure
end
section
namespace Go.Proofs.YtbgabhknmpbgiaaDoor.Pure
open Go.RowKit Go.Proofs.YtbgabhknmpbgiaaDoor.S Go.Proofs.YtbgabhknmpbgiaaDoorW.PrintWords Go.Proofs.YtbgabhknmpbgiaaDoorW.PrintLast Go.Proofs.YtbgabhknmpbgiaaDoorW.PrintMore
set_option linter.unusedVariables false
set_option linter.unusedSimpArgs false
theorem lS_some {s : ByteArray} {p v e : Int} (h : lS s p = some (v, e)) : 0 ≤ p ∧ p + 1 < e ∧ e ≤ (s.size : Int) ∧ 0 ≤ v ∧ v ≤ 65535 := by
 unfold lS at h
 by_cases c : kindS s p = 6
 ·have hk := kindS_in (s := s) (p := p) (by omega)
  rw [if_pos c] at h
  cases hu : uS s (p + 1) with
  | none => rw [hu] at h; cases h
  | some ve =>
   obtain ⟨v', e'⟩ := ve
   have hb := uS_some hu
   rw [hu] at h
   have h' : (if v' > 65535 then none else some (v', e')) = some (v, e) := h
   by_cases c1 : v' > 65535
   ·rw [if_pos c1] at h'; cases h'
   ·rw [if_neg c1] at h'
    obtain ⟨rfl, rfl⟩ := Prod.mk.inj (Option.some.inj h')
    omega
 ·rw [if_neg c] at h; cases h
theorem tS_some {s : ByteArray} {p : Int} {t : ByteArray} {e : Int} (h : tS s p = some (t, e)) : 0 ≤ p ∧ p + 1 < e ∧ e ≤ (s.size : Int) := by
 unfold tS at h
 by_cases c : kindS s p = 5
 ·have hk := kindS_in (s := s) (p := p) (by omega)
  rw [if_pos c] at h
  cases hu : uS s (p + 1) with
  | none => rw [hu] at h; cases h
  | some ve =>
   obtain ⟨v', e'⟩ := ve
   have hb := uS_some hu
   rw [hu] at h
   have h' : (if v' > 65535 then none else if v' > (s.size : Int) - e' then none else some (s.extract e'.toNat (e' + v').toNat, e' + v')) = some (t, e) := h
   by_cases c1 : v' > 65535
   ·rw [if_pos c1] at h'; cases h'
   ·rw [if_neg c1] at h'
    by_cases c2 : v' > (s.size : Int) - e'
    ·rw [if_pos c2] at h'; cases h'
    ·rw [if_neg c2] at h'
     obtain ⟨rfl, rfl⟩ := Prod.mk.inj (Option.some.inj h')
     omega
 ·rw [if_neg c] at h; cases h
theorem opt3_none : opt3 none = (0, 0, false) := rfl
theorem opt3_some (v e : Int) : opt3 (some (v, e)) = (v, e, true) := rfl
theorem optT_none : optT none = ((⟨#[]⟩ : ByteArray), 0, false) := rfl
theorem optT_some (v : ByteArray) (e : Int) : optT (some (v, e)) = (v, e, true) := rfl
end Go.Proofs.YtbgabhknmpbgiaaDoor.Pure
end
section
namespace Go.Proofs.YtbgabhknmpbgiaaDoor.S
open Go.RowKit Go.Proofs.YtbgabhknmpbgiaaDoorW.PrintWords Go.Proofs.YtbgabhknmpbgiaaDoorW.PrintLast Go.Proofs.YtbgabhknmpbgiaaDoorW.PrintMore
attribute [local go_sem] max2_int min2_int max_two min_two max_three min_three max_four min_four
set_option linter.unusedVariables false
set_option linter.unusedSimpArgs false
def IsS119 (w0 W : World) (g : Nat) (f0 : ByteArray) (f1 : Int) (f2 : Int) : Prop := W.heap[g]? = some (.cells #[.string f0, .int .i64 f1, .int .i64 f2] 119 (0, 0)) ∧ w0.heap.size ≤ g
theorem IsS119.grown {w0 W : World} {g : Nat} {f0 : ByteArray} {f1 : Int} {f2 : Int} {W1 : World} {row : Option Nat} (h : IsS119 w0 W g f0 f1 f2) (hw : W.grownBy W1 row) (hne : some g ≠ row) : IsS119 w0 W1 g f0 f1 f2 := by
 obtain ⟨hb, hg⟩ := h
 exact ⟨blk_grown hb hw hne, hg⟩
theorem IsS119.below {w0 W : World} {g : Nat} {f0 : ByteArray} {f1 : Int} {f2 : Int} {W1 : World} (h : IsS119 w0 W g f0 f1 f2) (hw : Below W.heap.size W W1) : IsS119 w0 W1 g f0 f1 f2 := h.grown (grown_of_below hw none) (by simp)
theorem IsS119.drewN {w0 W : World} {g : Nat} {f0 : ByteArray} {f1 : Int} {f2 : Int} (h : IsS119 w0 W g f0 f1 f2) (m : Nat) : IsS119 w0 (W.drewN m) g f0 f1 f2 := h
theorem IsS119.drew {w0 W : World} {g : Nat} {f0 : ByteArray} {f1 : Int} {f2 : Int} (h : IsS119 w0 W g f0 f1 f2) : IsS119 w0 W.drew g f0 f1 f2 := h
theorem IsS119.ge {w0 W : World} {g : Nat} {f0 : ByteArray} {f1 : Int} {f2 : Int} (h : IsS119 w0 W g f0 f1 f2) : w0.heap.size ≤ g := by
 obtain ⟨hb, hg⟩ := h
 exact hg
theorem cellS119_0 {W : World} {g : Nat} {f0 : ByteArray} {f1 : Int} {f2 : Int} (h : W.heap[g]? = some (.cells #[.string f0, .int .i64 f1, .int .i64 f2] 119 (0, 0))) : W.cell? ⟨g, 0, none⟩ = some (.string f0) := (blk_cell h 0).trans rfl
theorem cellS119_1 {W : World} {g : Nat} {f0 : ByteArray} {f1 : Int} {f2 : Int} (h : W.heap[g]? = some (.cells #[.string f0, .int .i64 f1, .int .i64 f2] 119 (0, 0))) : W.cell? ⟨g, 1, none⟩ = some (.int .i64 f1) := (blk_cell h 1).trans rfl
theorem IsS119.set_1 {w0 W : World} {g : Nat} {f0 : ByteArray} {f1 : Int} {f2 : Int} (h : IsS119 w0 W g f0 f1 f2) (x : Int) : IsS119 w0 (W.setCell ⟨g, 1, none⟩ (.int .i64 x)) g f0 x f2 := by
 obtain ⟨hb, hg⟩ := h
 exact ⟨by simpa using blk_set hb 1 (.int .i64 x), hg⟩
theorem cellS119_2 {W : World} {g : Nat} {f0 : ByteArray} {f1 : Int} {f2 : Int} (h : W.heap[g]? = some (.cells #[.string f0, .int .i64 f1, .int .i64 f2] 119 (0, 0))) : W.cell? ⟨g, 2, none⟩ = some (.int .i64 f2) := (blk_cell h 2).trans rfl
theorem IsS119.set_2 {w0 W : World} {g : Nat} {f0 : ByteArray} {f1 : Int} {f2 : Int} (h : IsS119 w0 W g f0 f1 f2) (x : Int) : IsS119 w0 (W.setCell ⟨g, 2, none⟩ (.int .i64 x)) g f0 f1 x := by
 obtain ⟨hb, hg⟩ := h
 exact ⟨by simpa using blk_set hb 2 (.int .i64 x), hg⟩
def codec_NewReader.f (a0 : ByteArray) : Option (ByteArray × Int × Int) := some (a0, 0, 0)
set_option maxHeartbeats 8000000 in
set_option maxRecDepth 100000 in
theorem codec_NewReader.calls (a0 : ByteArray) (r1 : ByteArray) (r2 : Int) (r3 : Int) (w0 w : World) (hG : Glob w0) (hB : Below w0.heap.size w0 w) (h : codec_NewReader.f a0 = some (r1, r2, r3)) :
  Calls Tryd.prog 45 #[.string a0] w fun e w' => ∃ g_ : Nat, e = .returned (.pointer (some ⟨g_, 0, none⟩)) ∧ IsS119 w0 w' g_ r1 r2 r3 ∧ Below w0.heap.size w0 w' ∧ Below w.heap.size w w' := by
 have hu119 := Tryd.underlying119
 have HG := Aside0.mk hG
 clear hG
 have HBW := Aside0.mk (Below.refl w.heap.size w)
 have HW0 := Aside0.mk hB.size
 have HB := Aside0.mk hB
 clear hB
 have H : (some (a0, 0, 0)) = some (r1, r2, r3) := h
 clear h
 simp only [Option.some.injEq, Prod.mk.injEq] at H
 obtain ⟨rfl, rfl, rfl⟩ := H
 go_enter Tryd.func45, Tryd.ntmps45
 go_wp2_with (first | ((with_reducible refine gate_dst (N := 5) rfl ?_); refine box_event ?hg (N := 5) ?hd (cs := #[.string a0, .int .i64 0, .int .i64 0]) (t := 119) ?hr ?_; (case hd => rfl); (case hg => rfl); (case hr => first | (go_simp; done) | (go_simp; rfl)); intro gb123 hg w2 hbox hb; have n0_ := Aside0.mk (below_step HBW.out hb); have n1_ := Aside0.mk (below_step (by repeat (first | (with_reducible first | exact HB.out | apply below_alloc | apply pw_below_drewN | apply below_drew1) | exact HB.out)) hb); have n2_ := Aside0.mk (hbox); have n3_ := Aside0.mk ((by rw [hg]; exact (below_size (by repeat (first | (with_reducible first | exact HBW.out | apply below_alloc | apply pw_below_drewN | apply below_drew1) | exact HBW.out))) : w.heap.size ≤ gb123)); have n4_ := Aside0.mk ((Nat.le_trans HW0.out (by rw [hg]; exact (below_size (by repeat (first | (with_reducible first | exact HBW.out | apply below_alloc | apply pw_below_drewN | apply below_drew1) | exact HBW.out))) : w.heap.size ≤ gb123) : w0.heap.size ≤ gb123)); clear HBW; clear HB; have HBW := n0_; have HB := n1_; have BK123 := n2_; have GW123 := n3_; have GE123 := n4_; clear n0_ n1_ n2_ n3_ n4_; clear hb hbox hg))
 go_ret
 exact ⟨_, rfl, (show IsS119 w0 _ gb123 a0 0 0 from ⟨by (with_reducible repeat (first | refine blk_drewN ?_ _ | refine blk_drew ?_ | refine blk_alloc ?_ _)); exact BK123.out, GE123.out⟩), by repeat (first | (with_reducible first | exact HB.out | apply below_alloc | apply pw_below_drewN | apply below_drew1 | refine below_set ?_ GE123.out) | exact HB.out), by repeat (first | (with_reducible first | exact HBW.out | apply below_alloc | apply pw_below_drewN | apply below_drew1 | refine below_set ?_ GW123.out) | exact HBW.out)⟩
end Go.Proofs.YtbgabhknmpbgiaaDoor.S
end
section
namespace Go.Proofs.YtbgabhknmpbgiaaDoor.S
open Go.RowKit Go.Proofs.YtbgabhknmpbgiaaDoorW.PrintWords Go.Proofs.YtbgabhknmpbgiaaDoorW.PrintLast Go.Proofs.YtbgabhknmpbgiaaDoorW.PrintMore
attribute [local go_sem] max2_int min2_int max_two min_two max_three min_three max_four min_four
set_option linter.unusedVariables false
set_option linter.unusedSimpArgs false
def codec_Reader_List.f (k : Nat) (s0_0 : ByteArray) (s0_1 : Int) (s0_2 : Int) : Option (Int × ByteArray × Int × Int) := if s0_2 = 0 then ((codec_list.f k s0_0 s0_1).bind fun bt131 => (if bt131.2.2 = true then (some (bt131.1, s0_0, bt131.2.1, s0_2)) else (some (0, s0_0, s0_1, 2)))) else (some (0, s0_0, s0_1, s0_2))
def codec_Reader_List.T71004 : Bool × List (List Nat × List Nat) := (true, [([], []), ([], []), ([1], [1]), ([2], [2]), ([3], [3]), ([], []), ([5], [5]), ([6], [6]), ([7], [7]), ([0, 4, 8], [0, 4, 8]), ([9], [9]), ([10], [10]), ([10], [10]), ([10], [10]), ([11, 9, 0, 1, 2, 3, 4, 5, 6, 7, 8, 9, 10, 11], [11]), ([12, 14, 0, 1, 2, 3, 4, 5, 6, 7, 8, 9, 10, 11, 12, 14], [12]), ([13, 15, 0, 1, 2, 3, 4, 5, 6, 7, 8, 9, 10, 11, 12, 13, 14, 15], [13])])
def codec_Reader_List.B71004 : List Nat := [0, 0, 2, 6, 14, 0, 32, 96, 224, 511, 1023, 2047, 2047, 2047, 4095, 24575, 65535]
theorem codec_Reader_List.tab71004 : rtab .any (opsOf Tryd.f71 4) = codec_Reader_List.T71004 := by kernel_rfl
theorem codec_Reader_List.bits71004 : waitsOk codec_Reader_List.T71004.2 codec_Reader_List.B71004 = true := by kernel_rfl
set_option maxHeartbeats 8000000 in
set_option maxRecDepth 100000 in
theorem codec_Reader_List.calls (k : Nat) (g : Nat) (s0_0 : ByteArray) (s0_1 : Int) (s0_2 : Int) (r1 : Int) (r2 : ByteArray) (r3 : Int) (r4 : Int) (w0 w : World) (hG : Glob w0) (hI : IsS119 w0 w g s0_0 s0_1 s0_2) (hB : Below w0.heap.size w0 w) (h : codec_Reader_List.f k s0_0 s0_1 s0_2 = some (r1, r2, r3, r4)) :
  Calls Tryd.prog 46 #[.pointer (some ⟨g, 0, none⟩)] w fun e w' => e = .returned (.int .i64 r1) ∧ IsS119 w0 w' g r2 r3 r4 ∧ Below w0.heap.size w0 w' ∧ KeepBut w w' g none := by
 have hmf_ : ∀ (fn : Fn) (first cap : Array Value) (w : World), (Instr.makeFunc fn first cap).run Tryd.prog w = .ok (.func fn first cap) w := fun _ _ _ _ => rfl
 have HG := Aside0.mk hG
 clear hG
 have HI0 := Aside0.mk hI
 have HK := Aside0.mk (KeepBut.refl w g none)
 have HL := Aside0.mk hB.size
 clear hI
 have HW0 := Aside0.mk hB.size
 have HB := Aside0.mk hB
 clear hB
 have H : (if s0_2 = 0 then ((codec_list.f k s0_0 s0_1).bind fun bt131 => (if bt131.2.2 = true then (some (bt131.1, s0_0, bt131.2.1, s0_2)) else (some (0, s0_0, s0_1, 2)))) else (some (0, s0_0, s0_1, s0_2))) = some (r1, r2, r3, r4) := h
 clear h
 by_cases c2 : s0_2 = 0
 ·rw [if_pos c2] at H
  have c2b0 : (s0_2 == 0) = true := beq_iff_eq.mpr c2
  have c2b1 : (s0_2 != 0) = false := bne_eq_false_iff_eq.mpr c2
  clear c2
  replace H := Option.bind_eq_some_iff.mp H
  obtain ⟨⟨t131, t132, t133⟩, A30, H⟩ := H
  replace H : (if t133 = true then (some (t131, s0_0, t132, s0_2)) else (some (0, s0_0, s0_1, 2))) = some (r1, r2, r3, r4) := H
  have A3 := Aside0.mk A30
  clear A30
  by_cases c4 : t133 = true
  ·subst c4
   have H1 : (some (t131, s0_0, t132, s0_2)) = some (r1, r2, r3, r4) := by rw [if_pos rfl] at H; exact H
   clear H
   have H := H1
   clear H1
   simp only [Option.some.injEq, Prod.mk.injEq] at H
   obtain ⟨rfl, rfl, rfl, rfl⟩ := H
   obtain ⟨HGz5, hgz5⟩ := HI0.out
   have hcz5_0 := cellS119_0 HGz5
   have hcz5_1 := cellS119_1 HGz5
   have hcz5_2 := cellS119_2 HGz5
   have hfz5_0 := blk_frozen HGz5 0
   have hfz5_1 := blk_frozen HGz5 1
   have hfz5_2 := blk_frozen HGz5 2
   clear HGz5 hgz5
   go_enter Tryd.func46, Tryd.ntmps46
   try go_wp2_with (first | (go_at_call 71; go_in) | ((try simp only [Exit.inBlock, Exit.then]); refine bodyPost_end (results_none rfl _ _ _) rfl ?_; simp only []; go_at_K))
   have n0_ := Aside0.mk (IsS119.drew HI0.out)
   have n1_ := Aside0.mk (keep_drew HK.out)
   have n2_ := Aside0.mk (below_drew1 HB.out)
   clear HI0
   clear HK
   clear HB
   have HI0 := n0_
   have HK := n1_
   have HB := n2_
   clear n0_ n1_ n2_
   refine start_ (n := 17) (S := fun w' => w'.cell? ⟨g, 0, none⟩ = some (.string s0_0) ∧ w'.cell? ⟨g, 1, none⟩ = some (.int .i64 s0_1) ∧ w'.cell? ⟨g, 2, none⟩ = some (.int .i64 s0_2)) (ds := []) #[Yn, Yn, Yn, Yn, Yn, Yn, Yn, Yn, Yn, Yn, Yn, Yn, Yn, Yn, Yn, Yn, Yn] (by kernel_rfl) rfl rfl ⟨(blk_cell (Aside0.mk HI0.out.1).out 0).trans rfl, (blk_cell (Aside0.mk HI0.out.1).out 1).trans rfl, (blk_cell (Aside0.mk HI0.out.1).out 2).trans rfl⟩ (fun hHeld => ?_); refine with_tabW codec_Reader_List.tab71004 codec_Reader_List.bits71004 (fun HT_ HW_ => ?_)
   generalize w.drew = w6 at HI0 HK HB hHeld ⊢
   refine pure_ (i := 0) (N := some 16) (v := ?_) (a' := ?_) #[Y, Yn, Yn, Yn, Yn, Yn, Yn, Yn, Yn, Yn, Yn, Yn, Yn, Yn, Yn, Yn, Yn] rfl rfl (any_of HT_.out (by kernel_rfl)) (fun _ _ _ h => h) (Or.inl ⟨by rfl, ?_⟩) ?_ ?_
   rotate_left
   ·intro w'
    go_simp
    with_reducible rfl
   rotate_left
   ·simp only [Act.put, List.setIfInBounds_toArray, List.set_cons_zero, List.set_cons_succ, i64_w, i32_w]
    rfl
   refine pure_ (i := 1) (N := some 17) (v := ?_) (a' := ?_) #[Y, Y, Yn, Yn, Yn, Yn, Yn, Yn, Yn, Yn, Yn, Yn, Yn, Yn, Yn, Yn, Yn] rfl rfl (any_of HT_.out (by kernel_rfl)) (fun _ _ _ h => h) (Or.inl ⟨by rfl, ?_⟩) ?_ ?_
   rotate_left
   ·intro w'
    go_simp
    with_reducible rfl
   rotate_left
   ·simp only [Act.put, List.setIfInBounds_toArray, List.set_cons_zero, List.set_cons_succ, i64_w, i32_w]
    rfl
   refine pure_ (i := 2) (N := some 18) (v := ?_) (a' := ?_) #[Y, Y, Y, Yn, Yn, Yn, Yn, Yn, Yn, Yn, Yn, Yn, Yn, Yn, Yn, Yn, Yn] rfl rfl (any_of HT_.out (by kernel_rfl)) (fun _ _ _ h => h) (Or.inl ⟨by rfl, ?_⟩) ?_ ?_
   rotate_left
   ·intro w'
    go_simp
    with_reducible rfl
   rotate_left
   ·simp only [Act.put, List.setIfInBounds_toArray, List.set_cons_zero, List.set_cons_succ, i64_w, i32_w]
    rfl
   refine pure_ (i := 3) (N := some 19) (v := ?_) (a' := ?_) #[Y, Y, Y, Y, Yn, Yn, Yn, Yn, Yn, Yn, Yn, Yn, Yn, Yn, Yn, Yn, Yn] rfl rfl (any_of HT_.out (by kernel_rfl)) (fun _ _ _ h => h) (Or.inl ⟨by rfl, ?_⟩) ?_ ?_
   rotate_left
   ·intro w'
    go_simp
    with_reducible rfl
   rotate_left
   ·simp only [Act.put, List.setIfInBounds_toArray, List.set_cons_zero, List.set_cons_succ, i64_w, i32_w]
    rfl
   refine pure_ (i := 5) (N := some 21) (v := ?_) (a' := ?_) #[Y, Y, Y, Y, Yn, Y, Yn, Yn, Yn, Yn, Yn, Yn, Yn, Yn, Yn, Yn, Yn] rfl rfl (any_of HT_.out (by kernel_rfl)) (fun _ _ _ h => h) (Or.inl ⟨by rfl, ?_⟩) ?_ ?_
   rotate_left
   ·intro w'
    go_simp
    with_reducible rfl
   rotate_left
   ·simp only [Act.put, List.setIfInBounds_toArray, List.set_cons_zero, List.set_cons_succ, i64_w, i32_w]
    rfl
   refine pure_ (i := 6) (N := some 22) (v := ?_) (a' := ?_) #[Y, Y, Y, Y, Yn, Y, Y, Yn, Yn, Yn, Yn, Yn, Yn, Yn, Yn, Yn, Yn] rfl rfl (any_of HT_.out (by kernel_rfl)) (fun _ _ _ h => h) (Or.inl ⟨by rfl, ?_⟩) ?_ ?_
   rotate_left
   ·intro w'
    go_simp
    with_reducible rfl
   rotate_left
   ·simp only [Act.put, List.setIfInBounds_toArray, List.set_cons_zero, List.set_cons_succ, i64_w, i32_w]
    rfl
   refine pure_ (i := 7) (N := some 23) (v := ?_) (a' := ?_) #[Y, Y, Y, Y, Yn, Y, Y, Y, Yn, Yn, Yn, Yn, Yn, Yn, Yn, Yn, Yn] rfl rfl (any_of HT_.out (by kernel_rfl)) (fun _ _ _ h => h) (Or.inl ⟨by rfl, ?_⟩) ?_ ?_
   rotate_left
   ·intro w'
    go_simp
    with_reducible rfl
   rotate_left
   ·simp only [Act.put, List.setIfInBounds_toArray, List.set_cons_zero, List.set_cons_succ, i64_w, i32_w]
    rfl
   refine take_ (i := 4) (N := some 20) (v := ?_) (a' := ?_) #[Y, Y, Y, Y, Y, Y, Y, Y, Yn, Yn, Yn, Yn, Yn, Yn, Yn, Yn, Yn] rfl rfl (take_ofW HT_.out HW_.out (by kernel_rfl)) (fun _ _ _ h => h) (Or.inl ⟨by rfl, ?_⟩) hHeld ?_ ?_
   rotate_left
   ·rintro w' ⟨s0, s1, s2⟩
    go_simp
    with_reducible rfl
   rotate_left
   ·simp only [Act.put, List.setIfInBounds_toArray, List.set_cons_zero, List.set_cons_succ, i64_w, i32_w]
    rfl
   refine take_ (i := 8) (N := some 24) (v := ?_) (a' := ?_) #[Y, Y, Y, Y, Y, Y, Y, Y, Y, Yn, Yn, Yn, Yn, Yn, Yn, Yn, Yn] rfl rfl (take_ofW HT_.out HW_.out (by kernel_rfl)) (fun _ _ _ h => h) (Or.inl ⟨by rfl, ?_⟩) hHeld ?_ ?_
   rotate_left
   ·rintro w' ⟨s0, s1, s2⟩
    go_simp
    with_reducible rfl
   rotate_left
   ·simp only [Act.put, List.setIfInBounds_toArray, List.set_cons_zero, List.set_cons_succ, i64_w, i32_w]
    rfl
   refine one_ (i := 9) (N := some 25) #[Y, Y, Y, Y, Y, Y, Y, Y, Y, Y, Yn, Yn, Yn, Yn, Yn, Yn, Yn] rfl rfl (one_of HT_.out (by kernel_rfl)) (by decide) (fun K hK => ?_)
   refine goesT_ Tryd.func72 (by kernel_rfl) rfl #[.string s0_0, .int .i64 s0_1] (by rfl) rfl rfl rfl (by (try simp only [List.map_toArray, List.map_cons, List.map_nil]); first | done | rfl | (simp only [List.length_drop, List.length_take]; rfl)) ?_
   with_reducible refine (codec_list.calls k s0_0 s0_1 t131 t132 true _ ?side99  A3.out).mono ?_
   (case side99 => first | exact HG.out | exact Glob.below HG.out (by repeat (first | (with_reducible first | exact HB.out | apply below_alloc | apply pw_below_drewN | apply below_drew1 | refine below_set ?_ (IsS119.ge HI0.out)) | exact HB.out)))
   rintro e w7 ⟨rfl, hb⟩
   refine ⟨_, rfl, ?_⟩
   have n0_ := Aside0.mk (IsS119.below (by repeat (first | (with_reducible first | exact HI0.out | apply IsS119.alloc | apply IsS119.drewN | apply IsS119.drew | apply IsS119.set_0 | apply IsS119.set_1 | apply IsS119.set_2) | exact HI0.out)) hb)
   have n1_ := Aside0.mk (KeepBut.trans (by repeat (first | (with_reducible first | exact HK.out | apply KeepBut.set_ | apply keep_drewN | apply keep_drew | apply keep_alloc) | exact HK.out)) (KeepBut.of_below hb g none) (.inl rfl))
   have n2_ := Aside0.mk (below_step (by repeat (first | (with_reducible first | exact HB.out | apply below_alloc | apply pw_below_drewN | apply below_drew1 | refine below_set ?_ (IsS119.ge HI0.out)) | exact HB.out)) hb)
   clear HI0
   clear HK
   clear HB
   have HI0 := n0_
   have HK := n1_
   have HB := n2_
   clear n0_ n1_ n2_
   (try clear hb)
   (try clear hb2)
   (try clear hk)
   (try clear hi)
   refine hK.out _ _ ⟨(blk_cell (Aside0.mk HI0.out.1).out 0).trans rfl, (blk_cell (Aside0.mk HI0.out.1).out 1).trans rfl, (blk_cell (Aside0.mk HI0.out.1).out 2).trans rfl⟩ (fun hHeld => ?_)
   clear hK K
   refine norm_ (a' := ?_) ?_ ?_
   rotate_left
   ·show Act.put _ (some 25) _ = _
    simp only [Act.put, List.setIfInBounds_toArray, List.set_cons_zero, List.set_cons_succ, i64_w, i32_w]
    rfl
   refine pure_ (i := 10) (N := some 15) (v := ?_) (a' := ?_) #[Y, Y, Y, Y, Y, Y, Y, Y, Y, Y, Y, Yn, Yn, Yn, Yn, Yn, Yn] rfl rfl (any_of HT_.out (by kernel_rfl)) (fun _ _ _ h => h) (Or.inl ⟨by rfl, ?_⟩) ?_ ?_
   rotate_left
   ·intro w'
    go_simp
    with_reducible rfl
   rotate_left
   ·simp only [Act.put, List.setIfInBounds_toArray, List.set_cons_zero, List.set_cons_succ, i64_w, i32_w]
    rfl
   refine pure_ (i := 11) (N := some 26) (v := ?_) (a' := ?_) #[Y, Y, Y, Y, Y, Y, Y, Y, Y, Y, Y, Y, Yn, Yn, Yn, Yn, Yn] rfl rfl (any_of HT_.out (by kernel_rfl)) (fun _ _ _ h => h) (Or.inl ⟨by rfl, ?_⟩) ?_ ?_
   rotate_left
   ·intro w'
    go_simp
    with_reducible rfl
   rotate_left
   ·simp only [Act.put, List.setIfInBounds_toArray, List.set_cons_zero, List.set_cons_succ, i64_w, i32_w]
    rfl
   refine pure_ (i := 12) (N := some 27) (v := ?_) (a' := ?_) #[Y, Y, Y, Y, Y, Y, Y, Y, Y, Y, Y, Y, Y, Yn, Yn, Yn, Yn] rfl rfl (any_of HT_.out (by kernel_rfl)) (fun _ _ _ h => h) (Or.inl ⟨by rfl, ?_⟩) ?_ ?_
   rotate_left
   ·intro w'
    go_simp
    with_reducible rfl
   rotate_left
   ·simp only [Act.put, List.setIfInBounds_toArray, List.set_cons_zero, List.set_cons_succ, i64_w, i32_w]
    rfl
   refine pure_ (i := 13) (N := some 28) (v := ?_) (a' := ?_) #[Y, Y, Y, Y, Y, Y, Y, Y, Y, Y, Y, Y, Y, Y, Yn, Yn, Yn] rfl rfl (any_of HT_.out (by kernel_rfl)) (fun _ _ _ h => h) (Or.inl ⟨by rfl, ?_⟩) ?_ ?_
   rotate_left
   ·intro w'
    go_simp
    with_reducible rfl
   rotate_left
   ·simp only [Act.put, List.setIfInBounds_toArray, List.set_cons_zero, List.set_cons_succ, i64_w, i32_w]
    rfl
   refine pure_ (i := 14) (N := some 6) (v := ?_) (a' := ?_) #[Y, Y, Y, Y, Y, Y, Y, Y, Y, Y, Y, Y, Y, Y, Y, Yn, Yn] rfl rfl (any_of HT_.out (by kernel_rfl)) (fun _ _ _ h => h) (Or.inl ⟨by rfl, ?_⟩) ?_ ?_
   rotate_left
   ·intro w'
    go_simp
    with_reducible rfl
   rotate_left
   ·simp only [Act.put, List.setIfInBounds_toArray, List.set_cons_zero, List.set_cons_succ, i64_w, i32_w]
    rfl
   refine pure_ (i := 15) (N := some 7) (v := ?_) (a' := ?_) #[Y, Y, Y, Y, Y, Y, Y, Y, Y, Y, Y, Y, Y, Y, Y, Y, Yn] rfl rfl (any_of HT_.out (by kernel_rfl)) (fun _ _ _ h => h) (Or.inl ⟨by rfl, ?_⟩) ?_ ?_
   rotate_left
   ·intro w'
    go_simp
    with_reducible rfl
   rotate_left
   ·simp only [Act.put, List.setIfInBounds_toArray, List.set_cons_zero, List.set_cons_succ, i64_w, i32_w]
    rfl
   refine pure_ (i := 16) (N := some 8) (v := ?_) (a' := ?_) #[Y, Y, Y, Y, Y, Y, Y, Y, Y, Y, Y, Y, Y, Y, Y, Y, Y] rfl rfl (any_of HT_.out (by kernel_rfl)) (fun _ _ _ h => h) (Or.inl ⟨by rfl, ?_⟩) ?_ ?_
   rotate_left
   ·intro w'
    go_simp
    with_reducible rfl
   rotate_left
   ·simp only [Act.put, List.setIfInBounds_toArray, List.set_cons_zero, List.set_cons_succ, i64_w, i32_w]
    rfl
   refine done_ (done_of HT_.out (by kernel_rfl)) ?_
   obtain ⟨HGz8, hgz8⟩ := HI0.out
   have hcz8_0 := cellS119_0 HGz8
   have hcz8_1 := cellS119_1 HGz8
   have hcz8_2 := cellS119_2 HGz8
   have hfz8_0 := blk_frozen HGz8 0
   have hfz8_1 := blk_frozen HGz8 1
   have hfz8_2 := blk_frozen HGz8 2
   clear HGz8 hgz8
   try go_wp2_with (first | (go_at_call 71; go_in) | ((try simp only [Exit.inBlock, Exit.then]); refine bodyPost_end (results_none rfl _ _ _) rfl ?_; simp only []; go_at_K))
   go_ret
   exact ⟨by first | rfl | (simp [errW_none, errW_some] <;> rfl) | (simp [*, errW_none, errW_some] <;> rfl), by repeat (first | (with_reducible first | exact HI0.out | apply IsS119.alloc | apply IsS119.drewN | apply IsS119.drew | apply IsS119.set_0 | apply IsS119.set_1 | apply IsS119.set_2) | exact HI0.out), by repeat (first | (with_reducible first | exact HB.out | apply below_alloc | apply pw_below_drewN | apply below_drew1 | refine below_set ?_ (IsS119.ge HI0.out)) | exact HB.out), by repeat (first | (with_reducible first | exact HK.out | apply KeepBut.set_ | apply keep_drewN | apply keep_drew | apply keep_alloc) | exact HK.out)⟩
  ·replace c4 := Bool.eq_false_iff.mpr c4
   subst c4
   have H1 : (some (0, s0_0, s0_1, 2)) = some (r1, r2, r3, r4) := by rw [if_neg (show ¬ (false = true) by decide)] at H; exact H
   clear H
   have H := H1
   clear H1
   simp only [Option.some.injEq, Prod.mk.injEq] at H
   obtain ⟨rfl, rfl, rfl, rfl⟩ := H
   obtain ⟨HGz9, hgz9⟩ := HI0.out
   have hcz9_0 := cellS119_0 HGz9
   have hcz9_1 := cellS119_1 HGz9
   have hcz9_2 := cellS119_2 HGz9
   have hfz9_0 := blk_frozen HGz9 0
   have hfz9_1 := blk_frozen HGz9 1
   have hfz9_2 := blk_frozen HGz9 2
   clear HGz9 hgz9
   go_enter Tryd.func46, Tryd.ntmps46
   try go_wp2_with (first | (go_at_call 71; go_in) | ((try simp only [Exit.inBlock, Exit.then]); refine bodyPost_end (results_none rfl _ _ _) rfl ?_; simp only []; go_at_K))
   have n0_ := Aside0.mk (IsS119.drew HI0.out)
   have n1_ := Aside0.mk (keep_drew HK.out)
   have n2_ := Aside0.mk (below_drew1 HB.out)
   clear HI0
   clear HK
   clear HB
   have HI0 := n0_
   have HK := n1_
   have HB := n2_
   clear n0_ n1_ n2_
   refine start_ (n := 17) (S := fun w' => w'.cell? ⟨g, 0, none⟩ = some (.string s0_0) ∧ w'.cell? ⟨g, 1, none⟩ = some (.int .i64 s0_1) ∧ w'.cell? ⟨g, 2, none⟩ = some (.int .i64 s0_2)) (ds := []) #[Yn, Yn, Yn, Yn, Yn, Yn, Yn, Yn, Yn, Yn, Yn, Yn, Yn, Yn, Yn, Yn, Yn] (by kernel_rfl) rfl rfl ⟨(blk_cell (Aside0.mk HI0.out.1).out 0).trans rfl, (blk_cell (Aside0.mk HI0.out.1).out 1).trans rfl, (blk_cell (Aside0.mk HI0.out.1).out 2).trans rfl⟩ (fun hHeld => ?_); refine with_tabW codec_Reader_List.tab71004 codec_Reader_List.bits71004 (fun HT_ HW_ => ?_)
   generalize w.drew = w10 at HI0 HK HB hHeld ⊢
   refine pure_ (i := 0) (N := some 16) (v := ?_) (a' := ?_) #[Y, Yn, Yn, Yn, Yn, Yn, Yn, Yn, Yn, Yn, Yn, Yn, Yn, Yn, Yn, Yn, Yn] rfl rfl (any_of HT_.out (by kernel_rfl)) (fun _ _ _ h => h) (Or.inl ⟨by rfl, ?_⟩) ?_ ?_
   rotate_left
   ·intro w'
    go_simp
    with_reducible rfl
   rotate_left
   ·simp only [Act.put, List.setIfInBounds_toArray, List.set_cons_zero, List.set_cons_succ, i64_w, i32_w]
    rfl
   refine pure_ (i := 1) (N := some 17) (v := ?_) (a' := ?_) #[Y, Y, Yn, Yn, Yn, Yn, Yn, Yn, Yn, Yn, Yn, Yn, Yn, Yn, Yn, Yn, Yn] rfl rfl (any_of HT_.out (by kernel_rfl)) (fun _ _ _ h => h) (Or.inl ⟨by rfl, ?_⟩) ?_ ?_
   rotate_left
   ·intro w'
    go_simp
    with_reducible rfl
   rotate_left
   ·simp only [Act.put, List.setIfInBounds_toArray, List.set_cons_zero, List.set_cons_succ, i64_w, i32_w]
    rfl
   refine pure_ (i := 2) (N := some 18) (v := ?_) (a' := ?_) #[Y, Y, Y, Yn, Yn, Yn, Yn, Yn, Yn, Yn, Yn, Yn, Yn, Yn, Yn, Yn, Yn] rfl rfl (any_of HT_.out (by kernel_rfl)) (fun _ _ _ h => h) (Or.inl ⟨by rfl, ?_⟩) ?_ ?_
   rotate_left
   ·intro w'
    go_simp
    with_reducible rfl
   rotate_left
   ·simp only [Act.put, List.setIfInBounds_toArray, List.set_cons_zero, List.set_cons_succ, i64_w, i32_w]
    rfl
   refine pure_ (i := 3) (N := some 19) (v := ?_) (a' := ?_) #[Y, Y, Y, Y, Yn, Yn, Yn, Yn, Yn, Yn, Yn, Yn, Yn, Yn, Yn, Yn, Yn] rfl rfl (any_of HT_.out (by kernel_rfl)) (fun _ _ _ h => h) (Or.inl ⟨by rfl, ?_⟩) ?_ ?_
   rotate_left
   ·intro w'
    go_simp
    with_reducible rfl
   rotate_left
   ·simp only [Act.put, List.setIfInBounds_toArray, List.set_cons_zero, List.set_cons_succ, i64_w, i32_w]
    rfl
   refine pure_ (i := 5) (N := some 21) (v := ?_) (a' := ?_) #[Y, Y, Y, Y, Yn, Y, Yn, Yn, Yn, Yn, Yn, Yn, Yn, Yn, Yn, Yn, Yn] rfl rfl (any_of HT_.out (by kernel_rfl)) (fun _ _ _ h => h) (Or.inl ⟨by rfl, ?_⟩) ?_ ?_
   rotate_left
   ·intro w'
    go_simp
    with_reducible rfl
   rotate_left
   ·simp only [Act.put, List.setIfInBounds_toArray, List.set_cons_zero, List.set_cons_succ, i64_w, i32_w]
    rfl
   refine pure_ (i := 6) (N := some 22) (v := ?_) (a' := ?_) #[Y, Y, Y, Y, Yn, Y, Y, Yn, Yn, Yn, Yn, Yn, Yn, Yn, Yn, Yn, Yn] rfl rfl (any_of HT_.out (by kernel_rfl)) (fun _ _ _ h => h) (Or.inl ⟨by rfl, ?_⟩) ?_ ?_
   rotate_left
   ·intro w'
    go_simp
    with_reducible rfl
   rotate_left
   ·simp only [Act.put, List.setIfInBounds_toArray, List.set_cons_zero, List.set_cons_succ, i64_w, i32_w]
    rfl
   refine pure_ (i := 7) (N := some 23) (v := ?_) (a' := ?_) #[Y, Y, Y, Y, Yn, Y, Y, Y, Yn, Yn, Yn, Yn, Yn, Yn, Yn, Yn, Yn] rfl rfl (any_of HT_.out (by kernel_rfl)) (fun _ _ _ h => h) (Or.inl ⟨by rfl, ?_⟩) ?_ ?_
   rotate_left
   ·intro w'
    go_simp
    with_reducible rfl
   rotate_left
   ·simp only [Act.put, List.setIfInBounds_toArray, List.set_cons_zero, List.set_cons_succ, i64_w, i32_w]
    rfl
   refine take_ (i := 4) (N := some 20) (v := ?_) (a' := ?_) #[Y, Y, Y, Y, Y, Y, Y, Y, Yn, Yn, Yn, Yn, Yn, Yn, Yn, Yn, Yn] rfl rfl (take_ofW HT_.out HW_.out (by kernel_rfl)) (fun _ _ _ h => h) (Or.inl ⟨by rfl, ?_⟩) hHeld ?_ ?_
   rotate_left
   ·rintro w' ⟨s0, s1, s2⟩
    go_simp
    with_reducible rfl
   rotate_left
   ·simp only [Act.put, List.setIfInBounds_toArray, List.set_cons_zero, List.set_cons_succ, i64_w, i32_w]
    rfl
   refine take_ (i := 8) (N := some 24) (v := ?_) (a' := ?_) #[Y, Y, Y, Y, Y, Y, Y, Y, Y, Yn, Yn, Yn, Yn, Yn, Yn, Yn, Yn] rfl rfl (take_ofW HT_.out HW_.out (by kernel_rfl)) (fun _ _ _ h => h) (Or.inl ⟨by rfl, ?_⟩) hHeld ?_ ?_
   rotate_left
   ·rintro w' ⟨s0, s1, s2⟩
    go_simp
    with_reducible rfl
   rotate_left
   ·simp only [Act.put, List.setIfInBounds_toArray, List.set_cons_zero, List.set_cons_succ, i64_w, i32_w]
    rfl
   refine one_ (i := 9) (N := some 25) #[Y, Y, Y, Y, Y, Y, Y, Y, Y, Y, Yn, Yn, Yn, Yn, Yn, Yn, Yn] rfl rfl (one_of HT_.out (by kernel_rfl)) (by decide) (fun K hK => ?_)
   refine goesT_ Tryd.func72 (by kernel_rfl) rfl #[.string s0_0, .int .i64 s0_1] (by rfl) rfl rfl rfl (by (try simp only [List.map_toArray, List.map_cons, List.map_nil]); first | done | rfl | (simp only [List.length_drop, List.length_take]; rfl)) ?_
   with_reducible refine (codec_list.calls k s0_0 s0_1 t131 t132 false _ ?side99  A3.out).mono ?_
   (case side99 => first | exact HG.out | exact Glob.below HG.out (by repeat (first | (with_reducible first | exact HB.out | apply below_alloc | apply pw_below_drewN | apply below_drew1 | refine below_set ?_ (IsS119.ge HI0.out)) | exact HB.out)))
   rintro e w11 ⟨rfl, hb⟩
   refine ⟨_, rfl, ?_⟩
   have n0_ := Aside0.mk (IsS119.below (by repeat (first | (with_reducible first | exact HI0.out | apply IsS119.alloc | apply IsS119.drewN | apply IsS119.drew | apply IsS119.set_0 | apply IsS119.set_1 | apply IsS119.set_2) | exact HI0.out)) hb)
   have n1_ := Aside0.mk (KeepBut.trans (by repeat (first | (with_reducible first | exact HK.out | apply KeepBut.set_ | apply keep_drewN | apply keep_drew | apply keep_alloc) | exact HK.out)) (KeepBut.of_below hb g none) (.inl rfl))
   have n2_ := Aside0.mk (below_step (by repeat (first | (with_reducible first | exact HB.out | apply below_alloc | apply pw_below_drewN | apply below_drew1 | refine below_set ?_ (IsS119.ge HI0.out)) | exact HB.out)) hb)
   clear HI0
   clear HK
   clear HB
   have HI0 := n0_
   have HK := n1_
   have HB := n2_
   clear n0_ n1_ n2_
   (try clear hb)
   (try clear hb2)
   (try clear hk)
   (try clear hi)
   refine hK.out _ _ ⟨(blk_cell (Aside0.mk HI0.out.1).out 0).trans rfl, (blk_cell (Aside0.mk HI0.out.1).out 1).trans rfl, (blk_cell (Aside0.mk HI0.out.1).out 2).trans rfl⟩ (fun hHeld => ?_)
   clear hK K
   refine norm_ (a' := ?_) ?_ ?_
   rotate_left
   ·show Act.put _ (some 25) _ = _
    simp only [Act.put, List.setIfInBounds_toArray, List.set_cons_zero, List.set_cons_succ, i64_w, i32_w]
    rfl
   refine pure_ (i := 10) (N := some 15) (v := ?_) (a' := ?_) #[Y, Y, Y, Y, Y, Y, Y, Y, Y, Y, Y, Yn, Yn, Yn, Yn, Yn, Yn] rfl rfl (any_of HT_.out (by kernel_rfl)) (fun _ _ _ h => h) (Or.inl ⟨by rfl, ?_⟩) ?_ ?_
   rotate_left
   ·intro w'
    go_simp
    with_reducible rfl
   rotate_left
   ·simp only [Act.put, List.setIfInBounds_toArray, List.set_cons_zero, List.set_cons_succ, i64_w, i32_w]
    rfl
   refine pure_ (i := 11) (N := some 26) (v := ?_) (a' := ?_) #[Y, Y, Y, Y, Y, Y, Y, Y, Y, Y, Y, Y, Yn, Yn, Yn, Yn, Yn] rfl rfl (any_of HT_.out (by kernel_rfl)) (fun _ _ _ h => h) (Or.inl ⟨by rfl, ?_⟩) ?_ ?_
   rotate_left
   ·intro w'
    go_simp
    with_reducible rfl
   rotate_left
   ·simp only [Act.put, List.setIfInBounds_toArray, List.set_cons_zero, List.set_cons_succ, i64_w, i32_w]
    rfl
   refine pure_ (i := 12) (N := some 27) (v := ?_) (a' := ?_) #[Y, Y, Y, Y, Y, Y, Y, Y, Y, Y, Y, Y, Y, Yn, Yn, Yn, Yn] rfl rfl (any_of HT_.out (by kernel_rfl)) (fun _ _ _ h => h) (Or.inl ⟨by rfl, ?_⟩) ?_ ?_
   rotate_left
   ·intro w'
    go_simp
    with_reducible rfl
   rotate_left
   ·simp only [Act.put, List.setIfInBounds_toArray, List.set_cons_zero, List.set_cons_succ, i64_w, i32_w]
    rfl
   refine pure_ (i := 13) (N := some 28) (v := ?_) (a' := ?_) #[Y, Y, Y, Y, Y, Y, Y, Y, Y, Y, Y, Y, Y, Y, Yn, Yn, Yn] rfl rfl (any_of HT_.out (by kernel_rfl)) (fun _ _ _ h => h) (Or.inl ⟨by rfl, ?_⟩) ?_ ?_
   rotate_left
   ·intro w'
    go_simp
    with_reducible rfl
   rotate_left
   ·simp only [Act.put, List.setIfInBounds_toArray, List.set_cons_zero, List.set_cons_succ, i64_w, i32_w]
    rfl
   refine pure_ (i := 14) (N := some 6) (v := ?_) (a' := ?_) #[Y, Y, Y, Y, Y, Y, Y, Y, Y, Y, Y, Y, Y, Y, Y, Yn, Yn] rfl rfl (any_of HT_.out (by kernel_rfl)) (fun _ _ _ h => h) (Or.inl ⟨by rfl, ?_⟩) ?_ ?_
   rotate_left
   ·intro w'
    go_simp
    with_reducible rfl
   rotate_left
   ·simp only [Act.put, List.setIfInBounds_toArray, List.set_cons_zero, List.set_cons_succ, i64_w, i32_w]
    rfl
   refine pure_ (i := 15) (N := some 7) (v := ?_) (a' := ?_) #[Y, Y, Y, Y, Y, Y, Y, Y, Y, Y, Y, Y, Y, Y, Y, Y, Yn] rfl rfl (any_of HT_.out (by kernel_rfl)) (fun _ _ _ h => h) (Or.inl ⟨by rfl, ?_⟩) ?_ ?_
   rotate_left
   ·intro w'
    go_simp
    with_reducible rfl
   rotate_left
   ·simp only [Act.put, List.setIfInBounds_toArray, List.set_cons_zero, List.set_cons_succ, i64_w, i32_w]
    rfl
   refine pure_ (i := 16) (N := some 8) (v := ?_) (a' := ?_) #[Y, Y, Y, Y, Y, Y, Y, Y, Y, Y, Y, Y, Y, Y, Y, Y, Y] rfl rfl (any_of HT_.out (by kernel_rfl)) (fun _ _ _ h => h) (Or.inl ⟨by rfl, ?_⟩) ?_ ?_
   rotate_left
   ·intro w'
    go_simp
    with_reducible rfl
   rotate_left
   ·simp only [Act.put, List.setIfInBounds_toArray, List.set_cons_zero, List.set_cons_succ, i64_w, i32_w]
    rfl
   refine done_ (done_of HT_.out (by kernel_rfl)) ?_
   obtain ⟨HGz12, hgz12⟩ := HI0.out
   have hcz12_0 := cellS119_0 HGz12
   have hcz12_1 := cellS119_1 HGz12
   have hcz12_2 := cellS119_2 HGz12
   have hfz12_0 := blk_frozen HGz12 0
   have hfz12_1 := blk_frozen HGz12 1
   have hfz12_2 := blk_frozen HGz12 2
   clear HGz12 hgz12
   try go_wp2_with (first | (go_at_call 71; go_in) | ((try simp only [Exit.inBlock, Exit.then]); refine bodyPost_end (results_none rfl _ _ _) rfl ?_; simp only []; go_at_K))
   go_ret
   exact ⟨by first | rfl | (simp [errW_none, errW_some] <;> rfl) | (simp [*, errW_none, errW_some] <;> rfl), by repeat (first | (with_reducible first | exact HI0.out | apply IsS119.alloc | apply IsS119.drewN | apply IsS119.drew | apply IsS119.set_0 | apply IsS119.set_1 | apply IsS119.set_2) | exact HI0.out), by repeat (first | (with_reducible first | exact HB.out | apply below_alloc | apply pw_below_drewN | apply below_drew1 | refine below_set ?_ (IsS119.ge HI0.out)) | exact HB.out), by repeat (first | (with_reducible first | exact HK.out | apply KeepBut.set_ | apply keep_drewN | apply keep_drew | apply keep_alloc) | exact HK.out)⟩
 ·rw [if_neg c2] at H
  have c2b0 : (s0_2 == 0) = false := beq_eq_false_iff_ne.mpr c2
  have c2b1 : (s0_2 != 0) = true := bne_iff_ne.mpr c2
  simp only [Option.some.injEq, Prod.mk.injEq] at H
  obtain ⟨rfl, rfl, rfl, rfl⟩ := H
  obtain ⟨HGz13, hgz13⟩ := HI0.out
  have hcz13_0 := cellS119_0 HGz13
  have hcz13_1 := cellS119_1 HGz13
  have hcz13_2 := cellS119_2 HGz13
  have hfz13_0 := blk_frozen HGz13 0
  have hfz13_1 := blk_frozen HGz13 1
  have hfz13_2 := blk_frozen HGz13 2
  clear HGz13 hgz13
  go_enter Tryd.func46, Tryd.ntmps46
  go_wp2_with (first | (go_at_call 71; go_in) | ((try simp only [Exit.inBlock, Exit.then]); refine bodyPost_end (results_none rfl _ _ _) rfl ?_; simp only []; go_at_K))
  go_ret
  exact ⟨by first | rfl | (simp [errW_none, errW_some] <;> rfl) | (simp [*, errW_none, errW_some] <;> rfl), by repeat (first | (with_reducible first | exact HI0.out | apply IsS119.alloc | apply IsS119.drewN | apply IsS119.drew | apply IsS119.set_0 | apply IsS119.set_1 | apply IsS119.set_2) | exact HI0.out), by repeat (first | (with_reducible first | exact HB.out | apply below_alloc | apply pw_below_drewN | apply below_drew1 | refine below_set ?_ (IsS119.ge HI0.out)) | exact HB.out), by repeat (first | (with_reducible first | exact HK.out | apply KeepBut.set_ | apply keep_drewN | apply keep_drew | apply keep_alloc) | exact HK.out)⟩
end Go.Proofs.YtbgabhknmpbgiaaDoor.S
end
section
namespace Go.Proofs.YtbgabhknmpbgiaaDoor.S
open Go.RowKit Go.Proofs.YtbgabhknmpbgiaaDoorW.PrintWords Go.Proofs.YtbgabhknmpbgiaaDoorW.PrintLast Go.Proofs.YtbgabhknmpbgiaaDoorW.PrintMore
attribute [local go_sem] max2_int min2_int max_two min_two max_three min_three max_four min_four
set_option linter.unusedVariables false
set_option linter.unusedSimpArgs false
def codec_Reader_Unsigned_1.f (k : Nat) (a0 : ByteArray) (a1 : Int) : Option (Int × Int × Bool) := (codec_raw.f k a0 a1 3).bind fun bt134 => (some (bt134.1, bt134.2.1, bt134.2.2))
set_option maxHeartbeats 8000000 in
set_option maxRecDepth 100000 in
theorem codec_Reader_Unsigned_1.calls (k : Nat) (a0 : ByteArray) (a1 : Int) (r1 : Int) (r2 : Int) (r3 : Bool) (w : World) (hG : Glob w) (h : codec_Reader_Unsigned_1.f k a0 a1 = some (r1, r2, r3)) :
  Calls Tryd.prog 74 #[.string a0, .int .i64 a1] w fun e w' => e = .returned (.tuple #[.int .u64 r1, .int .i64 r2, .bool r3]) ∧ Below w.heap.size w w' := by
 have HG := Aside0.mk hG
 clear hG
 have HB := Aside0.mk (Below.refl w.heap.size w)
 have H : ((codec_raw.f k a0 a1 3).bind fun bt134 => (some (bt134.1, bt134.2.1, bt134.2.2))) = some (r1, r2, r3) := h
 clear h
 replace H := Option.bind_eq_some_iff.mp H
 obtain ⟨⟨t134, t135, t136⟩, A30, H⟩ := H
 replace H : (some (t134, t135, t136)) = some (r1, r2, r3) := H
 have A3 := Aside0.mk A30
 clear A30
 simp only [Option.some.injEq, Prod.mk.injEq] at H
 obtain ⟨rfl, rfl, rfl⟩ := H
 go_enter Tryd.func74, Tryd.ntmps74
 go_wp2_with (first | ((with_reducible refine gate_callee (f := 75) rfl ?_); refine goesL_ (some 9) rfl rfl Tryd.func75 (by kernel_rfl) rfl #[.string a0, .int .i64 a1, .int .i64 3] rfl (by (try simp only [List.map_toArray, List.map_cons, List.map_nil]); first | done | rfl | (simp only [List.length_drop, List.length_take]; rfl)) ?_; (with_reducible refine (codec_raw.calls k a0 a1 3 t134 t135 t136 _ ?side99  A3.out).mono ?_); (case side99 => first | exact HG.out | exact Glob.below HG.out (by repeat (first | (with_reducible first | exact HB.out | apply below_alloc | apply pw_below_drewN | apply below_drew1) | exact HB.out))); rintro e w4 ⟨rfl, hb⟩; refine ⟨_, rfl, ?_⟩; have n0_ := Aside0.mk (below_step (by repeat (first | (with_reducible first | exact HB.out | apply below_alloc | apply pw_below_drewN | apply below_drew1) | exact HB.out)) hb); clear HB; have HB := n0_; clear n0_; (try clear hb); (try clear hb2); (try clear hk); (try clear hi)))
 go_ret3
 exact ⟨by first | rfl | (simp [errW_none, errW_some] <;> rfl) | (simp [*, errW_none, errW_some] <;> rfl), by repeat (first | (with_reducible first | exact HB.out | apply below_alloc | apply pw_below_drewN | apply below_drew1) | exact HB.out)⟩
end Go.Proofs.YtbgabhknmpbgiaaDoor.S
end
section
namespace Go.Proofs.YtbgabhknmpbgiaaDoor.S
open Go.RowKit Go.Proofs.YtbgabhknmpbgiaaDoorW.PrintWords Go.Proofs.YtbgabhknmpbgiaaDoorW.PrintLast Go.Proofs.YtbgabhknmpbgiaaDoorW.PrintMore
attribute [local go_sem] max2_int min2_int max_two min_two max_three min_three max_four min_four
set_option linter.unusedVariables false
set_option linter.unusedSimpArgs false
def codec_Reader_Unsigned.f (k : Nat) (s0_0 : ByteArray) (s0_1 : Int) (s0_2 : Int) : Option (Int × ByteArray × Int × Int) := if s0_2 = 0 then ((codec_Reader_Unsigned_1.f k s0_0 s0_1).bind fun bt137 => (if bt137.2.2 = true then (some (bt137.1, s0_0, bt137.2.1, s0_2)) else (some (0, s0_0, s0_1, 2)))) else (some (0, s0_0, s0_1, s0_2))
def codec_Reader_Unsigned.T73004 : Bool × List (List Nat × List Nat) := (true, [([], []), ([], []), ([1], [1]), ([2], [2]), ([3], [3]), ([], []), ([5], [5]), ([6], [6]), ([7], [7]), ([0, 4, 8], [0, 4, 8]), ([9], [9]), ([10], [10]), ([10], [10]), ([10], [10]), ([11, 9, 0, 1, 2, 3, 4, 5, 6, 7, 8, 9, 10, 11], [11]), ([12, 14, 0, 1, 2, 3, 4, 5, 6, 7, 8, 9, 10, 11, 12, 14], [12]), ([13, 15, 0, 1, 2, 3, 4, 5, 6, 7, 8, 9, 10, 11, 12, 13, 14, 15], [13])])
def codec_Reader_Unsigned.B73004 : List Nat := [0, 0, 2, 6, 14, 0, 32, 96, 224, 511, 1023, 2047, 2047, 2047, 4095, 24575, 65535]
theorem codec_Reader_Unsigned.tab73004 : rtab .any (opsOf Tryd.f73 4) = codec_Reader_Unsigned.T73004 := by kernel_rfl
theorem codec_Reader_Unsigned.bits73004 : waitsOk codec_Reader_Unsigned.T73004.2 codec_Reader_Unsigned.B73004 = true := by kernel_rfl
set_option maxHeartbeats 8000000 in
set_option maxRecDepth 100000 in
theorem codec_Reader_Unsigned.calls (k : Nat) (g : Nat) (s0_0 : ByteArray) (s0_1 : Int) (s0_2 : Int) (r1 : Int) (r2 : ByteArray) (r3 : Int) (r4 : Int) (w0 w : World) (hG : Glob w0) (hI : IsS119 w0 w g s0_0 s0_1 s0_2) (hB : Below w0.heap.size w0 w) (h : codec_Reader_Unsigned.f k s0_0 s0_1 s0_2 = some (r1, r2, r3, r4)) :
  Calls Tryd.prog 47 #[.pointer (some ⟨g, 0, none⟩)] w fun e w' => e = .returned (.int .u64 r1) ∧ IsS119 w0 w' g r2 r3 r4 ∧ Below w0.heap.size w0 w' ∧ KeepBut w w' g none := by
 have hmf_ : ∀ (fn : Fn) (first cap : Array Value) (w : World), (Instr.makeFunc fn first cap).run Tryd.prog w = .ok (.func fn first cap) w := fun _ _ _ _ => rfl
 have HG := Aside0.mk hG
 clear hG
 have HI0 := Aside0.mk hI
 have HK := Aside0.mk (KeepBut.refl w g none)
 have HL := Aside0.mk hB.size
 clear hI
 have HW0 := Aside0.mk hB.size
 have HB := Aside0.mk hB
 clear hB
 have H : (if s0_2 = 0 then ((codec_Reader_Unsigned_1.f k s0_0 s0_1).bind fun bt137 => (if bt137.2.2 = true then (some (bt137.1, s0_0, bt137.2.1, s0_2)) else (some (0, s0_0, s0_1, 2)))) else (some (0, s0_0, s0_1, s0_2))) = some (r1, r2, r3, r4) := h
 clear h
 by_cases c2 : s0_2 = 0
 ·rw [if_pos c2] at H
  have c2b0 : (s0_2 == 0) = true := beq_iff_eq.mpr c2
  have c2b1 : (s0_2 != 0) = false := bne_eq_false_iff_eq.mpr c2
  clear c2
  replace H := Option.bind_eq_some_iff.mp H
  obtain ⟨⟨t137, t138, t139⟩, A30, H⟩ := H
  replace H : (if t139 = true then (some (t137, s0_0, t138, s0_2)) else (some (0, s0_0, s0_1, 2))) = some (r1, r2, r3, r4) := H
  have A3 := Aside0.mk A30
  clear A30
  by_cases c4 : t139 = true
  ·subst c4
   have H1 : (some (t137, s0_0, t138, s0_2)) = some (r1, r2, r3, r4) := by rw [if_pos rfl] at H; exact H
   clear H
   have H := H1
   clear H1
   simp only [Option.some.injEq, Prod.mk.injEq] at H
   obtain ⟨rfl, rfl, rfl, rfl⟩ := H
   obtain ⟨HGz5, hgz5⟩ := HI0.out
   have hcz5_0 := cellS119_0 HGz5
   have hcz5_1 := cellS119_1 HGz5
   have hcz5_2 := cellS119_2 HGz5
   have hfz5_0 := blk_frozen HGz5 0
   have hfz5_1 := blk_frozen HGz5 1
   have hfz5_2 := blk_frozen HGz5 2
   clear HGz5 hgz5
   go_enter Tryd.func47, Tryd.ntmps47
   try go_wp2_with (first | (go_at_call 73; go_in) | ((try simp only [Exit.inBlock, Exit.then]); refine bodyPost_end (results_none rfl _ _ _) rfl ?_; simp only []; go_at_K))
   have n0_ := Aside0.mk (IsS119.drew HI0.out)
   have n1_ := Aside0.mk (keep_drew HK.out)
   have n2_ := Aside0.mk (below_drew1 HB.out)
   clear HI0
   clear HK
   clear HB
   have HI0 := n0_
   have HK := n1_
   have HB := n2_
   clear n0_ n1_ n2_
   refine start_ (n := 17) (S := fun w' => w'.cell? ⟨g, 0, none⟩ = some (.string s0_0) ∧ w'.cell? ⟨g, 1, none⟩ = some (.int .i64 s0_1) ∧ w'.cell? ⟨g, 2, none⟩ = some (.int .i64 s0_2)) (ds := []) #[Yn, Yn, Yn, Yn, Yn, Yn, Yn, Yn, Yn, Yn, Yn, Yn, Yn, Yn, Yn, Yn, Yn] (by kernel_rfl) rfl rfl ⟨(blk_cell (Aside0.mk HI0.out.1).out 0).trans rfl, (blk_cell (Aside0.mk HI0.out.1).out 1).trans rfl, (blk_cell (Aside0.mk HI0.out.1).out 2).trans rfl⟩ (fun hHeld => ?_); refine with_tabW codec_Reader_Unsigned.tab73004 codec_Reader_Unsigned.bits73004 (fun HT_ HW_ => ?_)
   generalize w.drew = w6 at HI0 HK HB hHeld ⊢
   refine pure_ (i := 0) (N := some 16) (v := ?_) (a' := ?_) #[Y, Yn, Yn, Yn, Yn, Yn, Yn, Yn, Yn, Yn, Yn, Yn, Yn, Yn, Yn, Yn, Yn] rfl rfl (any_of HT_.out (by kernel_rfl)) (fun _ _ _ h => h) (Or.inl ⟨by rfl, ?_⟩) ?_ ?_
   rotate_left
   ·intro w'
    go_simp
    with_reducible rfl
   rotate_left
   ·simp only [Act.put, List.setIfInBounds_toArray, List.set_cons_zero, List.set_cons_succ, i64_w, i32_w]
    rfl
   refine pure_ (i := 1) (N := some 17) (v := ?_) (a' := ?_) #[Y, Y, Yn, Yn, Yn, Yn, Yn, Yn, Yn, Yn, Yn, Yn, Yn, Yn, Yn, Yn, Yn] rfl rfl (any_of HT_.out (by kernel_rfl)) (fun _ _ _ h => h) (Or.inl ⟨by rfl, ?_⟩) ?_ ?_
   rotate_left
   ·intro w'
    go_simp
    with_reducible rfl
   rotate_left
   ·simp only [Act.put, List.setIfInBounds_toArray, List.set_cons_zero, List.set_cons_succ, i64_w, i32_w]
    rfl
   refine pure_ (i := 2) (N := some 18) (v := ?_) (a' := ?_) #[Y, Y, Y, Yn, Yn, Yn, Yn, Yn, Yn, Yn, Yn, Yn, Yn, Yn, Yn, Yn, Yn] rfl rfl (any_of HT_.out (by kernel_rfl)) (fun _ _ _ h => h) (Or.inl ⟨by rfl, ?_⟩) ?_ ?_
   rotate_left
   ·intro w'
    go_simp
    with_reducible rfl
   rotate_left
   ·simp only [Act.put, List.setIfInBounds_toArray, List.set_cons_zero, List.set_cons_succ, i64_w, i32_w]
    rfl
   refine pure_ (i := 3) (N := some 19) (v := ?_) (a' := ?_) #[Y, Y, Y, Y, Yn, Yn, Yn, Yn, Yn, Yn, Yn, Yn, Yn, Yn, Yn, Yn, Yn] rfl rfl (any_of HT_.out (by kernel_rfl)) (fun _ _ _ h => h) (Or.inl ⟨by rfl, ?_⟩) ?_ ?_
   rotate_left
   ·intro w'
    go_simp
    with_reducible rfl
   rotate_left
   ·simp only [Act.put, List.setIfInBounds_toArray, List.set_cons_zero, List.set_cons_succ, i64_w, i32_w]
    rfl
   refine pure_ (i := 5) (N := some 21) (v := ?_) (a' := ?_) #[Y, Y, Y, Y, Yn, Y, Yn, Yn, Yn, Yn, Yn, Yn, Yn, Yn, Yn, Yn, Yn] rfl rfl (any_of HT_.out (by kernel_rfl)) (fun _ _ _ h => h) (Or.inl ⟨by rfl, ?_⟩) ?_ ?_
   rotate_left
   ·intro w'
    go_simp
    with_reducible rfl
   rotate_left
   ·simp only [Act.put, List.setIfInBounds_toArray, List.set_cons_zero, List.set_cons_succ, i64_w, i32_w]
    rfl
   refine pure_ (i := 6) (N := some 22) (v := ?_) (a' := ?_) #[Y, Y, Y, Y, Yn, Y, Y, Yn, Yn, Yn, Yn, Yn, Yn, Yn, Yn, Yn, Yn] rfl rfl (any_of HT_.out (by kernel_rfl)) (fun _ _ _ h => h) (Or.inl ⟨by rfl, ?_⟩) ?_ ?_
   rotate_left
   ·intro w'
    go_simp
    with_reducible rfl
   rotate_left
   ·simp only [Act.put, List.setIfInBounds_toArray, List.set_cons_zero, List.set_cons_succ, i64_w, i32_w]
    rfl
   refine pure_ (i := 7) (N := some 23) (v := ?_) (a' := ?_) #[Y, Y, Y, Y, Yn, Y, Y, Y, Yn, Yn, Yn, Yn, Yn, Yn, Yn, Yn, Yn] rfl rfl (any_of HT_.out (by kernel_rfl)) (fun _ _ _ h => h) (Or.inl ⟨by rfl, ?_⟩) ?_ ?_
   rotate_left
   ·intro w'
    go_simp
    with_reducible rfl
   rotate_left
   ·simp only [Act.put, List.setIfInBounds_toArray, List.set_cons_zero, List.set_cons_succ, i64_w, i32_w]
    rfl
   refine take_ (i := 4) (N := some 20) (v := ?_) (a' := ?_) #[Y, Y, Y, Y, Y, Y, Y, Y, Yn, Yn, Yn, Yn, Yn, Yn, Yn, Yn, Yn] rfl rfl (take_ofW HT_.out HW_.out (by kernel_rfl)) (fun _ _ _ h => h) (Or.inl ⟨by rfl, ?_⟩) hHeld ?_ ?_
   rotate_left
   ·rintro w' ⟨s0, s1, s2⟩
    go_simp
    with_reducible rfl
   rotate_left
   ·simp only [Act.put, List.setIfInBounds_toArray, List.set_cons_zero, List.set_cons_succ, i64_w, i32_w]
    rfl
   refine take_ (i := 8) (N := some 24) (v := ?_) (a' := ?_) #[Y, Y, Y, Y, Y, Y, Y, Y, Y, Yn, Yn, Yn, Yn, Yn, Yn, Yn, Yn] rfl rfl (take_ofW HT_.out HW_.out (by kernel_rfl)) (fun _ _ _ h => h) (Or.inl ⟨by rfl, ?_⟩) hHeld ?_ ?_
   rotate_left
   ·rintro w' ⟨s0, s1, s2⟩
    go_simp
    with_reducible rfl
   rotate_left
   ·simp only [Act.put, List.setIfInBounds_toArray, List.set_cons_zero, List.set_cons_succ, i64_w, i32_w]
    rfl
   refine one_ (i := 9) (N := some 25) #[Y, Y, Y, Y, Y, Y, Y, Y, Y, Y, Yn, Yn, Yn, Yn, Yn, Yn, Yn] rfl rfl (one_of HT_.out (by kernel_rfl)) (by decide) (fun K hK => ?_)
   refine goesT_ Tryd.func74 (by kernel_rfl) rfl #[.string s0_0, .int .i64 s0_1] (by rfl) rfl rfl rfl (by (try simp only [List.map_toArray, List.map_cons, List.map_nil]); first | done | rfl | (simp only [List.length_drop, List.length_take]; rfl)) ?_
   with_reducible refine (codec_Reader_Unsigned_1.calls k s0_0 s0_1 t137 t138 true _ ?side99  A3.out).mono ?_
   (case side99 => first | exact HG.out | exact Glob.below HG.out (by repeat (first | (with_reducible first | exact HB.out | apply below_alloc | apply pw_below_drewN | apply below_drew1 | refine below_set ?_ (IsS119.ge HI0.out)) | exact HB.out)))
   rintro e w7 ⟨rfl, hb⟩
   refine ⟨_, rfl, ?_⟩
   have n0_ := Aside0.mk (IsS119.below (by repeat (first | (with_reducible first | exact HI0.out | apply IsS119.alloc | apply IsS119.drewN | apply IsS119.drew | apply IsS119.set_0 | apply IsS119.set_1 | apply IsS119.set_2) | exact HI0.out)) hb)
   have n1_ := Aside0.mk (KeepBut.trans (by repeat (first | (with_reducible first | exact HK.out | apply KeepBut.set_ | apply keep_drewN | apply keep_drew | apply keep_alloc) | exact HK.out)) (KeepBut.of_below hb g none) (.inl rfl))
   have n2_ := Aside0.mk (below_step (by repeat (first | (with_reducible first | exact HB.out | apply below_alloc | apply pw_below_drewN | apply below_drew1 | refine below_set ?_ (IsS119.ge HI0.out)) | exact HB.out)) hb)
   clear HI0
   clear HK
   clear HB
   have HI0 := n0_
   have HK := n1_
   have HB := n2_
   clear n0_ n1_ n2_
   (try clear hb)
   (try clear hb2)
   (try clear hk)
   (try clear hi)
   refine hK.out _ _ ⟨(blk_cell (Aside0.mk HI0.out.1).out 0).trans rfl, (blk_cell (Aside0.mk HI0.out.1).out 1).trans rfl, (blk_cell (Aside0.mk HI0.out.1).out 2).trans rfl⟩ (fun hHeld => ?_)
   clear hK K
   refine norm_ (a' := ?_) ?_ ?_
   rotate_left
   ·show Act.put _ (some 25) _ = _
    simp only [Act.put, List.setIfInBounds_toArray, List.set_cons_zero, List.set_cons_succ, i64_w, i32_w]
    rfl
   refine pure_ (i := 10) (N := some 15) (v := ?_) (a' := ?_) #[Y, Y, Y, Y, Y, Y, Y, Y, Y, Y, Y, Yn, Yn, Yn, Yn, Yn, Yn] rfl rfl (any_of HT_.out (by kernel_rfl)) (fun _ _ _ h => h) (Or.inl ⟨by rfl, ?_⟩) ?_ ?_
   rotate_left
   ·intro w'
    go_simp
    with_reducible rfl
   rotate_left
   ·simp only [Act.put, List.setIfInBounds_toArray, List.set_cons_zero, List.set_cons_succ, i64_w, i32_w]
    rfl
   refine pure_ (i := 11) (N := some 26) (v := ?_) (a' := ?_) #[Y, Y, Y, Y, Y, Y, Y, Y, Y, Y, Y, Y, Yn, Yn, Yn, Yn, Yn] rfl rfl (any_of HT_.out (by kernel_rfl)) (fun _ _ _ h => h) (Or.inl ⟨by rfl, ?_⟩) ?_ ?_
   rotate_left
   ·intro w'
    go_simp
    with_reducible rfl
   rotate_left
   ·simp only [Act.put, List.setIfInBounds_toArray, List.set_cons_zero, List.set_cons_succ, i64_w, i32_w]
    rfl
   refine pure_ (i := 12) (N := some 27) (v := ?_) (a' := ?_) #[Y, Y, Y, Y, Y, Y, Y, Y, Y, Y, Y, Y, Y, Yn, Yn, Yn, Yn] rfl rfl (any_of HT_.out (by kernel_rfl)) (fun _ _ _ h => h) (Or.inl ⟨by rfl, ?_⟩) ?_ ?_
   rotate_left
   ·intro w'
    go_simp
    with_reducible rfl
   rotate_left
   ·simp only [Act.put, List.setIfInBounds_toArray, List.set_cons_zero, List.set_cons_succ, i64_w, i32_w]
    rfl
   refine pure_ (i := 13) (N := some 28) (v := ?_) (a' := ?_) #[Y, Y, Y, Y, Y, Y, Y, Y, Y, Y, Y, Y, Y, Y, Yn, Yn, Yn] rfl rfl (any_of HT_.out (by kernel_rfl)) (fun _ _ _ h => h) (Or.inl ⟨by rfl, ?_⟩) ?_ ?_
   rotate_left
   ·intro w'
    go_simp
    with_reducible rfl
   rotate_left
   ·simp only [Act.put, List.setIfInBounds_toArray, List.set_cons_zero, List.set_cons_succ, i64_w, i32_w]
    rfl
   refine pure_ (i := 14) (N := some 6) (v := ?_) (a' := ?_) #[Y, Y, Y, Y, Y, Y, Y, Y, Y, Y, Y, Y, Y, Y, Y, Yn, Yn] rfl rfl (any_of HT_.out (by kernel_rfl)) (fun _ _ _ h => h) (Or.inl ⟨by rfl, ?_⟩) ?_ ?_
   rotate_left
   ·intro w'
    go_simp
    with_reducible rfl
   rotate_left
   ·simp only [Act.put, List.setIfInBounds_toArray, List.set_cons_zero, List.set_cons_succ, i64_w, i32_w]
    rfl
   refine pure_ (i := 15) (N := some 7) (v := ?_) (a' := ?_) #[Y, Y, Y, Y, Y, Y, Y, Y, Y, Y, Y, Y, Y, Y, Y, Y, Yn] rfl rfl (any_of HT_.out (by kernel_rfl)) (fun _ _ _ h => h) (Or.inl ⟨by rfl, ?_⟩) ?_ ?_
   rotate_left
   ·intro w'
    go_simp
    with_reducible rfl
   rotate_left
   ·simp only [Act.put, List.setIfInBounds_toArray, List.set_cons_zero, List.set_cons_succ, i64_w, i32_w]
    rfl
   refine pure_ (i := 16) (N := some 8) (v := ?_) (a' := ?_) #[Y, Y, Y, Y, Y, Y, Y, Y, Y, Y, Y, Y, Y, Y, Y, Y, Y] rfl rfl (any_of HT_.out (by kernel_rfl)) (fun _ _ _ h => h) (Or.inl ⟨by rfl, ?_⟩) ?_ ?_
   rotate_left
   ·intro w'
    go_simp
    with_reducible rfl
   rotate_left
   ·simp only [Act.put, List.setIfInBounds_toArray, List.set_cons_zero, List.set_cons_succ, i64_w, i32_w]
    rfl
   refine done_ (done_of HT_.out (by kernel_rfl)) ?_
   obtain ⟨HGz8, hgz8⟩ := HI0.out
   have hcz8_0 := cellS119_0 HGz8
   have hcz8_1 := cellS119_1 HGz8
   have hcz8_2 := cellS119_2 HGz8
   have hfz8_0 := blk_frozen HGz8 0
   have hfz8_1 := blk_frozen HGz8 1
   have hfz8_2 := blk_frozen HGz8 2
   clear HGz8 hgz8
   try go_wp2_with (first | (go_at_call 73; go_in) | ((try simp only [Exit.inBlock, Exit.then]); refine bodyPost_end (results_none rfl _ _ _) rfl ?_; simp only []; go_at_K))
   go_ret
   exact ⟨by first | rfl | (simp [errW_none, errW_some] <;> rfl) | (simp [*, errW_none, errW_some] <;> rfl), by repeat (first | (with_reducible first | exact HI0.out | apply IsS119.alloc | apply IsS119.drewN | apply IsS119.drew | apply IsS119.set_0 | apply IsS119.set_1 | apply IsS119.set_2) | exact HI0.out), by repeat (first | (with_reducible first | exact HB.out | apply below_alloc | apply pw_below_drewN | apply below_drew1 | refine below_set ?_ (IsS119.ge HI0.out)) | exact HB.out), by repeat (first | (with_reducible first | exact HK.out | apply KeepBut.set_ | apply keep_drewN | apply keep_drew | apply keep_alloc) | exact HK.out)⟩
  ·replace c4 := Bool.eq_false_iff.mpr c4
   subst c4
   have H1 : (some (0, s0_0, s0_1, 2)) = some (r1, r2, r3, r4) := by rw [if_neg (show ¬ (false = true) by decide)] at H; exact H
   clear H
   have H := H1
   clear H1
   simp only [Option.some.injEq, Prod.mk.injEq] at H
   obtain ⟨rfl, rfl, rfl, rfl⟩ := H
   obtain ⟨HGz9, hgz9⟩ := HI0.out
   have hcz9_0 := cellS119_0 HGz9
   have hcz9_1 := cellS119_1 HGz9
   have hcz9_2 := cellS119_2 HGz9
   have hfz9_0 := blk_frozen HGz9 0
   have hfz9_1 := blk_frozen HGz9 1
   have hfz9_2 := blk_frozen HGz9 2
   clear HGz9 hgz9
   go_enter Tryd.func47, Tryd.ntmps47
   try go_wp2_with (first | (go_at_call 73; go_in) | ((try simp only [Exit.inBlock, Exit.then]); refine bodyPost_end (results_none rfl _ _ _) rfl ?_; simp only []; go_at_K))
   have n0_ := Aside0.mk (IsS119.drew HI0.out)
   have n1_ := Aside0.mk (keep_drew HK.out)
   have n2_ := Aside0.mk (below_drew1 HB.out)
   clear HI0
   clear HK
   clear HB
   have HI0 := n0_
   have HK := n1_
   have HB := n2_
   clear n0_ n1_ n2_
   refine start_ (n := 17) (S := fun w' => w'.cell? ⟨g, 0, none⟩ = some (.string s0_0) ∧ w'.cell? ⟨g, 1, none⟩ = some (.int .i64 s0_1) ∧ w'.cell? ⟨g, 2, none⟩ = some (.int .i64 s0_2)) (ds := []) #[Yn, Yn, Yn, Yn, Yn, Yn, Yn, Yn, Yn, Yn, Yn, Yn, Yn, Yn, Yn, Yn, Yn] (by kernel_rfl) rfl rfl ⟨(blk_cell (Aside0.mk HI0.out.1).out 0).trans rfl, (blk_cell (Aside0.mk HI0.out.1).out 1).trans rfl, (blk_cell (Aside0.mk HI0.out.1).out 2).trans rfl⟩ (fun hHeld => ?_); refine with_tabW codec_Reader_Unsigned.tab73004 codec_Reader_Unsigned.bits73004 (fun HT_ HW_ => ?_)
   generalize w.drew = w10 at HI0 HK HB hHeld ⊢
   refine pure_ (i := 0) (N := some 16) (v := ?_) (a' := ?_) #[Y, Yn, Yn, Yn, Yn, Yn, Yn, Yn, Yn, Yn, Yn, Yn, Yn, Yn, Yn, Yn, Yn] rfl rfl (any_of HT_.out (by kernel_rfl)) (fun _ _ _ h => h) (Or.inl ⟨by rfl, ?_⟩) ?_ ?_
   rotate_left
   ·intro w'
    go_simp
    with_reducible rfl
   rotate_left
   ·simp only [Act.put, List.setIfInBounds_toArray, List.set_cons_zero, List.set_cons_succ, i64_w, i32_w]
    rfl
   refine pure_ (i := 1) (N := some 17) (v := ?_) (a' := ?_) #[Y, Y, Yn, Yn, Yn, Yn, Yn, Yn, Yn, Yn, Yn, Yn, Yn, Yn, Yn, Yn, Yn] rfl rfl (any_of HT_.out (by kernel_rfl)) (fun _ _ _ h => h) (Or.inl ⟨by rfl, ?_⟩) ?_ ?_
   rotate_left
   ·intro w'
    go_simp
    with_reducible rfl
   rotate_left
   ·simp only [Act.put, List.setIfInBounds_toArray, List.set_cons_zero, List.set_cons_succ, i64_w, i32_w]
    rfl
   refine pure_ (i := 2) (N := some 18) (v := ?_) (a' := ?_) #[Y, Y, Y, Yn, Yn, Yn, Yn, Yn, Yn, Yn, Yn, Yn, Yn, Yn, Yn, Yn, Yn] rfl rfl (any_of HT_.out (by kernel_rfl)) (fun _ _ _ h => h) (Or.inl ⟨by rfl, ?_⟩) ?_ ?_
   rotate_left
   ·intro w'
    go_simp
    with_reducible rfl
   rotate_left
   ·simp only [Act.put, List.setIfInBounds_toArray, List.set_cons_zero, List.set_cons_succ, i64_w, i32_w]
    rfl
   refine pure_ (i := 3) (N := some 19) (v := ?_) (a' := ?_) #[Y, Y, Y, Y, Yn, Yn, Yn, Yn, Yn, Yn, Yn, Yn, Yn, Yn, Yn, Yn, Yn] rfl rfl (any_of HT_.out (by kernel_rfl)) (fun _ _ _ h => h) (Or.inl ⟨by rfl, ?_⟩) ?_ ?_
   rotate_left
   ·intro w'
    go_simp
    with_reducible rfl
   rotate_left
   ·simp only [Act.put, List.setIfInBounds_toArray, List.set_cons_zero, List.set_cons_succ, i64_w, i32_w]
    rfl
   refine pure_ (i := 5) (N := some 21) (v := ?_) (a' := ?_) #[Y, Y, Y, Y, Yn, Y, Yn, Yn, Yn, Yn, Yn, Yn, Yn, Yn, Yn, Yn, Yn] rfl rfl (any_of HT_.out (by kernel_rfl)) (fun _ _ _ h => h) (Or.inl ⟨by rfl, ?_⟩) ?_ ?_
   rotate_left
   ·intro w'
    go_simp
    with_reducible rfl
   rotate_left
   ·simp only [Act.put, List.setIfInBounds_toArray, List.set_cons_zero, List.set_cons_succ, i64_w, i32_w]
    rfl
   refine pure_ (i := 6) (N := some 22) (v := ?_) (a' := ?_) #[Y, Y, Y, Y, Yn, Y, Y, Yn, Yn, Yn, Yn, Yn, Yn, Yn, Yn, Yn, Yn] rfl rfl (any_of HT_.out (by kernel_rfl)) (fun _ _ _ h => h) (Or.inl ⟨by rfl, ?_⟩) ?_ ?_
   rotate_left
   ·intro w'
    go_simp
    with_reducible rfl
   rotate_left
   ·simp only [Act.put, List.setIfInBounds_toArray, List.set_cons_zero, List.set_cons_succ, i64_w, i32_w]
    rfl
   refine pure_ (i := 7) (N := some 23) (v := ?_) (a' := ?_) #[Y, Y, Y, Y, Yn, Y, Y, Y, Yn, Yn, Yn, Yn, Yn, Yn, Yn, Yn, Yn] rfl rfl (any_of HT_.out (by kernel_rfl)) (fun _ _ _ h => h) (Or.inl ⟨by rfl, ?_⟩) ?_ ?_
   rotate_left
   ·intro w'
    go_simp
    with_reducible rfl
   rotate_left
   ·simp only [Act.put, List.setIfInBounds_toArray, List.set_cons_zero, List.set_cons_succ, i64_w, i32_w]
    rfl
   refine take_ (i := 4) (N := some 20) (v := ?_) (a' := ?_) #[Y, Y, Y, Y, Y, Y, Y, Y, Yn, Yn, Yn, Yn, Yn, Yn, Yn, Yn, Yn] rfl rfl (take_ofW HT_.out HW_.out (by kernel_rfl)) (fun _ _ _ h => h) (Or.inl ⟨by rfl, ?_⟩) hHeld ?_ ?_
   rotate_left
   ·rintro w' ⟨s0, s1, s2⟩
    go_simp
    with_reducible rfl
   rotate_left
   ·simp only [Act.put, List.setIfInBounds_toArray, List.set_cons_zero, List.set_cons_succ, i64_w, i32_w]
    rfl
   refine take_ (i := 8) (N := some 24) (v := ?_) (a' := ?_) #[Y, Y, Y, Y, Y, Y, Y, Y, Y, Yn, Yn, Yn, Yn, Yn, Yn, Yn, Yn] rfl rfl (take_ofW HT_.out HW_.out (by kernel_rfl)) (fun _ _ _ h => h) (Or.inl ⟨by rfl, ?_⟩) hHeld ?_ ?_
   rotate_left
   ·rintro w' ⟨s0, s1, s2⟩
    go_simp
    with_reducible rfl
   rotate_left
   ·simp only [Act.put, List.setIfInBounds_toArray, List.set_cons_zero, List.set_cons_succ, i64_w, i32_w]
    rfl
   refine one_ (i := 9) (N := some 25) #[Y, Y, Y, Y, Y, Y, Y, Y, Y, Y, Yn, Yn, Yn, Yn, Yn, Yn, Yn] rfl rfl (one_of HT_.out (by kernel_rfl)) (by decide) (fun K hK => ?_)
   refine goesT_ Tryd.func74 (by kernel_rfl) rfl #[.string s0_0, .int .i64 s0_1] (by rfl) rfl rfl rfl (by (try simp only [List.map_toArray, List.map_cons, List.map_nil]); first | done | rfl | (simp only [List.length_drop, List.length_take]; rfl)) ?_
   with_reducible refine (codec_Reader_Unsigned_1.calls k s0_0 s0_1 t137 t138 false _ ?side99  A3.out).mono ?_
   (case side99 => first | exact HG.out | exact Glob.below HG.out (by repeat (first | (with_reducible first | exact HB.out | apply below_alloc | apply pw_below_drewN | apply below_drew1 | refine below_set ?_ (IsS119.ge HI0.out)) | exact HB.out)))
   rintro e w11 ⟨rfl, hb⟩
   refine ⟨_, rfl, ?_⟩
   have n0_ := Aside0.mk (IsS119.below (by repeat (first | (with_reducible first | exact HI0.out | apply IsS119.alloc | apply IsS119.drewN | apply IsS119.drew | apply IsS119.set_0 | apply IsS119.set_1 | apply IsS119.set_2) | exact HI0.out)) hb)
   have n1_ := Aside0.mk (KeepBut.trans (by repeat (first | (with_reducible first | exact HK.out | apply KeepBut.set_ | apply keep_drewN | apply keep_drew | apply keep_alloc) | exact HK.out)) (KeepBut.of_below hb g none) (.inl rfl))
   have n2_ := Aside0.mk (below_step (by repeat (first | (with_reducible first | exact HB.out | apply below_alloc | apply pw_below_drewN | apply below_drew1 | refine below_set ?_ (IsS119.ge HI0.out)) | exact HB.out)) hb)
   clear HI0
   clear HK
   clear HB
   have HI0 := n0_
   have HK := n1_
   have HB := n2_
   clear n0_ n1_ n2_
   (try clear hb)
   (try clear hb2)
   (try clear hk)
   (try clear hi)
   refine hK.out _ _ ⟨(blk_cell (Aside0.mk HI0.out.1).out 0).trans rfl, (blk_cell (Aside0.mk HI0.out.1).out 1).trans rfl, (blk_cell (Aside0.mk HI0.out.1).out 2).trans rfl⟩ (fun hHeld => ?_)
   clear hK K
   refine norm_ (a' := ?_) ?_ ?_
   rotate_left
   ·show Act.put _ (some 25) _ = _
    simp only [Act.put, List.setIfInBounds_toArray, List.set_cons_zero, List.set_cons_succ, i64_w, i32_w]
    rfl
   refine pure_ (i := 10) (N := some 15) (v := ?_) (a' := ?_) #[Y, Y, Y, Y, Y, Y, Y, Y, Y, Y, Y, Yn, Yn, Yn, Yn, Yn, Yn] rfl rfl (any_of HT_.out (by kernel_rfl)) (fun _ _ _ h => h) (Or.inl ⟨by rfl, ?_⟩) ?_ ?_
   rotate_left
   ·intro w'
    go_simp
    with_reducible rfl
   rotate_left
   ·simp only [Act.put, List.setIfInBounds_toArray, List.set_cons_zero, List.set_cons_succ, i64_w, i32_w]
    rfl
   refine pure_ (i := 11) (N := some 26) (v := ?_) (a' := ?_) #[Y, Y, Y, Y, Y, Y, Y, Y, Y, Y, Y, Y, Yn, Yn, Yn, Yn, Yn] rfl rfl (any_of HT_.out (by kernel_rfl)) (fun _ _ _ h => h) (Or.inl ⟨by rfl, ?_⟩) ?_ ?_
   rotate_left
   ·intro w'
    go_simp
    with_reducible rfl
   rotate_left
   ·simp only [Act.put, List.setIfInBounds_toArray, List.set_cons_zero, List.set_cons_succ, i64_w, i32_w]
    rfl
   refine pure_ (i := 12) (N := some 27) (v := ?_) (a' := ?_) #[Y, Y, Y, Y, Y, Y, Y, Y, Y, Y, Y, Y, Y, Yn, Yn, Yn, Yn] rfl rfl (any_of HT_.out (by kernel_rfl)) (fun _ _ _ h => h) (Or.inl ⟨by rfl, ?_⟩) ?_ ?_
   rotate_left
   ·intro w'
    go_simp
    with_reducible rfl
   rotate_left
   ·simp only [Act.put, List.setIfInBounds_toArray, List.set_cons_zero, List.set_cons_succ, i64_w, i32_w]
    rfl
   refine pure_ (i := 13) (N := some 28) (v := ?_) (a' := ?_) #[Y, Y, Y, Y, Y, Y, Y, Y, Y, Y, Y, Y, Y, Y, Yn, Yn, Yn] rfl rfl (any_of HT_.out (by kernel_rfl)) (fun _ _ _ h => h) (Or.inl ⟨by rfl, ?_⟩) ?_ ?_
   rotate_left
   ·intro w'
    go_simp
    with_reducible rfl
   rotate_left
   ·simp only [Act.put, List.setIfInBounds_toArray, List.set_cons_zero, List.set_cons_succ, i64_w, i32_w]
    rfl
   refine pure_ (i := 14) (N := some 6) (v := ?_) (a' := ?_) #[Y, Y, Y, Y, Y, Y, Y, Y, Y, Y, Y, Y, Y, Y, Y, Yn, Yn] rfl rfl (any_of HT_.out (by kernel_rfl)) (fun _ _ _ h => h) (Or.inl ⟨by rfl, ?_⟩) ?_ ?_
   rotate_left
   ·intro w'
    go_simp
    with_reducible rfl
   rotate_left
   ·simp only [Act.put, List.setIfInBounds_toArray, List.set_cons_zero, List.set_cons_succ, i64_w, i32_w]
    rfl
   refine pure_ (i := 15) (N := some 7) (v := ?_) (a' := ?_) #[Y, Y, Y, Y, Y, Y, Y, Y, Y, Y, Y, Y, Y, Y, Y, Y, Yn] rfl rfl (any_of HT_.out (by kernel_rfl)) (fun _ _ _ h => h) (Or.inl ⟨by rfl, ?_⟩) ?_ ?_
   rotate_left
   ·intro w'
    go_simp
    with_reducible rfl
   rotate_left
   ·simp only [Act.put, List.setIfInBounds_toArray, List.set_cons_zero, List.set_cons_succ, i64_w, i32_w]
    rfl
   refine pure_ (i := 16) (N := some 8) (v := ?_) (a' := ?_) #[Y, Y, Y, Y, Y, Y, Y, Y, Y, Y, Y, Y, Y, Y, Y, Y, Y] rfl rfl (any_of HT_.out (by kernel_rfl)) (fun _ _ _ h => h) (Or.inl ⟨by rfl, ?_⟩) ?_ ?_
   rotate_left
   ·intro w'
    go_simp
    with_reducible rfl
   rotate_left
   ·simp only [Act.put, List.setIfInBounds_toArray, List.set_cons_zero, List.set_cons_succ, i64_w, i32_w]
    rfl
   refine done_ (done_of HT_.out (by kernel_rfl)) ?_
   obtain ⟨HGz12, hgz12⟩ := HI0.out
   have hcz12_0 := cellS119_0 HGz12
   have hcz12_1 := cellS119_1 HGz12
   have hcz12_2 := cellS119_2 HGz12
   have hfz12_0 := blk_frozen HGz12 0
   have hfz12_1 := blk_frozen HGz12 1
   have hfz12_2 := blk_frozen HGz12 2
   clear HGz12 hgz12
   try go_wp2_with (first | (go_at_call 73; go_in) | ((try simp only [Exit.inBlock, Exit.then]); refine bodyPost_end (results_none rfl _ _ _) rfl ?_; simp only []; go_at_K))
   go_ret
   exact ⟨by first | rfl | (simp [errW_none, errW_some] <;> rfl) | (simp [*, errW_none, errW_some] <;> rfl), by repeat (first | (with_reducible first | exact HI0.out | apply IsS119.alloc | apply IsS119.drewN | apply IsS119.drew | apply IsS119.set_0 | apply IsS119.set_1 | apply IsS119.set_2) | exact HI0.out), by repeat (first | (with_reducible first | exact HB.out | apply below_alloc | apply pw_below_drewN | apply below_drew1 | refine below_set ?_ (IsS119.ge HI0.out)) | exact HB.out), by repeat (first | (with_reducible first | exact HK.out | apply KeepBut.set_ | apply keep_drewN | apply keep_drew | apply keep_alloc) | exact HK.out)⟩
 ·rw [if_neg c2] at H
  have c2b0 : (s0_2 == 0) = false := beq_eq_false_iff_ne.mpr c2
  have c2b1 : (s0_2 != 0) = true := bne_iff_ne.mpr c2
  simp only [Option.some.injEq, Prod.mk.injEq] at H
  obtain ⟨rfl, rfl, rfl, rfl⟩ := H
  obtain ⟨HGz13, hgz13⟩ := HI0.out
  have hcz13_0 := cellS119_0 HGz13
  have hcz13_1 := cellS119_1 HGz13
  have hcz13_2 := cellS119_2 HGz13
  have hfz13_0 := blk_frozen HGz13 0
  have hfz13_1 := blk_frozen HGz13 1
  have hfz13_2 := blk_frozen HGz13 2
  clear HGz13 hgz13
  go_enter Tryd.func47, Tryd.ntmps47
  go_wp2_with (first | (go_at_call 73; go_in) | ((try simp only [Exit.inBlock, Exit.then]); refine bodyPost_end (results_none rfl _ _ _) rfl ?_; simp only []; go_at_K))
  go_ret
  exact ⟨by first | rfl | (simp [errW_none, errW_some] <;> rfl) | (simp [*, errW_none, errW_some] <;> rfl), by repeat (first | (with_reducible first | exact HI0.out | apply IsS119.alloc | apply IsS119.drewN | apply IsS119.drew | apply IsS119.set_0 | apply IsS119.set_1 | apply IsS119.set_2) | exact HI0.out), by repeat (first | (with_reducible first | exact HB.out | apply below_alloc | apply pw_below_drewN | apply below_drew1 | refine below_set ?_ (IsS119.ge HI0.out)) | exact HB.out), by repeat (first | (with_reducible first | exact HK.out | apply KeepBut.set_ | apply keep_drewN | apply keep_drew | apply keep_alloc) | exact HK.out)⟩
end Go.Proofs.YtbgabhknmpbgiaaDoor.S
end
section
namespace Go.Proofs.YtbgabhknmpbgiaaDoor.S
open Go.RowKit Go.Proofs.YtbgabhknmpbgiaaDoorW.PrintWords Go.Proofs.YtbgabhknmpbgiaaDoorW.PrintLast Go.Proofs.YtbgabhknmpbgiaaDoorW.PrintMore
attribute [local go_sem] max2_int min2_int max_two min_two max_three min_three max_four min_four
set_option linter.unusedVariables false
set_option linter.unusedSimpArgs false
def codec_Reader_Signed_1.f (k : Nat) (a0 : ByteArray) (a1 : Int) : Option (Int × Int × Bool) := (codec_raw.f k a0 a1 4).bind fun bt140 => (some (bt140.1, bt140.2.1, bt140.2.2))
set_option maxHeartbeats 8000000 in
set_option maxRecDepth 100000 in
theorem codec_Reader_Signed_1.calls (k : Nat) (a0 : ByteArray) (a1 : Int) (r1 : Int) (r2 : Int) (r3 : Bool) (w : World) (hG : Glob w) (h : codec_Reader_Signed_1.f k a0 a1 = some (r1, r2, r3)) :
  Calls Tryd.prog 76 #[.string a0, .int .i64 a1] w fun e w' => e = .returned (.tuple #[.int .u64 r1, .int .i64 r2, .bool r3]) ∧ Below w.heap.size w w' := by
 have HG := Aside0.mk hG
 clear hG
 have HB := Aside0.mk (Below.refl w.heap.size w)
 have H : ((codec_raw.f k a0 a1 4).bind fun bt140 => (some (bt140.1, bt140.2.1, bt140.2.2))) = some (r1, r2, r3) := h
 clear h
 replace H := Option.bind_eq_some_iff.mp H
 obtain ⟨⟨t140, t141, t142⟩, A30, H⟩ := H
 replace H : (some (t140, t141, t142)) = some (r1, r2, r3) := H
 have A3 := Aside0.mk A30
 clear A30
 simp only [Option.some.injEq, Prod.mk.injEq] at H
 obtain ⟨rfl, rfl, rfl⟩ := H
 go_enter Tryd.func76, Tryd.ntmps76
 go_wp2_with (first | ((with_reducible refine gate_callee (f := 75) rfl ?_); refine goesL_ (some 9) rfl rfl Tryd.func75 (by kernel_rfl) rfl #[.string a0, .int .i64 a1, .int .i64 4] rfl (by (try simp only [List.map_toArray, List.map_cons, List.map_nil]); first | done | rfl | (simp only [List.length_drop, List.length_take]; rfl)) ?_; (with_reducible refine (codec_raw.calls k a0 a1 4 t140 t141 t142 _ ?side99  A3.out).mono ?_); (case side99 => first | exact HG.out | exact Glob.below HG.out (by repeat (first | (with_reducible first | exact HB.out | apply below_alloc | apply pw_below_drewN | apply below_drew1) | exact HB.out))); rintro e w4 ⟨rfl, hb⟩; refine ⟨_, rfl, ?_⟩; have n0_ := Aside0.mk (below_step (by repeat (first | (with_reducible first | exact HB.out | apply below_alloc | apply pw_below_drewN | apply below_drew1) | exact HB.out)) hb); clear HB; have HB := n0_; clear n0_; (try clear hb); (try clear hb2); (try clear hk); (try clear hi)))
 go_ret3
 exact ⟨by first | rfl | (simp [errW_none, errW_some] <;> rfl) | (simp [*, errW_none, errW_some] <;> rfl), by repeat (first | (with_reducible first | exact HB.out | apply below_alloc | apply pw_below_drewN | apply below_drew1) | exact HB.out)⟩
end Go.Proofs.YtbgabhknmpbgiaaDoor.S
end
section
namespace Go.Proofs.YtbgabhknmpbgiaaDoor.S
open Go.RowKit Go.Proofs.YtbgabhknmpbgiaaDoorW.PrintWords Go.Proofs.YtbgabhknmpbgiaaDoorW.PrintLast Go.Proofs.YtbgabhknmpbgiaaDoorW.PrintMore
attribute [local go_sem] max2_int min2_int max_two min_two max_three min_three max_four min_four
set_option linter.unusedVariables false
set_option linter.unusedSimpArgs false
def codec_Reader_Signed.f (k : Nat) (s0_0 : ByteArray) (s0_1 : Int) (s0_2 : Int) : Option (Int × ByteArray × Int × Int) := if s0_2 = 0 then ((codec_Reader_Signed_1.f k s0_0 s0_1).bind fun bt143 => (if bt143.2.2 = true then (some (wrap64 (bt143.1), s0_0, bt143.2.1, s0_2)) else (some (0, s0_0, s0_1, 2)))) else (some (0, s0_0, s0_1, s0_2))
def codec_Reader_Signed.T73004 : Bool × List (List Nat × List Nat) := (true, [([], []), ([], []), ([1], [1]), ([2], [2]), ([3], [3]), ([], []), ([5], [5]), ([6], [6]), ([7], [7]), ([0, 4, 8], [0, 4, 8]), ([9], [9]), ([10], [10]), ([10], [10]), ([10], [10]), ([11, 9, 0, 1, 2, 3, 4, 5, 6, 7, 8, 9, 10, 11], [11]), ([12, 14, 0, 1, 2, 3, 4, 5, 6, 7, 8, 9, 10, 11, 12, 14], [12]), ([13, 15, 0, 1, 2, 3, 4, 5, 6, 7, 8, 9, 10, 11, 12, 13, 14, 15], [13])])
def codec_Reader_Signed.B73004 : List Nat := [0, 0, 2, 6, 14, 0, 32, 96, 224, 511, 1023, 2047, 2047, 2047, 4095, 24575, 65535]
theorem codec_Reader_Signed.tab73004 : rtab .any (opsOf Tryd.f73 4) = codec_Reader_Signed.T73004 := by kernel_rfl
theorem codec_Reader_Signed.bits73004 : waitsOk codec_Reader_Signed.T73004.2 codec_Reader_Signed.B73004 = true := by kernel_rfl
set_option maxHeartbeats 8000000 in
set_option maxRecDepth 100000 in
theorem codec_Reader_Signed.calls (k : Nat) (g : Nat) (s0_0 : ByteArray) (s0_1 : Int) (s0_2 : Int) (r1 : Int) (r2 : ByteArray) (r3 : Int) (r4 : Int) (w0 w : World) (hG : Glob w0) (hI : IsS119 w0 w g s0_0 s0_1 s0_2) (hB : Below w0.heap.size w0 w) (h : codec_Reader_Signed.f k s0_0 s0_1 s0_2 = some (r1, r2, r3, r4)) :
  Calls Tryd.prog 48 #[.pointer (some ⟨g, 0, none⟩)] w fun e w' => e = .returned (.int .i64 r1) ∧ IsS119 w0 w' g r2 r3 r4 ∧ Below w0.heap.size w0 w' ∧ KeepBut w w' g none := by
 have hmf_ : ∀ (fn : Fn) (first cap : Array Value) (w : World), (Instr.makeFunc fn first cap).run Tryd.prog w = .ok (.func fn first cap) w := fun _ _ _ _ => rfl
 have HG := Aside0.mk hG
 clear hG
 have HI0 := Aside0.mk hI
 have HK := Aside0.mk (KeepBut.refl w g none)
 have HL := Aside0.mk hB.size
 clear hI
 have HW0 := Aside0.mk hB.size
 have HB := Aside0.mk hB
 clear hB
 have H : (if s0_2 = 0 then ((codec_Reader_Signed_1.f k s0_0 s0_1).bind fun bt143 => (if bt143.2.2 = true then (some (wrap64 (bt143.1), s0_0, bt143.2.1, s0_2)) else (some (0, s0_0, s0_1, 2)))) else (some (0, s0_0, s0_1, s0_2))) = some (r1, r2, r3, r4) := h
 clear h
 by_cases c2 : s0_2 = 0
 ·rw [if_pos c2] at H
  have c2b0 : (s0_2 == 0) = true := beq_iff_eq.mpr c2
  have c2b1 : (s0_2 != 0) = false := bne_eq_false_iff_eq.mpr c2
  clear c2
  replace H := Option.bind_eq_some_iff.mp H
  obtain ⟨⟨t143, t144, t145⟩, A30, H⟩ := H
  replace H : (if t145 = true then (some (wrap64 (t143), s0_0, t144, s0_2)) else (some (0, s0_0, s0_1, 2))) = some (r1, r2, r3, r4) := H
  have A3 := Aside0.mk A30
  clear A30
  by_cases c4 : t145 = true
  ·subst c4
   have H1 : (some (wrap64 (t143), s0_0, t144, s0_2)) = some (r1, r2, r3, r4) := by rw [if_pos rfl] at H; exact H
   clear H
   have H := H1
   clear H1
   simp only [Option.some.injEq, Prod.mk.injEq] at H
   obtain ⟨rfl, rfl, rfl, rfl⟩ := H
   obtain ⟨HGz5, hgz5⟩ := HI0.out
   have hcz5_0 := cellS119_0 HGz5
   have hcz5_1 := cellS119_1 HGz5
   have hcz5_2 := cellS119_2 HGz5
   have hfz5_0 := blk_frozen HGz5 0
   have hfz5_1 := blk_frozen HGz5 1
   have hfz5_2 := blk_frozen HGz5 2
   clear HGz5 hgz5
   go_enter Tryd.func48, Tryd.ntmps48
   try go_wp2_with (first | (go_at_call 73; go_in) | ((try simp only [Exit.inBlock, Exit.then]); refine bodyPost_end (results_none rfl _ _ _) rfl ?_; simp only []; go_at_K))
   have n0_ := Aside0.mk (IsS119.drew HI0.out)
   have n1_ := Aside0.mk (keep_drew HK.out)
   have n2_ := Aside0.mk (below_drew1 HB.out)
   clear HI0
   clear HK
   clear HB
   have HI0 := n0_
   have HK := n1_
   have HB := n2_
   clear n0_ n1_ n2_
   refine start_ (n := 17) (S := fun w' => w'.cell? ⟨g, 0, none⟩ = some (.string s0_0) ∧ w'.cell? ⟨g, 1, none⟩ = some (.int .i64 s0_1) ∧ w'.cell? ⟨g, 2, none⟩ = some (.int .i64 s0_2)) (ds := []) #[Yn, Yn, Yn, Yn, Yn, Yn, Yn, Yn, Yn, Yn, Yn, Yn, Yn, Yn, Yn, Yn, Yn] (by kernel_rfl) rfl rfl ⟨(blk_cell (Aside0.mk HI0.out.1).out 0).trans rfl, (blk_cell (Aside0.mk HI0.out.1).out 1).trans rfl, (blk_cell (Aside0.mk HI0.out.1).out 2).trans rfl⟩ (fun hHeld => ?_); refine with_tabW codec_Reader_Signed.tab73004 codec_Reader_Signed.bits73004 (fun HT_ HW_ => ?_)
   generalize w.drew = w6 at HI0 HK HB hHeld ⊢
   refine pure_ (i := 0) (N := some 16) (v := ?_) (a' := ?_) #[Y, Yn, Yn, Yn, Yn, Yn, Yn, Yn, Yn, Yn, Yn, Yn, Yn, Yn, Yn, Yn, Yn] rfl rfl (any_of HT_.out (by kernel_rfl)) (fun _ _ _ h => h) (Or.inl ⟨by rfl, ?_⟩) ?_ ?_
   rotate_left
   ·intro w'
    go_simp
    with_reducible rfl
   rotate_left
   ·simp only [Act.put, List.setIfInBounds_toArray, List.set_cons_zero, List.set_cons_succ, i64_w, i32_w]
    rfl
   refine pure_ (i := 1) (N := some 17) (v := ?_) (a' := ?_) #[Y, Y, Yn, Yn, Yn, Yn, Yn, Yn, Yn, Yn, Yn, Yn, Yn, Yn, Yn, Yn, Yn] rfl rfl (any_of HT_.out (by kernel_rfl)) (fun _ _ _ h => h) (Or.inl ⟨by rfl, ?_⟩) ?_ ?_
   rotate_left
   ·intro w'
    go_simp
    with_reducible rfl
   rotate_left
   ·simp only [Act.put, List.setIfInBounds_toArray, List.set_cons_zero, List.set_cons_succ, i64_w, i32_w]
    rfl
   refine pure_ (i := 2) (N := some 18) (v := ?_) (a' := ?_) #[Y, Y, Y, Yn, Yn, Yn, Yn, Yn, Yn, Yn, Yn, Yn, Yn, Yn, Yn, Yn, Yn] rfl rfl (any_of HT_.out (by kernel_rfl)) (fun _ _ _ h => h) (Or.inl ⟨by rfl, ?_⟩) ?_ ?_
   rotate_left
   ·intro w'
    go_simp
    with_reducible rfl
   rotate_left
   ·simp only [Act.put, List.setIfInBounds_toArray, List.set_cons_zero, List.set_cons_succ, i64_w, i32_w]
    rfl
   refine pure_ (i := 3) (N := some 19) (v := ?_) (a' := ?_) #[Y, Y, Y, Y, Yn, Yn, Yn, Yn, Yn, Yn, Yn, Yn, Yn, Yn, Yn, Yn, Yn] rfl rfl (any_of HT_.out (by kernel_rfl)) (fun _ _ _ h => h) (Or.inl ⟨by rfl, ?_⟩) ?_ ?_
   rotate_left
   ·intro w'
    go_simp
    with_reducible rfl
   rotate_left
   ·simp only [Act.put, List.setIfInBounds_toArray, List.set_cons_zero, List.set_cons_succ, i64_w, i32_w]
    rfl
   refine pure_ (i := 5) (N := some 21) (v := ?_) (a' := ?_) #[Y, Y, Y, Y, Yn, Y, Yn, Yn, Yn, Yn, Yn, Yn, Yn, Yn, Yn, Yn, Yn] rfl rfl (any_of HT_.out (by kernel_rfl)) (fun _ _ _ h => h) (Or.inl ⟨by rfl, ?_⟩) ?_ ?_
   rotate_left
   ·intro w'
    go_simp
    with_reducible rfl
   rotate_left
   ·simp only [Act.put, List.setIfInBounds_toArray, List.set_cons_zero, List.set_cons_succ, i64_w, i32_w]
    rfl
   refine pure_ (i := 6) (N := some 22) (v := ?_) (a' := ?_) #[Y, Y, Y, Y, Yn, Y, Y, Yn, Yn, Yn, Yn, Yn, Yn, Yn, Yn, Yn, Yn] rfl rfl (any_of HT_.out (by kernel_rfl)) (fun _ _ _ h => h) (Or.inl ⟨by rfl, ?_⟩) ?_ ?_
   rotate_left
   ·intro w'
    go_simp
    with_reducible rfl
   rotate_left
   ·simp only [Act.put, List.setIfInBounds_toArray, List.set_cons_zero, List.set_cons_succ, i64_w, i32_w]
    rfl
   refine pure_ (i := 7) (N := some 23) (v := ?_) (a' := ?_) #[Y, Y, Y, Y, Yn, Y, Y, Y, Yn, Yn, Yn, Yn, Yn, Yn, Yn, Yn, Yn] rfl rfl (any_of HT_.out (by kernel_rfl)) (fun _ _ _ h => h) (Or.inl ⟨by rfl, ?_⟩) ?_ ?_
   rotate_left
   ·intro w'
    go_simp
    with_reducible rfl
   rotate_left
   ·simp only [Act.put, List.setIfInBounds_toArray, List.set_cons_zero, List.set_cons_succ, i64_w, i32_w]
    rfl
   refine take_ (i := 4) (N := some 20) (v := ?_) (a' := ?_) #[Y, Y, Y, Y, Y, Y, Y, Y, Yn, Yn, Yn, Yn, Yn, Yn, Yn, Yn, Yn] rfl rfl (take_ofW HT_.out HW_.out (by kernel_rfl)) (fun _ _ _ h => h) (Or.inl ⟨by rfl, ?_⟩) hHeld ?_ ?_
   rotate_left
   ·rintro w' ⟨s0, s1, s2⟩
    go_simp
    with_reducible rfl
   rotate_left
   ·simp only [Act.put, List.setIfInBounds_toArray, List.set_cons_zero, List.set_cons_succ, i64_w, i32_w]
    rfl
   refine take_ (i := 8) (N := some 24) (v := ?_) (a' := ?_) #[Y, Y, Y, Y, Y, Y, Y, Y, Y, Yn, Yn, Yn, Yn, Yn, Yn, Yn, Yn] rfl rfl (take_ofW HT_.out HW_.out (by kernel_rfl)) (fun _ _ _ h => h) (Or.inl ⟨by rfl, ?_⟩) hHeld ?_ ?_
   rotate_left
   ·rintro w' ⟨s0, s1, s2⟩
    go_simp
    with_reducible rfl
   rotate_left
   ·simp only [Act.put, List.setIfInBounds_toArray, List.set_cons_zero, List.set_cons_succ, i64_w, i32_w]
    rfl
   refine one_ (i := 9) (N := some 25) #[Y, Y, Y, Y, Y, Y, Y, Y, Y, Y, Yn, Yn, Yn, Yn, Yn, Yn, Yn] rfl rfl (one_of HT_.out (by kernel_rfl)) (by decide) (fun K hK => ?_)
   refine goesT_ Tryd.func76 (by kernel_rfl) rfl #[.string s0_0, .int .i64 s0_1] (by rfl) rfl rfl rfl (by (try simp only [List.map_toArray, List.map_cons, List.map_nil]); first | done | rfl | (simp only [List.length_drop, List.length_take]; rfl)) ?_
   with_reducible refine (codec_Reader_Signed_1.calls k s0_0 s0_1 t143 t144 true _ ?side99  A3.out).mono ?_
   (case side99 => first | exact HG.out | exact Glob.below HG.out (by repeat (first | (with_reducible first | exact HB.out | apply below_alloc | apply pw_below_drewN | apply below_drew1 | refine below_set ?_ (IsS119.ge HI0.out)) | exact HB.out)))
   rintro e w7 ⟨rfl, hb⟩
   refine ⟨_, rfl, ?_⟩
   have n0_ := Aside0.mk (IsS119.below (by repeat (first | (with_reducible first | exact HI0.out | apply IsS119.alloc | apply IsS119.drewN | apply IsS119.drew | apply IsS119.set_0 | apply IsS119.set_1 | apply IsS119.set_2) | exact HI0.out)) hb)
   have n1_ := Aside0.mk (KeepBut.trans (by repeat (first | (with_reducible first | exact HK.out | apply KeepBut.set_ | apply keep_drewN | apply keep_drew | apply keep_alloc) | exact HK.out)) (KeepBut.of_below hb g none) (.inl rfl))
   have n2_ := Aside0.mk (below_step (by repeat (first | (with_reducible first | exact HB.out | apply below_alloc | apply pw_below_drewN | apply below_drew1 | refine below_set ?_ (IsS119.ge HI0.out)) | exact HB.out)) hb)
   clear HI0
   clear HK
   clear HB
   have HI0 := n0_
   have HK := n1_
   have HB := n2_
   clear n0_ n1_ n2_
   (try clear hb)
   (try clear hb2)
   (try clear hk)
   (try clear hi)
   refine hK.out _ _ ⟨(blk_cell (Aside0.mk HI0.out.1).out 0).trans rfl, (blk_cell (Aside0.mk HI0.out.1).out 1).trans rfl, (blk_cell (Aside0.mk HI0.out.1).out 2).trans rfl⟩ (fun hHeld => ?_)
   clear hK K
   refine norm_ (a' := ?_) ?_ ?_
   rotate_left
   ·show Act.put _ (some 25) _ = _
    simp only [Act.put, List.setIfInBounds_toArray, List.set_cons_zero, List.set_cons_succ, i64_w, i32_w]
    rfl
   refine pure_ (i := 10) (N := some 15) (v := ?_) (a' := ?_) #[Y, Y, Y, Y, Y, Y, Y, Y, Y, Y, Y, Yn, Yn, Yn, Yn, Yn, Yn] rfl rfl (any_of HT_.out (by kernel_rfl)) (fun _ _ _ h => h) (Or.inl ⟨by rfl, ?_⟩) ?_ ?_
   rotate_left
   ·intro w'
    go_simp
    with_reducible rfl
   rotate_left
   ·simp only [Act.put, List.setIfInBounds_toArray, List.set_cons_zero, List.set_cons_succ, i64_w, i32_w]
    rfl
   refine pure_ (i := 11) (N := some 26) (v := ?_) (a' := ?_) #[Y, Y, Y, Y, Y, Y, Y, Y, Y, Y, Y, Y, Yn, Yn, Yn, Yn, Yn] rfl rfl (any_of HT_.out (by kernel_rfl)) (fun _ _ _ h => h) (Or.inl ⟨by rfl, ?_⟩) ?_ ?_
   rotate_left
   ·intro w'
    go_simp
    with_reducible rfl
   rotate_left
   ·simp only [Act.put, List.setIfInBounds_toArray, List.set_cons_zero, List.set_cons_succ, i64_w, i32_w]
    rfl
   refine pure_ (i := 12) (N := some 27) (v := ?_) (a' := ?_) #[Y, Y, Y, Y, Y, Y, Y, Y, Y, Y, Y, Y, Y, Yn, Yn, Yn, Yn] rfl rfl (any_of HT_.out (by kernel_rfl)) (fun _ _ _ h => h) (Or.inl ⟨by rfl, ?_⟩) ?_ ?_
   rotate_left
   ·intro w'
    go_simp
    with_reducible rfl
   rotate_left
   ·simp only [Act.put, List.setIfInBounds_toArray, List.set_cons_zero, List.set_cons_succ, i64_w, i32_w]
    rfl
   refine pure_ (i := 13) (N := some 28) (v := ?_) (a' := ?_) #[Y, Y, Y, Y, Y, Y, Y, Y, Y, Y, Y, Y, Y, Y, Yn, Yn, Yn] rfl rfl (any_of HT_.out (by kernel_rfl)) (fun _ _ _ h => h) (Or.inl ⟨by rfl, ?_⟩) ?_ ?_
   rotate_left
   ·intro w'
    go_simp
    with_reducible rfl
   rotate_left
   ·simp only [Act.put, List.setIfInBounds_toArray, List.set_cons_zero, List.set_cons_succ, i64_w, i32_w]
    rfl
   refine pure_ (i := 14) (N := some 6) (v := ?_) (a' := ?_) #[Y, Y, Y, Y, Y, Y, Y, Y, Y, Y, Y, Y, Y, Y, Y, Yn, Yn] rfl rfl (any_of HT_.out (by kernel_rfl)) (fun _ _ _ h => h) (Or.inl ⟨by rfl, ?_⟩) ?_ ?_
   rotate_left
   ·intro w'
    go_simp
    with_reducible rfl
   rotate_left
   ·simp only [Act.put, List.setIfInBounds_toArray, List.set_cons_zero, List.set_cons_succ, i64_w, i32_w]
    rfl
   refine pure_ (i := 15) (N := some 7) (v := ?_) (a' := ?_) #[Y, Y, Y, Y, Y, Y, Y, Y, Y, Y, Y, Y, Y, Y, Y, Y, Yn] rfl rfl (any_of HT_.out (by kernel_rfl)) (fun _ _ _ h => h) (Or.inl ⟨by rfl, ?_⟩) ?_ ?_
   rotate_left
   ·intro w'
    go_simp
    with_reducible rfl
   rotate_left
   ·simp only [Act.put, List.setIfInBounds_toArray, List.set_cons_zero, List.set_cons_succ, i64_w, i32_w]
    rfl
   refine pure_ (i := 16) (N := some 8) (v := ?_) (a' := ?_) #[Y, Y, Y, Y, Y, Y, Y, Y, Y, Y, Y, Y, Y, Y, Y, Y, Y] rfl rfl (any_of HT_.out (by kernel_rfl)) (fun _ _ _ h => h) (Or.inl ⟨by rfl, ?_⟩) ?_ ?_
   rotate_left
   ·intro w'
    go_simp
    with_reducible rfl
   rotate_left
   ·simp only [Act.put, List.setIfInBounds_toArray, List.set_cons_zero, List.set_cons_succ, i64_w, i32_w]
    rfl
   refine done_ (done_of HT_.out (by kernel_rfl)) ?_
   obtain ⟨HGz8, hgz8⟩ := HI0.out
   have hcz8_0 := cellS119_0 HGz8
   have hcz8_1 := cellS119_1 HGz8
   have hcz8_2 := cellS119_2 HGz8
   have hfz8_0 := blk_frozen HGz8 0
   have hfz8_1 := blk_frozen HGz8 1
   have hfz8_2 := blk_frozen HGz8 2
   clear HGz8 hgz8
   try go_wp2_with (first | (go_at_call 73; go_in) | ((try simp only [Exit.inBlock, Exit.then]); refine bodyPost_end (results_none rfl _ _ _) rfl ?_; simp only []; go_at_K))
   go_ret
   exact ⟨by first | rfl | (simp [errW_none, errW_some] <;> rfl) | (simp [*, errW_none, errW_some] <;> rfl), by repeat (first | (with_reducible first | exact HI0.out | apply IsS119.alloc | apply IsS119.drewN | apply IsS119.drew | apply IsS119.set_0 | apply IsS119.set_1 | apply IsS119.set_2) | exact HI0.out), by repeat (first | (with_reducible first | exact HB.out | apply below_alloc | apply pw_below_drewN | apply below_drew1 | refine below_set ?_ (IsS119.ge HI0.out)) | exact HB.out), by repeat (first | (with_reducible first | exact HK.out | apply KeepBut.set_ | apply keep_drewN | apply keep_drew | apply keep_alloc) | exact HK.out)⟩
  ·replace c4 := Bool.eq_false_iff.mpr c4
   subst c4
   have H1 : (some (0, s0_0, s0_1, 2)) = some (r1, r2, r3, r4) := by rw [if_neg (show ¬ (false = true) by decide)] at H; exact H
   clear H
   have H := H1
   clear H1
   simp only [Option.some.injEq, Prod.mk.injEq] at H
   obtain ⟨rfl, rfl, rfl, rfl⟩ := H
   obtain ⟨HGz9, hgz9⟩ := HI0.out
   have hcz9_0 := cellS119_0 HGz9
   have hcz9_1 := cellS119_1 HGz9
   have hcz9_2 := cellS119_2 HGz9
   have hfz9_0 := blk_frozen HGz9 0
   have hfz9_1 := blk_frozen HGz9 1
   have hfz9_2 := blk_frozen HGz9 2
   clear HGz9 hgz9
   go_enter Tryd.func48, Tryd.ntmps48
   try go_wp2_with (first | (go_at_call 73; go_in) | ((try simp only [Exit.inBlock, Exit.then]); refine bodyPost_end (results_none rfl _ _ _) rfl ?_; simp only []; go_at_K))
   have n0_ := Aside0.mk (IsS119.drew HI0.out)
   have n1_ := Aside0.mk (keep_drew HK.out)
   have n2_ := Aside0.mk (below_drew1 HB.out)
   clear HI0
   clear HK
   clear HB
   have HI0 := n0_
   have HK := n1_
   have HB := n2_
   clear n0_ n1_ n2_
   refine start_ (n := 17) (S := fun w' => w'.cell? ⟨g, 0, none⟩ = some (.string s0_0) ∧ w'.cell? ⟨g, 1, none⟩ = some (.int .i64 s0_1) ∧ w'.cell? ⟨g, 2, none⟩ = some (.int .i64 s0_2)) (ds := []) #[Yn, Yn, Yn, Yn, Yn, Yn, Yn, Yn, Yn, Yn, Yn, Yn, Yn, Yn, Yn, Yn, Yn] (by kernel_rfl) rfl rfl ⟨(blk_cell (Aside0.mk HI0.out.1).out 0).trans rfl, (blk_cell (Aside0.mk HI0.out.1).out 1).trans rfl, (blk_cell (Aside0.mk HI0.out.1).out 2).trans rfl⟩ (fun hHeld => ?_); refine with_tabW codec_Reader_Signed.tab73004 codec_Reader_Signed.bits73004 (fun HT_ HW_ => ?_)
   generalize w.drew = w10 at HI0 HK HB hHeld ⊢
   refine pure_ (i := 0) (N := some 16) (v := ?_) (a' := ?_) #[Y, Yn, Yn, Yn, Yn, Yn, Yn, Yn, Yn, Yn, Yn, Yn, Yn, Yn, Yn, Yn, Yn] rfl rfl (any_of HT_.out (by kernel_rfl)) (fun _ _ _ h => h) (Or.inl ⟨by rfl, ?_⟩) ?_ ?_
   rotate_left
   ·intro w'
    go_simp
    with_reducible rfl
   rotate_left
   ·simp only [Act.put, List.setIfInBounds_toArray, List.set_cons_zero, List.set_cons_succ, i64_w, i32_w]
    rfl
   refine pure_ (i := 1) (N := some 17) (v := ?_) (a' := ?_) #[Y, Y, Yn, Yn, Yn, Yn, Yn, Yn, Yn, Yn, Yn, Yn, Yn, Yn, Yn, Yn, Yn] rfl rfl (any_of HT_.out (by kernel_rfl)) (fun _ _ _ h => h) (Or.inl ⟨by rfl, ?_⟩) ?_ ?_
   rotate_left
   ·intro w'
    go_simp
    with_reducible rfl
   rotate_left
   ·simp only [Act.put, List.setIfInBounds_toArray, List.set_cons_zero, List.set_cons_succ, i64_w, i32_w]
    rfl
   refine pure_ (i := 2) (N := some 18) (v := ?_) (a' := ?_) #[Y, Y, Y, Yn, Yn, Yn, Yn, Yn, Yn, Yn, Yn, Yn, Yn, Yn, Yn, Yn, Yn] rfl rfl (any_of HT_.out (by kernel_rfl)) (fun _ _ _ h => h) (Or.inl ⟨by rfl, ?_⟩) ?_ ?_
   rotate_left
   ·intro w'
    go_simp
    with_reducible rfl
   rotate_left
   ·simp only [Act.put, List.setIfInBounds_toArray, List.set_cons_zero, List.set_cons_succ, i64_w, i32_w]
    rfl
   refine pure_ (i := 3) (N := some 19) (v := ?_) (a' := ?_) #[Y, Y, Y, Y, Yn, Yn, Yn, Yn, Yn, Yn, Yn, Yn, Yn, Yn, Yn, Yn, Yn] rfl rfl (any_of HT_.out (by kernel_rfl)) (fun _ _ _ h => h) (Or.inl ⟨by rfl, ?_⟩) ?_ ?_
   rotate_left
   ·intro w'
    go_simp
    with_reducible rfl
   rotate_left
   ·simp only [Act.put, List.setIfInBounds_toArray, List.set_cons_zero, List.set_cons_succ, i64_w, i32_w]
    rfl
   refine pure_ (i := 5) (N := some 21) (v := ?_) (a' := ?_) #[Y, Y, Y, Y, Yn, Y, Yn, Yn, Yn, Yn, Yn, Yn, Yn, Yn, Yn, Yn, Yn] rfl rfl (any_of HT_.out (by kernel_rfl)) (fun _ _ _ h => h) (Or.inl ⟨by rfl, ?_⟩) ?_ ?_
   rotate_left
   ·intro w'
    go_simp
    with_reducible rfl
   rotate_left
   ·simp only [Act.put, List.setIfInBounds_toArray, List.set_cons_zero, List.set_cons_succ, i64_w, i32_w]
    rfl
   refine pure_ (i := 6) (N := some 22) (v := ?_) (a' := ?_) #[Y, Y, Y, Y, Yn, Y, Y, Yn, Yn, Yn, Yn, Yn, Yn, Yn, Yn, Yn, Yn] rfl rfl (any_of HT_.out (by kernel_rfl)) (fun _ _ _ h => h) (Or.inl ⟨by rfl, ?_⟩) ?_ ?_
   rotate_left
   ·intro w'
    go_simp
    with_reducible rfl
   rotate_left
   ·simp only [Act.put, List.setIfInBounds_toArray, List.set_cons_zero, List.set_cons_succ, i64_w, i32_w]
    rfl
   refine pure_ (i := 7) (N := some 23) (v := ?_) (a' := ?_) #[Y, Y, Y, Y, Yn, Y, Y, Y, Yn, Yn, Yn, Yn, Yn, Yn, Yn, Yn, Yn] rfl rfl (any_of HT_.out (by kernel_rfl)) (fun _ _ _ h => h) (Or.inl ⟨by rfl, ?_⟩) ?_ ?_
   rotate_left
   ·intro w'
    go_simp
    with_reducible rfl
   rotate_left
   ·simp only [Act.put, List.setIfInBounds_toArray, List.set_cons_zero, List.set_cons_succ, i64_w, i32_w]
    rfl
   refine take_ (i := 4) (N := some 20) (v := ?_) (a' := ?_) #[Y, Y, Y, Y, Y, Y, Y, Y, Yn, Yn, Yn, Yn, Yn, Yn, Yn, Yn, Yn] rfl rfl (take_ofW HT_.out HW_.out (by kernel_rfl)) (fun _ _ _ h => h) (Or.inl ⟨by rfl, ?_⟩) hHeld ?_ ?_
   rotate_left
   ·rintro w' ⟨s0, s1, s2⟩
    go_simp
    with_reducible rfl
   rotate_left
   ·simp only [Act.put, List.setIfInBounds_toArray, List.set_cons_zero, List.set_cons_succ, i64_w, i32_w]
    rfl
   refine take_ (i := 8) (N := some 24) (v := ?_) (a' := ?_) #[Y, Y, Y, Y, Y, Y, Y, Y, Y, Yn, Yn, Yn, Yn, Yn, Yn, Yn, Yn] rfl rfl (take_ofW HT_.out HW_.out (by kernel_rfl)) (fun _ _ _ h => h) (Or.inl ⟨by rfl, ?_⟩) hHeld ?_ ?_
   rotate_left
   ·rintro w' ⟨s0, s1, s2⟩
    go_simp
    with_reducible rfl
   rotate_left
   ·simp only [Act.put, List.setIfInBounds_toArray, List.set_cons_zero, List.set_cons_succ, i64_w, i32_w]
    rfl
   refine one_ (i := 9) (N := some 25) #[Y, Y, Y, Y, Y, Y, Y, Y, Y, Y, Yn, Yn, Yn, Yn, Yn, Yn, Yn] rfl rfl (one_of HT_.out (by kernel_rfl)) (by decide) (fun K hK => ?_)
   refine goesT_ Tryd.func76 (by kernel_rfl) rfl #[.string s0_0, .int .i64 s0_1] (by rfl) rfl rfl rfl (by (try simp only [List.map_toArray, List.map_cons, List.map_nil]); first | done | rfl | (simp only [List.length_drop, List.length_take]; rfl)) ?_
   with_reducible refine (codec_Reader_Signed_1.calls k s0_0 s0_1 t143 t144 false _ ?side99  A3.out).mono ?_
   (case side99 => first | exact HG.out | exact Glob.below HG.out (by repeat (first | (with_reducible first | exact HB.out | apply below_alloc | apply pw_below_drewN | apply below_drew1 | refine below_set ?_ (IsS119.ge HI0.out)) | exact HB.out)))
   rintro e w11 ⟨rfl, hb⟩
   refine ⟨_, rfl, ?_⟩
   have n0_ := Aside0.mk (IsS119.below (by repeat (first | (with_reducible first | exact HI0.out | apply IsS119.alloc | apply IsS119.drewN | apply IsS119.drew | apply IsS119.set_0 | apply IsS119.set_1 | apply IsS119.set_2) | exact HI0.out)) hb)
   have n1_ := Aside0.mk (KeepBut.trans (by repeat (first | (with_reducible first | exact HK.out | apply KeepBut.set_ | apply keep_drewN | apply keep_drew | apply keep_alloc) | exact HK.out)) (KeepBut.of_below hb g none) (.inl rfl))
   have n2_ := Aside0.mk (below_step (by repeat (first | (with_reducible first | exact HB.out | apply below_alloc | apply pw_below_drewN | apply below_drew1 | refine below_set ?_ (IsS119.ge HI0.out)) | exact HB.out)) hb)
   clear HI0
   clear HK
   clear HB
   have HI0 := n0_
   have HK := n1_
   have HB := n2_
   clear n0_ n1_ n2_
   (try clear hb)
   (try clear hb2)
   (try clear hk)
   (try clear hi)
   refine hK.out _ _ ⟨(blk_cell (Aside0.mk HI0.out.1).out 0).trans rfl, (blk_cell (Aside0.mk HI0.out.1).out 1).trans rfl, (blk_cell (Aside0.mk HI0.out.1).out 2).trans rfl⟩ (fun hHeld => ?_)
   clear hK K
   refine norm_ (a' := ?_) ?_ ?_
   rotate_left
   ·show Act.put _ (some 25) _ = _
    simp only [Act.put, List.setIfInBounds_toArray, List.set_cons_zero, List.set_cons_succ, i64_w, i32_w]
    rfl
   refine pure_ (i := 10) (N := some 15) (v := ?_) (a' := ?_) #[Y, Y, Y, Y, Y, Y, Y, Y, Y, Y, Y, Yn, Yn, Yn, Yn, Yn, Yn] rfl rfl (any_of HT_.out (by kernel_rfl)) (fun _ _ _ h => h) (Or.inl ⟨by rfl, ?_⟩) ?_ ?_
   rotate_left
   ·intro w'
    go_simp
    with_reducible rfl
   rotate_left
   ·simp only [Act.put, List.setIfInBounds_toArray, List.set_cons_zero, List.set_cons_succ, i64_w, i32_w]
    rfl
   refine pure_ (i := 11) (N := some 26) (v := ?_) (a' := ?_) #[Y, Y, Y, Y, Y, Y, Y, Y, Y, Y, Y, Y, Yn, Yn, Yn, Yn, Yn] rfl rfl (any_of HT_.out (by kernel_rfl)) (fun _ _ _ h => h) (Or.inl ⟨by rfl, ?_⟩) ?_ ?_
   rotate_left
   ·intro w'
    go_simp
    with_reducible rfl
   rotate_left
   ·simp only [Act.put, List.setIfInBounds_toArray, List.set_cons_zero, List.set_cons_succ, i64_w, i32_w]
    rfl
   refine pure_ (i := 12) (N := some 27) (v := ?_) (a' := ?_) #[Y, Y, Y, Y, Y, Y, Y, Y, Y, Y, Y, Y, Y, Yn, Yn, Yn, Yn] rfl rfl (any_of HT_.out (by kernel_rfl)) (fun _ _ _ h => h) (Or.inl ⟨by rfl, ?_⟩) ?_ ?_
   rotate_left
   ·intro w'
    go_simp
    with_reducible rfl
   rotate_left
   ·simp only [Act.put, List.setIfInBounds_toArray, List.set_cons_zero, List.set_cons_succ, i64_w, i32_w]
    rfl
   refine pure_ (i := 13) (N := some 28) (v := ?_) (a' := ?_) #[Y, Y, Y, Y, Y, Y, Y, Y, Y, Y, Y, Y, Y, Y, Yn, Yn, Yn] rfl rfl (any_of HT_.out (by kernel_rfl)) (fun _ _ _ h => h) (Or.inl ⟨by rfl, ?_⟩) ?_ ?_
   rotate_left
   ·intro w'
    go_simp
    with_reducible rfl
   rotate_left
   ·simp only [Act.put, List.setIfInBounds_toArray, List.set_cons_zero, List.set_cons_succ, i64_w, i32_w]
    rfl
   refine pure_ (i := 14) (N := some 6) (v := ?_) (a' := ?_) #[Y, Y, Y, Y, Y, Y, Y, Y, Y, Y, Y, Y, Y, Y, Y, Yn, Yn] rfl rfl (any_of HT_.out (by kernel_rfl)) (fun _ _ _ h => h) (Or.inl ⟨by rfl, ?_⟩) ?_ ?_
   rotate_left
   ·intro w'
    go_simp
    with_reducible rfl
   rotate_left
   ·simp only [Act.put, List.setIfInBounds_toArray, List.set_cons_zero, List.set_cons_succ, i64_w, i32_w]
    rfl
   refine pure_ (i := 15) (N := some 7) (v := ?_) (a' := ?_) #[Y, Y, Y, Y, Y, Y, Y, Y, Y, Y, Y, Y, Y, Y, Y, Y, Yn] rfl rfl (any_of HT_.out (by kernel_rfl)) (fun _ _ _ h => h) (Or.inl ⟨by rfl, ?_⟩) ?_ ?_
   rotate_left
   ·intro w'
    go_simp
    with_reducible rfl
   rotate_left
   ·simp only [Act.put, List.setIfInBounds_toArray, List.set_cons_zero, List.set_cons_succ, i64_w, i32_w]
    rfl
   refine pure_ (i := 16) (N := some 8) (v := ?_) (a' := ?_) #[Y, Y, Y, Y, Y, Y, Y, Y, Y, Y, Y, Y, Y, Y, Y, Y, Y] rfl rfl (any_of HT_.out (by kernel_rfl)) (fun _ _ _ h => h) (Or.inl ⟨by rfl, ?_⟩) ?_ ?_
   rotate_left
   ·intro w'
    go_simp
    with_reducible rfl
   rotate_left
   ·simp only [Act.put, List.setIfInBounds_toArray, List.set_cons_zero, List.set_cons_succ, i64_w, i32_w]
    rfl
   refine done_ (done_of HT_.out (by kernel_rfl)) ?_
   obtain ⟨HGz12, hgz12⟩ := HI0.out
   have hcz12_0 := cellS119_0 HGz12
   have hcz12_1 := cellS119_1 HGz12
   have hcz12_2 := cellS119_2 HGz12
   have hfz12_0 := blk_frozen HGz12 0
   have hfz12_1 := blk_frozen HGz12 1
   have hfz12_2 := blk_frozen HGz12 2
   clear HGz12 hgz12
   try go_wp2_with (first | (go_at_call 73; go_in) | ((try simp only [Exit.inBlock, Exit.then]); refine bodyPost_end (results_none rfl _ _ _) rfl ?_; simp only []; go_at_K))
   go_ret
   exact ⟨by first | rfl | (simp [errW_none, errW_some] <;> rfl) | (simp [*, errW_none, errW_some] <;> rfl), by repeat (first | (with_reducible first | exact HI0.out | apply IsS119.alloc | apply IsS119.drewN | apply IsS119.drew | apply IsS119.set_0 | apply IsS119.set_1 | apply IsS119.set_2) | exact HI0.out), by repeat (first | (with_reducible first | exact HB.out | apply below_alloc | apply pw_below_drewN | apply below_drew1 | refine below_set ?_ (IsS119.ge HI0.out)) | exact HB.out), by repeat (first | (with_reducible first | exact HK.out | apply KeepBut.set_ | apply keep_drewN | apply keep_drew | apply keep_alloc) | exact HK.out)⟩
 ·rw [if_neg c2] at H
  have c2b0 : (s0_2 == 0) = false := beq_eq_false_iff_ne.mpr c2
  have c2b1 : (s0_2 != 0) = true := bne_iff_ne.mpr c2
  simp only [Option.some.injEq, Prod.mk.injEq] at H
  obtain ⟨rfl, rfl, rfl, rfl⟩ := H
  obtain ⟨HGz13, hgz13⟩ := HI0.out
  have hcz13_0 := cellS119_0 HGz13
  have hcz13_1 := cellS119_1 HGz13
  have hcz13_2 := cellS119_2 HGz13
  have hfz13_0 := blk_frozen HGz13 0
  have hfz13_1 := blk_frozen HGz13 1
  have hfz13_2 := blk_frozen HGz13 2
  clear HGz13 hgz13
  go_enter Tryd.func48, Tryd.ntmps48
  go_wp2_with (first | (go_at_call 73; go_in) | ((try simp only [Exit.inBlock, Exit.then]); refine bodyPost_end (results_none rfl _ _ _) rfl ?_; simp only []; go_at_K))
  go_ret
  exact ⟨by first | rfl | (simp [errW_none, errW_some] <;> rfl) | (simp [*, errW_none, errW_some] <;> rfl), by repeat (first | (with_reducible first | exact HI0.out | apply IsS119.alloc | apply IsS119.drewN | apply IsS119.drew | apply IsS119.set_0 | apply IsS119.set_1 | apply IsS119.set_2) | exact HI0.out), by repeat (first | (with_reducible first | exact HB.out | apply below_alloc | apply pw_below_drewN | apply below_drew1 | refine below_set ?_ (IsS119.ge HI0.out)) | exact HB.out), by repeat (first | (with_reducible first | exact HK.out | apply KeepBut.set_ | apply keep_drewN | apply keep_drew | apply keep_alloc) | exact HK.out)⟩
end Go.Proofs.YtbgabhknmpbgiaaDoor.S
end
section
namespace Go.Proofs.YtbgabhknmpbgiaaDoor.S
open Go.RowKit Go.Proofs.YtbgabhknmpbgiaaDoorW.PrintWords Go.Proofs.YtbgabhknmpbgiaaDoorW.PrintLast Go.Proofs.YtbgabhknmpbgiaaDoorW.PrintMore
attribute [local go_sem] max2_int min2_int max_two min_two max_three min_three max_four min_four
set_option linter.unusedVariables false
set_option linter.unusedSimpArgs false
def codec_Reader_Bool_1.f (k : Nat) (a0 : ByteArray) (a1 : Int) : Option (Bool × Int × Bool) := (codec_kind.f k a0 a1).bind fun t146 => (if t146 = 2 then (if 0 ≤ a1 then (if a1 < (a0.size : Int) then (some (((bt a0 a1) == 2), wrap64 (a1 + 1), true)) else (none)) else (none)) else (some (false, 0, false)))
set_option maxHeartbeats 8000000 in
set_option maxRecDepth 100000 in
theorem codec_Reader_Bool_1.calls (k : Nat) (a0 : ByteArray) (a1 : Int) (r1 : Bool) (r2 : Int) (r3 : Bool) (w : World) (hG : Glob w) (h : codec_Reader_Bool_1.f k a0 a1 = some (r1, r2, r3)) :
  Calls Tryd.prog 78 #[.string a0, .int .i64 a1] w fun e w' => e = .returned (.tuple #[.bool r1, .int .i64 r2, .bool r3]) ∧ Drawn0 w w' := by
 have HG := Aside0.mk hG
 clear hG
 have H : ((codec_kind.f k a0 a1).bind fun t146 => (if t146 = 2 then (if 0 ≤ a1 then (if a1 < (a0.size : Int) then (some (((bt a0 a1) == 2), wrap64 (a1 + 1), true)) else (none)) else (none)) else (some (false, 0, false)))) = some (r1, r2, r3) := h
 clear h
 replace H := Option.bind_eq_some_iff.mp H
 obtain ⟨t146, A30, H⟩ := H
 replace H : (if t146 = 2 then (if 0 ≤ a1 then (if a1 < (a0.size : Int) then (some (((bt a0 a1) == 2), wrap64 (a1 + 1), true)) else (none)) else (none)) else (some (false, 0, false))) = some (r1, r2, r3) := H
 have A3 := Aside0.mk A30
 clear A30
 by_cases c4 : t146 = 2
 ·rw [if_pos c4] at H
  have c4b0 : (t146 == 2) = true := beq_iff_eq.mpr c4
  have c4b1 : (t146 != 2) = false := bne_eq_false_iff_eq.mpr c4
  clear c4
  by_cases c5 : 0 ≤ a1
  ·rw [if_pos c5] at H
   have c5b0 : decide (0 ≤ a1) = true := decide_eq_true c5
   clear c5
   by_cases c6 : a1 < (a0.size : Int)
   ·rw [if_pos c6] at H
    have c6b0 : decide (a1 < (a0.size : Int)) = true := decide_eq_true c6
    clear c6
    simp only [Option.some.injEq, Prod.mk.injEq] at H
    obtain ⟨rfl, rfl, rfl⟩ := H
    go_enter Tryd.func78, Tryd.ntmps78
    go_wp2_with (first | ((with_reducible refine gate_callee (f := 79) rfl ?_); refine goesL_ (some 9) rfl rfl Tryd.func79 (by kernel_rfl) rfl #[.string a0, .int .i64 a1] rfl (by (try simp only [List.map_toArray, List.map_cons, List.map_nil]); first | done | rfl | (simp only [List.length_drop, List.length_take]; rfl)) ?_; (with_reducible refine (codec_kind.calls k a0 a1 t146 _ ?side99  A3.out).mono ?_); (case side99 => first | exact HG.out | exact Glob.below HG.out (by repeat (first | (with_reducible first | exact HB.out | apply below_alloc | apply pw_below_drewN | apply below_drew1) | exact HB.out))); rintro e w' ⟨rfl, ⟨nd, rfl⟩⟩; refine ⟨_, rfl, ?_⟩; have p7 : 0 ≤ (a1 : Int) := of_decide_eq_true (by first | (with_reducible assumption) | assumption); have q7 : a1 < (a0.size : Int) := of_decide_eq_true (by first | (with_reducible assumption) | assumption); have hx7 := bt_at a0 a1; replace p7 := eq_true p7; replace q7 := eq_true q7))
    go_ret3
    exact ⟨by first | rfl | (simp; done) | (simp [*]; done), by repeat (first | exact Drawn0.refl _ | apply Drawn0.step)⟩
   ·rw [if_neg c6] at H
    exact absurd H (by simp)
  ·rw [if_neg c5] at H
   exact absurd H (by simp)
 ·rw [if_neg c4] at H
  have c4b0 : (t146 == 2) = false := beq_eq_false_iff_ne.mpr c4
  have c4b1 : (t146 != 2) = true := bne_iff_ne.mpr c4
  simp only [Option.some.injEq, Prod.mk.injEq] at H
  obtain ⟨rfl, rfl, rfl⟩ := H
  go_enter Tryd.func78, Tryd.ntmps78
  go_wp2_with (first | ((with_reducible refine gate_callee (f := 79) rfl ?_); refine goesL_ (some 9) rfl rfl Tryd.func79 (by kernel_rfl) rfl #[.string a0, .int .i64 a1] rfl (by (try simp only [List.map_toArray, List.map_cons, List.map_nil]); first | done | rfl | (simp only [List.length_drop, List.length_take]; rfl)) ?_; (with_reducible refine (codec_kind.calls k a0 a1 t146 _ ?side99  A3.out).mono ?_); (case side99 => first | exact HG.out | exact Glob.below HG.out (by repeat (first | (with_reducible first | exact HB.out | apply below_alloc | apply pw_below_drewN | apply below_drew1) | exact HB.out))); rintro e w' ⟨rfl, ⟨nd, rfl⟩⟩; refine ⟨_, rfl, ?_⟩))
  go_ret3
  exact ⟨by first | rfl | (simp; done) | (simp [*]; done), by repeat (first | exact Drawn0.refl _ | apply Drawn0.step)⟩
end Go.Proofs.YtbgabhknmpbgiaaDoor.S
end
