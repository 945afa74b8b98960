/- TrendRingCard: one part of the proof that the law answers true for every input, and that its arguments read afterwards as before. No condition. -/
import Derived.Test.YtbccjcdmpiolpaaDoorCRing6
import Derived.Outline
import Derived.Deep.OwnRows
import Derived.LoopTactic
import Derived.ProofKit
import Derived.Deep.Slices
import Derived.SizedLaws
import Derived.OpenShut
import Derived.DataReads
import Derived.SevenTiedAt
import Derived.WalkKit
import Derived.ShutString
import Derived.ChangeOld
import Derived.Below
import Derived.Test.YtbccjcdmpiolpaaDoorCards
import Derived.Test.YtbccjcdmpiolpaaDoorRows
import Derived.Test.YtbccjcdmpiolpaaDoorTie
section
namespace Go.Proofs.YtbccjcdmpiolpaaDoor.T
open Go.RowKit Go.Proofs.YtbccjcdmpiolpaaDoor.Pure Go.Proofs.YtbccjcdmpiolpaaDoorW.PrintWords Go.Proofs.YtbccjcdmpiolpaaDoorW.PrintLast Go.Proofs.YtbccjcdmpiolpaaDoorW.PrintMore
set_option linter.unusedVariables false
set_option linter.unusedSimpArgs false
attribute [local go_sem] max2_int min2_int max_two min_two
structure RI (nm pt : ByteArray) (way iv st sz i : Int) (w : World) (gr gl B : Nat) (L : Lg) (H : List S44) (wr : World) : Prop where
 log : LogAt B gl L wr
 lo : w.heap.size ≤ B
 hi : B ≤ wr.heap.size
 li : LgI nm pt way iv st sz i L H
 row : wr.heap[gr]? = some (.cells #[.string nm, .string pt, .int .i64 way, .int .i64 iv, .int .i64 st, .int .i64 sz] 23 (0, 0))
 bel : Below w.heap.size w wr
theorem save_size (total now : Int) (xs : List S44) (hl : xs.length ≤ 1040) (hx : ∀ x ∈ xs, Ok44 x) : (strOfNums (saveB total now xs)).size ≤ 140737488355327 := by
 have h5 := recs_len xs hx
 have h1 := uB_len 3
 have h2 := uB_len (uw total)
 have h3 := uB_len (uw now)
 have h4 := uB_len (xs.length : Int)
 have hz : (strOfNums (bodyB total now xs)).size ≤ 65535 := by
  rw [strOfNums_size]
  unfold bodyB
  simp only [List.length_append, List.length_cons, List.length_nil]
  omega
 have hd := digB_size (strOfNums (bodyB total now xs))
 rw [strOfNums_size]
 unfold saveB textB
 generalize digB (strOfNums (bodyB total now xs)) = D at hd ⊢
 generalize strOfNums (bodyB total now xs) = Y at hz ⊢
 have q1 := uB_len 2
 have q2 := uB_len (D.size : Int)
 have q3 := uB_len (Y.size : Int)
 have q4 := bytesOf_length D
 have q5 := bytesOf_length Y
 simp only [List.length_append, List.length_cons, List.length_nil]
 omega
theorem LgI.ok44 {nm pt : ByteArray} {way iv st sz n : Int} {L : Lg} {H : List S44} (h : LgI nm pt way iv st sz n L H) : ∀ x ∈ L.recs, Ok44 x := by
 refine mem_ix (P := Ok44) fun j hj => ?_
 obtain ⟨hi, e⟩ := h.hist.at_ j hj
 have g := h.gd _ (List.getElem_mem hi)
 rw [← e] at g
 exact ⟨by have := g.n0; omega, by have := g.n1; omega⟩
structure RJ (nm pt : ByteArray) (way iv st sz : Int) (w : World) (gr gl B : Nat) (L : Lg) (A : Option Addr) (wr : World) : Prop where
 log : LogAt B gl L wr
 hi : B ≤ wr.heap.size
 row : wr.heap[gr]? = some (.cells #[.string nm, .string pt, .int .i64 way, .int .i64 iv, .int .i64 st, .int .i64 sz] 23 (0, 0))
 bel : Below w.heap.size w wr
 rcs : Kd.C k44 wr A L.recs.length L.recs
theorem RJ.drew {nm pt : ByteArray} {way iv st sz : Int} {w wr : World} {gr gl B : Nat} {L : Lg} {A : Option Addr} (h : RJ nm pt way iv st sz w gr gl B L A wr) : RJ nm pt way iv st sz w gr gl B L A wr.drew :=
 ⟨h.log.drew, h.hi, blk_drew h.row, below_drew1 h.bel, Kd.C_drew h.rcs⟩
theorem rd44_get (l : List S44) (i : Nat) (h : i < l.length) : rd_T44 l (i : Int) = l[i] := by
 unfold rd_T44
 rw [Int.toNat_natCast, List.getD_eq_getElem?_getD, List.getElem?_eq_getElem h]
 rfl
theorem rd_num {L : Lg} {H : List S44} (h : Hist L H) (y : Int) (h0 : 0 ≤ y) (h1 : y < (L.recs.length : Int)) : (rd_T44 L.recs y).f0 = L.total - (L.recs.length : Int) + 1 + y ∧ (rd_T44 L.recs y).f4 = 0 := by
 obtain ⟨j, rfl⟩ : ∃ j : Nat, y = (j : Int) := ⟨y.toNat, by omega⟩
 rw [rd44_get _ j (by omega)]
 have := h.num_ j (by omega)
 exact ⟨this.1, this.2.1⟩
theorem rd_asc {L : Lg} {H : List S44} (h : Hist L H) (y : Int) (h0 : 0 < y) (h1 : y < (L.recs.length : Int)) : (rd_T44 L.recs (y - 1)).f1 ≤ (rd_T44 L.recs y).f1 := by
 obtain ⟨j, rfl⟩ : ∃ j : Nat, y = (j : Int) + 1 := ⟨(y - 1).toNat, by omega⟩
 rw [show (j : Int) + 1 - 1 = (j : Int) by omega, rd44_get _ j (by omega), show ((j : Int) + 1) = ((j + 1 : Nat) : Int) by omega, rd44_get _ (j + 1) (by omega)]
 exact h.asc_ j (by omega)
def seqR : Code → Code | .seq _ b => b | c => c
def seqL : Code → Code | .seq a _ => a | c => c
def blkC : Code → Code | .block _ b => b | c => c
def lopC : Code → Code | .loop b => b | c => c
def cut7 (c : Code) : Code := blkC (seqR (seqR (seqR (seqR (seqR (seqR (seqR (blkC (seqL (seqR (lopC (blkC (seqR (seqL (seqR (seqR (seqR (seqR c))))))))))))))))))
set_option maxHeartbeats 16000000 in
set_option maxRecDepth 100000 in
theorem ring_inner {nm pt : ByteArray} {way iv st sz n : Int} {w : World} {gr B gl : Nat} {L5 : Lg} {H5 : List S44} {Ar : Option Addr} {cr : Nat} {Q : Exit → Act → World → Prop} {c : Code} (hc : Tryd.f7.body.map cut7 = some c) {v0 v1 v2 v3 v4 v5 v6 v7 v8 v10 v11 v12 v13 v14 v15 v18 v19 v20 v21 v22 v23 v24 v25 v26 v27 v28 v29 v30 v31 v32 v33 v34 v35 v36 v37 v38 v39 v40 v41 v42 v43 v44 v45 v46 v47 v48 v49 v50 v51 v52 v53 v54 v55 v56 v57 v58 v59 v60 v61 v62 v63 v64 v65 v66 v67 v68 v69 v70 v71 v72 v73 v74 v75 v76 v77 v78 v79 v80 v81 v82 v83 v84 v85 v86 v87 v88 v89 v90 v91 v92 v93 v94 v95 v96 v97 v98 v99 v100 v101 v102 v103 v104 v105 v106 v107 v108 v109 v110 v111 v112 v113 v114 v115 v116 v117 v118 v119 v120 v121 v122 v123 v124 v125 v126 v127 v128 v129 v130 v131 v132 v133 v134 v135 v136 v137 v138 v139 v140 v141 v142 v143 v144 v145 v146 v147 : Value} {wr : World}
  (hli : LgI nm pt way iv st sz n L5 H5) (hs1 : sz ≤ 1024) (hrc : L5.recs.length ≤ cr) (hrj : RJ nm pt way iv st sz w gr gl B L5 Ar wr)
  (hP : ∀ c (a : Act) (d : Option Tmp) (v : Value) w, Q (.panic c) (a.put d v) w → Q (.panic c) a w) (hQ : ∀ (u8 u17 u102 u103 u104 u105 u106 u107 u108 u109 u110 u111 u112 u113 u114 u115 u116 u117 u118 u119 u120 u121 u122 u123 u124 u125 u126 u127 u128 u129 u130 u131 u132 u133 u134 u135 u136 u137 u138 u139 u140 u141 u142 u143 u144 u145 u146 u147 : Value) (w' : World), RJ nm pt way iv st sz w gr gl B L5 Ar w' → Q .normal ⟨List.toArray (v0 :: v1 :: v2 :: v3 :: v4 :: v5 :: v6 :: v7 :: u8 :: .pointer (some ⟨gl, 0, none⟩) :: v10 :: v11 :: v12 :: v13 :: v14 :: v15 :: .slice Ar L5.recs.length cr :: u17 :: v18 :: v19 :: v20 :: v21 :: v22 :: v23 :: v24 :: v25 :: v26 :: v27 :: v28 :: v29 :: v30 :: v31 :: v32 :: v33 :: v34 :: v35 :: v36 :: v37 :: v38 :: v39 :: v40 :: v41 :: v42 :: v43 :: v44 :: v45 :: v46 :: v47 :: v48 :: v49 :: v50 :: v51 :: v52 :: v53 :: v54 :: v55 :: v56 :: v57 :: v58 :: v59 :: v60 :: v61 :: v62 :: v63 :: v64 :: v65 :: v66 :: v67 :: v68 :: v69 :: v70 :: v71 :: v72 :: v73 :: v74 :: v75 :: v76 :: v77 :: v78 :: v79 :: v80 :: v81 :: v82 :: v83 :: v84 :: v85 :: v86 :: v87 :: v88 :: v89 :: v90 :: v91 :: v92 :: v93 :: v94 :: v95 :: v96 :: v97 :: v98 :: v99 :: v100 :: v101 :: u102 :: u103 :: u104 :: u105 :: u106 :: u107 :: u108 :: u109 :: u110 :: u111 :: u112 :: u113 :: u114 :: u115 :: u116 :: u117 :: u118 :: u119 :: u120 :: u121 :: u122 :: u123 :: u124 :: u125 :: u126 :: u127 :: u128 :: u129 :: u130 :: u131 :: u132 :: u133 :: u134 :: u135 :: u136 :: u137 :: u138 :: u139 :: u140 :: u141 :: u142 :: u143 :: u144 :: u145 :: u146 :: u147 :: []), []⟩ w') :
  Code.wp Tryd.prog c (Exit.inBlock 2 Q) ⟨List.toArray (v0 :: v1 :: v2 :: v3 :: v4 :: v5 :: v6 :: v7 :: v8 :: .pointer (some ⟨gl, 0, none⟩) :: v10 :: v11 :: v12 :: v13 :: v14 :: v15 :: .slice Ar L5.recs.length cr :: .int .i64 0 :: v18 :: v19 :: v20 :: v21 :: v22 :: v23 :: v24 :: v25 :: v26 :: v27 :: v28 :: v29 :: v30 :: v31 :: v32 :: v33 :: v34 :: v35 :: v36 :: v37 :: v38 :: v39 :: v40 :: v41 :: v42 :: v43 :: v44 :: v45 :: v46 :: v47 :: v48 :: v49 :: v50 :: v51 :: v52 :: v53 :: v54 :: v55 :: v56 :: v57 :: v58 :: v59 :: v60 :: v61 :: v62 :: v63 :: v64 :: v65 :: v66 :: v67 :: v68 :: v69 :: v70 :: v71 :: v72 :: v73 :: v74 :: v75 :: v76 :: v77 :: v78 :: v79 :: v80 :: v81 :: v82 :: v83 :: v84 :: v85 :: v86 :: v87 :: v88 :: v89 :: v90 :: v91 :: v92 :: v93 :: v94 :: v95 :: v96 :: v97 :: v98 :: v99 :: v100 :: v101 :: v102 :: v103 :: v104 :: v105 :: v106 :: v107 :: v108 :: v109 :: v110 :: v111 :: v112 :: v113 :: v114 :: v115 :: v116 :: v117 :: v118 :: v119 :: v120 :: v121 :: v122 :: v123 :: v124 :: v125 :: v126 :: v127 :: v128 :: v129 :: v130 :: v131 :: v132 :: v133 :: v134 :: v135 :: v136 :: v137 :: v138 :: v139 :: v140 :: v141 :: v142 :: v143 :: v144 :: v145 :: v146 :: v147 :: []), []⟩ wr := by
 have HLI5 := Aside0.mk hli
 have HS1 := Aside0.mk hs1
 have HRC := Aside0.mk hrc
 have HJ0 := Aside0.mk hrj
 have HQ := Aside0.mk hQ
 have HP := Aside0.mk hP
 clear hli hs1 hrc hrj hQ hP
 dsimp only [Tryd.f7, Option.map, cut7, seqR, seqL, blkC, lopC] at hc
 injection hc with hc
 subst hc
 go_loopg [17] L5.recs.length (fun kq v17 wq => ∃ (y : Int), v17 = .int .i64 y ∧ Aside0 (0 ≤ y ∧ y + (kq : Int) = (L5.recs.length : Int)) ∧ Aside0 (RJ nm pt way iv st sz w gr gl B L5 Ar wq))
 case atStart => exact ⟨0, rfl, ⟨by omega⟩, HJ0⟩
 case round =>
  obtain ⟨y, rfl, HYY, HJ⟩ := hrel
  clear HJ0
  cases gk with
  | zero =>
   have q1 : decide (y < (L5.recs.length : Int)) = false := decide_eq_false (by have h1 := HYY.out; omega)
   go_wp2
   apply HQ.out
   exact HJ.out
  | succ k2 =>
   have hlt : y < (L5.recs.length : Int) := by have h1 := HYY.out; omega
   have q1 : decide (y < (L5.recs.length : Int)) = true := decide_eq_true hlt
   have HLB := Aside0.mk (show (L5.recs.length : Int) ≤ 1024 ∧ 0 ≤ L5.total ∧ L5.total ≤ 100000000000000 by have h1 := HLI5.out.ok.len; have h2 := HLI5.out.sz; have h3 := HS1.out; have h4 := HLI5.out.ok.t0; have h5 := HLI5.out.ok.t1; omega)
   have hyw : wrap64 (y + 1) = y + 1 := by have h1 := HYY.out; have h2 := HLB.out; unfold wrap64; omega
   have p1 : (0 ≤ y) = True := eq_true HYY.out.1
   have p2 : (y < (L5.recs.length : Int)) = True := eq_true hlt
   have u1 : wrap64 (L5.total - (L5.recs.length : Int)) = L5.total - (L5.recs.length : Int) := by have h2 := HLB.out; unfold wrap64; omega
   have u2 : wrap64 (L5.total - (L5.recs.length : Int) + 1) = L5.total - (L5.recs.length : Int) + 1 := by have h2 := HLB.out; unfold wrap64; omega
   have u3 : wrap64 (L5.total - (L5.recs.length : Int) + 1 + y) = L5.total - (L5.recs.length : Int) + 1 + y := by have h1 := HYY.out; have h2 := HLB.out; unfold wrap64; omega
   have HN5 := Aside0.mk (rd_num HLI5.out.hist y HYY.out.1 hlt)
   go_wp2
   have HJb := Aside0.mk HJ.out.drew
   obtain ⟨ad, e7, x0, x1, x2, x3, x4, x5⟩ := at_T44 HJb.out.rcs y HYY.out.1 hlt
   have HJb0 := HJb
   subst e7
   clear HJb0
   by_cases ky : 0 < y
   ·have kyb : decide (0 < y) = true := decide_eq_true ky
    have HLS := Aside0.mk (rd_asc HLI5.out.hist y ky hlt)
    have p3 : (1 ≤ y) = True := eq_true (by omega)
    have p4 : (y - 1 < (L5.recs.length : Int)) = True := eq_true (by omega)
    have p5 : (0 ≤ y - 1) = True := eq_true (by omega)
    have u4 : wrap64 (y - 1) = y - 1 := by have h1 := HYY.out; have h2 := HLB.out; unfold wrap64; omega
    obtain ⟨ad2, e8, _, z1, _, _, _, _⟩ := at_T44 HJb.out.rcs (y - 1) (by omega) (by omega)
    injection e8 with e8
    subst e8
    rw [show (y - 1).toNat = y.toNat - 1 by omega] at z1
    clear ky hlt
    generalize rd_T44 L5.recs y = m at x0 x1 x2 x3 x4 x5 HN5 HLS
    generalize rd_T44 L5.recs (y - 1) = p at z1 HLS
    have u5 : (m.f0 != L5.total - (L5.recs.length : Int) + 1 + y) = false := by rw [HN5.out.1]; exact bne_self_eq_false _
    have u6 : (m.f4 != 0) = false := by rw [HN5.out.2]; rfl
    have u7 : decide (m.f1 < p.f1) = false := decide_eq_false (by have h1 := HLS.out; omega)
    have HXb := Aside0.mk (And.intro x0 (And.intro x1 (And.intro x2 (And.intro x3 (And.intro x4 x5)))))
    have HZb := Aside0.mk z1
    refine start_ (n := 40) (S := fun w' => w'.cell? (ad.add (y.toNat * 6)) = some (.int .i64 m.f0) ∧ w'.cell? ⟨(ad.add (y.toNat * 6)).block, (ad.add (y.toNat * 6)).off + 1, none⟩ = some (.int .i64 m.f1) ∧ w'.cell? ⟨(ad.add (y.toNat * 6)).block, (ad.add (y.toNat * 6)).off + 2, none⟩ = some (.int .i64 m.f2.f0) ∧ w'.cell? ⟨(ad.add (y.toNat * 6)).block, (ad.add (y.toNat * 6)).off + 3, none⟩ = some (.int .i64 m.f2.f1) ∧ w'.cell? ⟨(ad.add (y.toNat * 6)).block, (ad.add (y.toNat * 6)).off + 4, none⟩ = some (.int .i64 m.f3) ∧ w'.cell? ⟨(ad.add (y.toNat * 6)).block, (ad.add (y.toNat * 6)).off + 5, none⟩ = some (.int .i64 m.f4) ∧ w'.cell? ⟨(ad.add ((y.toNat - 1) * 6)).block, (ad.add ((y.toNat - 1) * 6)).off + 1, none⟩ = some (.int .i64 p.f1)) (ds := []) #[Yn, Yn, Yn, Yn, Yn, Yn, Yn, Yn, Yn, Yn, Yn, Yn, Yn, Yn, Yn, Yn, Yn, Yn, Yn, Yn, Yn, Yn, Yn, Yn, Yn, Yn, Yn, Yn, Yn, Yn, Yn, Yn, Yn, Yn, Yn, Yn, Yn, Yn, Yn, Yn] (by kernel_rfl) rfl rfl ⟨x0, x1, x2, x3, x4, x5, z1⟩ (fun hHeld => ?_)
    clear x0 x1 x2 x3 x4 x5 z1
    generalize wr.drew = wb at HJb HXb HZb hHeld ⊢
    refine pure_ (i := 0) (N := some 108) (v := ?_) (a' := ?_) (Bz 40 0x1) rfl rfl (by kernel_rfl) (fun c_ a_ w_ h => HP.out c_ a_ _ _ w_ h) (Or.inl ⟨by rfl, ?_⟩) ?_ ?_
    rotate_left
    ·intro w'; go_simp; with_reducible rfl
    rotate_left; ·simp only [Act.put, Z1, Z2, Z3, i64_w, i32_w]; rfl
    refine pure_ (i := 1) (N := some 109) (v := ?_) (a' := ?_) (Bz 40 0x3) rfl rfl (by kernel_rfl) (fun c_ a_ w_ h => HP.out c_ a_ _ _ w_ h) (Or.inl ⟨by rfl, ?_⟩) ?_ ?_
    rotate_left
    ·intro w'; go_simp; with_reducible rfl
    rotate_left; ·simp only [Act.put, Z1, Z2, Z3, i64_w, i32_w]; rfl
    refine pure_ (i := 2) (N := some 110) (v := ?_) (a' := ?_) (Bz 40 0x7) rfl rfl (by kernel_rfl) (fun c_ a_ w_ h => HP.out c_ a_ _ _ w_ h) (Or.inl ⟨by rfl, ?_⟩) ?_ ?_
    rotate_left
    ·intro w'; go_simp; with_reducible rfl
    rotate_left; ·simp only [Act.put, Z1, Z2, Z3, i64_w, i32_w]; rfl
    refine pure_ (i := 3) (N := some 111) (v := ?_) (a' := ?_) (Bz 40 0xf) rfl rfl (by kernel_rfl) (fun c_ a_ w_ h => HP.out c_ a_ _ _ w_ h) (Or.inl ⟨by rfl, ?_⟩) ?_ ?_
    rotate_left
    ·intro w'; go_simp; with_reducible rfl
    rotate_left; ·simp only [Act.put, Z1, Z2, Z3, i64_w, i32_w]; rfl
    refine pure_ (i := 5) (N := some 113) (v := ?_) (a' := ?_) (Bz 40 0x2f) rfl rfl (by kernel_rfl) (fun c_ a_ w_ h => HP.out c_ a_ _ _ w_ h) (Or.inl ⟨by rfl, ?_⟩) ?_ ?_
    rotate_left
    ·intro w'; go_simp; with_reducible rfl
    rotate_left; ·simp only [Act.put, Z1, Z2, Z3, i64_w, i32_w]; rfl
    refine pure_ (i := 7) (N := some 115) (v := ?_) (a' := ?_) (Bz 40 0xaf) rfl rfl (by kernel_rfl) (fun c_ a_ w_ h => HP.out c_ a_ _ _ w_ h) (Or.inl ⟨by rfl, ?_⟩) ?_ ?_
    rotate_left
    ·intro w'; go_simp; with_reducible rfl
    rotate_left; ·simp only [Act.put, Z1, Z2, Z3, i64_w, i32_w]; rfl
    refine pure_ (i := 8) (N := some 116) (v := ?_) (a' := ?_) (Bz 40 0x1af) rfl rfl (by kernel_rfl) (fun c_ a_ w_ h => HP.out c_ a_ _ _ w_ h) (Or.inl ⟨by rfl, ?_⟩) ?_ ?_
    rotate_left
    ·intro w'; go_simp; with_reducible rfl
    rotate_left; ·simp only [Act.put, Z1, Z2, Z3, i64_w, i32_w]; rfl
    refine pure_ (i := 11) (N := some 119) (v := ?_) (a' := ?_) (Bz 40 0x9af) rfl rfl (by kernel_rfl) (fun c_ a_ w_ h => HP.out c_ a_ _ _ w_ h) (Or.inl ⟨by rfl, ?_⟩) ?_ ?_
    rotate_left
    ·intro w'; go_simp; with_reducible rfl
    rotate_left; ·simp only [Act.put, Z1, Z2, Z3, i64_w, i32_w]; rfl
    refine take_ (i := 4) (N := some 112) (v := ?_) (a' := ?_) (Bz 40 0x9bf) rfl rfl (by kernel_rfl) (fun c_ a_ w_ h => HP.out c_ a_ _ _ w_ h) (Or.inl ⟨by rfl, ?_⟩) hHeld ?_ ?_
    rotate_left
    ·rintro w' ⟨s0, s1, s2, s3, s4, s5, s6⟩; go_simp; with_reducible rfl
    rotate_left; ·simp only [Act.put, Z1, Z2, Z3, i64_w, i32_w]; rfl
    refine one_ (i := 6) (N := some 114) #[Y, Y, Y, Y, Y, Y, Y, Y, Y, Yn, Yn, Y, Yn, Yn, Yn, Yn, Yn, Yn, Yn, Yn, Yn, Yn, Yn, Yn, Yn, Yn, Yn, Yn, Yn, Yn, Yn, Yn, Yn, Yn, Yn, Yn, Yn, Yn, Yn, Yn] rfl rfl (by kernel_rfl) (by decide) (fun K hK => ?_)
    refine goes_ Tryd.func12 (by kernel_rfl) rfl #[.pointer (some ⟨gl, 0, none⟩)] (by rfl) rfl rfl (by simp only [List.map_toArray, List.map_cons, List.map_nil]; rfl) ?_
    with_reducible refine (total_calls B gl L5 _ HJb.out.log).mono ?_
    rintro e wx ⟨rfl, rfl⟩
    refine ⟨_, rfl, ?_⟩
    refine hK.out _ _ ⟨HXb.out.1, HXb.out.2.1, HXb.out.2.2.1, HXb.out.2.2.2.1, HXb.out.2.2.2.2.1, HXb.out.2.2.2.2.2, HZb.out⟩ (fun hHeld => ?_)
    clear hK K
    refine norm_ (a' := ?_) ?_ ?_
    rotate_left
    ·show Act.put _ (some 114) _ = _
     simp only [Act.put, Z1, Z2, Z3, i64_w, i32_w]
     rfl
    refine pure_ (i := 9) (N := some 117) (v := ?_) (a' := ?_) (Bz 40 0xbff) rfl rfl (by kernel_rfl) (fun c_ a_ w_ h => HP.out c_ a_ _ _ w_ h) (Or.inl ⟨by rfl, ?_⟩) ?_ ?_
    rotate_left
    ·intro w'; go_simp; with_reducible rfl
    rotate_left; ·simp only [Act.put, Z1, Z2, Z3, i64_w, i32_w]; rfl
    refine pure_ (i := 10) (N := some 118) (v := ?_) (a' := ?_) (Bz 40 0xfff) rfl rfl (by kernel_rfl) (fun c_ a_ w_ h => HP.out c_ a_ _ _ w_ h) (Or.inl ⟨by rfl, ?_⟩) ?_ ?_
    rotate_left
    ·intro w'; go_simp; with_reducible rfl
    rotate_left; ·simp only [Act.put, Z1, Z2, Z3, i64_w, i32_w]; rfl
    refine pure_ (i := 12) (N := some 120) (v := ?_) (a' := ?_) (Bz 40 0x1fff) rfl rfl (by kernel_rfl) (fun c_ a_ w_ h => HP.out c_ a_ _ _ w_ h) (Or.inl ⟨by rfl, ?_⟩) ?_ ?_
    rotate_left
    ·intro w'; go_simp; with_reducible rfl
    rotate_left; ·simp only [Act.put, Z1, Z2, Z3, i64_w, i32_w]; rfl
    refine pure_ (i := 13) (N := some 121) (v := ?_) (a' := ?_) (Bz 40 0x3fff) rfl rfl (by kernel_rfl) (fun c_ a_ w_ h => HP.out c_ a_ _ _ w_ h) (Or.inl ⟨by rfl, ?_⟩) ?_ ?_
    rotate_left
    ·intro w'; go_simp; with_reducible rfl
    rotate_left; ·simp only [Act.put, Z1, Z2, Z3, i64_w, i32_w]; rfl
    refine pure_ (i := 14) (N := some 122) (v := ?_) (a' := ?_) (Bz 40 0x7fff) rfl rfl (by kernel_rfl) (fun c_ a_ w_ h => HP.out c_ a_ _ _ w_ h) (Or.inl ⟨by rfl, ?_⟩) ?_ ?_
    rotate_left
    ·intro w'; go_simp; with_reducible rfl
    rotate_left; ·simp only [Act.put, Z1, Z2, Z3, i64_w, i32_w]; rfl
    refine pure_ (i := 15) (N := some 123) (v := ?_) (a' := ?_) (Bz 40 0xffff) rfl rfl (by kernel_rfl) (fun c_ a_ w_ h => HP.out c_ a_ _ _ w_ h) (Or.inl ⟨by rfl, ?_⟩) ?_ ?_
    rotate_left
    ·intro w'; go_simp; with_reducible rfl
    rotate_left; ·simp only [Act.put, Z1, Z2, Z3, i64_w, i32_w]; rfl
    refine pure_ (i := 16) (N := some 124) (v := ?_) (a' := ?_) (Bz 40 0x1ffff) rfl rfl (by kernel_rfl) (fun c_ a_ w_ h => HP.out c_ a_ _ _ w_ h) (Or.inl ⟨by rfl, ?_⟩) ?_ ?_
    rotate_left
    ·intro w'; go_simp; with_reducible rfl
    rotate_left; ·simp only [Act.put, Z1, Z2, Z3, i64_w, i32_w]; rfl
    refine pure_ (i := 17) (N := some 125) (v := ?_) (a' := ?_) (Bz 40 0x3ffff) rfl rfl (by kernel_rfl) (fun c_ a_ w_ h => HP.out c_ a_ _ _ w_ h) (Or.inl ⟨by rfl, ?_⟩) ?_ ?_
    rotate_left
    ·intro w'; go_simp; with_reducible rfl
    rotate_left; ·simp only [Act.put, Z1, Z2, Z3, i64_w, i32_w]; rfl
    refine pure_ (i := 18) (N := some 126) (v := ?_) (a' := ?_) (Bz 40 0x7ffff) rfl rfl (by kernel_rfl) (fun c_ a_ w_ h => HP.out c_ a_ _ _ w_ h) (Or.inl ⟨by rfl, ?_⟩) ?_ ?_
    rotate_left
    ·intro w'; go_simp; with_reducible rfl
    rotate_left; ·simp only [Act.put, Z1, Z2, Z3, i64_w, i32_w]; rfl
    refine take_ (i := 19) (N := some 127) (v := ?_) (a' := ?_) (Bz 40 0xfffff) rfl rfl (by kernel_rfl) (fun c_ a_ w_ h => HP.out c_ a_ _ _ w_ h) (Or.inl ⟨by rfl, ?_⟩) hHeld ?_ ?_
    rotate_left
    ·rintro w' ⟨s0, s1, s2, s3, s4, s5, s6⟩; go_simp; with_reducible rfl
    rotate_left; ·simp only [Act.put, Z1, Z2, Z3, i64_w, i32_w]; rfl
    refine pure_ (i := 20) (N := some 128) (v := ?_) (a' := ?_) (Bz 40 0x1fffff) rfl rfl (by kernel_rfl) (fun c_ a_ w_ h => HP.out c_ a_ _ _ w_ h) (Or.inl ⟨by rfl, ?_⟩) ?_ ?_
    rotate_left
    ·intro w'; go_simp; with_reducible rfl
    rotate_left; ·simp only [Act.put, Z1, Z2, Z3, i64_w, i32_w]; rfl
    refine pure_ (i := 21) (N := some 129) (v := ?_) (a' := ?_) (Bz 40 0x3fffff) rfl rfl (by kernel_rfl) (fun c_ a_ w_ h => HP.out c_ a_ _ _ w_ h) (Or.inl ⟨by rfl, ?_⟩) ?_ ?_
    rotate_left
    ·intro w'; go_simp; with_reducible rfl
    rotate_left; ·simp only [Act.put, Z1, Z2, Z3, i64_w, i32_w]; rfl
    refine pure_ (i := 22) (N := some 130) (v := ?_) (a' := ?_) (Bz 40 0x7fffff) rfl rfl (by kernel_rfl) (fun c_ a_ w_ h => HP.out c_ a_ _ _ w_ h) (Or.inl ⟨by rfl, ?_⟩) ?_ ?_
    rotate_left
    ·intro w'; go_simp; with_reducible rfl
    rotate_left; ·simp only [Act.put, Z1, Z2, Z3, i64_w, i32_w]; rfl
    refine pure_ (i := 23) (N := some 131) (v := ?_) (a' := ?_) (Bz 40 0xffffff) rfl rfl (by kernel_rfl) (fun c_ a_ w_ h => HP.out c_ a_ _ _ w_ h) (Or.inl ⟨by rfl, ?_⟩) ?_ ?_
    rotate_left
    ·intro w'; go_simp; with_reducible rfl
    rotate_left; ·simp only [Act.put, Z1, Z2, Z3, i64_w, i32_w]; rfl
    refine pure_ (i := 24) (N := some 132) (v := ?_) (a' := ?_) (Bz 40 0x1ffffff) rfl rfl (by kernel_rfl) (fun c_ a_ w_ h => HP.out c_ a_ _ _ w_ h) (Or.inl ⟨by rfl, ?_⟩) ?_ ?_
    rotate_left
    ·intro w'; go_simp; with_reducible rfl
    rotate_left; ·simp only [Act.put, Z1, Z2, Z3, i64_w, i32_w]; rfl
    refine pure_ (i := 25) (N := some 133) (v := ?_) (a' := ?_) (Bz 40 0x3ffffff) rfl rfl (by kernel_rfl) (fun c_ a_ w_ h => HP.out c_ a_ _ _ w_ h) (Or.inl ⟨by rfl, ?_⟩) ?_ ?_
    rotate_left
    ·intro w'; go_simp; with_reducible rfl
    rotate_left; ·simp only [Act.put, Z1, Z2, Z3, i64_w, i32_w]; rfl
    refine pure_ (i := 26) (N := some 134) (v := ?_) (a' := ?_) (Bz 40 0x7ffffff) rfl rfl (by kernel_rfl) (fun c_ a_ w_ h => HP.out c_ a_ _ _ w_ h) (Or.inl ⟨by rfl, ?_⟩) ?_ ?_
    rotate_left
    ·intro w'; go_simp; with_reducible rfl
    rotate_left; ·simp only [Act.put, Z1, Z2, Z3, i64_w, i32_w]; rfl
    refine pure_ (i := 27) (N := some 135) (v := ?_) (a' := ?_) (Bz 40 0xfffffff) rfl rfl (by kernel_rfl) (fun c_ a_ w_ h => HP.out c_ a_ _ _ w_ h) (Or.inl ⟨by rfl, ?_⟩) ?_ ?_
    rotate_left
    ·intro w'; go_simp; with_reducible rfl
    rotate_left; ·simp only [Act.put, Z1, Z2, Z3, i64_w, i32_w]; rfl
    refine pure_ (i := 28) (N := some 136) (v := ?_) (a' := ?_) (Bz 40 0x1fffffff) rfl rfl (by kernel_rfl) (fun c_ a_ w_ h => HP.out c_ a_ _ _ w_ h) (Or.inl ⟨by rfl, ?_⟩) ?_ ?_
    rotate_left
    ·intro w'; go_simp; with_reducible rfl
    rotate_left; ·simp only [Act.put, Z1, Z2, Z3, i64_w, i32_w]; rfl
    refine pure_ (i := 29) (N := some 137) (v := ?_) (a' := ?_) (Bz 40 0x3fffffff) rfl rfl (by kernel_rfl) (fun c_ a_ w_ h => HP.out c_ a_ _ _ w_ h) (Or.inl ⟨by rfl, ?_⟩) ?_ ?_
    rotate_left
    ·intro w'; go_simp; with_reducible rfl
    rotate_left; ·simp only [Act.put, Z1, Z2, Z3, i64_w, i32_w]; rfl
    refine pure_ (i := 31) (N := some 139) (v := ?_) (a' := ?_) (Bz 40 0xbfffffff) rfl rfl (by kernel_rfl) (fun c_ a_ w_ h => HP.out c_ a_ _ _ w_ h) (Or.inl ⟨by rfl, ?_⟩) ?_ ?_
    rotate_left
    ·intro w'; go_simp; with_reducible rfl
    rotate_left; ·simp only [Act.put, Z1, Z2, Z3, i64_w, i32_w]; rfl
    refine pure_ (i := 32) (N := some 140) (v := ?_) (a' := ?_) (Bz 40 0x1bfffffff) rfl rfl (by kernel_rfl) (fun c_ a_ w_ h => HP.out c_ a_ _ _ w_ h) (Or.inl ⟨by rfl, ?_⟩) ?_ ?_
    rotate_left
    ·intro w'; go_simp; with_reducible rfl
    rotate_left; ·simp only [Act.put, Z1, Z2, Z3, i64_w, i32_w]; rfl
    refine pure_ (i := 33) (N := some 141) (v := ?_) (a' := ?_) (Bz 40 0x3bfffffff) rfl rfl (by kernel_rfl) (fun c_ a_ w_ h => HP.out c_ a_ _ _ w_ h) (Or.inl ⟨by rfl, ?_⟩) ?_ ?_
    rotate_left
    ·intro w'; go_simp; with_reducible rfl
    rotate_left; ·simp only [Act.put, Z1, Z2, Z3, i64_w, i32_w]; rfl
    refine pure_ (i := 34) (N := some 142) (v := ?_) (a' := ?_) (Bz 40 0x7bfffffff) rfl rfl (by kernel_rfl) (fun c_ a_ w_ h => HP.out c_ a_ _ _ w_ h) (Or.inl ⟨by rfl, ?_⟩) ?_ ?_
    rotate_left
    ·intro w'; go_simp; with_reducible rfl
    rotate_left; ·simp only [Act.put, Z1, Z2, Z3, i64_w, i32_w]; rfl
    refine pure_ (i := 35) (N := some 143) (v := ?_) (a' := ?_) (Bz 40 0xfbfffffff) rfl rfl (by kernel_rfl) (fun c_ a_ w_ h => HP.out c_ a_ _ _ w_ h) (Or.inl ⟨by rfl, ?_⟩) ?_ ?_
    rotate_left
    ·intro w'; go_simp; with_reducible rfl
    rotate_left; ·simp only [Act.put, Z1, Z2, Z3, i64_w, i32_w]; rfl
    refine take_ (i := 30) (N := some 138) (v := ?_) (a' := ?_) (Bz 40 0xfffffffff) rfl rfl (by kernel_rfl) (fun c_ a_ w_ h => HP.out c_ a_ _ _ w_ h) (Or.inl ⟨by rfl, ?_⟩) hHeld ?_ ?_
    rotate_left
    ·rintro w' ⟨s0, s1, s2, s3, s4, s5, s6⟩; go_simp; with_reducible rfl
    rotate_left; ·simp only [Act.put, Z1, Z2, Z3, i64_w, i32_w]; rfl
    refine take_ (i := 36) (N := some 144) (v := ?_) (a' := ?_) (Bz 40 0x1fffffffff) rfl rfl (by kernel_rfl) (fun c_ a_ w_ h => HP.out c_ a_ _ _ w_ h) (Or.inl ⟨by rfl, ?_⟩) hHeld ?_ ?_
    rotate_left
    ·rintro w' ⟨s0, s1, s2, s3, s4, s5, s6⟩; go_simp; with_reducible rfl
    rotate_left; ·simp only [Act.put, Z1, Z2, Z3, i64_w, i32_w]; rfl
    refine pure_ (i := 37) (N := some 145) (v := ?_) (a' := ?_) (Bz 40 0x3fffffffff) rfl rfl (by kernel_rfl) (fun c_ a_ w_ h => HP.out c_ a_ _ _ w_ h) (Or.inl ⟨by rfl, ?_⟩) ?_ ?_
    rotate_left
    ·intro w'; go_simp; with_reducible rfl
    rotate_left; ·simp only [Act.put, Z1, Z2, Z3, i64_w, i32_w]; rfl
    refine pure_ (i := 38) (N := some 146) (v := ?_) (a' := ?_) (Bz 40 0x7fffffffff) rfl rfl (by kernel_rfl) (fun c_ a_ w_ h => HP.out c_ a_ _ _ w_ h) (Or.inl ⟨by rfl, ?_⟩) ?_ ?_
    rotate_left
    ·intro w'; go_simp; with_reducible rfl
    rotate_left; ·simp only [Act.put, Z1, Z2, Z3, i64_w, i32_w]; rfl
    refine pure_ (i := 39) (N := some 147) (v := ?_) (a' := ?_) (Bz 40 0xffffffffff) rfl rfl (by kernel_rfl) (fun c_ a_ w_ h => HP.out c_ a_ _ _ w_ h) (Or.inl ⟨by rfl, ?_⟩) ?_ ?_
    rotate_left
    ·intro w'; go_simp; with_reducible rfl
    rotate_left; ·simp only [Act.put, Z1, Z2, Z3, i64_w, i32_w]; rfl
    refine done_ (by kernel_rfl) ?_
    clear hHeld
    go_wp2
    go_roundg k2
    case measure => omega
    case rel => exact ⟨y + 1, (by first | rfl | (rw [hyw])), ⟨by have h1 := HYY.out; omega⟩, HJb⟩
   ·have kyb : decide (0 < y) = false := decide_eq_false ky
    clear ky hlt
    generalize rd_T44 L5.recs y = m at x0 x1 x2 x3 x4 x5 HN5
    have u5 : (m.f0 != L5.total - (L5.recs.length : Int) + 1 + y) = false := by rw [HN5.out.1]; exact bne_self_eq_false _
    have u6 : (m.f4 != 0) = false := by rw [HN5.out.2]; rfl
    have HXb := Aside0.mk (And.intro x0 (And.intro x1 (And.intro x2 (And.intro x3 (And.intro x4 x5)))))
    refine start_ (n := 40) (S := fun w' => w'.cell? (ad.add (y.toNat * 6)) = some (.int .i64 m.f0) ∧ w'.cell? ⟨(ad.add (y.toNat * 6)).block, (ad.add (y.toNat * 6)).off + 1, none⟩ = some (.int .i64 m.f1) ∧ w'.cell? ⟨(ad.add (y.toNat * 6)).block, (ad.add (y.toNat * 6)).off + 2, none⟩ = some (.int .i64 m.f2.f0) ∧ w'.cell? ⟨(ad.add (y.toNat * 6)).block, (ad.add (y.toNat * 6)).off + 3, none⟩ = some (.int .i64 m.f2.f1) ∧ w'.cell? ⟨(ad.add (y.toNat * 6)).block, (ad.add (y.toNat * 6)).off + 4, none⟩ = some (.int .i64 m.f3) ∧ w'.cell? ⟨(ad.add (y.toNat * 6)).block, (ad.add (y.toNat * 6)).off + 5, none⟩ = some (.int .i64 m.f4)) (ds := []) #[Yn, Yn, Yn, Yn, Yn, Yn, Yn, Yn, Yn, Yn, Yn, Yn, Yn, Yn, Yn, Yn, Yn, Yn, Yn, Yn, Yn, Yn, Yn, Yn, Yn, Yn, Yn, Yn, Yn, Yn, Yn, Yn, Yn, Yn, Yn, Yn, Yn, Yn, Yn, Yn] (by kernel_rfl) rfl rfl ⟨x0, x1, x2, x3, x4, x5⟩ (fun hHeld => ?_)
    clear x0 x1 x2 x3 x4 x5
    generalize wr.drew = wb at HJb HXb hHeld ⊢
    refine pure_ (i := 0) (N := some 108) (v := ?_) (a' := ?_) (Bz 40 0x1) rfl rfl (by kernel_rfl) (fun c_ a_ w_ h => HP.out c_ a_ _ _ w_ h) (Or.inl ⟨by rfl, ?_⟩) ?_ ?_
    rotate_left
    ·intro w'; go_simp; with_reducible rfl
    rotate_left; ·simp only [Act.put, Z1, Z2, Z3, i64_w, i32_w]; rfl
    refine pure_ (i := 1) (N := some 109) (v := ?_) (a' := ?_) (Bz 40 0x3) rfl rfl (by kernel_rfl) (fun c_ a_ w_ h => HP.out c_ a_ _ _ w_ h) (Or.inl ⟨by rfl, ?_⟩) ?_ ?_
    rotate_left
    ·intro w'; go_simp; with_reducible rfl
    rotate_left; ·simp only [Act.put, Z1, Z2, Z3, i64_w, i32_w]; rfl
    refine pure_ (i := 2) (N := some 110) (v := ?_) (a' := ?_) (Bz 40 0x7) rfl rfl (by kernel_rfl) (fun c_ a_ w_ h => HP.out c_ a_ _ _ w_ h) (Or.inl ⟨by rfl, ?_⟩) ?_ ?_
    rotate_left
    ·intro w'; go_simp; with_reducible rfl
    rotate_left; ·simp only [Act.put, Z1, Z2, Z3, i64_w, i32_w]; rfl
    refine pure_ (i := 3) (N := some 111) (v := ?_) (a' := ?_) (Bz 40 0xf) rfl rfl (by kernel_rfl) (fun c_ a_ w_ h => HP.out c_ a_ _ _ w_ h) (Or.inl ⟨by rfl, ?_⟩) ?_ ?_
    rotate_left
    ·intro w'; go_simp; with_reducible rfl
    rotate_left; ·simp only [Act.put, Z1, Z2, Z3, i64_w, i32_w]; rfl
    refine pure_ (i := 5) (N := some 113) (v := ?_) (a' := ?_) (Bz 40 0x2f) rfl rfl (by kernel_rfl) (fun c_ a_ w_ h => HP.out c_ a_ _ _ w_ h) (Or.inl ⟨by rfl, ?_⟩) ?_ ?_
    rotate_left
    ·intro w'; go_simp; with_reducible rfl
    rotate_left; ·simp only [Act.put, Z1, Z2, Z3, i64_w, i32_w]; rfl
    refine pure_ (i := 7) (N := some 115) (v := ?_) (a' := ?_) (Bz 40 0xaf) rfl rfl (by kernel_rfl) (fun c_ a_ w_ h => HP.out c_ a_ _ _ w_ h) (Or.inl ⟨by rfl, ?_⟩) ?_ ?_
    rotate_left
    ·intro w'; go_simp; with_reducible rfl
    rotate_left; ·simp only [Act.put, Z1, Z2, Z3, i64_w, i32_w]; rfl
    refine pure_ (i := 8) (N := some 116) (v := ?_) (a' := ?_) (Bz 40 0x1af) rfl rfl (by kernel_rfl) (fun c_ a_ w_ h => HP.out c_ a_ _ _ w_ h) (Or.inl ⟨by rfl, ?_⟩) ?_ ?_
    rotate_left
    ·intro w'; go_simp; with_reducible rfl
    rotate_left; ·simp only [Act.put, Z1, Z2, Z3, i64_w, i32_w]; rfl
    refine pure_ (i := 11) (N := some 119) (v := ?_) (a' := ?_) (Bz 40 0x9af) rfl rfl (by kernel_rfl) (fun c_ a_ w_ h => HP.out c_ a_ _ _ w_ h) (Or.inl ⟨by rfl, ?_⟩) ?_ ?_
    rotate_left
    ·intro w'; go_simp; with_reducible rfl
    rotate_left; ·simp only [Act.put, Z1, Z2, Z3, i64_w, i32_w]; rfl
    refine take_ (i := 4) (N := some 112) (v := ?_) (a' := ?_) (Bz 40 0x9bf) rfl rfl (by kernel_rfl) (fun c_ a_ w_ h => HP.out c_ a_ _ _ w_ h) (Or.inl ⟨by rfl, ?_⟩) hHeld ?_ ?_
    rotate_left
    ·rintro w' ⟨s0, s1, s2, s3, s4, s5⟩; go_simp; with_reducible rfl
    rotate_left; ·simp only [Act.put, Z1, Z2, Z3, i64_w, i32_w]; rfl
    refine one_ (i := 6) (N := some 114) #[Y, Y, Y, Y, Y, Y, Y, Y, Y, Yn, Yn, Y, Yn, Yn, Yn, Yn, Yn, Yn, Yn, Yn, Yn, Yn, Yn, Yn, Yn, Yn, Yn, Yn, Yn, Yn, Yn, Yn, Yn, Yn, Yn, Yn, Yn, Yn, Yn, Yn] rfl rfl (by kernel_rfl) (by decide) (fun K hK => ?_)
    refine goes_ Tryd.func12 (by kernel_rfl) rfl #[.pointer (some ⟨gl, 0, none⟩)] (by rfl) rfl rfl (by simp only [List.map_toArray, List.map_cons, List.map_nil]; rfl) ?_
    with_reducible refine (total_calls B gl L5 _ HJb.out.log).mono ?_
    rintro e wx ⟨rfl, rfl⟩
    refine ⟨_, rfl, ?_⟩
    refine hK.out _ _ ⟨HXb.out.1, HXb.out.2.1, HXb.out.2.2.1, HXb.out.2.2.2.1, HXb.out.2.2.2.2.1, HXb.out.2.2.2.2.2⟩ (fun hHeld => ?_)
    clear hK K
    refine norm_ (a' := ?_) ?_ ?_
    rotate_left
    ·show Act.put _ (some 114) _ = _
     simp only [Act.put, Z1, Z2, Z3, i64_w, i32_w]
     rfl
    refine pure_ (i := 9) (N := some 117) (v := ?_) (a' := ?_) (Bz 40 0xbff) rfl rfl (by kernel_rfl) (fun c_ a_ w_ h => HP.out c_ a_ _ _ w_ h) (Or.inl ⟨by rfl, ?_⟩) ?_ ?_
    rotate_left
    ·intro w'; go_simp; with_reducible rfl
    rotate_left; ·simp only [Act.put, Z1, Z2, Z3, i64_w, i32_w]; rfl
    refine pure_ (i := 10) (N := some 118) (v := ?_) (a' := ?_) (Bz 40 0xfff) rfl rfl (by kernel_rfl) (fun c_ a_ w_ h => HP.out c_ a_ _ _ w_ h) (Or.inl ⟨by rfl, ?_⟩) ?_ ?_
    rotate_left
    ·intro w'; go_simp; with_reducible rfl
    rotate_left; ·simp only [Act.put, Z1, Z2, Z3, i64_w, i32_w]; rfl
    refine pure_ (i := 12) (N := some 120) (v := ?_) (a' := ?_) (Bz 40 0x1fff) rfl rfl (by kernel_rfl) (fun c_ a_ w_ h => HP.out c_ a_ _ _ w_ h) (Or.inl ⟨by rfl, ?_⟩) ?_ ?_
    rotate_left
    ·intro w'; go_simp; with_reducible rfl
    rotate_left; ·simp only [Act.put, Z1, Z2, Z3, i64_w, i32_w]; rfl
    refine pure_ (i := 13) (N := some 121) (v := ?_) (a' := ?_) (Bz 40 0x3fff) rfl rfl (by kernel_rfl) (fun c_ a_ w_ h => HP.out c_ a_ _ _ w_ h) (Or.inl ⟨by rfl, ?_⟩) ?_ ?_
    rotate_left
    ·intro w'; go_simp; with_reducible rfl
    rotate_left; ·simp only [Act.put, Z1, Z2, Z3, i64_w, i32_w]; rfl
    refine pure_ (i := 14) (N := some 122) (v := ?_) (a' := ?_) (Bz 40 0x7fff) rfl rfl (by kernel_rfl) (fun c_ a_ w_ h => HP.out c_ a_ _ _ w_ h) (Or.inl ⟨by rfl, ?_⟩) ?_ ?_
    rotate_left
    ·intro w'; go_simp; with_reducible rfl
    rotate_left; ·simp only [Act.put, Z1, Z2, Z3, i64_w, i32_w]; rfl
    refine pure_ (i := 15) (N := some 123) (v := ?_) (a' := ?_) (Bz 40 0xffff) rfl rfl (by kernel_rfl) (fun c_ a_ w_ h => HP.out c_ a_ _ _ w_ h) (Or.inl ⟨by rfl, ?_⟩) ?_ ?_
    rotate_left
    ·intro w'; go_simp; with_reducible rfl
    rotate_left; ·simp only [Act.put, Z1, Z2, Z3, i64_w, i32_w]; rfl
    refine pure_ (i := 16) (N := some 124) (v := ?_) (a' := ?_) (Bz 40 0x1ffff) rfl rfl (by kernel_rfl) (fun c_ a_ w_ h => HP.out c_ a_ _ _ w_ h) (Or.inl ⟨by rfl, ?_⟩) ?_ ?_
    rotate_left
    ·intro w'; go_simp; with_reducible rfl
    rotate_left; ·simp only [Act.put, Z1, Z2, Z3, i64_w, i32_w]; rfl
    refine pure_ (i := 17) (N := some 125) (v := ?_) (a' := ?_) (Bz 40 0x3ffff) rfl rfl (by kernel_rfl) (fun c_ a_ w_ h => HP.out c_ a_ _ _ w_ h) (Or.inl ⟨by rfl, ?_⟩) ?_ ?_
    rotate_left
    ·intro w'; go_simp; with_reducible rfl
    rotate_left; ·simp only [Act.put, Z1, Z2, Z3, i64_w, i32_w]; rfl
    refine pure_ (i := 18) (N := some 126) (v := ?_) (a' := ?_) (Bz 40 0x7ffff) rfl rfl (by kernel_rfl) (fun c_ a_ w_ h => HP.out c_ a_ _ _ w_ h) (Or.inl ⟨by rfl, ?_⟩) ?_ ?_
    rotate_left
    ·intro w'; go_simp; with_reducible rfl
    rotate_left; ·simp only [Act.put, Z1, Z2, Z3, i64_w, i32_w]; rfl
    refine take_ (i := 19) (N := some 127) (v := ?_) (a' := ?_) (Bz 40 0xfffff) rfl rfl (by kernel_rfl) (fun c_ a_ w_ h => HP.out c_ a_ _ _ w_ h) (Or.inl ⟨by rfl, ?_⟩) hHeld ?_ ?_
    rotate_left
    ·rintro w' ⟨s0, s1, s2, s3, s4, s5⟩; go_simp; with_reducible rfl
    rotate_left; ·simp only [Act.put, Z1, Z2, Z3, i64_w, i32_w]; rfl
    refine pure_ (i := 20) (N := some 128) (v := ?_) (a' := ?_) (Bz 40 0x1fffff) rfl rfl (by kernel_rfl) (fun c_ a_ w_ h => HP.out c_ a_ _ _ w_ h) (Or.inl ⟨by rfl, ?_⟩) ?_ ?_
    rotate_left
    ·intro w'; go_simp; with_reducible rfl
    rotate_left; ·simp only [Act.put, Z1, Z2, Z3, i64_w, i32_w]; rfl
    refine pure_ (i := 21) (N := some 129) (v := ?_) (a' := ?_) (Bz 40 0x3fffff) rfl rfl (by kernel_rfl) (fun c_ a_ w_ h => HP.out c_ a_ _ _ w_ h) (Or.inl ⟨by rfl, ?_⟩) ?_ ?_
    rotate_left
    ·intro w'; go_simp; with_reducible rfl
    rotate_left; ·simp only [Act.put, Z1, Z2, Z3, i64_w, i32_w]; rfl
    refine pure_ (i := 22) (N := some 130) (v := ?_) (a' := ?_) (Bz 40 0x7fffff) rfl rfl (by kernel_rfl) (fun c_ a_ w_ h => HP.out c_ a_ _ _ w_ h) (Or.inl ⟨by rfl, ?_⟩) ?_ ?_
    rotate_left
    ·intro w'; go_simp; with_reducible rfl
    rotate_left; ·simp only [Act.put, Z1, Z2, Z3, i64_w, i32_w]; rfl
    refine pure_ (i := 23) (N := some 131) (v := ?_) (a' := ?_) (Bz 40 0xffffff) rfl rfl (by kernel_rfl) (fun c_ a_ w_ h => HP.out c_ a_ _ _ w_ h) (Or.inl ⟨by rfl, ?_⟩) ?_ ?_
    rotate_left
    ·intro w'; go_simp; with_reducible rfl
    rotate_left; ·simp only [Act.put, Z1, Z2, Z3, i64_w, i32_w]; rfl
    refine pure_ (i := 24) (N := some 132) (v := ?_) (a' := ?_) (Bz 40 0x1ffffff) rfl rfl (by kernel_rfl) (fun c_ a_ w_ h => HP.out c_ a_ _ _ w_ h) (Or.inl ⟨by rfl, ?_⟩) ?_ ?_
    rotate_left
    ·intro w'; go_simp; with_reducible rfl
    rotate_left; ·simp only [Act.put, Z1, Z2, Z3, i64_w, i32_w]; rfl
    refine pure_ (i := 25) (N := some 133) (v := ?_) (a' := ?_) (Bz 40 0x3ffffff) rfl rfl (by kernel_rfl) (fun c_ a_ w_ h => HP.out c_ a_ _ _ w_ h) (Or.inl ⟨by rfl, ?_⟩) ?_ ?_
    rotate_left
    ·intro w'; go_simp; with_reducible rfl
    rotate_left; ·simp only [Act.put, Z1, Z2, Z3, i64_w, i32_w]; rfl
    refine pure_ (i := 26) (N := some 134) (v := undef) (a' := ?_) (Bz 40 0x7ffffff) rfl rfl (by kernel_rfl) (fun c_ a_ w_ h => HP.out c_ a_ _ _ w_ h) (Or.inr ⟨by rfl, rfl⟩) ?_ ?_
    rotate_left; ·simp only [Act.put, Z1, Z2, Z3, i64_w, i32_w]; rfl
    refine pure_ (i := 27) (N := some 135) (v := undef) (a' := ?_) (Bz 40 0xfffffff) rfl rfl (by kernel_rfl) (fun c_ a_ w_ h => HP.out c_ a_ _ _ w_ h) (Or.inr ⟨by rfl, rfl⟩) ?_ ?_
    rotate_left; ·simp only [Act.put, Z1, Z2, Z3, i64_w, i32_w]; rfl
    refine pure_ (i := 28) (N := some 136) (v := undef) (a' := ?_) (Bz 40 0x1fffffff) rfl rfl (by kernel_rfl) (fun c_ a_ w_ h => HP.out c_ a_ _ _ w_ h) (Or.inr ⟨by rfl, rfl⟩) ?_ ?_
    rotate_left; ·simp only [Act.put, Z1, Z2, Z3, i64_w, i32_w]; rfl
    refine pure_ (i := 29) (N := some 137) (v := undef) (a' := ?_) (Bz 40 0x3fffffff) rfl rfl (by kernel_rfl) (fun c_ a_ w_ h => HP.out c_ a_ _ _ w_ h) (Or.inr ⟨by rfl, rfl⟩) ?_ ?_
    rotate_left; ·simp only [Act.put, Z1, Z2, Z3, i64_w, i32_w]; rfl
    refine pure_ (i := 30) (N := some 138) (v := undef) (a' := ?_) (Bz 40 0x7fffffff) rfl rfl (by kernel_rfl) (fun c_ a_ w_ h => HP.out c_ a_ _ _ w_ h) (Or.inr ⟨by rfl, rfl⟩) ?_ ?_
    rotate_left; ·simp only [Act.put, Z1, Z2, Z3, i64_w, i32_w]; rfl
    refine pure_ (i := 31) (N := some 139) (v := undef) (a' := ?_) (Bz 40 0xffffffff) rfl rfl (by kernel_rfl) (fun c_ a_ w_ h => HP.out c_ a_ _ _ w_ h) (Or.inr ⟨by rfl, rfl⟩) ?_ ?_
    rotate_left; ·simp only [Act.put, Z1, Z2, Z3, i64_w, i32_w]; rfl
    refine pure_ (i := 32) (N := some 140) (v := undef) (a' := ?_) (Bz 40 0x1ffffffff) rfl rfl (by kernel_rfl) (fun c_ a_ w_ h => HP.out c_ a_ _ _ w_ h) (Or.inr ⟨by rfl, rfl⟩) ?_ ?_
    rotate_left; ·simp only [Act.put, Z1, Z2, Z3, i64_w, i32_w]; rfl
    refine pure_ (i := 33) (N := some 141) (v := undef) (a' := ?_) (Bz 40 0x3ffffffff) rfl rfl (by kernel_rfl) (fun c_ a_ w_ h => HP.out c_ a_ _ _ w_ h) (Or.inr ⟨by rfl, rfl⟩) ?_ ?_
    rotate_left; ·simp only [Act.put, Z1, Z2, Z3, i64_w, i32_w]; rfl
    refine pure_ (i := 34) (N := some 142) (v := undef) (a' := ?_) (Bz 40 0x7ffffffff) rfl rfl (by kernel_rfl) (fun c_ a_ w_ h => HP.out c_ a_ _ _ w_ h) (Or.inr ⟨by rfl, rfl⟩) ?_ ?_
    rotate_left; ·simp only [Act.put, Z1, Z2, Z3, i64_w, i32_w]; rfl
    refine pure_ (i := 35) (N := some 143) (v := undef) (a' := ?_) (Bz 40 0xfffffffff) rfl rfl (by kernel_rfl) (fun c_ a_ w_ h => HP.out c_ a_ _ _ w_ h) (Or.inr ⟨by rfl, rfl⟩) ?_ ?_
    rotate_left; ·simp only [Act.put, Z1, Z2, Z3, i64_w, i32_w]; rfl
    refine pure_ (i := 36) (N := some 144) (v := undef) (a' := ?_) (Bz 40 0x1fffffffff) rfl rfl (by kernel_rfl) (fun c_ a_ w_ h => HP.out c_ a_ _ _ w_ h) (Or.inr ⟨by rfl, rfl⟩) ?_ ?_
    rotate_left; ·simp only [Act.put, Z1, Z2, Z3, i64_w, i32_w]; rfl
    refine pure_ (i := 37) (N := some 145) (v := undef) (a' := ?_) (Bz 40 0x3fffffffff) rfl rfl (by kernel_rfl) (fun c_ a_ w_ h => HP.out c_ a_ _ _ w_ h) (Or.inr ⟨by rfl, rfl⟩) ?_ ?_
    rotate_left; ·simp only [Act.put, Z1, Z2, Z3, i64_w, i32_w]; rfl
    refine pure_ (i := 38) (N := some 146) (v := ?_) (a' := ?_) (Bz 40 0x7fffffffff) rfl rfl (by kernel_rfl) (fun c_ a_ w_ h => HP.out c_ a_ _ _ w_ h) (Or.inl ⟨by rfl, ?_⟩) ?_ ?_
    rotate_left
    ·intro w'; go_simp; with_reducible rfl
    rotate_left; ·simp only [Act.put, Z1, Z2, Z3, i64_w, i32_w]; rfl
    refine pure_ (i := 39) (N := some 147) (v := ?_) (a' := ?_) (Bz 40 0xffffffffff) rfl rfl (by kernel_rfl) (fun c_ a_ w_ h => HP.out c_ a_ _ _ w_ h) (Or.inl ⟨by rfl, ?_⟩) ?_ ?_
    rotate_left
    ·intro w'; go_simp; with_reducible rfl
    rotate_left; ·simp only [Act.put, Z1, Z2, Z3, i64_w, i32_w]; rfl
    refine done_ (by kernel_rfl) ?_
    clear hHeld
    go_wp2
    go_roundg k2
    case measure => omega
    case rel => exact ⟨y + 1, (by first | rfl | (rw [hyw])), ⟨by have h1 := HYY.out; omega⟩, HJb⟩
set_option maxHeartbeats 16000000 in
set_option maxRecDepth 100000 in
theorem ring_walk (nm pt : ByteArray) (way iv st sz kind a : Int) (A3 : Option Addr) (c3 : Nat) (l : List S34) (w : World) (hG : Glob w) (h0 : 0 < w.heap.size) (hC : Kd.C k34 w A3 l.length l) (hc : l.length ≤ c3) :
  Calls Tryd.prog 7 #[.agg #[.string nm, .string pt, .int .i64 way, .int .i64 iv, .int .i64 st, .int .i64 sz], .int .i64 kind, .int .i64 a, .slice A3 l.length c3] w fun e w' => e = .returned (.bool true) ∧ Below w.heap.size w w' := by
 have HG := Aside0.mk hG
 have HC := Aside0.mk hC
 have HC3 := Aside0.mk hc
 have HSZ := Aside0.mk h0
 clear hG hC hc h0
 obtain ⟨fr, hf, hok⟩ := fit_all nm pt way iv st sz kind a l 30 (by decide)
 have HF := Aside0.mk hf
 have HOK := Aside0.mk hok
 clear hf hok
 cases fr with
 | false =>
  go_enter Tryd.func7, Tryd.ntmps7
  go_wp2_with (first | ((with_reducible refine gate_dst (N := 4) rfl ?_); refine box_event ?hg (N := 4) ?hd (cs := #[.string nm, .string pt, .int .i64 way, .int .i64 iv, .int .i64 st, .int .i64 sz]) (t := 23) ?hr ?_; (case hd => rfl); (case hg => rfl); (case hr => first | (go_simp; done) | (go_simp; rfl)); intro gr hgr w1 hbox hb; have HR1 := Aside0.mk hbox; have HB1 := Aside0.mk hb; have HGR := Aside0.mk (show w.heap.size ≤ gr by rw [hgr]; exact Nat.le_refl _); have x0 := (blk_cell HR1.out 0).trans rfl; have x1 := (blk_cell HR1.out 1).trans rfl; have x2 := (blk_cell HR1.out 2).trans rfl; have x3 := (blk_cell HR1.out 3).trans rfl; have x4 := (blk_cell HR1.out 4).trans rfl; have x5 := (blk_cell HR1.out 5).trans rfl;  clear hb hbox hgr) | (go_at_call 8; (with_reducible refine (awake_calls w1 (Glob.below HG.out HB1.out)).mono ?_); rintro e w2 ⟨rfl, hb⟩; have HR2 := Aside0.mk (blk_below HR1.out hb); have HB2 := Aside0.mk (below_step HB1.out hb); clear x0 x1 x2 x3 x4 x5; have x0 := (blk_cell HR2.out 0).trans rfl; have x1 := (blk_cell HR2.out 1).trans rfl; have x2 := (blk_cell HR2.out 2).trans rfl; have x3 := (blk_cell HR2.out 3).trans rfl; have x4 := (blk_cell HR2.out 4).trans rfl; have x5 := (blk_cell HR2.out 5).trans rfl;  clear hb) | (go_at_call 9; (with_reducible refine (plenumref41_Fit.calls 100 nm pt way iv st sz kind a A3 c3 l 30 _ w2 (Glob.below HG.out HB2.out) (Kd.C_below HC.out HB2.out) HC3.out HF.out).mono ?_); rintro e w3 ⟨rfl, hb⟩; have HR3 := Aside0.mk (blk_below HR2.out hb); have HB3 := Aside0.mk (below_step HB2.out hb); clear x0 x1 x2 x3 x4 x5; have x0 := (blk_cell HR3.out 0).trans rfl; have x1 := (blk_cell HR3.out 1).trans rfl; have x2 := (blk_cell HR3.out 2).trans rfl; have x3 := (blk_cell HR3.out 3).trans rfl; have x4 := (blk_cell HR3.out 4).trans rfl; have x5 := (blk_cell HR3.out 5).trans rfl;  clear hb))
  go_ret
  exact ⟨rfl, HB3.out⟩
 | true =>
  have HFO := Aside0.mk (HOK.out rfl)
  go_enter Tryd.func7, Tryd.ntmps7
  go_wp2_with (first | ((with_reducible refine gate_dst (N := 4) rfl ?_); refine box_event ?hg (N := 4) ?hd (cs := #[.string nm, .string pt, .int .i64 way, .int .i64 iv, .int .i64 st, .int .i64 sz]) (t := 23) ?hr ?_; (case hd => rfl); (case hg => rfl); (case hr => first | (go_simp; done) | (go_simp; rfl)); intro gr hgr w1 hbox hb; have HR1 := Aside0.mk hbox; have HB1 := Aside0.mk hb; have HGR := Aside0.mk (show w.heap.size ≤ gr by rw [hgr]; exact Nat.le_refl _); have x0 := (blk_cell HR1.out 0).trans rfl; have x1 := (blk_cell HR1.out 1).trans rfl; have x2 := (blk_cell HR1.out 2).trans rfl; have x3 := (blk_cell HR1.out 3).trans rfl; have x4 := (blk_cell HR1.out 4).trans rfl; have x5 := (blk_cell HR1.out 5).trans rfl;  clear hb hbox hgr) | (go_at_call 8; (with_reducible refine (awake_calls w1 (Glob.below HG.out HB1.out)).mono ?_); rintro e w2 ⟨rfl, hb⟩; have HR2 := Aside0.mk (blk_below HR1.out hb); have HB2 := Aside0.mk (below_step HB1.out hb); clear x0 x1 x2 x3 x4 x5; have x0 := (blk_cell HR2.out 0).trans rfl; have x1 := (blk_cell HR2.out 1).trans rfl; have x2 := (blk_cell HR2.out 2).trans rfl; have x3 := (blk_cell HR2.out 3).trans rfl; have x4 := (blk_cell HR2.out 4).trans rfl; have x5 := (blk_cell HR2.out 5).trans rfl;  clear hb) | (go_at_call 9; (with_reducible refine (plenumref41_Fit.calls 100 nm pt way iv st sz kind a A3 c3 l 30 _ w2 (Glob.below HG.out HB2.out) (Kd.C_below HC.out HB2.out) HC3.out HF.out).mono ?_); rintro e w3 ⟨rfl, hb⟩; have HR3 := Aside0.mk (blk_below HR2.out hb); have HB3 := Aside0.mk (below_step HB2.out hb); clear x0 x1 x2 x3 x4 x5; have x0 := (blk_cell HR3.out 0).trans rfl; have x1 := (blk_cell HR3.out 1).trans rfl; have x2 := (blk_cell HR3.out 2).trans rfl; have x3 := (blk_cell HR3.out 3).trans rfl; have x4 := (blk_cell HR3.out 4).trans rfl; have x5 := (blk_cell HR3.out 5).trans rfl;  clear hb) | (go_at_call 10; (with_reducible refine (new_calls nm pt way iv st sz a w3).mono ?_); rintro e w4 ⟨g, rfl, hl, hb⟩; have HR4 := Aside0.mk (blk_below HR3.out hb); have HL4 := Aside0.mk hl; have HS4 := Aside0.mk hb.size; have HB4 := Aside0.mk (below_step HB3.out hb); have HLI := Aside0.mk (LgI.new (nm := nm) (pt := pt) (st := st) HFO.out.a0 HFO.out.a1 HFO.out.chk.s0 HFO.out.chk.s1 HFO.out.chk.iv); clear x0 x1 x2 x3 x4 x5 hl hb))
  go_loopg [9, 10, 11, 12, 13, 14, 15, 16, 17] l.length (fun kq v9 v10 v11 v12 v13 v14 v15 v16 v17 wr => ∃ (i : Int) (gl B : Nat) (L : Lg) (H : List S44), v9 = .pointer (some ⟨gl, 0, none⟩) ∧ v10 = .int .i64 i ∧ Aside0 (0 ≤ i ∧ i + (kq : Int) = (l.length : Int)) ∧ Aside0 (RI nm pt way iv st sz i w gr gl B L H wr))
  case atStart => exact ⟨0, g, _, _, [], rfl, rfl, ⟨by omega⟩, ⟨HL4.out, HB3.out.size, HS4.out, HLI.out, HR4.out, HB4.out⟩⟩
  case round =>
   obtain ⟨i, gl, B, L, H, rfl, rfl, HII, HRI⟩ := hrel
   clear HL4 HS4 HB4 HLI HR4 HR1 HR2 HR3 HB1 HB2 HB3
   cases gk with
   | zero =>
    have q0 : decide (i < (l.length : Int)) = false := decide_eq_false (by have h1 := HII.out; omega)
    go_wp2
    go_ret
    exact ⟨rfl, HRI.out.bel⟩
   | succ k1 =>
    have hlt : i < (l.length : Int) := by have h1 := HII.out; omega
    have q0 : decide (i < (l.length : Int)) = true := decide_eq_true hlt
    have p1 : (0 ≤ i) = True := eq_true HII.out.1
    have p2 : (i < (l.length : Int)) = True := eq_true hlt
    have HMV := Aside0.mk (show MvOk a way iv (rd_T34 l i) by
     obtain ⟨y, rfl⟩ : ∃ y : Nat, i = (y : Int) := ⟨i.toNat, by have h1 := HII.out; omega⟩
     rw [rd34_get l y (by omega)]
     exact HFO.out.mv y (by omega))
    have HN := Aside0.mk (show i ≤ 1000 by have h1 := HFO.out.len; omega)
    obtain ⟨ad, e1, z0, z1, z2, z3, z4⟩ := at_T34 (Kd.C_below HC.out HRI.out.bel) i HII.out.1 hlt
    subst e1
    have HAT := Aside0.mk (show ∀ wx : World, Below w.heap.size w wx → wx.cell? (ad.add (i.toNat * 5)) = some (.int .i64 (rd_T34 l i).f0) from fun wx hx => by
     obtain ⟨ad2, e2, y0, _⟩ := at_T34 (Kd.C_below HC.out hx) i HII.out.1 hlt
     injection e2 with e2
     subst e2
     exact y0)
    generalize rd_T34 l i = mv at z0 z1 z2 z3 z4 HMV HAT
    clear hlt
    have HNE := Aside0.mk (show gr ≠ gl by obtain ⟨v, r, f, h, _⟩ := HRI.out.log; exact blk_ne HRI.out.row h (by decide))
    by_cases k3 : mv.f0 = 3
    ·have HK3 := Aside0.mk k3
     rw [k3] at z0 HAT
     clear k3
     obtain ⟨sv, HSV⟩ : ∃ s, Aside0 (strOfNums (saveB L.total L.now L.recs) = s) := ⟨_, ⟨rfl⟩⟩
     have HLN := Aside0.mk (show L.recs.length ≤ 1040 by have h1 := HRI.out.li.ok.len; have h2 := HRI.out.li.sz; have h3 := HFO.out.chk.s1; omega)
     have HSS := Aside0.mk (show sv.size ≤ 140737488355327 by rw [← HSV.out]; exact save_size _ _ _ HLN.out HRI.out.li.ok44)
     have HRS := Aside0.mk (show restS sv sz = some (L.total, L.now, L.recs) by rw [← HSV.out]; exact HRI.out.li.restored HN.out HFO.out.chk.s1)
     go_wp2_with (go_at_call 12; (with_reducible refine (total_calls B gl L _ HRI.out.log).mono ?_); rintro e wq ⟨rfl, rfl⟩)
     have HLd := Aside0.mk HRI.out.log.drew
     have HBd := Aside0.mk (below_drew1 HRI.out.bel)
     have HRd := Aside0.mk (blk_drew HRI.out.row)
     refine start_ (n := 9) (S := fun w' => w'.cell? ⟨gr, 0, none⟩ = some (.string nm) ∧ w'.cell? ⟨gr, 1, none⟩ = some (.string pt) ∧ w'.cell? ⟨gr, 2, none⟩ = some (.int .i64 way) ∧ w'.cell? ⟨gr, 3, none⟩ = some (.int .i64 iv) ∧ w'.cell? ⟨gr, 4, none⟩ = some (.int .i64 st) ∧ w'.cell? ⟨gr, 5, none⟩ = some (.int .i64 sz)) (ds := []) #[Yn, Yn, Yn, Yn, Yn, Yn, Yn, Yn, Yn] (by kernel_rfl) rfl rfl ⟨(blk_cell HRd.out 0).trans rfl, (blk_cell HRd.out 1).trans rfl, (blk_cell HRd.out 2).trans rfl, (blk_cell HRd.out 3).trans rfl, (blk_cell HRd.out 4).trans rfl, (blk_cell HRd.out 5).trans rfl⟩ (fun hHeld => ?_)
     generalize wq.drew = w13 at HLd HBd HRd hHeld ⊢
     refine pure_ (i := 1) (N := some 45) (v := ?_) (a' := ?_) (Bz 9 0x2) rfl rfl (by kernel_rfl) (fun _ _ _ h => h) (Or.inl ⟨by rfl, ?_⟩) ?_ ?_
     rotate_left
     ·intro w'; go_simp; with_reducible rfl
     rotate_left; ·simp only [Act.put, Z1, Z2, Z3, i64_w, i32_w]; rfl
     refine take_ (i := 0) (N := some 44) (v := ?_) (a' := ?_) (Bz 9 0x3) rfl rfl (by kernel_rfl) (fun _ _ _ h => h) (Or.inl ⟨by rfl, ?_⟩) hHeld ?_ ?_
     rotate_left
     ·rintro w' ⟨s0, s1, s2, s3, s4, s5⟩; go_simp; with_reducible rfl
     rotate_left; ·simp only [Act.put, Z1, Z2, Z3, i64_w, i32_w]; rfl
     refine one_ (i := 2) (N := some 46) #[Y, Y, Y, Yn, Yn, Yn, Yn, Yn, Yn] rfl rfl (by kernel_rfl) (by decide) (fun K hK => ?_)
     refine goes_ Tryd.func22 (by kernel_rfl) rfl #[.pointer (some ⟨gl, 0, none⟩)] (by rfl) rfl rfl (by simp only [List.map_toArray, List.map_cons, List.map_nil]; rfl) ?_
     with_reducible refine (save_calls B gl L w13 (Glob.below HG.out HBd.out) HLd.out (Nat.lt_of_lt_of_le HSZ.out HBd.out.size) HLN.out HRI.out.li.ok44).mono ?_
     rintro e w14 ⟨rfl, hb⟩
     refine ⟨_, rfl, ?_⟩
     rw [HSV.out]
     have HB14 := Aside0.mk (below_step HBd.out hb)
     have HR14 := Aside0.mk (blk_below HRd.out hb)
     clear hb
     refine hK.out _ _ ⟨(blk_cell HR14.out 0).trans rfl, (blk_cell HR14.out 1).trans rfl, (blk_cell HR14.out 2).trans rfl, (blk_cell HR14.out 3).trans rfl, (blk_cell HR14.out 4).trans rfl, (blk_cell HR14.out 5).trans rfl⟩ (fun hHeld => ?_)
     clear hK K
     refine norm_ (a' := ?_) ?_ ?_
     rotate_left
     ·show Act.put _ (some 46) _ = _
      simp only [Act.put, Z1, Z2, Z3, i64_w, i32_w]
      rfl
     refine one_ (i := 3) (N := some 47) #[Y, Y, Y, Y, Yn, Yn, Yn, Yn, Yn] rfl rfl (by kernel_rfl) (by decide) (fun K hK => ?_)
     refine goes_ Tryd.func19 (by kernel_rfl) rfl #[.agg #[.string nm, .string pt, .int .i64 way, .int .i64 iv, .int .i64 st, .int .i64 sz], .string sv] (by rfl) rfl rfl (by simp only [List.map_toArray, List.map_cons, List.map_nil]; rfl) ?_
     with_reducible refine (restore_calls nm pt way iv st sz sv w14 (Glob.below HG.out HB14.out) HSS.out).mono ?_
     rintro e wd hp
     rw [HRS.out] at hp
     obtain ⟨hb, gx, rfl, hk⟩ := hp
     refine ⟨_, rfl, ?_⟩
     have HL := Aside0.mk (show LogAt w14.heap.size gx ⟨nm, pt, way, iv, st, sz, L.now, false, 0, 0, 0, 0, L.total, L.recs⟩ wd from hk)
     have HBD := Aside0.mk (below_step HB14.out hb)
     have HGD := Aside0.mk hb.size
     have HRW := Aside0.mk (blk_below HR14.out hb)
     clear hb hk
     refine hK.out _ _ ⟨(blk_cell HRW.out 0).trans rfl, (blk_cell HRW.out 1).trans rfl, (blk_cell HRW.out 2).trans rfl, (blk_cell HRW.out 3).trans rfl, (blk_cell HRW.out 4).trans rfl, (blk_cell HRW.out 5).trans rfl⟩ (fun hHeld => ?_)
     clear hK K
     refine norm_ (a' := ?_) ?_ ?_
     rotate_left
     ·show Act.put _ (some 47) _ = _
      simp only [Act.put, Z1, Z2, Z3, i64_w, i32_w]
      rfl
     refine pure_ (i := 4) (N := some 43) (v := ?_) (a' := ?_) (Bz 9 0x1f) rfl rfl (by kernel_rfl) (fun _ _ _ h => h) (Or.inl ⟨by rfl, ?_⟩) ?_ ?_
     rotate_left
     ·intro w'; go_simp; with_reducible rfl
     rotate_left; ·simp only [Act.put, Z1, Z2, Z3, i64_w, i32_w]; rfl
     refine pure_ (i := 5) (N := some 48) (v := ?_) (a' := ?_) (Bz 9 0x3f) rfl rfl (by kernel_rfl) (fun _ _ _ h => h) (Or.inl ⟨by rfl, ?_⟩) ?_ ?_
     rotate_left
     ·intro w'; go_simp; with_reducible rfl
     rotate_left; ·simp only [Act.put, Z1, Z2, Z3, i64_w, i32_w]; rfl
     refine pure_ (i := 6) (N := some 49) (v := ?_) (a' := ?_) (Bz 9 0x7f) rfl rfl (by kernel_rfl) (fun _ _ _ h => h) (Or.inl ⟨by rfl, ?_⟩) ?_ ?_
     rotate_left
     ·intro w'; go_simp; with_reducible rfl
     rotate_left; ·simp only [Act.put, Z1, Z2, Z3, i64_w, i32_w]; rfl
     refine pure_ (i := 7) (N := some 14) (v := ?_) (a' := ?_) (Bz 9 0xff) rfl rfl (by kernel_rfl) (fun _ _ _ h => h) (Or.inl ⟨by rfl, ?_⟩) ?_ ?_
     rotate_left
     ·intro w'; go_simp; with_reducible rfl
     rotate_left; ·simp only [Act.put, Z1, Z2, Z3, i64_w, i32_w]; rfl
     refine pure_ (i := 8) (N := some 15) (v := ?_) (a' := ?_) (Bz 9 0x1ff) rfl rfl (by kernel_rfl) (fun _ _ _ h => h) (Or.inl ⟨by rfl, ?_⟩) ?_ ?_
     rotate_left
     ·intro w'; go_simp; with_reducible rfl
     rotate_left; ·simp only [Act.put, Z1, Z2, Z3, i64_w, i32_w]; rfl
     refine done_ (by kernel_rfl) ?_
     obtain ⟨L5, HLE⟩ : ∃ L5, Aside0 (L5 = (⟨nm, pt, way, iv, st, sz, L.now, false, 0, 0, 0, 0, L.total, L.recs⟩ : Lg)) := ⟨_, ⟨rfl⟩⟩
     have HLI5 := Aside0.mk (show LgI nm pt way iv st sz (i + 1) L5 H by rw [HLE.out]; exact HRI.out.li.again)
     have HMT := Aside0.mk (show L5.total = L.total by rw [HLE.out])
     rw [← HLE.out] at HL
     have HLO := Aside0.mk HB14.out.size
     obtain ⟨gl, hgl⟩ : ∃ gl, gl = gx := ⟨_, rfl⟩
     subst hgl
     obtain ⟨B, hB⟩ : ∃ B, B = w14.heap.size := ⟨_, rfl⟩
     rw [← hB] at HL HGD HLO
     obtain ⟨H5, HH5⟩ : ∃ H5, H5 = H := ⟨_, rfl⟩
     rw [← HH5] at HLI5
     have y0 := HAT.out wd HBD.out
     clear hHeld hB HH5 z0 z1 z2 z3 z4
     have hiw : wrap64 (i + 1) = i + 1 := by have h1 := HII.out; have h2 := HN.out; unfold wrap64; omega
     have t1 : wrap64 L.total = L.total := by have h1 := HRI.out.li.ok.t0; have h2 := HRI.out.li.ok.t1; unfold wrap64; omega
     have t2 : (L5.total != L.total) = false := by rw [HMT.out]; exact bne_self_eq_false _
     have t3 : (if sz < L5.total then sz else L5.total) = (L5.recs.length : Int) := by have h1 := HLI5.out.hist.len_recs HLI5.out.ok; rw [HLI5.out.sz] at h1; exact h1.symm
     have t4 : ((L5.recs.length : Int) != (L5.recs.length : Int)) = false := bne_self_eq_false _
     go_wp2_with (go_at_call 14; (with_reducible refine (records_calls B gl L5 _ HL.out (by have h1 := HLI5.out.ok.len; have h2 := HLI5.out.ok.s1; omega)).mono ?_); rintro e wz ⟨vr, rfl, hr, hb⟩; obtain ⟨Ar, cr, er, hcr, hCr⟩ := Kd.R_reads hr; have erb : vr = .slice Ar L5.recs.length cr := er; clear er; subst erb; have HRC := Aside0.mk (show L5.recs.length ≤ cr from hcr); have HRV := Aside0.mk (show Kd.C k44 wz Ar L5.recs.length L5.recs from hCr); have HBZ := Aside0.mk (below_step HBD.out hb); have HGZ := Aside0.mk (Nat.le_trans HGD.out hb.size); have HL2 := Aside0.mk (HL.out.below hb); have HRZ := Aside0.mk (blk_below HRW.out hb); clear hr hb hcr hCr)
     have HLa := Aside0.mk HL2.out.drew
     have HBa := Aside0.mk (below_drew1 HBZ.out)
     have HRa := Aside0.mk (blk_drew HRZ.out)
     have HVa := Aside0.mk (Kd.C_drew HRV.out)
     have HSa := Aside0.mk (show B ≤ wz.drew.heap.size from HGZ.out)
     refine start_ (n := 24) (S := fun w' => w'.cell? ⟨gr, 5, none⟩ = some (.int .i64 sz)) (ds := []) #[Yn, Yn, Yn, Yn, Yn, Yn, Yn, Yn, Yn, Yn, Yn, Yn, Yn, Yn, Yn, Yn, Yn, Yn, Yn, Yn, Yn, Yn, Yn, Yn] (by kernel_rfl) rfl rfl ((blk_cell HRZ.out 5).trans rfl) (fun hHeld => ?_)
     generalize wz.drew = wa at HLa HBa HRa HVa HSa hHeld ⊢
     refine pure_ (i := 0) (N := some 78) (v := ?_) (a' := ?_) (Bz 24 0x1) rfl rfl (by kernel_rfl) (fun _ _ _ h => h) (Or.inl ⟨by rfl, ?_⟩) ?_ ?_
     rotate_left
     ·intro w'; go_simp; with_reducible rfl
     rotate_left; ·simp only [Act.put, Z1, Z2, Z3, i64_w, i32_w]; rfl
     refine pure_ (i := 2) (N := some 80) (v := ?_) (a' := ?_) (Bz 24 0x5) rfl rfl (by kernel_rfl) (fun _ _ _ h => h) (Or.inl ⟨by rfl, ?_⟩) ?_ ?_
     rotate_left
     ·intro w'; go_simp; with_reducible rfl
     rotate_left; ·simp only [Act.put, Z1, Z2, Z3, i64_w, i32_w]; rfl
     refine pure_ (i := 3) (N := some 81) (v := ?_) (a' := ?_) (Bz 24 0xd) rfl rfl (by kernel_rfl) (fun _ _ _ h => h) (Or.inl ⟨by rfl, ?_⟩) ?_ ?_
     rotate_left
     ·intro w'; go_simp; with_reducible rfl
     rotate_left; ·simp only [Act.put, Z1, Z2, Z3, i64_w, i32_w]; rfl
     refine pure_ (i := 4) (N := some 82) (v := ?_) (a' := ?_) (Bz 24 0x1d) rfl rfl (by kernel_rfl) (fun _ _ _ h => h) (Or.inl ⟨by rfl, ?_⟩) ?_ ?_
     rotate_left
     ·intro w'; go_simp; with_reducible rfl
     rotate_left; ·simp only [Act.put, Z1, Z2, Z3, i64_w, i32_w]; rfl
     refine one_ (i := 1) (N := some 79) #[Y, Y, Y, Y, Y, Yn, Yn, Yn, Yn, Yn, Yn, Yn, Yn, Yn, Yn, Yn, Yn, Yn, Yn, Yn, Yn, Yn, Yn, Yn] rfl rfl (by kernel_rfl) (by decide) (fun K hK => ?_)
     refine goes_ Tryd.func12 (by kernel_rfl) rfl #[.pointer (some ⟨gl, 0, none⟩)] (by rfl) rfl rfl (by simp only [List.map_toArray, List.map_cons, List.map_nil]; rfl) ?_
     with_reducible refine (total_calls B gl L5 _ HLa.out).mono ?_
     rintro e wx ⟨rfl, rfl⟩
     refine ⟨_, rfl, ?_⟩
     refine hK.out _ _ ((blk_cell HRa.out 5).trans rfl) (fun hHeld => ?_)
     clear hK K
     refine norm_ (a' := ?_) ?_ ?_
     rotate_left
     ·show Act.put _ (some 79) _ = _
      simp only [Act.put, Z1, Z2, Z3, i64_w, i32_w]
      rfl
     refine pure_ (i := 5) (N := some 83) (v := ?_) (a' := ?_) (Bz 24 0x3f) rfl rfl (by kernel_rfl) (fun _ _ _ h => h) (Or.inl ⟨by rfl, ?_⟩) ?_ ?_
     rotate_left
     ·intro w'; go_simp; with_reducible rfl
     rotate_left; ·simp only [Act.put, Z1, Z2, Z3, i64_w, i32_w]; rfl
     refine pure_ (i := 6) (N := some 84) (v := ?_) (a' := ?_) (Bz 24 0x7f) rfl rfl (by kernel_rfl) (fun _ _ _ h => h) (Or.inl ⟨by rfl, ?_⟩) ?_ ?_
     rotate_left
     ·intro w'; go_simp; with_reducible rfl
     rotate_left; ·simp only [Act.put, Z1, Z2, Z3, i64_w, i32_w]; rfl
     refine pure_ (i := 7) (N := some 85) (v := ?_) (a' := ?_) (Bz 24 0xff) rfl rfl (by kernel_rfl) (fun _ _ _ h => h) (Or.inl ⟨by rfl, ?_⟩) ?_ ?_
     rotate_left
     ·intro w'; go_simp; with_reducible rfl
     rotate_left; ·simp only [Act.put, Z1, Z2, Z3, i64_w, i32_w]; rfl
     refine pure_ (i := 8) (N := some 86) (v := ?_) (a' := ?_) (Bz 24 0x1ff) rfl rfl (by kernel_rfl) (fun _ _ _ h => h) (Or.inl ⟨by rfl, ?_⟩) ?_ ?_
     rotate_left
     ·intro w'; go_simp; with_reducible rfl
     rotate_left; ·simp only [Act.put, Z1, Z2, Z3, i64_w, i32_w]; rfl
     refine pure_ (i := 9) (N := some 87) (v := ?_) (a' := ?_) (Bz 24 0x3ff) rfl rfl (by kernel_rfl) (fun _ _ _ h => h) (Or.inl ⟨by rfl, ?_⟩) ?_ ?_
     rotate_left
     ·intro w'; go_simp; with_reducible rfl
     rotate_left; ·simp only [Act.put, Z1, Z2, Z3, i64_w, i32_w]; rfl
     refine pure_ (i := 10) (N := some 88) (v := undef) (a' := ?_) (Bz 24 0x7ff) rfl rfl (by kernel_rfl) (fun _ _ _ h => h) (Or.inr ⟨by rfl, rfl⟩) ?_ ?_
     rotate_left; ·simp only [Act.put, Z1, Z2, Z3, i64_w, i32_w]; rfl
     refine pure_ (i := 11) (N := some 89) (v := undef) (a' := ?_) (Bz 24 0xfff) rfl rfl (by kernel_rfl) (fun _ _ _ h => h) (Or.inr ⟨by rfl, rfl⟩) ?_ ?_
     rotate_left; ·simp only [Act.put, Z1, Z2, Z3, i64_w, i32_w]; rfl
     refine pure_ (i := 12) (N := some 90) (v := ?_) (a' := ?_) (Bz 24 0x1fff) rfl rfl (by kernel_rfl) (fun _ _ _ h => h) (Or.inl ⟨by rfl, ?_⟩) ?_ ?_
     rotate_left
     ·intro w'; go_simp; with_reducible rfl
     rotate_left; ·simp only [Act.put, Z1, Z2, Z3, i64_w, i32_w]; rfl
     refine pure_ (i := 13) (N := some 91) (v := ?_) (a' := ?_) (Bz 24 0x3fff) rfl rfl (by kernel_rfl) (fun _ _ _ h => h) (Or.inl ⟨by rfl, ?_⟩) ?_ ?_
     rotate_left
     ·intro w'; go_simp; with_reducible rfl
     rotate_left; ·simp only [Act.put, Z1, Z2, Z3, i64_w, i32_w]; rfl
     refine pure_ (i := 14) (N := some 92) (v := ?_) (a' := ?_) (Bz 24 0x7fff) rfl rfl (by kernel_rfl) (fun _ _ _ h => h) (Or.inl ⟨by rfl, ?_⟩) ?_ ?_
     rotate_left
     ·intro w'; go_simp; with_reducible rfl
     rotate_left; ·simp only [Act.put, Z1, Z2, Z3, i64_w, i32_w]; rfl
     refine pure_ (i := 15) (N := some 93) (v := ?_) (a' := ?_) (Bz 24 0xffff) rfl rfl (by kernel_rfl) (fun _ _ _ h => h) (Or.inl ⟨by rfl, ?_⟩) ?_ ?_
     rotate_left
     ·intro w'; go_simp; with_reducible rfl
     rotate_left; ·simp only [Act.put, Z1, Z2, Z3, i64_w, i32_w]; rfl
     refine pure_ (i := 16) (N := some 94) (v := ?_) (a' := ?_) (Bz 24 0x1ffff) rfl rfl (by kernel_rfl) (fun _ _ _ h => h) (Or.inl ⟨by rfl, ?_⟩) ?_ ?_
     rotate_left
     ·intro w'; go_simp; with_reducible rfl
     rotate_left; ·simp only [Act.put, Z1, Z2, Z3, i64_w, i32_w]; rfl
     refine pure_ (i := 17) (N := some 95) (v := ?_) (a' := ?_) (Bz 24 0x3ffff) rfl rfl (by kernel_rfl) (fun _ _ _ h => h) (Or.inl ⟨by rfl, ?_⟩) ?_ ?_
     rotate_left
     ·intro w'; go_simp; with_reducible rfl
     rotate_left; ·simp only [Act.put, Z1, Z2, Z3, i64_w, i32_w]; rfl
     refine pure_ (i := 19) (N := some 97) (v := ?_) (a' := ?_) (Bz 24 0xbffff) rfl rfl (by kernel_rfl) (fun _ _ _ h => h) (Or.inl ⟨by rfl, ?_⟩) ?_ ?_
     rotate_left
     ·intro w'; go_simp; with_reducible rfl
     rotate_left; ·simp only [Act.put, Z1, Z2, Z3, i64_w, i32_w]; rfl
     refine take_ (i := 20) (N := some 98) (v := ?_) (a' := ?_) (Bz 24 0x1bffff) rfl rfl (by kernel_rfl) (fun _ _ _ h => h) (Or.inl ⟨by rfl, ?_⟩) hHeld ?_ ?_
     rotate_left
     ·intro w' s0; go_simp; with_reducible rfl
     rotate_left; ·simp only [Act.put, Z1, Z2, Z3, i64_w, i32_w]; rfl
     refine one_ (i := 18) (N := some 96) #[Y, Y, Y, Y, Y, Y, Y, Y, Y, Y, Y, Y, Y, Y, Y, Y, Y, Y, Y, Y, Y, Yn, Yn, Yn] rfl rfl (by kernel_rfl) (by decide) (fun K hK => ?_)
     refine goes_ Tryd.func12 (by kernel_rfl) rfl #[.pointer (some ⟨gl, 0, none⟩)] (by rfl) rfl rfl (by simp only [List.map_toArray, List.map_cons, List.map_nil]; rfl) ?_
     with_reducible refine (total_calls B gl L5 _ HLa.out).mono ?_
     rintro e wx ⟨rfl, rfl⟩
     refine ⟨_, rfl, ?_⟩
     refine hK.out _ _ ((blk_cell HRa.out 5).trans rfl) (fun hHeld => ?_)
     clear hK K
     refine norm_ (a' := ?_) ?_ ?_
     rotate_left
     ·show Act.put _ (some 96) _ = _
      simp only [Act.put, Z1, Z2, Z3, i64_w, i32_w]
      rfl
     refine pure_ (i := 21) (N := some 99) (v := ?_) (a' := ?_) (Bz 24 0x3fffff) rfl rfl (by kernel_rfl) (fun _ _ _ h => h) (Or.inl ⟨by rfl, ?_⟩) ?_ ?_
     rotate_left
     ·intro w'; go_simp; with_reducible rfl
     rotate_left; ·simp only [Act.put, Z1, Z2, Z3, i64_w, i32_w]; rfl
     refine pure_ (i := 22) (N := some 100) (v := ?_) (a' := ?_) (Bz 24 0x7fffff) rfl rfl (by kernel_rfl) (fun _ _ _ h => h) (Or.inl ⟨by rfl, ?_⟩) ?_ ?_
     rotate_left
     ·intro w'; go_simp; with_reducible rfl
     rotate_left; ·simp only [Act.put, Z1, Z2, Z3, i64_w, i32_w]; rfl
     refine pure_ (i := 23) (N := some 101) (v := ?_) (a' := ?_) (Bz 24 0xffffff) rfl rfl (by kernel_rfl) (fun _ _ _ h => h) (Or.inl ⟨by rfl, ?_⟩) ?_ ?_
     rotate_left
     ·intro w'; go_simp; with_reducible rfl
     rotate_left; ·simp only [Act.put, Z1, Z2, Z3, i64_w, i32_w]; rfl
     refine done_ (by kernel_rfl) ?_
     clear hHeld
     go_wp2
     refine ring_inner (n := i + 1) ?hc HLI5.out HFO.out.chk.s1 HRC.out ⟨HLa.out, HSa.out, HRa.out, HBa.out, HVa.out⟩ (fun _ _ d _ _ h => by cases d <;> exact h) ?_
     case hc => rfl
     intro u8 u17 u102 u103 u104 u105 u106 u107 u108 u109 u110 u111 u112 u113 u114 u115 u116 u117 u118 u119 u120 u121 u122 u123 u124 u125 u126 u127 u128 u129 u130 u131 u132 u133 u134 u135 u136 u137 u138 u139 u140 u141 u142 u143 u144 u145 u146 u147 w' HJ
     go_wp2
     go_roundg k1
     case measure => omega
     case rel => exact ⟨i + 1, gl, B, L5, H5, rfl, (by first | rfl | (rw [hiw])), ⟨by have h1 := HII.out; omega⟩, ⟨HJ.log, HLO.out, HJ.hi, HLI5.out, HJ.row, HJ.bel⟩⟩
    ·have k3b : decide (mv.f0 = 3) = false := decide_eq_false k3
     have k3P : (mv.f0 = 3) = False := eq_false k3
     have k3B : (mv.f0 == 3) = false := beq_false_of_ne k3
     have HK3 := Aside0.mk k3
     clear k3
     go_wp2_with (first | (go_at_call 12; (with_reducible refine (total_calls B gl L _ HRI.out.log).mono ?_); rintro e wq ⟨rfl, rfl⟩) | (go_at_call 11; (with_reducible refine (do_calls B gl L mv.f0 mv.f1.f0.f0 mv.f1.f0.f1 mv.f1.f1 mv.f1.f2 _ HRI.out.log HRI.out.hi HRI.out.li.ok (by have h1 := HMV.out.a1; omega)).mono ?_); rintro e wd ⟨⟨L5, n5, e5⟩, hd, rfl, hl, hb, hk⟩; have HL := Aside0.mk (show LogAt B gl L5 wd from hl); have HBD := Aside0.mk (HRI.out.bel.trans (hb.mono HRI.out.lo)); have HGD := Aside0.mk (Nat.le_trans HRI.out.hi hk.size); have HLO := Aside0.mk HRI.out.lo; have y0 := HAT.out wd HBD.out; clear z0 z1 z2 z3 z4; have HRW := Aside0.mk (hk.keep _ _ _ HRI.out.row (by decide) HNE.out); obtain ⟨N5, hli, hmd⟩ := HRI.out.li.done HN.out hd (by have h1 := HMV.out.k1; have h2 := HK3.out; omega) HMV.out.k0 HMV.out.a1 ⟨HMV.out.v0, HMV.out.v1, HMV.out.n0, HMV.out.n1, HMV.out.q0, HMV.out.q1⟩; have HMT := Aside0.mk (show L5.total = L.total + (if mv.f0 = 2 ∧ e5 = 0 then 1 else n5) from hmd.tot); have HME := Aside0.mk (show e5 ≠ 0 → n5 = 0 from hmd.err); obtain ⟨H5, HLI5⟩ : ∃ H5, Aside0 (LgI nm pt way iv st sz (i + 1) L5 H5) := ⟨_, ⟨hli⟩⟩; clear hd hl hb hk hli hmd) | (go_at_call 14; (with_reducible refine (records_calls B gl L5 _ HL.out (by have h1 := HLI5.out.ok.len; have h2 := HLI5.out.ok.s1; omega)).mono ?_); rintro e wz ⟨vr, rfl, hr, hb⟩; obtain ⟨Ar, cr, er, hcr, hCr⟩ := Kd.R_reads hr; have erb : vr = .slice Ar L5.recs.length cr := er; clear er; subst erb; have HRC := Aside0.mk (show L5.recs.length ≤ cr from hcr); have HRV := Aside0.mk (show Kd.C k44 wz Ar L5.recs.length L5.recs from hCr); have HBZ := Aside0.mk (below_step HBD.out hb); have HGZ := Aside0.mk (Nat.le_trans HGD.out hb.size); have HL2 := Aside0.mk (HL.out.below hb); have HRZ := Aside0.mk (blk_below HRW.out hb); clear hr hb hcr hCr))
     ·have hk2 : mv.f0 = 2 := by assumption
      have he : (e5 == 0) = true := by assumption
      have he0 : e5 = 0 := eq_of_beq he
      subst he0
      clear he
      have hm0 : L5.total = L.total + 1 := by rw [HMT.out, if_pos ⟨hk2, rfl⟩]
      have t1 : wrap64 (L.total + 1) = L.total + 1 := by have h1 := HRI.out.li.ok.t0; have h2 := HRI.out.li.ok.t1; unfold wrap64; omega
      have t2 : (L5.total != L.total + 1) = false := by rw [hm0]; exact bne_self_eq_false _
      clear hm0 hk2
      have t3 : (if sz < L5.total then sz else L5.total) = (L5.recs.length : Int) := by have h1 := HLI5.out.hist.len_recs HLI5.out.ok; rw [HLI5.out.sz] at h1; exact h1.symm
      have t4 : ((L5.recs.length : Int) != (L5.recs.length : Int)) = false := bne_self_eq_false _
      have hiw : wrap64 (i + 1) = i + 1 := by have h1 := HII.out; have h2 := HN.out; unfold wrap64; omega
      have HLa := Aside0.mk HL2.out.drew
      have HBa := Aside0.mk (below_drew1 HBZ.out)
      have HRa := Aside0.mk (blk_drew HRZ.out)
      have HVa := Aside0.mk (Kd.C_drew HRV.out)
      have HSa := Aside0.mk (show B ≤ wz.drew.heap.size from HGZ.out)
      refine start_ (n := 24) (S := fun w' => w'.cell? ⟨gr, 5, none⟩ = some (.int .i64 sz)) (ds := []) #[Yn, Yn, Yn, Yn, Yn, Yn, Yn, Yn, Yn, Yn, Yn, Yn, Yn, Yn, Yn, Yn, Yn, Yn, Yn, Yn, Yn, Yn, Yn, Yn] (by kernel_rfl) rfl rfl ((blk_cell HRZ.out 5).trans rfl) (fun hHeld => ?_)
      generalize wz.drew = wa at HLa HBa HRa HVa HSa hHeld ⊢
      refine pure_ (i := 0) (N := some 78) (v := ?_) (a' := ?_) (Bz 24 0x1) rfl rfl (by kernel_rfl) (fun _ _ _ h => h) (Or.inl ⟨by rfl, ?_⟩) ?_ ?_
      rotate_left
      ·intro w'; go_simp; with_reducible rfl
      rotate_left; ·simp only [Act.put, Z1, Z2, Z3, i64_w, i32_w]; rfl
      refine pure_ (i := 2) (N := some 80) (v := ?_) (a' := ?_) (Bz 24 0x5) rfl rfl (by kernel_rfl) (fun _ _ _ h => h) (Or.inl ⟨by rfl, ?_⟩) ?_ ?_
      rotate_left
      ·intro w'; go_simp; with_reducible rfl
      rotate_left; ·simp only [Act.put, Z1, Z2, Z3, i64_w, i32_w]; rfl
      refine pure_ (i := 3) (N := some 81) (v := ?_) (a' := ?_) (Bz 24 0xd) rfl rfl (by kernel_rfl) (fun _ _ _ h => h) (Or.inl ⟨by rfl, ?_⟩) ?_ ?_
      rotate_left
      ·intro w'; go_simp; with_reducible rfl
      rotate_left; ·simp only [Act.put, Z1, Z2, Z3, i64_w, i32_w]; rfl
      refine pure_ (i := 4) (N := some 82) (v := ?_) (a' := ?_) (Bz 24 0x1d) rfl rfl (by kernel_rfl) (fun _ _ _ h => h) (Or.inl ⟨by rfl, ?_⟩) ?_ ?_
      rotate_left
      ·intro w'; go_simp; with_reducible rfl
      rotate_left; ·simp only [Act.put, Z1, Z2, Z3, i64_w, i32_w]; rfl
      refine one_ (i := 1) (N := some 79) #[Y, Y, Y, Y, Y, Yn, Yn, Yn, Yn, Yn, Yn, Yn, Yn, Yn, Yn, Yn, Yn, Yn, Yn, Yn, Yn, Yn, Yn, Yn] rfl rfl (by kernel_rfl) (by decide) (fun K hK => ?_)
      refine goes_ Tryd.func12 (by kernel_rfl) rfl #[.pointer (some ⟨gl, 0, none⟩)] (by rfl) rfl rfl (by simp only [List.map_toArray, List.map_cons, List.map_nil]; rfl) ?_
      with_reducible refine (total_calls B gl L5 _ HLa.out).mono ?_
      rintro e wx ⟨rfl, rfl⟩
      refine ⟨_, rfl, ?_⟩
      refine hK.out _ _ ((blk_cell HRa.out 5).trans rfl) (fun hHeld => ?_)
      clear hK K
      refine norm_ (a' := ?_) ?_ ?_
      rotate_left
      ·show Act.put _ (some 79) _ = _
       simp only [Act.put, Z1, Z2, Z3, i64_w, i32_w]
       rfl
      refine pure_ (i := 5) (N := some 83) (v := ?_) (a' := ?_) (Bz 24 0x3f) rfl rfl (by kernel_rfl) (fun _ _ _ h => h) (Or.inl ⟨by rfl, ?_⟩) ?_ ?_
      rotate_left
      ·intro w'; go_simp; with_reducible rfl
      rotate_left; ·simp only [Act.put, Z1, Z2, Z3, i64_w, i32_w]; rfl
      refine pure_ (i := 6) (N := some 84) (v := ?_) (a' := ?_) (Bz 24 0x7f) rfl rfl (by kernel_rfl) (fun _ _ _ h => h) (Or.inl ⟨by rfl, ?_⟩) ?_ ?_
      rotate_left
      ·intro w'; go_simp; with_reducible rfl
      rotate_left; ·simp only [Act.put, Z1, Z2, Z3, i64_w, i32_w]; rfl
      refine pure_ (i := 7) (N := some 85) (v := ?_) (a' := ?_) (Bz 24 0xff) rfl rfl (by kernel_rfl) (fun _ _ _ h => h) (Or.inl ⟨by rfl, ?_⟩) ?_ ?_
      rotate_left
      ·intro w'; go_simp; with_reducible rfl
      rotate_left; ·simp only [Act.put, Z1, Z2, Z3, i64_w, i32_w]; rfl
      refine pure_ (i := 8) (N := some 86) (v := ?_) (a' := ?_) (Bz 24 0x1ff) rfl rfl (by kernel_rfl) (fun _ _ _ h => h) (Or.inl ⟨by rfl, ?_⟩) ?_ ?_
      rotate_left
      ·intro w'; go_simp; with_reducible rfl
      rotate_left; ·simp only [Act.put, Z1, Z2, Z3, i64_w, i32_w]; rfl
      refine pure_ (i := 9) (N := some 87) (v := ?_) (a' := ?_) (Bz 24 0x3ff) rfl rfl (by kernel_rfl) (fun _ _ _ h => h) (Or.inl ⟨by rfl, ?_⟩) ?_ ?_
      rotate_left
      ·intro w'; go_simp; with_reducible rfl
      rotate_left; ·simp only [Act.put, Z1, Z2, Z3, i64_w, i32_w]; rfl
      refine pure_ (i := 10) (N := some 88) (v := undef) (a' := ?_) (Bz 24 0x7ff) rfl rfl (by kernel_rfl) (fun _ _ _ h => h) (Or.inr ⟨by rfl, rfl⟩) ?_ ?_
      rotate_left; ·simp only [Act.put, Z1, Z2, Z3, i64_w, i32_w]; rfl
      refine pure_ (i := 11) (N := some 89) (v := undef) (a' := ?_) (Bz 24 0xfff) rfl rfl (by kernel_rfl) (fun _ _ _ h => h) (Or.inr ⟨by rfl, rfl⟩) ?_ ?_
      rotate_left; ·simp only [Act.put, Z1, Z2, Z3, i64_w, i32_w]; rfl
      refine pure_ (i := 12) (N := some 90) (v := ?_) (a' := ?_) (Bz 24 0x1fff) rfl rfl (by kernel_rfl) (fun _ _ _ h => h) (Or.inl ⟨by rfl, ?_⟩) ?_ ?_
      rotate_left
      ·intro w'; go_simp; with_reducible rfl
      rotate_left; ·simp only [Act.put, Z1, Z2, Z3, i64_w, i32_w]; rfl
      refine pure_ (i := 13) (N := some 91) (v := ?_) (a' := ?_) (Bz 24 0x3fff) rfl rfl (by kernel_rfl) (fun _ _ _ h => h) (Or.inl ⟨by rfl, ?_⟩) ?_ ?_
      rotate_left
      ·intro w'; go_simp; with_reducible rfl
      rotate_left; ·simp only [Act.put, Z1, Z2, Z3, i64_w, i32_w]; rfl
      refine pure_ (i := 14) (N := some 92) (v := ?_) (a' := ?_) (Bz 24 0x7fff) rfl rfl (by kernel_rfl) (fun _ _ _ h => h) (Or.inl ⟨by rfl, ?_⟩) ?_ ?_
      rotate_left
      ·intro w'; go_simp; with_reducible rfl
      rotate_left; ·simp only [Act.put, Z1, Z2, Z3, i64_w, i32_w]; rfl
      refine pure_ (i := 15) (N := some 93) (v := ?_) (a' := ?_) (Bz 24 0xffff) rfl rfl (by kernel_rfl) (fun _ _ _ h => h) (Or.inl ⟨by rfl, ?_⟩) ?_ ?_
      rotate_left
      ·intro w'; go_simp; with_reducible rfl
      rotate_left; ·simp only [Act.put, Z1, Z2, Z3, i64_w, i32_w]; rfl
      refine pure_ (i := 16) (N := some 94) (v := ?_) (a' := ?_) (Bz 24 0x1ffff) rfl rfl (by kernel_rfl) (fun _ _ _ h => h) (Or.inl ⟨by rfl, ?_⟩) ?_ ?_
      rotate_left
      ·intro w'; go_simp; with_reducible rfl
      rotate_left; ·simp only [Act.put, Z1, Z2, Z3, i64_w, i32_w]; rfl
      refine pure_ (i := 17) (N := some 95) (v := ?_) (a' := ?_) (Bz 24 0x3ffff) rfl rfl (by kernel_rfl) (fun _ _ _ h => h) (Or.inl ⟨by rfl, ?_⟩) ?_ ?_
      rotate_left
      ·intro w'; go_simp; with_reducible rfl
      rotate_left; ·simp only [Act.put, Z1, Z2, Z3, i64_w, i32_w]; rfl
      refine pure_ (i := 19) (N := some 97) (v := ?_) (a' := ?_) (Bz 24 0xbffff) rfl rfl (by kernel_rfl) (fun _ _ _ h => h) (Or.inl ⟨by rfl, ?_⟩) ?_ ?_
      rotate_left
      ·intro w'; go_simp; with_reducible rfl
      rotate_left; ·simp only [Act.put, Z1, Z2, Z3, i64_w, i32_w]; rfl
      refine take_ (i := 20) (N := some 98) (v := ?_) (a' := ?_) (Bz 24 0x1bffff) rfl rfl (by kernel_rfl) (fun _ _ _ h => h) (Or.inl ⟨by rfl, ?_⟩) hHeld ?_ ?_
      rotate_left
      ·intro w' s0; go_simp; with_reducible rfl
      rotate_left; ·simp only [Act.put, Z1, Z2, Z3, i64_w, i32_w]; rfl
      refine one_ (i := 18) (N := some 96) #[Y, Y, Y, Y, Y, Y, Y, Y, Y, Y, Y, Y, Y, Y, Y, Y, Y, Y, Y, Y, Y, Yn, Yn, Yn] rfl rfl (by kernel_rfl) (by decide) (fun K hK => ?_)
      refine goes_ Tryd.func12 (by kernel_rfl) rfl #[.pointer (some ⟨gl, 0, none⟩)] (by rfl) rfl rfl (by simp only [List.map_toArray, List.map_cons, List.map_nil]; rfl) ?_
      with_reducible refine (total_calls B gl L5 _ HLa.out).mono ?_
      rintro e wx ⟨rfl, rfl⟩
      refine ⟨_, rfl, ?_⟩
      refine hK.out _ _ ((blk_cell HRa.out 5).trans rfl) (fun hHeld => ?_)
      clear hK K
      refine norm_ (a' := ?_) ?_ ?_
      rotate_left
      ·show Act.put _ (some 96) _ = _
       simp only [Act.put, Z1, Z2, Z3, i64_w, i32_w]
       rfl
      refine pure_ (i := 21) (N := some 99) (v := ?_) (a' := ?_) (Bz 24 0x3fffff) rfl rfl (by kernel_rfl) (fun _ _ _ h => h) (Or.inl ⟨by rfl, ?_⟩) ?_ ?_
      rotate_left
      ·intro w'; go_simp; with_reducible rfl
      rotate_left; ·simp only [Act.put, Z1, Z2, Z3, i64_w, i32_w]; rfl
      refine pure_ (i := 22) (N := some 100) (v := ?_) (a' := ?_) (Bz 24 0x7fffff) rfl rfl (by kernel_rfl) (fun _ _ _ h => h) (Or.inl ⟨by rfl, ?_⟩) ?_ ?_
      rotate_left
      ·intro w'; go_simp; with_reducible rfl
      rotate_left; ·simp only [Act.put, Z1, Z2, Z3, i64_w, i32_w]; rfl
      refine pure_ (i := 23) (N := some 101) (v := ?_) (a' := ?_) (Bz 24 0xffffff) rfl rfl (by kernel_rfl) (fun _ _ _ h => h) (Or.inl ⟨by rfl, ?_⟩) ?_ ?_
      rotate_left
      ·intro w'; go_simp; with_reducible rfl
      rotate_left; ·simp only [Act.put, Z1, Z2, Z3, i64_w, i32_w]; rfl
      refine done_ (by kernel_rfl) ?_
      clear hHeld
      go_wp2
      refine ring_inner (n := i + 1) ?hc HLI5.out HFO.out.chk.s1 HRC.out ⟨HLa.out, HSa.out, HRa.out, HBa.out, HVa.out⟩ (fun _ _ d _ _ h => by cases d <;> exact h) ?_
      case hc => rfl
      intro u8 u17 u102 u103 u104 u105 u106 u107 u108 u109 u110 u111 u112 u113 u114 u115 u116 u117 u118 u119 u120 u121 u122 u123 u124 u125 u126 u127 u128 u129 u130 u131 u132 u133 u134 u135 u136 u137 u138 u139 u140 u141 u142 u143 u144 u145 u146 u147 w' HJ
      go_wp2
      go_roundg k1
      case measure => omega
      case rel => exact ⟨i + 1, gl, B, L5, H5, rfl, (by first | rfl | (rw [hiw])), ⟨by have h1 := HII.out; omega⟩, ⟨HJ.log, HLO.out, HJ.hi, HLI5.out, HJ.row, HJ.bel⟩⟩
     ·have he : (e5 == 0) = false := by assumption
      have he0 : e5 ≠ 0 := ne_of_beq_false he
      clear he
      have hn0 : n5 = 0 := HME.out he0
      subst hn0
      have hm0 : L5.total = L.total := by rw [HMT.out, if_neg (fun q => he0 q.2)]; omega
      have t1 : wrap64 L.total = L.total := by have h1 := HRI.out.li.ok.t0; have h2 := HRI.out.li.ok.t1; unfold wrap64; omega
      have t2 : (L5.total != L.total) = false := by rw [hm0]; exact bne_self_eq_false _
      have t5 : (e5 != 0) = true := bne_iff_ne.mpr he0
      clear hm0 he0
      have t3 : (if sz < L5.total then sz else L5.total) = (L5.recs.length : Int) := by have h1 := HLI5.out.hist.len_recs HLI5.out.ok; rw [HLI5.out.sz] at h1; exact h1.symm
      have t4 : ((L5.recs.length : Int) != (L5.recs.length : Int)) = false := bne_self_eq_false _
      have hiw : wrap64 (i + 1) = i + 1 := by have h1 := HII.out; have h2 := HN.out; unfold wrap64; omega
      have HLa := Aside0.mk HL2.out.drew
      have HBa := Aside0.mk (below_drew1 HBZ.out)
      have HRa := Aside0.mk (blk_drew HRZ.out)
      have HVa := Aside0.mk (Kd.C_drew HRV.out)
      have HSa := Aside0.mk (show B ≤ wz.drew.heap.size from HGZ.out)
      refine start_ (n := 24) (S := fun w' => w'.cell? ⟨gr, 5, none⟩ = some (.int .i64 sz)) (ds := []) #[Yn, Yn, Yn, Yn, Yn, Yn, Yn, Yn, Yn, Yn, Yn, Yn, Yn, Yn, Yn, Yn, Yn, Yn, Yn, Yn, Yn, Yn, Yn, Yn] (by kernel_rfl) rfl rfl ((blk_cell HRZ.out 5).trans rfl) (fun hHeld => ?_)
      generalize wz.drew = wa at HLa HBa HRa HVa HSa hHeld ⊢
      refine pure_ (i := 0) (N := some 78) (v := ?_) (a' := ?_) (Bz 24 0x1) rfl rfl (by kernel_rfl) (fun _ _ _ h => h) (Or.inl ⟨by rfl, ?_⟩) ?_ ?_
      rotate_left
      ·intro w'; go_simp; with_reducible rfl
      rotate_left; ·simp only [Act.put, Z1, Z2, Z3, i64_w, i32_w]; rfl
      refine pure_ (i := 2) (N := some 80) (v := ?_) (a' := ?_) (Bz 24 0x5) rfl rfl (by kernel_rfl) (fun _ _ _ h => h) (Or.inl ⟨by rfl, ?_⟩) ?_ ?_
      rotate_left
      ·intro w'; go_simp; with_reducible rfl
      rotate_left; ·simp only [Act.put, Z1, Z2, Z3, i64_w, i32_w]; rfl
      refine pure_ (i := 3) (N := some 81) (v := ?_) (a' := ?_) (Bz 24 0xd) rfl rfl (by kernel_rfl) (fun _ _ _ h => h) (Or.inl ⟨by rfl, ?_⟩) ?_ ?_
      rotate_left
      ·intro w'; go_simp; with_reducible rfl
      rotate_left; ·simp only [Act.put, Z1, Z2, Z3, i64_w, i32_w]; rfl
      refine pure_ (i := 4) (N := some 82) (v := ?_) (a' := ?_) (Bz 24 0x1d) rfl rfl (by kernel_rfl) (fun _ _ _ h => h) (Or.inl ⟨by rfl, ?_⟩) ?_ ?_
      rotate_left
      ·intro w'; go_simp; with_reducible rfl
      rotate_left; ·simp only [Act.put, Z1, Z2, Z3, i64_w, i32_w]; rfl
      refine one_ (i := 1) (N := some 79) #[Y, Y, Y, Y, Y, Yn, Yn, Yn, Yn, Yn, Yn, Yn, Yn, Yn, Yn, Yn, Yn, Yn, Yn, Yn, Yn, Yn, Yn, Yn] rfl rfl (by kernel_rfl) (by decide) (fun K hK => ?_)
      refine goes_ Tryd.func12 (by kernel_rfl) rfl #[.pointer (some ⟨gl, 0, none⟩)] (by rfl) rfl rfl (by simp only [List.map_toArray, List.map_cons, List.map_nil]; rfl) ?_
      with_reducible refine (total_calls B gl L5 _ HLa.out).mono ?_
      rintro e wx ⟨rfl, rfl⟩
      refine ⟨_, rfl, ?_⟩
      refine hK.out _ _ ((blk_cell HRa.out 5).trans rfl) (fun hHeld => ?_)
      clear hK K
      refine norm_ (a' := ?_) ?_ ?_
      rotate_left
      ·show Act.put _ (some 79) _ = _
       simp only [Act.put, Z1, Z2, Z3, i64_w, i32_w]
       rfl
      refine pure_ (i := 5) (N := some 83) (v := ?_) (a' := ?_) (Bz 24 0x3f) rfl rfl (by kernel_rfl) (fun _ _ _ h => h) (Or.inl ⟨by rfl, ?_⟩) ?_ ?_
      rotate_left
      ·intro w'; go_simp; with_reducible rfl
      rotate_left; ·simp only [Act.put, Z1, Z2, Z3, i64_w, i32_w]; rfl
      refine pure_ (i := 6) (N := some 84) (v := ?_) (a' := ?_) (Bz 24 0x7f) rfl rfl (by kernel_rfl) (fun _ _ _ h => h) (Or.inl ⟨by rfl, ?_⟩) ?_ ?_
      rotate_left
      ·intro w'; go_simp; with_reducible rfl
      rotate_left; ·simp only [Act.put, Z1, Z2, Z3, i64_w, i32_w]; rfl
      refine pure_ (i := 7) (N := some 85) (v := ?_) (a' := ?_) (Bz 24 0xff) rfl rfl (by kernel_rfl) (fun _ _ _ h => h) (Or.inl ⟨by rfl, ?_⟩) ?_ ?_
      rotate_left
      ·intro w'; go_simp; with_reducible rfl
      rotate_left; ·simp only [Act.put, Z1, Z2, Z3, i64_w, i32_w]; rfl
      refine pure_ (i := 8) (N := some 86) (v := ?_) (a' := ?_) (Bz 24 0x1ff) rfl rfl (by kernel_rfl) (fun _ _ _ h => h) (Or.inl ⟨by rfl, ?_⟩) ?_ ?_
      rotate_left
      ·intro w'; go_simp; with_reducible rfl
      rotate_left; ·simp only [Act.put, Z1, Z2, Z3, i64_w, i32_w]; rfl
      refine pure_ (i := 9) (N := some 87) (v := ?_) (a' := ?_) (Bz 24 0x3ff) rfl rfl (by kernel_rfl) (fun _ _ _ h => h) (Or.inl ⟨by rfl, ?_⟩) ?_ ?_
      rotate_left
      ·intro w'; go_simp; with_reducible rfl
      rotate_left; ·simp only [Act.put, Z1, Z2, Z3, i64_w, i32_w]; rfl
      refine pure_ (i := 10) (N := some 88) (v := ?_) (a' := ?_) (Bz 24 0x7ff) rfl rfl (by kernel_rfl) (fun _ _ _ h => h) (Or.inl ⟨by rfl, ?_⟩) ?_ ?_
      rotate_left
      ·intro w'; go_simp; with_reducible rfl
      rotate_left; ·simp only [Act.put, Z1, Z2, Z3, i64_w, i32_w]; rfl
      refine pure_ (i := 11) (N := some 89) (v := ?_) (a' := ?_) (Bz 24 0xfff) rfl rfl (by kernel_rfl) (fun _ _ _ h => h) (Or.inl ⟨by rfl, ?_⟩) ?_ ?_
      rotate_left
      ·intro w'; go_simp; with_reducible rfl
      rotate_left; ·simp only [Act.put, Z1, Z2, Z3, i64_w, i32_w]; rfl
      refine pure_ (i := 12) (N := some 90) (v := ?_) (a' := ?_) (Bz 24 0x1fff) rfl rfl (by kernel_rfl) (fun _ _ _ h => h) (Or.inl ⟨by rfl, ?_⟩) ?_ ?_
      rotate_left
      ·intro w'; go_simp; with_reducible rfl
      rotate_left; ·simp only [Act.put, Z1, Z2, Z3, i64_w, i32_w]; rfl
      refine pure_ (i := 13) (N := some 91) (v := ?_) (a' := ?_) (Bz 24 0x3fff) rfl rfl (by kernel_rfl) (fun _ _ _ h => h) (Or.inl ⟨by rfl, ?_⟩) ?_ ?_
      rotate_left
      ·intro w'; go_simp; with_reducible rfl
      rotate_left; ·simp only [Act.put, Z1, Z2, Z3, i64_w, i32_w]; rfl
      refine pure_ (i := 14) (N := some 92) (v := ?_) (a' := ?_) (Bz 24 0x7fff) rfl rfl (by kernel_rfl) (fun _ _ _ h => h) (Or.inl ⟨by rfl, ?_⟩) ?_ ?_
      rotate_left
      ·intro w'; go_simp; with_reducible rfl
      rotate_left; ·simp only [Act.put, Z1, Z2, Z3, i64_w, i32_w]; rfl
      refine pure_ (i := 15) (N := some 93) (v := ?_) (a' := ?_) (Bz 24 0xffff) rfl rfl (by kernel_rfl) (fun _ _ _ h => h) (Or.inl ⟨by rfl, ?_⟩) ?_ ?_
      rotate_left
      ·intro w'; go_simp; with_reducible rfl
      rotate_left; ·simp only [Act.put, Z1, Z2, Z3, i64_w, i32_w]; rfl
      refine pure_ (i := 16) (N := some 94) (v := ?_) (a' := ?_) (Bz 24 0x1ffff) rfl rfl (by kernel_rfl) (fun _ _ _ h => h) (Or.inl ⟨by rfl, ?_⟩) ?_ ?_
      rotate_left
      ·intro w'; go_simp; with_reducible rfl
      rotate_left; ·simp only [Act.put, Z1, Z2, Z3, i64_w, i32_w]; rfl
      refine pure_ (i := 17) (N := some 95) (v := ?_) (a' := ?_) (Bz 24 0x3ffff) rfl rfl (by kernel_rfl) (fun _ _ _ h => h) (Or.inl ⟨by rfl, ?_⟩) ?_ ?_
      rotate_left
      ·intro w'; go_simp; with_reducible rfl
      rotate_left; ·simp only [Act.put, Z1, Z2, Z3, i64_w, i32_w]; rfl
      refine pure_ (i := 19) (N := some 97) (v := ?_) (a' := ?_) (Bz 24 0xbffff) rfl rfl (by kernel_rfl) (fun _ _ _ h => h) (Or.inl ⟨by rfl, ?_⟩) ?_ ?_
      rotate_left
      ·intro w'; go_simp; with_reducible rfl
      rotate_left; ·simp only [Act.put, Z1, Z2, Z3, i64_w, i32_w]; rfl
      refine take_ (i := 20) (N := some 98) (v := ?_) (a' := ?_) (Bz 24 0x1bffff) rfl rfl (by kernel_rfl) (fun _ _ _ h => h) (Or.inl ⟨by rfl, ?_⟩) hHeld ?_ ?_
      rotate_left
      ·intro w' s0; go_simp; with_reducible rfl
      rotate_left; ·simp only [Act.put, Z1, Z2, Z3, i64_w, i32_w]; rfl
      refine one_ (i := 18) (N := some 96) #[Y, Y, Y, Y, Y, Y, Y, Y, Y, Y, Y, Y, Y, Y, Y, Y, Y, Y, Y, Y, Y, Yn, Yn, Yn] rfl rfl (by kernel_rfl) (by decide) (fun K hK => ?_)
      refine goes_ Tryd.func12 (by kernel_rfl) rfl #[.pointer (some ⟨gl, 0, none⟩)] (by rfl) rfl rfl (by simp only [List.map_toArray, List.map_cons, List.map_nil]; rfl) ?_
      with_reducible refine (total_calls B gl L5 _ HLa.out).mono ?_
      rintro e wx ⟨rfl, rfl⟩
      refine ⟨_, rfl, ?_⟩
      refine hK.out _ _ ((blk_cell HRa.out 5).trans rfl) (fun hHeld => ?_)
      clear hK K
      refine norm_ (a' := ?_) ?_ ?_
      rotate_left
      ·show Act.put _ (some 96) _ = _
       simp only [Act.put, Z1, Z2, Z3, i64_w, i32_w]
       rfl
      refine pure_ (i := 21) (N := some 99) (v := ?_) (a' := ?_) (Bz 24 0x3fffff) rfl rfl (by kernel_rfl) (fun _ _ _ h => h) (Or.inl ⟨by rfl, ?_⟩) ?_ ?_
      rotate_left
      ·intro w'; go_simp; with_reducible rfl
      rotate_left; ·simp only [Act.put, Z1, Z2, Z3, i64_w, i32_w]; rfl
      refine pure_ (i := 22) (N := some 100) (v := ?_) (a' := ?_) (Bz 24 0x7fffff) rfl rfl (by kernel_rfl) (fun _ _ _ h => h) (Or.inl ⟨by rfl, ?_⟩) ?_ ?_
      rotate_left
      ·intro w'; go_simp; with_reducible rfl
      rotate_left; ·simp only [Act.put, Z1, Z2, Z3, i64_w, i32_w]; rfl
      refine pure_ (i := 23) (N := some 101) (v := ?_) (a' := ?_) (Bz 24 0xffffff) rfl rfl (by kernel_rfl) (fun _ _ _ h => h) (Or.inl ⟨by rfl, ?_⟩) ?_ ?_
      rotate_left
      ·intro w'; go_simp; with_reducible rfl
      rotate_left; ·simp only [Act.put, Z1, Z2, Z3, i64_w, i32_w]; rfl
      refine done_ (by kernel_rfl) ?_
      clear hHeld
      go_wp2
      refine ring_inner (n := i + 1) ?hc HLI5.out HFO.out.chk.s1 HRC.out ⟨HLa.out, HSa.out, HRa.out, HBa.out, HVa.out⟩ (fun _ _ d _ _ h => by cases d <;> exact h) ?_
      case hc => rfl
      intro u8 u17 u102 u103 u104 u105 u106 u107 u108 u109 u110 u111 u112 u113 u114 u115 u116 u117 u118 u119 u120 u121 u122 u123 u124 u125 u126 u127 u128 u129 u130 u131 u132 u133 u134 u135 u136 u137 u138 u139 u140 u141 u142 u143 u144 u145 u146 u147 w' HJ
      go_wp2
      go_roundg k1
      case measure => omega
      case rel => exact ⟨i + 1, gl, B, L5, H5, rfl, (by first | rfl | (rw [hiw])), ⟨by have h1 := HII.out; omega⟩, ⟨HJ.log, HLO.out, HJ.hi, HLI5.out, HJ.row, HJ.bel⟩⟩
     ·have hk2 : ¬ mv.f0 = 2 := by assumption
      by_cases he0 : e5 = 0
      ·subst he0
       have hm0 : L5.total = L.total + n5 := by rw [HMT.out, if_neg (fun q => hk2 q.1)]
       have t1 : wrap64 (L.total + n5) = L.total + n5 := by have h1 := HLI5.out.ok.t0; have h2 := HLI5.out.ok.t1; rw [hm0] at h1 h2; unfold wrap64; omega
       have t2 : (L5.total != L.total + n5) = false := by rw [hm0]; exact bne_self_eq_false _
       clear hm0 hk2
       have t3 : (if sz < L5.total then sz else L5.total) = (L5.recs.length : Int) := by have h1 := HLI5.out.hist.len_recs HLI5.out.ok; rw [HLI5.out.sz] at h1; exact h1.symm
       have t4 : ((L5.recs.length : Int) != (L5.recs.length : Int)) = false := bne_self_eq_false _
       have hiw : wrap64 (i + 1) = i + 1 := by have h1 := HII.out; have h2 := HN.out; unfold wrap64; omega
       have HLa := Aside0.mk HL2.out.drew
       have HBa := Aside0.mk (below_drew1 HBZ.out)
       have HRa := Aside0.mk (blk_drew HRZ.out)
       have HVa := Aside0.mk (Kd.C_drew HRV.out)
       have HSa := Aside0.mk (show B ≤ wz.drew.heap.size from HGZ.out)
       refine start_ (n := 24) (S := fun w' => w'.cell? ⟨gr, 5, none⟩ = some (.int .i64 sz)) (ds := []) #[Yn, Yn, Yn, Yn, Yn, Yn, Yn, Yn, Yn, Yn, Yn, Yn, Yn, Yn, Yn, Yn, Yn, Yn, Yn, Yn, Yn, Yn, Yn, Yn] (by kernel_rfl) rfl rfl ((blk_cell HRZ.out 5).trans rfl) (fun hHeld => ?_)
       generalize wz.drew = wa at HLa HBa HRa HVa HSa hHeld ⊢
       refine pure_ (i := 0) (N := some 78) (v := ?_) (a' := ?_) (Bz 24 0x1) rfl rfl (by kernel_rfl) (fun _ _ _ h => h) (Or.inl ⟨by rfl, ?_⟩) ?_ ?_
       rotate_left
       ·intro w'; go_simp; with_reducible rfl
       rotate_left; ·simp only [Act.put, Z1, Z2, Z3, i64_w, i32_w]; rfl
       refine pure_ (i := 2) (N := some 80) (v := ?_) (a' := ?_) (Bz 24 0x5) rfl rfl (by kernel_rfl) (fun _ _ _ h => h) (Or.inl ⟨by rfl, ?_⟩) ?_ ?_
       rotate_left
       ·intro w'; go_simp; with_reducible rfl
       rotate_left; ·simp only [Act.put, Z1, Z2, Z3, i64_w, i32_w]; rfl
       refine pure_ (i := 3) (N := some 81) (v := ?_) (a' := ?_) (Bz 24 0xd) rfl rfl (by kernel_rfl) (fun _ _ _ h => h) (Or.inl ⟨by rfl, ?_⟩) ?_ ?_
       rotate_left
       ·intro w'; go_simp; with_reducible rfl
       rotate_left; ·simp only [Act.put, Z1, Z2, Z3, i64_w, i32_w]; rfl
       refine pure_ (i := 4) (N := some 82) (v := ?_) (a' := ?_) (Bz 24 0x1d) rfl rfl (by kernel_rfl) (fun _ _ _ h => h) (Or.inl ⟨by rfl, ?_⟩) ?_ ?_
       rotate_left
       ·intro w'; go_simp; with_reducible rfl
       rotate_left; ·simp only [Act.put, Z1, Z2, Z3, i64_w, i32_w]; rfl
       refine one_ (i := 1) (N := some 79) #[Y, Y, Y, Y, Y, Yn, Yn, Yn, Yn, Yn, Yn, Yn, Yn, Yn, Yn, Yn, Yn, Yn, Yn, Yn, Yn, Yn, Yn, Yn] rfl rfl (by kernel_rfl) (by decide) (fun K hK => ?_)
       refine goes_ Tryd.func12 (by kernel_rfl) rfl #[.pointer (some ⟨gl, 0, none⟩)] (by rfl) rfl rfl (by simp only [List.map_toArray, List.map_cons, List.map_nil]; rfl) ?_
       with_reducible refine (total_calls B gl L5 _ HLa.out).mono ?_
       rintro e wx ⟨rfl, rfl⟩
       refine ⟨_, rfl, ?_⟩
       refine hK.out _ _ ((blk_cell HRa.out 5).trans rfl) (fun hHeld => ?_)
       clear hK K
       refine norm_ (a' := ?_) ?_ ?_
       rotate_left
       ·show Act.put _ (some 79) _ = _
        simp only [Act.put, Z1, Z2, Z3, i64_w, i32_w]
        rfl
       refine pure_ (i := 5) (N := some 83) (v := ?_) (a' := ?_) (Bz 24 0x3f) rfl rfl (by kernel_rfl) (fun _ _ _ h => h) (Or.inl ⟨by rfl, ?_⟩) ?_ ?_
       rotate_left
       ·intro w'; go_simp; with_reducible rfl
       rotate_left; ·simp only [Act.put, Z1, Z2, Z3, i64_w, i32_w]; rfl
       refine pure_ (i := 6) (N := some 84) (v := ?_) (a' := ?_) (Bz 24 0x7f) rfl rfl (by kernel_rfl) (fun _ _ _ h => h) (Or.inl ⟨by rfl, ?_⟩) ?_ ?_
       rotate_left
       ·intro w'; go_simp; with_reducible rfl
       rotate_left; ·simp only [Act.put, Z1, Z2, Z3, i64_w, i32_w]; rfl
       refine pure_ (i := 7) (N := some 85) (v := ?_) (a' := ?_) (Bz 24 0xff) rfl rfl (by kernel_rfl) (fun _ _ _ h => h) (Or.inl ⟨by rfl, ?_⟩) ?_ ?_
       rotate_left
       ·intro w'; go_simp; with_reducible rfl
       rotate_left; ·simp only [Act.put, Z1, Z2, Z3, i64_w, i32_w]; rfl
       refine pure_ (i := 8) (N := some 86) (v := ?_) (a' := ?_) (Bz 24 0x1ff) rfl rfl (by kernel_rfl) (fun _ _ _ h => h) (Or.inl ⟨by rfl, ?_⟩) ?_ ?_
       rotate_left
       ·intro w'; go_simp; with_reducible rfl
       rotate_left; ·simp only [Act.put, Z1, Z2, Z3, i64_w, i32_w]; rfl
       refine pure_ (i := 9) (N := some 87) (v := ?_) (a' := ?_) (Bz 24 0x3ff) rfl rfl (by kernel_rfl) (fun _ _ _ h => h) (Or.inl ⟨by rfl, ?_⟩) ?_ ?_
       rotate_left
       ·intro w'; go_simp; with_reducible rfl
       rotate_left; ·simp only [Act.put, Z1, Z2, Z3, i64_w, i32_w]; rfl
       refine pure_ (i := 10) (N := some 88) (v := undef) (a' := ?_) (Bz 24 0x7ff) rfl rfl (by kernel_rfl) (fun _ _ _ h => h) (Or.inr ⟨by rfl, rfl⟩) ?_ ?_
       rotate_left; ·simp only [Act.put, Z1, Z2, Z3, i64_w, i32_w]; rfl
       refine pure_ (i := 11) (N := some 89) (v := undef) (a' := ?_) (Bz 24 0xfff) rfl rfl (by kernel_rfl) (fun _ _ _ h => h) (Or.inr ⟨by rfl, rfl⟩) ?_ ?_
       rotate_left; ·simp only [Act.put, Z1, Z2, Z3, i64_w, i32_w]; rfl
       refine pure_ (i := 12) (N := some 90) (v := ?_) (a' := ?_) (Bz 24 0x1fff) rfl rfl (by kernel_rfl) (fun _ _ _ h => h) (Or.inl ⟨by rfl, ?_⟩) ?_ ?_
       rotate_left
       ·intro w'; go_simp; with_reducible rfl
       rotate_left; ·simp only [Act.put, Z1, Z2, Z3, i64_w, i32_w]; rfl
       refine pure_ (i := 13) (N := some 91) (v := ?_) (a' := ?_) (Bz 24 0x3fff) rfl rfl (by kernel_rfl) (fun _ _ _ h => h) (Or.inl ⟨by rfl, ?_⟩) ?_ ?_
       rotate_left
       ·intro w'; go_simp; with_reducible rfl
       rotate_left; ·simp only [Act.put, Z1, Z2, Z3, i64_w, i32_w]; rfl
       refine pure_ (i := 14) (N := some 92) (v := ?_) (a' := ?_) (Bz 24 0x7fff) rfl rfl (by kernel_rfl) (fun _ _ _ h => h) (Or.inl ⟨by rfl, ?_⟩) ?_ ?_
       rotate_left
       ·intro w'; go_simp; with_reducible rfl
       rotate_left; ·simp only [Act.put, Z1, Z2, Z3, i64_w, i32_w]; rfl
       refine pure_ (i := 15) (N := some 93) (v := ?_) (a' := ?_) (Bz 24 0xffff) rfl rfl (by kernel_rfl) (fun _ _ _ h => h) (Or.inl ⟨by rfl, ?_⟩) ?_ ?_
       rotate_left
       ·intro w'; go_simp; with_reducible rfl
       rotate_left; ·simp only [Act.put, Z1, Z2, Z3, i64_w, i32_w]; rfl
       refine pure_ (i := 16) (N := some 94) (v := ?_) (a' := ?_) (Bz 24 0x1ffff) rfl rfl (by kernel_rfl) (fun _ _ _ h => h) (Or.inl ⟨by rfl, ?_⟩) ?_ ?_
       rotate_left
       ·intro w'; go_simp; with_reducible rfl
       rotate_left; ·simp only [Act.put, Z1, Z2, Z3, i64_w, i32_w]; rfl
       refine pure_ (i := 17) (N := some 95) (v := ?_) (a' := ?_) (Bz 24 0x3ffff) rfl rfl (by kernel_rfl) (fun _ _ _ h => h) (Or.inl ⟨by rfl, ?_⟩) ?_ ?_
       rotate_left
       ·intro w'; go_simp; with_reducible rfl
       rotate_left; ·simp only [Act.put, Z1, Z2, Z3, i64_w, i32_w]; rfl
       refine pure_ (i := 19) (N := some 97) (v := ?_) (a' := ?_) (Bz 24 0xbffff) rfl rfl (by kernel_rfl) (fun _ _ _ h => h) (Or.inl ⟨by rfl, ?_⟩) ?_ ?_
       rotate_left
       ·intro w'; go_simp; with_reducible rfl
       rotate_left; ·simp only [Act.put, Z1, Z2, Z3, i64_w, i32_w]; rfl
       refine take_ (i := 20) (N := some 98) (v := ?_) (a' := ?_) (Bz 24 0x1bffff) rfl rfl (by kernel_rfl) (fun _ _ _ h => h) (Or.inl ⟨by rfl, ?_⟩) hHeld ?_ ?_
       rotate_left
       ·intro w' s0; go_simp; with_reducible rfl
       rotate_left; ·simp only [Act.put, Z1, Z2, Z3, i64_w, i32_w]; rfl
       refine one_ (i := 18) (N := some 96) #[Y, Y, Y, Y, Y, Y, Y, Y, Y, Y, Y, Y, Y, Y, Y, Y, Y, Y, Y, Y, Y, Yn, Yn, Yn] rfl rfl (by kernel_rfl) (by decide) (fun K hK => ?_)
       refine goes_ Tryd.func12 (by kernel_rfl) rfl #[.pointer (some ⟨gl, 0, none⟩)] (by rfl) rfl rfl (by simp only [List.map_toArray, List.map_cons, List.map_nil]; rfl) ?_
       with_reducible refine (total_calls B gl L5 _ HLa.out).mono ?_
       rintro e wx ⟨rfl, rfl⟩
       refine ⟨_, rfl, ?_⟩
       refine hK.out _ _ ((blk_cell HRa.out 5).trans rfl) (fun hHeld => ?_)
       clear hK K
       refine norm_ (a' := ?_) ?_ ?_
       rotate_left
       ·show Act.put _ (some 96) _ = _
        simp only [Act.put, Z1, Z2, Z3, i64_w, i32_w]
        rfl
       refine pure_ (i := 21) (N := some 99) (v := ?_) (a' := ?_) (Bz 24 0x3fffff) rfl rfl (by kernel_rfl) (fun _ _ _ h => h) (Or.inl ⟨by rfl, ?_⟩) ?_ ?_
       rotate_left
       ·intro w'; go_simp; with_reducible rfl
       rotate_left; ·simp only [Act.put, Z1, Z2, Z3, i64_w, i32_w]; rfl
       refine pure_ (i := 22) (N := some 100) (v := ?_) (a' := ?_) (Bz 24 0x7fffff) rfl rfl (by kernel_rfl) (fun _ _ _ h => h) (Or.inl ⟨by rfl, ?_⟩) ?_ ?_
       rotate_left
       ·intro w'; go_simp; with_reducible rfl
       rotate_left; ·simp only [Act.put, Z1, Z2, Z3, i64_w, i32_w]; rfl
       refine pure_ (i := 23) (N := some 101) (v := ?_) (a' := ?_) (Bz 24 0xffffff) rfl rfl (by kernel_rfl) (fun _ _ _ h => h) (Or.inl ⟨by rfl, ?_⟩) ?_ ?_
       rotate_left
       ·intro w'; go_simp; with_reducible rfl
       rotate_left; ·simp only [Act.put, Z1, Z2, Z3, i64_w, i32_w]; rfl
       refine done_ (by kernel_rfl) ?_
       clear hHeld
       go_wp2
       refine ring_inner (n := i + 1) ?hc HLI5.out HFO.out.chk.s1 HRC.out ⟨HLa.out, HSa.out, HRa.out, HBa.out, HVa.out⟩ (fun _ _ d _ _ h => by cases d <;> exact h) ?_
       case hc => rfl
       intro u8 u17 u102 u103 u104 u105 u106 u107 u108 u109 u110 u111 u112 u113 u114 u115 u116 u117 u118 u119 u120 u121 u122 u123 u124 u125 u126 u127 u128 u129 u130 u131 u132 u133 u134 u135 u136 u137 u138 u139 u140 u141 u142 u143 u144 u145 u146 u147 w' HJ
       go_wp2
       go_roundg k1
       case measure => omega
       case rel => exact ⟨i + 1, gl, B, L5, H5, rfl, (by first | rfl | (rw [hiw])), ⟨by have h1 := HII.out; omega⟩, ⟨HJ.log, HLO.out, HJ.hi, HLI5.out, HJ.row, HJ.bel⟩⟩
      ·clear hk2
       have hn0 : n5 = 0 := HME.out he0
       subst hn0
       have hm0 : L5.total = L.total := by rw [HMT.out, if_neg (fun q => he0 q.2)]; omega
       have t1 : wrap64 L.total = L.total := by have h1 := HRI.out.li.ok.t0; have h2 := HRI.out.li.ok.t1; unfold wrap64; omega
       have t2 : (L5.total != L.total) = false := by rw [hm0]; exact bne_self_eq_false _
       have t5 : (e5 != 0) = true := bne_iff_ne.mpr he0
       clear hm0 he0
       have t3 : (if sz < L5.total then sz else L5.total) = (L5.recs.length : Int) := by have h1 := HLI5.out.hist.len_recs HLI5.out.ok; rw [HLI5.out.sz] at h1; exact h1.symm
       have t4 : ((L5.recs.length : Int) != (L5.recs.length : Int)) = false := bne_self_eq_false _
       have hiw : wrap64 (i + 1) = i + 1 := by have h1 := HII.out; have h2 := HN.out; unfold wrap64; omega
       have HLa := Aside0.mk HL2.out.drew
       have HBa := Aside0.mk (below_drew1 HBZ.out)
       have HRa := Aside0.mk (blk_drew HRZ.out)
       have HVa := Aside0.mk (Kd.C_drew HRV.out)
       have HSa := Aside0.mk (show B ≤ wz.drew.heap.size from HGZ.out)
       refine start_ (n := 24) (S := fun w' => w'.cell? ⟨gr, 5, none⟩ = some (.int .i64 sz)) (ds := []) #[Yn, Yn, Yn, Yn, Yn, Yn, Yn, Yn, Yn, Yn, Yn, Yn, Yn, Yn, Yn, Yn, Yn, Yn, Yn, Yn, Yn, Yn, Yn, Yn] (by kernel_rfl) rfl rfl ((blk_cell HRZ.out 5).trans rfl) (fun hHeld => ?_)
       generalize wz.drew = wa at HLa HBa HRa HVa HSa hHeld ⊢
       refine pure_ (i := 0) (N := some 78) (v := ?_) (a' := ?_) (Bz 24 0x1) rfl rfl (by kernel_rfl) (fun _ _ _ h => h) (Or.inl ⟨by rfl, ?_⟩) ?_ ?_
       rotate_left
       ·intro w'; go_simp; with_reducible rfl
       rotate_left; ·simp only [Act.put, Z1, Z2, Z3, i64_w, i32_w]; rfl
       refine pure_ (i := 2) (N := some 80) (v := ?_) (a' := ?_) (Bz 24 0x5) rfl rfl (by kernel_rfl) (fun _ _ _ h => h) (Or.inl ⟨by rfl, ?_⟩) ?_ ?_
       rotate_left
       ·intro w'; go_simp; with_reducible rfl
       rotate_left; ·simp only [Act.put, Z1, Z2, Z3, i64_w, i32_w]; rfl
       refine pure_ (i := 3) (N := some 81) (v := ?_) (a' := ?_) (Bz 24 0xd) rfl rfl (by kernel_rfl) (fun _ _ _ h => h) (Or.inl ⟨by rfl, ?_⟩) ?_ ?_
       rotate_left
       ·intro w'; go_simp; with_reducible rfl
       rotate_left; ·simp only [Act.put, Z1, Z2, Z3, i64_w, i32_w]; rfl
       refine pure_ (i := 4) (N := some 82) (v := ?_) (a' := ?_) (Bz 24 0x1d) rfl rfl (by kernel_rfl) (fun _ _ _ h => h) (Or.inl ⟨by rfl, ?_⟩) ?_ ?_
       rotate_left
       ·intro w'; go_simp; with_reducible rfl
       rotate_left; ·simp only [Act.put, Z1, Z2, Z3, i64_w, i32_w]; rfl
       refine one_ (i := 1) (N := some 79) #[Y, Y, Y, Y, Y, Yn, Yn, Yn, Yn, Yn, Yn, Yn, Yn, Yn, Yn, Yn, Yn, Yn, Yn, Yn, Yn, Yn, Yn, Yn] rfl rfl (by kernel_rfl) (by decide) (fun K hK => ?_)
       refine goes_ Tryd.func12 (by kernel_rfl) rfl #[.pointer (some ⟨gl, 0, none⟩)] (by rfl) rfl rfl (by simp only [List.map_toArray, List.map_cons, List.map_nil]; rfl) ?_
       with_reducible refine (total_calls B gl L5 _ HLa.out).mono ?_
       rintro e wx ⟨rfl, rfl⟩
       refine ⟨_, rfl, ?_⟩
       refine hK.out _ _ ((blk_cell HRa.out 5).trans rfl) (fun hHeld => ?_)
       clear hK K
       refine norm_ (a' := ?_) ?_ ?_
       rotate_left
       ·show Act.put _ (some 79) _ = _
        simp only [Act.put, Z1, Z2, Z3, i64_w, i32_w]
        rfl
       refine pure_ (i := 5) (N := some 83) (v := ?_) (a' := ?_) (Bz 24 0x3f) rfl rfl (by kernel_rfl) (fun _ _ _ h => h) (Or.inl ⟨by rfl, ?_⟩) ?_ ?_
       rotate_left
       ·intro w'; go_simp; with_reducible rfl
       rotate_left; ·simp only [Act.put, Z1, Z2, Z3, i64_w, i32_w]; rfl
       refine pure_ (i := 6) (N := some 84) (v := ?_) (a' := ?_) (Bz 24 0x7f) rfl rfl (by kernel_rfl) (fun _ _ _ h => h) (Or.inl ⟨by rfl, ?_⟩) ?_ ?_
       rotate_left
       ·intro w'; go_simp; with_reducible rfl
       rotate_left; ·simp only [Act.put, Z1, Z2, Z3, i64_w, i32_w]; rfl
       refine pure_ (i := 7) (N := some 85) (v := ?_) (a' := ?_) (Bz 24 0xff) rfl rfl (by kernel_rfl) (fun _ _ _ h => h) (Or.inl ⟨by rfl, ?_⟩) ?_ ?_
       rotate_left
       ·intro w'; go_simp; with_reducible rfl
       rotate_left; ·simp only [Act.put, Z1, Z2, Z3, i64_w, i32_w]; rfl
       refine pure_ (i := 8) (N := some 86) (v := ?_) (a' := ?_) (Bz 24 0x1ff) rfl rfl (by kernel_rfl) (fun _ _ _ h => h) (Or.inl ⟨by rfl, ?_⟩) ?_ ?_
       rotate_left
       ·intro w'; go_simp; with_reducible rfl
       rotate_left; ·simp only [Act.put, Z1, Z2, Z3, i64_w, i32_w]; rfl
       refine pure_ (i := 9) (N := some 87) (v := ?_) (a' := ?_) (Bz 24 0x3ff) rfl rfl (by kernel_rfl) (fun _ _ _ h => h) (Or.inl ⟨by rfl, ?_⟩) ?_ ?_
       rotate_left
       ·intro w'; go_simp; with_reducible rfl
       rotate_left; ·simp only [Act.put, Z1, Z2, Z3, i64_w, i32_w]; rfl
       refine pure_ (i := 10) (N := some 88) (v := ?_) (a' := ?_) (Bz 24 0x7ff) rfl rfl (by kernel_rfl) (fun _ _ _ h => h) (Or.inl ⟨by rfl, ?_⟩) ?_ ?_
       rotate_left
       ·intro w'; go_simp; with_reducible rfl
       rotate_left; ·simp only [Act.put, Z1, Z2, Z3, i64_w, i32_w]; rfl
       refine pure_ (i := 11) (N := some 89) (v := ?_) (a' := ?_) (Bz 24 0xfff) rfl rfl (by kernel_rfl) (fun _ _ _ h => h) (Or.inl ⟨by rfl, ?_⟩) ?_ ?_
       rotate_left
       ·intro w'; go_simp; with_reducible rfl
       rotate_left; ·simp only [Act.put, Z1, Z2, Z3, i64_w, i32_w]; rfl
       refine pure_ (i := 12) (N := some 90) (v := ?_) (a' := ?_) (Bz 24 0x1fff) rfl rfl (by kernel_rfl) (fun _ _ _ h => h) (Or.inl ⟨by rfl, ?_⟩) ?_ ?_
       rotate_left
       ·intro w'; go_simp; with_reducible rfl
       rotate_left; ·simp only [Act.put, Z1, Z2, Z3, i64_w, i32_w]; rfl
       refine pure_ (i := 13) (N := some 91) (v := ?_) (a' := ?_) (Bz 24 0x3fff) rfl rfl (by kernel_rfl) (fun _ _ _ h => h) (Or.inl ⟨by rfl, ?_⟩) ?_ ?_
       rotate_left
       ·intro w'; go_simp; with_reducible rfl
       rotate_left; ·simp only [Act.put, Z1, Z2, Z3, i64_w, i32_w]; rfl
       refine pure_ (i := 14) (N := some 92) (v := ?_) (a' := ?_) (Bz 24 0x7fff) rfl rfl (by kernel_rfl) (fun _ _ _ h => h) (Or.inl ⟨by rfl, ?_⟩) ?_ ?_
       rotate_left
       ·intro w'; go_simp; with_reducible rfl
       rotate_left; ·simp only [Act.put, Z1, Z2, Z3, i64_w, i32_w]; rfl
       refine pure_ (i := 15) (N := some 93) (v := ?_) (a' := ?_) (Bz 24 0xffff) rfl rfl (by kernel_rfl) (fun _ _ _ h => h) (Or.inl ⟨by rfl, ?_⟩) ?_ ?_
       rotate_left
       ·intro w'; go_simp; with_reducible rfl
       rotate_left; ·simp only [Act.put, Z1, Z2, Z3, i64_w, i32_w]; rfl
       refine pure_ (i := 16) (N := some 94) (v := ?_) (a' := ?_) (Bz 24 0x1ffff) rfl rfl (by kernel_rfl) (fun _ _ _ h => h) (Or.inl ⟨by rfl, ?_⟩) ?_ ?_
       rotate_left
       ·intro w'; go_simp; with_reducible rfl
       rotate_left; ·simp only [Act.put, Z1, Z2, Z3, i64_w, i32_w]; rfl
       refine pure_ (i := 17) (N := some 95) (v := ?_) (a' := ?_) (Bz 24 0x3ffff) rfl rfl (by kernel_rfl) (fun _ _ _ h => h) (Or.inl ⟨by rfl, ?_⟩) ?_ ?_
       rotate_left
       ·intro w'; go_simp; with_reducible rfl
       rotate_left; ·simp only [Act.put, Z1, Z2, Z3, i64_w, i32_w]; rfl
       refine pure_ (i := 19) (N := some 97) (v := ?_) (a' := ?_) (Bz 24 0xbffff) rfl rfl (by kernel_rfl) (fun _ _ _ h => h) (Or.inl ⟨by rfl, ?_⟩) ?_ ?_
       rotate_left
       ·intro w'; go_simp; with_reducible rfl
       rotate_left; ·simp only [Act.put, Z1, Z2, Z3, i64_w, i32_w]; rfl
       refine take_ (i := 20) (N := some 98) (v := ?_) (a' := ?_) (Bz 24 0x1bffff) rfl rfl (by kernel_rfl) (fun _ _ _ h => h) (Or.inl ⟨by rfl, ?_⟩) hHeld ?_ ?_
       rotate_left
       ·intro w' s0; go_simp; with_reducible rfl
       rotate_left; ·simp only [Act.put, Z1, Z2, Z3, i64_w, i32_w]; rfl
       refine one_ (i := 18) (N := some 96) #[Y, Y, Y, Y, Y, Y, Y, Y, Y, Y, Y, Y, Y, Y, Y, Y, Y, Y, Y, Y, Y, Yn, Yn, Yn] rfl rfl (by kernel_rfl) (by decide) (fun K hK => ?_)
       refine goes_ Tryd.func12 (by kernel_rfl) rfl #[.pointer (some ⟨gl, 0, none⟩)] (by rfl) rfl rfl (by simp only [List.map_toArray, List.map_cons, List.map_nil]; rfl) ?_
       with_reducible refine (total_calls B gl L5 _ HLa.out).mono ?_
       rintro e wx ⟨rfl, rfl⟩
       refine ⟨_, rfl, ?_⟩
       refine hK.out _ _ ((blk_cell HRa.out 5).trans rfl) (fun hHeld => ?_)
       clear hK K
       refine norm_ (a' := ?_) ?_ ?_
       rotate_left
       ·show Act.put _ (some 96) _ = _
        simp only [Act.put, Z1, Z2, Z3, i64_w, i32_w]
        rfl
       refine pure_ (i := 21) (N := some 99) (v := ?_) (a' := ?_) (Bz 24 0x3fffff) rfl rfl (by kernel_rfl) (fun _ _ _ h => h) (Or.inl ⟨by rfl, ?_⟩) ?_ ?_
       rotate_left
       ·intro w'; go_simp; with_reducible rfl
       rotate_left; ·simp only [Act.put, Z1, Z2, Z3, i64_w, i32_w]; rfl
       refine pure_ (i := 22) (N := some 100) (v := ?_) (a' := ?_) (Bz 24 0x7fffff) rfl rfl (by kernel_rfl) (fun _ _ _ h => h) (Or.inl ⟨by rfl, ?_⟩) ?_ ?_
       rotate_left
       ·intro w'; go_simp; with_reducible rfl
       rotate_left; ·simp only [Act.put, Z1, Z2, Z3, i64_w, i32_w]; rfl
       refine pure_ (i := 23) (N := some 101) (v := ?_) (a' := ?_) (Bz 24 0xffffff) rfl rfl (by kernel_rfl) (fun _ _ _ h => h) (Or.inl ⟨by rfl, ?_⟩) ?_ ?_
       rotate_left
       ·intro w'; go_simp; with_reducible rfl
       rotate_left; ·simp only [Act.put, Z1, Z2, Z3, i64_w, i32_w]; rfl
       refine done_ (by kernel_rfl) ?_
       clear hHeld
       go_wp2
       refine ring_inner (n := i + 1) ?hc HLI5.out HFO.out.chk.s1 HRC.out ⟨HLa.out, HSa.out, HRa.out, HBa.out, HVa.out⟩ (fun _ _ d _ _ h => by cases d <;> exact h) ?_
       case hc => rfl
       intro u8 u17 u102 u103 u104 u105 u106 u107 u108 u109 u110 u111 u112 u113 u114 u115 u116 u117 u118 u119 u120 u121 u122 u123 u124 u125 u126 u127 u128 u129 u130 u131 u132 u133 u134 u135 u136 u137 u138 u139 u140 u141 u142 u143 u144 u145 u146 u147 w' HJ
       go_wp2
       go_roundg k1
       case measure => omega
       case rel => exact ⟨i + 1, gl, B, L5, H5, rfl, (by first | rfl | (rw [hiw])), ⟨by have h1 := HII.out; omega⟩, ⟨HJ.log, HLO.out, HJ.hi, HLI5.out, HJ.row, HJ.bel⟩⟩
def plenumlaw41_TrendRing.f (k : Nat) (a0_0 : ByteArray) (a0_1 : ByteArray) (a0_2 : Int) (a0_3 : Int) (a0_4 : Int) (a0_5 : Int) (a1 : Int) (a2 : Int) (l3 : List (S34)) : Option (Bool) := some true
theorem plenumlaw41_TrendRing.calls (k : Nat) (a0_0 : ByteArray) (a0_1 : ByteArray) (a0_2 : Int) (a0_3 : Int) (a0_4 : Int) (a0_5 : Int) (a1 : Int) (a2 : Int) (A3 : Option Addr) (c3 : Nat) (l3 : List (S34)) (r : Bool) (w : World) (hG : Glob w) (hr3 : Kd.C k34 w A3 l3.length l3) (hc3 : l3.length ≤ c3) (h : plenumlaw41_TrendRing.f k a0_0 a0_1 a0_2 a0_3 a0_4 a0_5 a1 a2 l3 = some r) :
  Calls Tryd.prog 7 #[.agg #[.string a0_0, .string a0_1, .int .i64 a0_2, .int .i64 a0_3, .int .i64 a0_4, .int .i64 a0_5], .int .i64 a1, .int .i64 a2, .slice A3 l3.length c3] w fun e w' => e = .returned (.bool r) ∧ Below w.heap.size w w' := by
 injection h with h
 subst h
 exact ring_walk a0_0 a0_1 a0_2 a0_3 a0_4 a0_5 a1 a2 A3 c3 l3 w hG (by obtain ⟨t, ht⟩ := hG; exact blk_lt ht) hr3 hc3
end Go.Proofs.YtbccjcdmpiolpaaDoor.T
end
section
namespace Go.Proofs.YtbccjcdmpiolpaaDoor.Opn
open Go.RowKit Go.Proofs.YtbccjcdmpiolpaaDoorW.PrintWords
def Opn (P : Program) (t : TypeId) {α : Type} (d : Kd α) (V : α → Prop) : Prop :=
 ∀ (H : Type) (enc : TypeId × Value → H) (w : World) (fuel : Nat) (cs : List Value) (x : DataW H × List MemPlace),
  DataW.trod enc P w 0 (fun _ => true) true fuel t cs = some x → (∀ n ∈ DataW.weights P t x.1, n ≤ 140737488351232) → ∃ y, d.K w y cs ∧ V y
theorem opn_int {P : Program} {t : TypeId} {k : IntKind} (ht : P.underlying t = some (.int k)) : Opn P t (Kd.int k) (fun y => (Lit.int k y).wf = true) := by
 intro H enc w fuel cs x h _
 obtain ⟨n, rfl, _, hw⟩ := DataW.trod_int ht h
 exact ⟨n, rfl, hw⟩
theorem opn_string {P : Program} {t : TypeId} (ht : P.underlying t = some .string) : Opn P t Kd.string (fun y => y.size ≤ 140737488351232) := by
 intro H enc w fuel cs x h hw
 obtain ⟨s, rfl, rfl, _⟩ := DataW.trod_string ht h
 refine ⟨s, rfl, ?_⟩
 have := hw s.data.toList.length (by simp [DataW.weights])
 rw [Array.length_toList] at this
 exact this
theorem weights_all {H : Type} {P : Program} {e : TypeId} {d : DataW H} {n : Nat} (hn : n ∈ DataW.weights P e d) : ∀ {l : List (DataW H)}, d ∈ l → n ∈ DataW.weightsAll P e l
 | [], h => by simp at h
 | a :: r, h => by
  simp only [DataW.weightsAll, List.mem_append]
  rcases List.mem_cons.1 h with rfl | h
  ·exact .inl hn
  ·exact .inr (weights_all hn h)
theorem list_of {α : Type} (Q : Nat → α → Prop) : ∀ n, (∀ i, i < n → ∃ y, Q i y) → ∃ l : List α, l.length = n ∧ ∀ i y, l[i]? = some y → Q i y
 | 0, _ => ⟨[], rfl, fun i y h => by simp at h⟩
 | n + 1, h => by
  obtain ⟨l, hl, hq⟩ := list_of Q n (fun i hi => h i (by omega))
  obtain ⟨y, hy⟩ := h n (by omega)
  refine ⟨l ++ [y], by simp [hl], fun i z hz => ?_⟩
  rcases Nat.lt_or_ge i n with hi | hi
  ·rw [List.getElem?_append_left (by omega)] at hz
   exact hq i z hz
  ·have : i = n := by
    have := (List.getElem?_eq_some_iff.1 hz).1
    simp [hl] at this
    omega
   subst this
   rw [List.getElem?_append_right (by omega), hl, Nat.sub_self] at hz
   simp at hz
   subst hz
   exact hy
theorem opn_slice {P : Program} {t e : TypeId} {α : Type} {d : Kd α} {V : α → Prop} {B : Nat} (ht : P.underlying t = some (.slice e)) (hs : P.cellsOf e = d.sz) (hB : P.bytesOf e = B) (he : Opn P e d V) :
  Opn P t (Kd.slice e d) (fun xs => xs.length * B ≤ 140737488351232 ∧ ∀ x ∈ xs, V x) := by
 intro H enc w fuel cs x h hw
 rcases Go.Deep.open_slice ht h with ⟨rfl, rfl⟩ | ⟨a, len, cap, m, n, D, Pl, rfl, _, hl, hm, hmm, rfl, hi⟩
 ·exact ⟨[], ⟨none, 0, rfl, by simp, rfl, by simp, fun hn => absurd hn (by simp)⟩, by simp, by simp⟩
 have hmm' : m = cap := by simpa using hmm
 subst hmm'
 have hw' : (len + (m - len)) * B ≤ 140737488351232 := by
  have := hw ((len + (m - len)) * B) (by simp [DataW.weights, ht, hB])
  exact this
 obtain ⟨l, hlen, hq⟩ := list_of (fun i y => ∃ c, w.cells? 0 (a.add (i * P.cellsOf e)) (P.cellsOf e) = some c ∧ d.K w y c ∧ V y) len (fun i hil => by
  obtain ⟨c, hc, htr⟩ := hi i (by omega)
  obtain ⟨y, hy, hV⟩ := he H enc w n c _ htr (fun k hk => hw k (by
   simp only [DataW.weights, ht, List.mem_cons, List.mem_append]
   exact .inr (.inl (weights_all hk (List.mem_map.2 ⟨i, List.mem_range.2 hil, rfl⟩)))))
  exact ⟨y, c, hc, hy, hV⟩)
 refine ⟨l, ⟨some a, m, by rw [hlen], by omega, ?_⟩, ?_, ?_⟩
 ·refine ⟨rfl, by simp only [maxLen] at hm; omega, fun _ => ⟨a, rfl, fun j p hj => ?_⟩⟩
  obtain ⟨c, hc, hK, _⟩ := hq j p hj
  obtain ⟨_, hcl, hat⟩ := World.cells?_some hc
  refine ⟨c, by rw [hcl, hs], hK, fun i u hu => ?_⟩
  have hil : i < P.cellsOf e := by
   have := (List.getElem?_eq_some_iff.1 hu).1
   omega
  rw [← hs, ← Go.Deep.add_add, hat i hil, hu]
 ·rw [hlen]
  exact Nat.le_trans (Nat.mul_le_mul_right _ (by omega)) hw'
 ·intro y hy
  obtain ⟨i, hi2⟩ := List.mem_iff_getElem?.1 hy
  exact (hq i y hi2).elim fun c h => h.2.2
def OpnF (P : Program) (fs : List Field) {α : Type} (d : Kd α) (V : α → Prop) (o : Nat) : Prop :=
 ∀ (H : Type) (enc : TypeId × Value → H) (w : World) (n : Nat) (cs : List Value) (xs : List (DataW H × List MemPlace)),
  o + d.sz ≤ cs.length →
  (∀ (i : Nat) (f : Field), fs[i]? = some f → ∃ x, xs[i]? = some x ∧ DataW.trod enc P w 0 (fun _ => true) true n f.type ((cs.drop f.offset).take (P.cellsOf f.type)) = some x ∧ ∀ k ∈ DataW.weights P f.type x.1, k ≤ 140737488351232) →
  ∃ y, d.K w y ((cs.drop o).take d.sz) ∧ V y
theorem opn_last {P : Program} {f : Field} {α : Type} {d : Kd α} {V : α → Prop} {o : Nat} (ho : f.offset = o) (hs : P.cellsOf f.type = d.sz) (h : Opn P f.type d V) : OpnF P [f] d V o := by
 intro H enc w n cs xs _ hx
 obtain ⟨x, _, ht, hw⟩ := hx 0 f rfl
 rw [hs, ho] at ht
 exact h H enc w n _ x ht hw
theorem take_two {α : Type} (cs : List α) (o a b : Nat) : (cs.drop o).take (a + b) = (cs.drop o).take a ++ (cs.drop (o + a)).take b := by
 rw [List.take_add, List.drop_drop]
theorem opn_cons {P : Program} {f : Field} {fs : List Field} {α β : Type} {a : Kd α} {b : Kd β} {V : α → Prop} {U : β → Prop} {o : Nat} (ho : f.offset = o) (hs : P.cellsOf f.type = a.sz) (h : Opn P f.type a V) (hr : OpnF P fs b U (o + a.sz)) :
  OpnF P (f :: fs) (Kd.pair a b) (fun y => V y.1 ∧ U y.2) o := by
 intro H enc w n cs xs hl hx
 obtain ⟨x, hx0, ht, hw⟩ := hx 0 f rfl
 rw [hs, ho] at ht
 obtain ⟨y, hy, hV⟩ := h H enc w n _ x ht hw
 have hl' : o + (a.sz + b.sz) ≤ cs.length := hl
 obtain ⟨z, hz, hU⟩ := hr H enc w n cs (xs.drop 1) (by omega) (fun i g hg => by
  obtain ⟨x', h1, h2⟩ := hx (i + 1) g (by simpa using hg)
  exact ⟨x', by rw [List.getElem?_drop, Nat.add_comm]; exact h1, h2⟩)
 exact ⟨(y, z), ⟨_, _, take_two cs o a.sz b.sz, hy, hz⟩, hV, hU⟩
theorem opn_struct {P : Program} {t : TypeId} {fa : Array Field} {fs : List Field} {α β : Type} {d : Kd α} {V : α → Prop} (ht : P.underlying t = some (.struct fa)) (hf : fa.toList = fs) (hs : P.cellsOf t = d.sz) (g : β → α) (g' : α → β) (hg : ∀ y, g (g' y) = y)
  (h : OpnF P fs d V 0) : Opn P t (Kd.iso d g) (fun x => V (g x)) := by
 intro H enc w fuel cs x hx hw
 obtain ⟨xs, n, rfl, rfl, hl, hxl, hfs⟩ := DataW.trod_struct ht hx
 obtain ⟨y, hy, hV⟩ := h H enc w n cs xs (by omega) (fun i f hi => by
  have hi' : fa[i]? = some f := by rw [← hf] at hi; simpa using hi
  have hlt : i < xs.length := by
   rw [hxl]
   exact (Array.getElem?_eq_some_iff.1 hi').1
  have h1 := hfs i f hi'
  refine ⟨xs[i], List.getElem?_eq_getElem hlt, by rw [h1, List.getElem?_eq_getElem hlt], fun k hk => hw k ?_⟩
  simp only [DataW.weights, ht]
  refine DataW.weights_mem_each (j := i) (t := f.type) (d := xs[i].1) ?_ ?_ k hk
  ·rw [List.getElem?_map, hf, hi]
   rfl
  ·rw [List.getElem?_map, List.getElem?_eq_getElem hlt]
   rfl)
 refine ⟨g' y, ?_, ?_⟩
 ·show d.K w (g (g' y)) cs
  rw [hg]
  rw [List.drop_zero, ← hs, ← hl, List.take_length] at hy
  exact hy
 ·show V (g (g' y))
  rw [hg]
  exact hV
theorem arg_slice {H : Type} {enc : TypeId × Value → H} {P : Program} {t e : TypeId} {α : Type} {d : Kd α} {V : List α → Prop} {W : World} {v : Value} {x : DataW H} {ps : List MemPlace} (ho : Opn P t (Kd.slice e d) V) (a : Option Addr) (len cap : Nat) (hv : v = .slice a len cap)
  (h : DataW.Trod enc P W 0 (fun _ => true) true t v x ps) (hw : ∀ n ∈ DataW.weights P t x, n ≤ 140737488351232) : ∃ (A : Option Addr) (c : Nat) (l : List α), v = .slice A l.length c ∧ l.length ≤ c ∧ Kd.C d W A l.length l ∧ V l := by
 obtain ⟨fuel, hf⟩ := h
 obtain ⟨l, ⟨A, c, hc, hl, hC⟩, hV⟩ := ho H enc W fuel _ _ hf hw
 subst hv
 have he : Value.slice a len cap = .slice A l.length c := by simpa [Value.cells] using hc
 exact ⟨A, c, l, he, hl, hC, hV⟩
theorem arg_struct {H : Type} {enc : TypeId × Value → H} {P : Program} {t : TypeId} {α : Type} {d : Kd α} {V : α → Prop} {W : World} {v : Value} {x : DataW H} {ps : List MemPlace} (ho : Opn P t d V) (cs : Array Value) (hv : v = .agg cs)
  (h : DataW.Trod enc P W 0 (fun _ => true) true t v x ps) (hw : ∀ n ∈ DataW.weights P t x, n ≤ 140737488351232) : ∃ y, (∃ l, v = .agg l.toArray ∧ d.K W y l) ∧ V y := by
 obtain ⟨fuel, hf⟩ := h
 obtain ⟨y, hK, hV⟩ := ho H enc W fuel _ _ hf hw
 subst hv
 exact ⟨y, ⟨cs.toList, by simp, hK⟩, hV⟩
theorem arg_weights {H : Type} {P : Program} {ts : List TypeId} {ds : List (DataW H)} (h : (DataW.weightsEach P ts ds).all (· ≤ reachBytes) = true) {j : Nat} {t : TypeId} {d : DataW H} (ht : ts[j]? = some t) (hd : ds[j]? = some d) : ∀ n ∈ DataW.weights P t d, n ≤ 140737488351232 := by
 intro n hn
 have := List.all_eq_true.1 h n (DataW.weights_mem_each ht hd n hn)
 exact of_decide_eq_true this
end Go.Proofs.YtbccjcdmpiolpaaDoor.Opn
end
section
namespace Go.Proofs.YtbccjcdmpiolpaaDoor.T
open Go.RowKit Go.Proofs.YtbccjcdmpiolpaaDoorW.PrintWords Go.Proofs.YtbccjcdmpiolpaaDoor.Opn
def V23 (x : S23) : Prop := (x.f0.size ≤ 140737488351232) ∧ (x.f1.size ≤ 140737488351232) ∧ ((Lit.int .i64 x.f2).wf = true) ∧ ((Lit.int .i64 x.f3).wf = true) ∧ ((Lit.int .i64 x.f4).wf = true) ∧ ((Lit.int .i64 x.f5).wf = true)
theorem opn23 : Opn Tryd.prog 23 k23 V23 := opn_struct Tryd.underlying23 rfl (by kernel_rfl) (fun x : S23 => (x.f0, x.f1, x.f2, x.f3, x.f4, x.f5)) (fun y => (⟨y.1, y.2.1, y.2.2.1, y.2.2.2.1, y.2.2.2.2.1, y.2.2.2.2.2⟩ : S23)) (fun _ => rfl) (opn_cons rfl (by kernel_rfl) (opn_string Tryd.underlying9) (opn_cons rfl (by kernel_rfl) (opn_string Tryd.underlying9) (opn_cons rfl (by kernel_rfl) (opn_int Tryd.underlying3) (opn_cons rfl (by kernel_rfl) (opn_int Tryd.underlying3) (opn_cons rfl (by kernel_rfl) (opn_int Tryd.underlying2) (opn_last rfl (by kernel_rfl) (opn_int Tryd.underlying3)))))))
def V30 (x : S30) : Prop := ((Lit.int .i64 x.f0).wf = true) ∧ ((Lit.int .i64 x.f1).wf = true)
theorem opn30 : Opn Tryd.prog 30 k30 V30 := opn_struct Tryd.underlying30 rfl (by kernel_rfl) (fun x : S30 => (x.f0, x.f1)) (fun y => (⟨y.1, y.2⟩ : S30)) (fun _ => rfl) (opn_cons rfl (by kernel_rfl) (opn_int Tryd.underlying3) (opn_last rfl (by kernel_rfl) (opn_int Tryd.underlying2)))
def V32 (x : S32) : Prop := (V30 x.f0) ∧ ((Lit.int .i64 x.f1).wf = true) ∧ ((Lit.int .i64 x.f2).wf = true)
theorem opn32 : Opn Tryd.prog 32 k32 V32 := opn_struct Tryd.underlying32 rfl (by kernel_rfl) (fun x : S32 => (x.f0, x.f1, x.f2)) (fun y => (⟨y.1, y.2.1, y.2.2⟩ : S32)) (fun _ => rfl) (opn_cons rfl (by kernel_rfl) opn30 (opn_cons rfl (by kernel_rfl) (opn_int Tryd.underlying3) (opn_last rfl (by kernel_rfl) (opn_int Tryd.underlying3))))
def V34 (x : S34) : Prop := ((Lit.int .i64 x.f0).wf = true) ∧ (V32 x.f1)
theorem opn34 : Opn Tryd.prog 34 k34 V34 := opn_struct Tryd.underlying34 rfl (by kernel_rfl) (fun x : S34 => (x.f0, x.f1)) (fun y => (⟨y.1, y.2⟩ : S34)) (fun _ => rfl) (opn_cons rfl (by kernel_rfl) (opn_int Tryd.underlying3) (opn_last rfl (by kernel_rfl) opn32))
end Go.Proofs.YtbccjcdmpiolpaaDoor.T
end
section
namespace Go.Proofs.YtbccjcdmpiolpaaDoor.T
open Go.RowKit Go.Proofs.YtbccjcdmpiolpaaDoorW.PrintWords
def plenumlaw41_TrendRing.Pure : Prop := ∀ (x0 : S23) (a1 : Int) (a2 : Int) (l3 : List (S34)), (V23 x0) → ((Lit.int .i64 a1).wf = true) → ((Lit.int .i64 a2).wf = true) → (l3.length * 40 ≤ 140737488351232 ∧ ∀ y ∈ l3, V34 y) → ∃ k, plenumlaw41_TrendRing.f k x0.f0 x0.f1 x0.f2 x0.f3 x0.f4 x0.f5 a1 a2 l3 = some true
end Go.Proofs.YtbccjcdmpiolpaaDoor.T
end
section
namespace Go.Proofs.YtbccjcdmpiolpaaDoor.Pure
open Go.RowKit Go.Proofs.YtbccjcdmpiolpaaDoor.T
theorem TrendRing : plenumlaw41_TrendRing.Pure := by
 unfold plenumlaw41_TrendRing.Pure
 intros
 exact ⟨0, rfl⟩
end Go.Proofs.YtbccjcdmpiolpaaDoor.Pure
end
section
namespace Go.Proofs.YtbccjcdmpiolpaaDoor.trendRing
open Go.ChangeShapes Go.WideShapes Go.ChangeAt Go.RowKit
open Go.ChangeMaps (open_string shut_string)
open Go.Proofs.YtbccjcdmpiolpaaDoor.Opn Go.Proofs.YtbccjcdmpiolpaaDoorW.PrintWords Go.Proofs.YtbccjcdmpiolpaaDoor.T
set_option linter.unusedVariables false
theorem own : ownKnob Tryd.prog.godebug = none := by kernel_rfl
theorem laidOut : laidOutB Tryd.prog = true := by kernel_rfl
set_option maxHeartbeats 2000000 in
set_option maxRecDepth 100000 in
theorem lifted (os : Os) (started : os.Started) (H : Type) (enc : TypeId × Value → H) :
  ReturnsInHanded {} Tryd.checked os 7 .any (fun w args => (Rows.trendRingSpec.pre enc Tryd.prog Tryd.f7 Rows.trendRingRow.domain false w args ∧ laidMet Tryd.prog theLaid w) ∧ sizedMet enc Tryd.prog Tryd.f7 (OpenSpec.ofChange Rows.trendRingSpec) false w args) (Rows.trendRingSpec.post enc Tryd.prog Tryd.f7 false true false false) := by
 refine returnsInHanded_of_change_and (C := Tryd.checked) (X := fun w _ => laidMet Tryd.prog theLaid w) (fun _ _ _ hh h => h.of_heap hh) own started (by kernel_rfl) Tryd.func7
  (ChangeSpec.witness_at (enc := enc) (C := Tryd.checked) (os := os) (X := fun w _ => laidMet Tryd.prog theLaid w) false (laidWorld os) #[(.agg #[(.string ⟨#[]⟩), (.string ⟨#[]⟩), (.int .i64 0), (.int .i64 0), (.int .i64 0), (.int .i64 0)]), .int .i64 0, .int .i64 0, .slice none 0 0] 8 rfl (by kernel_rfl) (by kernel_rfl) (by kernel_rfl) (by kernel_rfl) (by kernel_rfl) (laidWorld_met os _)) ?_
 intro W base args ds gs before hval0 hW hcnd hsz0 hL0 _
 have hGl := glob_of_laid hL0
 have hsz : (DataW.weightsEach Tryd.prog (Tryd.f7.params.toList ++ Rows.trendRingSpec.plain.varTypes Tryd.prog) (ds ++ gs)).all (· ≤ reachBytes) = true := hsz0
 have hval : ∀ (j : Nat) t v, Tryd.f7.params[j]? = some t → args[j]? = some v → Value.okWide Tryd.prog W .any base t v := hval0
 have hW' := hW
 obtain ⟨p, q, hA0, hV, rfl, hfz, hnd⟩ := hW
 have hA : DataW.TrodAll enc Tryd.prog W 0 (fun _ => true) true Tryd.f7.params.toList args.toList ds p := hA0
 rw [Tryd.params7] at hA hval hsz
 obtain ⟨v0, vs0, d0, ds0, p0, q0, hargs, rfl, rfl, h0, r0⟩ := trodAll_cons hA
 obtain ⟨v1, vs1, d1, ds1, p1, q1, rfl, rfl, rfl, h1, r1⟩ := trodAll_cons r0
 obtain ⟨v2, vs2, d2, ds2, p2, q2, rfl, rfl, rfl, h2, r2⟩ := trodAll_cons r1
 obtain ⟨v3, vs3, d3, ds3, p3, q3, rfl, rfl, rfl, h3, r3⟩ := trodAll_cons r2
 obtain ⟨rfl, rfl, rfl⟩ := trodAll_nil r3
 obtain rfl : args = #[v0, v1, v2, v3] := by cases args; simp_all
 obtain ⟨rfl, rfl⟩ := trodVars_none hV
 have k0 := h0
 have lt0 : ∀ x ∈ p0, x.block < W.heap.size := by obtain ⟨m, hm⟩ := k0; exact DataW.trod_lt m _ _ _ hm
 obtain ⟨cs0, hcs0, _⟩ := okWide_struct Tryd.underlying23 (hval 0 23 v0 rfl rfl)
 obtain ⟨x0, ⟨l0, hv0, hK0⟩, hV0⟩ := arg_struct opn23 cs0 hcs0 h0 (arg_weights hsz (j := 0) (t := 23) rfl rfl)
 obtain rfl := k23_open hK0
 clear hcs0
 subst hv0
 obtain ⟨a1, rfl, rfl, rfl, w1⟩ := open_int Tryd.underlying3 (hval 1 3 v1 rfl rfl) h1
 obtain ⟨a2, rfl, rfl, rfl, w2⟩ := open_int Tryd.underlying3 (hval 2 3 v2 rfl rfl) h2
 have k3 := h3
 have lt3 : ∀ x ∈ p3, x.block < W.heap.size := by obtain ⟨m, hm⟩ := k3; exact DataW.trod_lt m _ _ _ hm
 obtain ⟨b3, len3, cap3, hb3⟩ := okWide_slice Tryd.underlying24 (hval 3 24 v3 rfl rfl)
 obtain ⟨A3, c3, l3, hv3, hc3, hr3, hV3⟩ := arg_slice (opn_slice (B := 40) Tryd.underlying24 (by kernel_rfl) (by kernel_rfl) opn34) b3 len3 cap3 hb3 h3 (arg_weights hsz (j := 3) (t := 24) rfl rfl)
 clear hb3
 subst hv3
 clear hA0 hval0 hsz0 hsz
 obtain ⟨k, h⟩ := Pure.TrendRing x0 a1 a2 l3 hV0 w1 w2 hV3
 refine (T.plenumlaw41_TrendRing.calls k x0.f0 x0.f1 x0.f2 x0.f3 x0.f4 x0.f5 a1 a2 A3 c3 l3 true W hGl hr3 hc3 h).mono fun e W' ⟨he, bel0⟩ => ?_
 have bel : Below W.heap.size W W' := bel0
 subst he
 exact ⟨_, rfl, _, _, _, [], _, [], hW', trodAll_mk1 (shut_bool Tryd.underlying4 _), (trodAll_cons_mk (Below.trod laidOut (by kernel_rfl) (of_decide_eq_true (by kernel_rfl)) k0 bel lt0) (trodAll_cons_mk (shut_int Tryd.underlying3 w1) (trodAll_cons_mk (shut_int Tryd.underlying3 w2) (trodAll_cons_mk (Below.trod laidOut (by kernel_rfl) (of_decide_eq_true (by kernel_rfl)) k3 bel lt3) trodAll_mk0)))), rfl, bel.frame _, fun h => by cases h⟩
theorem over : Rows.trendRingRow.holds Tryd.pinned (OpenSpec.ofChange Rows.trendRingSpec) :=
 OpenClaim.holds_of_wide 7 Tryd.f7 rfl rfl rfl rfl rfl rfl rfl ⟨rfl, rfl, rfl, rfl, rfl⟩ rfl rfl rfl rfl rfl (by kernel_rfl) Tryd.func7 (by kernel_rfl)
  (of_decide_eq_true (by kernel_rfl)) (by unfold Func.isWrapper; first | (rw [if_pos (by decide +kernel)]; kernel_rfl) | (rw [if_neg (by decide +kernel)]; exact ⟨rfl, rfl⟩))
  (fun os started H enc _ => lifted os started H enc)
theorem card_holds : Rows.TrendRingCardSaid :=
 Claim7.holds_tied_plain_at .later [] [.data] true (true, "81b80afe1b1faae234c654a01e677b6be036c5dcdb6685c327ef4299df421bea") false
  over (fun _ h => by cases h) (by kernel_rfl) (fun _ h => by cases h) trendRing_row_tie rfl ⟨rfl, rfl⟩ (by kernel_rfl) rfl
  (fun f fn hf hfn => by
   obtain rfl : f = 7 := Option.some.inj ((show Tryd.prog.funcNamed "plenum/plenumlaw41.TrendRing" = some 7 by kernel_rfl).symm.trans hf) |>.symm
   obtain rfl : fn = Tryd.f7 := (Option.some.inj (Tryd.func7.symm.trans hfn)).symm
   exact ⟨by kernel_rfl, fun j t ht => by
    rw [Tryd.params7] at ht
    have ho : t = 3 ∨ t = 23 ∨ t = 24 := by
     rcases j with _ | _ | _ | _ | j
     all_goals simp at ht
     all_goals subst ht; simp
    obtain rfl | rfl | rfl := ho
    ·exact (show Tryd.prog.wantsStandIn 3 = false by kernel_rfl)
    ·exact (show Tryd.prog.wantsStandIn 23 = false by kernel_rfl)
    ·exact (show Tryd.prog.wantsStandIn 24 = false by kernel_rfl)⟩)
  (by kernel_rfl)
#print axioms card_holds
end Go.Proofs.YtbccjcdmpiolpaaDoor.trendRing
namespace Go.Proofs.YtbccjcdmpiolpaaDoor
theorem trendRing_holds : Rows.TrendRingCardSaid := trendRing.card_holds
end Go.Proofs.YtbccjcdmpiolpaaDoor
end
