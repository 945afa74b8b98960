/- SegmentPartsCard: one part of the proof that the law answers true for every input, and that its arguments read afterwards as before. No condition. -/
import Derived.Test.YtbgabhknmpbgiaaDoorCParts3
import Derived.Outline
import Derived.Deep.OwnRows
import Derived.LoopTactic
section
namespace Go.Proofs.YtbgabhknmpbgiaaDoor.S
open Go.RowKit Go.Proofs.YtbgabhknmpbgiaaDoor.Pure Go.Proofs.YtbgabhknmpbgiaaDoorW.PrintWords Go.Proofs.YtbgabhknmpbgiaaDoorW.PrintLast Go.Proofs.YtbgabhknmpbgiaaDoorW.PrintMore
set_option linter.unusedVariables false
set_option linter.unusedSimpArgs false
attribute [local go_sem] max2_int min2_int max_two min_two
abbrev zA (e : Int) : Int × Int × Int × Bool × Int × ByteArray × Int := (0, 0, 0, false, 0, (⟨#[]⟩ : ByteArray), e)
def RDPost (w : World) (r : Int × Int × Int × Bool × Int × ByteArray × Int) (e : Ending) (w' : World) : Prop := e = .returned (.tuple #[.agg #[.int .i64 r.1, .int .i64 r.2.1, .int .i64 r.2.2.1, .bool r.2.2.2.1, .int .i64 r.2.2.2.2.1, .string r.2.2.2.2.2.1], .int .i64 r.2.2.2.2.2.2]) ∧ Below w.heap.size w w'
set_option maxHeartbeats 16000000 in
set_option maxRecDepth 100000 in
theorem rdec1 (s : ByteArray) (w : World) (hG : Glob w) (n p1 : Int) (ok1 : Bool) (hh : plenumref02_ReadHead.f 30 s 0 = some (n, p1, ok1)) (hbad : ok1 = false ∨ n ≠ 6) : Calls Tryd.prog 15 #[.string s] w fun e w' => RDPost w (zA 2) e w' := by
 have HG := Aside0.mk hG
 have HH := Aside0.mk hh
 clear hG hh
 cases ok1 with
 | false =>
  clear hbad
  go_enter Tryd.func15, Tryd.ntmps15
  go_wp2_with (first | ((with_reducible refine gate_dst (N := 2) rfl ?_); refine box_event ?hg (N := 2) ?hd (cs := #[.int .i64 0, .int .i64 0, .int .i64 0, .bool false, .int .i64 0, .string ⟨#[]⟩]) (t := 27) ?hr ?_; (case hd => rfl); (case hg => rfl); (case hr => first | (go_simp; done) | (go_simp; rfl)); intro gq hgq wa hbox hb; have HQa := Aside0.mk hbox; have HBa := Aside0.mk hb; have HQW := Aside0.mk (show w.heap.size ≤ gq by rw [hgq]; exact Nat.le_refl _); clear hb hbox hgq) | (go_at_call 52; (with_reducible refine (plenumref02_ReadHead.calls 30 s 0 n p1 false _ (Glob.below HG.out HBa.out) HH.out).mono ?_); rintro e wb ⟨rfl, hb⟩; have HBb := Aside0.mk (below_step HBa.out hb); have HQb := Aside0.mk (blk_below HQa.out hb); clear hb) | (refine wpList_store_row rfl 27 (.tmp 2) (.tmp _) rfl gq #[.int .i64 0, .int .i64 0, .int .i64 0, .bool false, .int .i64 0, .string ⟨#[]⟩] rfl rfl 27 #[.int .i64 0, .int .i64 0, .int .i64 0, .bool false, .int .i64 0, .string ⟨#[]⟩] HQb.out (by kernel_rfl) rfl (by simp [Value.oneCell']) ?_))
  refine bodyPost_ret (results_ct rfl _ _ gq 27 #[.int .i64 0, .int .i64 0, .int .i64 0, .bool false, .int .i64 0, .string ⟨#[]⟩] (0, 0) _ rfl (setRow_heap _ _ _ _ _ _ HQb.out) Tryd.underlying27 rfl (by kernel_rfl)) rfl ⟨rfl, ?_⟩
  exact below_setRow HBb.out HQW.out _
 | true =>
  have hnb : (n != 6) = true := bne_iff_ne.mpr (hbad.elim (fun h => by cases h) id)
  clear hbad
  go_enter Tryd.func15, Tryd.ntmps15
  go_wp2_with (first | ((with_reducible refine gate_dst (N := 2) rfl ?_); refine box_event ?hg (N := 2) ?hd (cs := #[.int .i64 0, .int .i64 0, .int .i64 0, .bool false, .int .i64 0, .string ⟨#[]⟩]) (t := 27) ?hr ?_; (case hd => rfl); (case hg => rfl); (case hr => first | (go_simp; done) | (go_simp; rfl)); intro gq hgq wa hbox hb; have HQa := Aside0.mk hbox; have HBa := Aside0.mk hb; have HQW := Aside0.mk (show w.heap.size ≤ gq by rw [hgq]; exact Nat.le_refl _); clear hb hbox hgq) | (go_at_call 52; (with_reducible refine (plenumref02_ReadHead.calls 30 s 0 n p1 true _ (Glob.below HG.out HBa.out) HH.out).mono ?_); rintro e wb ⟨rfl, hb⟩; have HBb := Aside0.mk (below_step HBa.out hb); have HQb := Aside0.mk (blk_below HQa.out hb); clear hb) | (refine wpList_store_row rfl 27 (.tmp 2) (.tmp _) rfl gq #[.int .i64 0, .int .i64 0, .int .i64 0, .bool false, .int .i64 0, .string ⟨#[]⟩] rfl rfl 27 #[.int .i64 0, .int .i64 0, .int .i64 0, .bool false, .int .i64 0, .string ⟨#[]⟩] HQb.out (by kernel_rfl) rfl (by simp [Value.oneCell']) ?_))
  refine bodyPost_ret (results_ct rfl _ _ gq 27 #[.int .i64 0, .int .i64 0, .int .i64 0, .bool false, .int .i64 0, .string ⟨#[]⟩] (0, 0) _ rfl (setRow_heap _ _ _ _ _ _ HQb.out) Tryd.underlying27 rfl (by kernel_rfl)) rfl ⟨rfl, ?_⟩
  exact below_setRow HBb.out HQW.out _
set_option maxHeartbeats 16000000 in
set_option maxRecDepth 100000 in
theorem rdec2 (s : ByteArray) (w : World) (hG : Glob w) (n p1 : Int) (hh : plenumref02_ReadHead.f 30 s 0 = some (n, p1, true)) (hn : n = 6) (k p2 : Int) (hk : plenumref49_small.f 30 s p1 = some (k, p2, false)) : Calls Tryd.prog 15 #[.string s] w fun e w' => RDPost w (zA 2) e w' := by
 have HG := Aside0.mk hG
 have HH := Aside0.mk hh
 have hnb : (n != 6) = false := by rw [hn]; rfl
 clear hG hh hn
 have HK := Aside0.mk hk
 clear hk
 go_enter Tryd.func15, Tryd.ntmps15
 go_wp2_with (first | ((with_reducible refine gate_dst (N := 2) rfl ?_); refine box_event ?hg (N := 2) ?hd (cs := #[.int .i64 0, .int .i64 0, .int .i64 0, .bool false, .int .i64 0, .string ⟨#[]⟩]) (t := 27) ?hr ?_; (case hd => rfl); (case hg => rfl); (case hr => first | (go_simp; done) | (go_simp; rfl)); intro gq hgq wa hbox hb; have HQa := Aside0.mk hbox; have HBa := Aside0.mk hb; have HQW := Aside0.mk (show w.heap.size ≤ gq by rw [hgq]; exact Nat.le_refl _); clear hb hbox hgq) | (go_at_call 52; (with_reducible refine (plenumref02_ReadHead.calls 30 s 0 n p1 true _ (Glob.below HG.out HBa.out) HH.out).mono ?_); rintro e wb ⟨rfl, hb⟩; have HBb := Aside0.mk (below_step HBa.out hb); have HQb := Aside0.mk (blk_below HQa.out hb); clear hb) | ((with_reducible refine gate_dst (N := 7) rfl ?_); refine box_event ?hg (N := 7) ?hd (cs := #[.int .i64 0, .int .i64 0, .int .i64 0, .bool false, .int .i64 0, .string ⟨#[]⟩]) (t := 27) ?hr ?_; (case hd => rfl); (case hg => rfl); (case hr => first | (go_simp; done) | (go_simp; rfl)); intro gp hgp wp hbox hb; have HPp := Aside0.mk hbox; have HQp := Aside0.mk (blk_below HQb.out hb); have HBp := Aside0.mk (below_step HBb.out hb); have HNE := Aside0.mk (show gq ≠ gp by rw [hgp]; exact Nat.ne_of_lt (blk_lt HQb.out)); have HGP := Aside0.mk (show w.heap.size ≤ gp by rw [hgp]; exact HBb.out.size); clear hb hbox hgp) | (refine wpList_store_row rfl 27 (.tmp 7) (.tmp 29) rfl gp #[.int .i64 0, .int .i64 0, .int .i64 0, .bool false, .int .i64 0, .string ⟨#[]⟩] rfl rfl 27 #[.int .i64 0, .int .i64 0, .int .i64 0, .bool false, .int .i64 0, .string ⟨#[]⟩] HPp.out (by kernel_rfl) rfl (by simp [Value.oneCell']) ?_; have HPr := Aside0.mk (setRow_heap _ _ _ #[.int .i64 0, .int .i64 0, .int .i64 0, .bool false, .int .i64 0, .string ⟨#[]⟩] _ _ HPp.out); have HQr := Aside0.mk ((setRow_other wp gp gq #[.int .i64 0, .int .i64 0, .int .i64 0, .bool false, .int .i64 0, .string ⟨#[]⟩] HNE.out).trans HQp.out); have HBr := Aside0.mk (below_setRow HBp.out HGP.out #[.int .i64 0, .int .i64 0, .int .i64 0, .bool false, .int .i64 0, .string ⟨#[]⟩]); generalize wp.setRow gp #[.int .i64 0, .int .i64 0, .int .i64 0, .bool false, .int .i64 0, .string ⟨#[]⟩] = wr at HPr HQr HBr ⊢) | (go_at_call 53; (with_reducible refine (plenumref49_small.calls 30 s p1 k p2 false _ (Glob.below HG.out HBr.out) HK.out).mono ?_); rintro e wc ⟨rfl, hb⟩; have HBc := Aside0.mk (below_step HBr.out hb); have HQc := Aside0.mk (blk_below HQr.out hb); have HPc := Aside0.mk (blk_below HPr.out hb); have cc0 := (blk_cell HPc.out 0).trans rfl; have fc0 := blk_frozen HPc.out 0; clear hb) | (refine wpList_store_row rfl 27 (.tmp 2) (.tmp _) rfl gq #[.int .i64 0, .int .i64 0, .int .i64 0, .bool false, .int .i64 0, .string ⟨#[]⟩] rfl rfl 27 #[.int .i64 0, .int .i64 0, .int .i64 0, .bool false, .int .i64 0, .string ⟨#[]⟩] (blk_far HQc.out (p := ⟨gp, 0, none⟩) HNE.out (.int .i64 k)) (by kernel_rfl) rfl (by simp [Value.oneCell']) ?_))
 refine bodyPost_ret (results_ct rfl _ _ gq 27 #[.int .i64 0, .int .i64 0, .int .i64 0, .bool false, .int .i64 0, .string ⟨#[]⟩] (0, 0) _ rfl (setRow_heap _ _ _ _ _ _ (blk_far HQc.out (p := ⟨gp, 0, none⟩) HNE.out (.int .i64 k))) Tryd.underlying27 rfl (by kernel_rfl)) rfl ⟨rfl, ?_⟩
 exact below_setRow (HBc.out.setCell (p := ⟨gp, 0, none⟩) HGP.out (.int .i64 k)) HQW.out _
set_option maxHeartbeats 16000000 in
set_option maxRecDepth 100000 in
theorem rdec3 (s : ByteArray) (w : World) (hG : Glob w) (n p1 : Int) (hh : plenumref02_ReadHead.f 30 s 0 = some (n, p1, true)) (hn : n = 6) (k p2 : Int) (hk : plenumref49_small.f 30 s p1 = some (k, p2, true)) (i p3 : Int) (hi : plenumref49_small.f 30 s p2 = some (i, p3, false)) : Calls Tryd.prog 15 #[.string s] w fun e w' => RDPost w (zA 2) e w' := by
 have HG := Aside0.mk hG
 have HH := Aside0.mk hh
 have hnb : (n != 6) = false := by rw [hn]; rfl
 clear hG hh hn
 have HK := Aside0.mk hk
 clear hk
 have HI := Aside0.mk hi
 clear hi
 go_enter Tryd.func15, Tryd.ntmps15
 go_wp2_with (first | ((with_reducible refine gate_dst (N := 2) rfl ?_); refine box_event ?hg (N := 2) ?hd (cs := #[.int .i64 0, .int .i64 0, .int .i64 0, .bool false, .int .i64 0, .string ⟨#[]⟩]) (t := 27) ?hr ?_; (case hd => rfl); (case hg => rfl); (case hr => first | (go_simp; done) | (go_simp; rfl)); intro gq hgq wa hbox hb; have HQa := Aside0.mk hbox; have HBa := Aside0.mk hb; have HQW := Aside0.mk (show w.heap.size ≤ gq by rw [hgq]; exact Nat.le_refl _); clear hb hbox hgq) | (go_at_call 52; (with_reducible refine (plenumref02_ReadHead.calls 30 s 0 n p1 true _ (Glob.below HG.out HBa.out) HH.out).mono ?_); rintro e wb ⟨rfl, hb⟩; have HBb := Aside0.mk (below_step HBa.out hb); have HQb := Aside0.mk (blk_below HQa.out hb); clear hb) | ((with_reducible refine gate_dst (N := 7) rfl ?_); refine box_event ?hg (N := 7) ?hd (cs := #[.int .i64 0, .int .i64 0, .int .i64 0, .bool false, .int .i64 0, .string ⟨#[]⟩]) (t := 27) ?hr ?_; (case hd => rfl); (case hg => rfl); (case hr => first | (go_simp; done) | (go_simp; rfl)); intro gp hgp wp hbox hb; have HPp := Aside0.mk hbox; have HQp := Aside0.mk (blk_below HQb.out hb); have HBp := Aside0.mk (below_step HBb.out hb); have HNE := Aside0.mk (show gq ≠ gp by rw [hgp]; exact Nat.ne_of_lt (blk_lt HQb.out)); have HGP := Aside0.mk (show w.heap.size ≤ gp by rw [hgp]; exact HBb.out.size); clear hb hbox hgp) | (refine wpList_store_row rfl 27 (.tmp 7) (.tmp 29) rfl gp #[.int .i64 0, .int .i64 0, .int .i64 0, .bool false, .int .i64 0, .string ⟨#[]⟩] rfl rfl 27 #[.int .i64 0, .int .i64 0, .int .i64 0, .bool false, .int .i64 0, .string ⟨#[]⟩] HPp.out (by kernel_rfl) rfl (by simp [Value.oneCell']) ?_; have HPr := Aside0.mk (setRow_heap _ _ _ #[.int .i64 0, .int .i64 0, .int .i64 0, .bool false, .int .i64 0, .string ⟨#[]⟩] _ _ HPp.out); have HQr := Aside0.mk ((setRow_other wp gp gq #[.int .i64 0, .int .i64 0, .int .i64 0, .bool false, .int .i64 0, .string ⟨#[]⟩] HNE.out).trans HQp.out); have HBr := Aside0.mk (below_setRow HBp.out HGP.out #[.int .i64 0, .int .i64 0, .int .i64 0, .bool false, .int .i64 0, .string ⟨#[]⟩]); generalize wp.setRow gp #[.int .i64 0, .int .i64 0, .int .i64 0, .bool false, .int .i64 0, .string ⟨#[]⟩] = wr at HPr HQr HBr ⊢) | (go_at_call 53; (with_reducible refine (plenumref49_small.calls 30 s p1 k p2 true _ (Glob.below HG.out HBr.out) HK.out).mono ?_); rintro e wc ⟨rfl, hb⟩; have HBc := Aside0.mk (below_step HBr.out hb); have HQc := Aside0.mk (blk_below HQr.out hb); have HPc := Aside0.mk (blk_below HPr.out hb); have cc0 := (blk_cell HPc.out 0).trans rfl; have fc0 := blk_frozen HPc.out 0; clear hb) | (go_at_call 53; (with_reducible refine (plenumref49_small.calls 30 s p2 i p3 false _ (Glob.below HG.out (HBc.out.setCell (p := ⟨gp, 0, none⟩) HGP.out (.int .i64 k))) HI.out).mono ?_); rintro e wd ⟨rfl, hb⟩; have HBd := Aside0.mk (below_step (HBc.out.setCell (p := ⟨gp, 0, none⟩) HGP.out (.int .i64 k)) hb); have HQd := Aside0.mk (blk_below (blk_far HQc.out (p := ⟨gp, 0, none⟩) HNE.out (.int .i64 k)) hb); have HPd := Aside0.mk (blk_below (blk_put HPc.out 0 (.int .i64 k) rfl) hb); have cd1 := (blk_cell HPd.out 1).trans rfl; have fd1 := blk_frozen HPd.out 1; clear hb) | (refine wpList_store_row rfl 27 (.tmp 2) (.tmp _) rfl gq #[.int .i64 0, .int .i64 0, .int .i64 0, .bool false, .int .i64 0, .string ⟨#[]⟩] rfl rfl 27 #[.int .i64 0, .int .i64 0, .int .i64 0, .bool false, .int .i64 0, .string ⟨#[]⟩] (blk_far HQd.out (p := ⟨gp, 1, none⟩) HNE.out (.int .i64 i)) (by kernel_rfl) rfl (by simp [Value.oneCell']) ?_))
 refine bodyPost_ret (results_ct rfl _ _ gq 27 #[.int .i64 0, .int .i64 0, .int .i64 0, .bool false, .int .i64 0, .string ⟨#[]⟩] (0, 0) _ rfl (setRow_heap _ _ _ _ _ _ (blk_far HQd.out (p := ⟨gp, 1, none⟩) HNE.out (.int .i64 i))) Tryd.underlying27 rfl (by kernel_rfl)) rfl ⟨rfl, ?_⟩
 exact below_setRow (HBd.out.setCell (p := ⟨gp, 1, none⟩) HGP.out (.int .i64 i)) HQW.out _
set_option maxHeartbeats 16000000 in
set_option maxRecDepth 100000 in
theorem rdec4 (s : ByteArray) (w : World) (hG : Glob w) (n p1 : Int) (hh : plenumref02_ReadHead.f 30 s 0 = some (n, p1, true)) (hn : n = 6) (k p2 : Int) (hk : plenumref49_small.f 30 s p1 = some (k, p2, true)) (i p3 : Int) (hi : plenumref49_small.f 30 s p2 = some (i, p3, true)) (num p4 : Int) (hs : plenumref02_ReadSigned.f 30 s p3 = some (num, p4, false)) : Calls Tryd.prog 15 #[.string s] w fun e w' => RDPost w (zA 2) e w' := by
 have HG := Aside0.mk hG
 have HH := Aside0.mk hh
 have hnb : (n != 6) = false := by rw [hn]; rfl
 clear hG hh hn
 have HK := Aside0.mk hk
 clear hk
 have HI := Aside0.mk hi
 clear hi
 have HN := Aside0.mk hs
 clear hs
 go_enter Tryd.func15, Tryd.ntmps15
 go_wp2_with (first | ((with_reducible refine gate_dst (N := 2) rfl ?_); refine box_event ?hg (N := 2) ?hd (cs := #[.int .i64 0, .int .i64 0, .int .i64 0, .bool false, .int .i64 0, .string ⟨#[]⟩]) (t := 27) ?hr ?_; (case hd => rfl); (case hg => rfl); (case hr => first | (go_simp; done) | (go_simp; rfl)); intro gq hgq wa hbox hb; have HQa := Aside0.mk hbox; have HBa := Aside0.mk hb; have HQW := Aside0.mk (show w.heap.size ≤ gq by rw [hgq]; exact Nat.le_refl _); clear hb hbox hgq) | (go_at_call 52; (with_reducible refine (plenumref02_ReadHead.calls 30 s 0 n p1 true _ (Glob.below HG.out HBa.out) HH.out).mono ?_); rintro e wb ⟨rfl, hb⟩; have HBb := Aside0.mk (below_step HBa.out hb); have HQb := Aside0.mk (blk_below HQa.out hb); clear hb) | ((with_reducible refine gate_dst (N := 7) rfl ?_); refine box_event ?hg (N := 7) ?hd (cs := #[.int .i64 0, .int .i64 0, .int .i64 0, .bool false, .int .i64 0, .string ⟨#[]⟩]) (t := 27) ?hr ?_; (case hd => rfl); (case hg => rfl); (case hr => first | (go_simp; done) | (go_simp; rfl)); intro gp hgp wp hbox hb; have HPp := Aside0.mk hbox; have HQp := Aside0.mk (blk_below HQb.out hb); have HBp := Aside0.mk (below_step HBb.out hb); have HNE := Aside0.mk (show gq ≠ gp by rw [hgp]; exact Nat.ne_of_lt (blk_lt HQb.out)); have HGP := Aside0.mk (show w.heap.size ≤ gp by rw [hgp]; exact HBb.out.size); clear hb hbox hgp) | (refine wpList_store_row rfl 27 (.tmp 7) (.tmp 29) rfl gp #[.int .i64 0, .int .i64 0, .int .i64 0, .bool false, .int .i64 0, .string ⟨#[]⟩] rfl rfl 27 #[.int .i64 0, .int .i64 0, .int .i64 0, .bool false, .int .i64 0, .string ⟨#[]⟩] HPp.out (by kernel_rfl) rfl (by simp [Value.oneCell']) ?_; have HPr := Aside0.mk (setRow_heap _ _ _ #[.int .i64 0, .int .i64 0, .int .i64 0, .bool false, .int .i64 0, .string ⟨#[]⟩] _ _ HPp.out); have HQr := Aside0.mk ((setRow_other wp gp gq #[.int .i64 0, .int .i64 0, .int .i64 0, .bool false, .int .i64 0, .string ⟨#[]⟩] HNE.out).trans HQp.out); have HBr := Aside0.mk (below_setRow HBp.out HGP.out #[.int .i64 0, .int .i64 0, .int .i64 0, .bool false, .int .i64 0, .string ⟨#[]⟩]); generalize wp.setRow gp #[.int .i64 0, .int .i64 0, .int .i64 0, .bool false, .int .i64 0, .string ⟨#[]⟩] = wr at HPr HQr HBr ⊢) | (go_at_call 53; (with_reducible refine (plenumref49_small.calls 30 s p1 k p2 true _ (Glob.below HG.out HBr.out) HK.out).mono ?_); rintro e wc ⟨rfl, hb⟩; have HBc := Aside0.mk (below_step HBr.out hb); have HQc := Aside0.mk (blk_below HQr.out hb); have HPc := Aside0.mk (blk_below HPr.out hb); have cc0 := (blk_cell HPc.out 0).trans rfl; have fc0 := blk_frozen HPc.out 0; clear hb) | (go_at_call 53; (with_reducible refine (plenumref49_small.calls 30 s p2 i p3 true _ (Glob.below HG.out (HBc.out.setCell (p := ⟨gp, 0, none⟩) HGP.out (.int .i64 k))) HI.out).mono ?_); rintro e wd ⟨rfl, hb⟩; have HBd := Aside0.mk (below_step (HBc.out.setCell (p := ⟨gp, 0, none⟩) HGP.out (.int .i64 k)) hb); have HQd := Aside0.mk (blk_below (blk_far HQc.out (p := ⟨gp, 0, none⟩) HNE.out (.int .i64 k)) hb); have HPd := Aside0.mk (blk_below (blk_put HPc.out 0 (.int .i64 k) rfl) hb); have cd1 := (blk_cell HPd.out 1).trans rfl; have fd1 := blk_frozen HPd.out 1; clear hb) | (go_at_call 54; (with_reducible refine (plenumref02_ReadSigned.calls 30 s p3 num p4 false _ (Glob.below HG.out (HBd.out.setCell (p := ⟨gp, 1, none⟩) HGP.out (.int .i64 i))) HN.out).mono ?_); rintro e we ⟨rfl, hb⟩; have HBe := Aside0.mk (below_step (HBd.out.setCell (p := ⟨gp, 1, none⟩) HGP.out (.int .i64 i)) hb); have HQe := Aside0.mk (blk_below (blk_far HQd.out (p := ⟨gp, 1, none⟩) HNE.out (.int .i64 i)) hb); have HPe := Aside0.mk (blk_below (blk_put HPd.out 1 (.int .i64 i) rfl) hb); clear hb) | (refine wpList_store_row rfl 27 (.tmp 2) (.tmp _) rfl gq #[.int .i64 0, .int .i64 0, .int .i64 0, .bool false, .int .i64 0, .string ⟨#[]⟩] rfl rfl 27 #[.int .i64 0, .int .i64 0, .int .i64 0, .bool false, .int .i64 0, .string ⟨#[]⟩] HQe.out (by kernel_rfl) rfl (by simp [Value.oneCell']) ?_))
 refine bodyPost_ret (results_ct rfl _ _ gq 27 #[.int .i64 0, .int .i64 0, .int .i64 0, .bool false, .int .i64 0, .string ⟨#[]⟩] (0, 0) _ rfl (setRow_heap _ _ _ _ _ _ HQe.out) Tryd.underlying27 rfl (by kernel_rfl)) rfl ⟨rfl, ?_⟩
 exact below_setRow HBe.out HQW.out _
set_option maxHeartbeats 16000000 in
set_option maxRecDepth 100000 in
theorem rdec5 (s : ByteArray) (w : World) (hG : Glob w) (n p1 : Int) (hh : plenumref02_ReadHead.f 30 s 0 = some (n, p1, true)) (hn : n = 6) (k p2 : Int) (hk : plenumref49_small.f 30 s p1 = some (k, p2, true)) (i p3 : Int) (hi : plenumref49_small.f 30 s p2 = some (i, p3, true)) (num p4 : Int) (hs : plenumref02_ReadSigned.f 30 s p3 = some (num, p4, true)) (kd : Int) (hd : plenumref02_Kind.f 30 s p4 = some kd) (hk2 : kd ≠ 2) : Calls Tryd.prog 15 #[.string s] w fun e w' => RDPost w (zA 2) e w' := by
 have HG := Aside0.mk hG
 have HH := Aside0.mk hh
 have hnb : (n != 6) = false := by rw [hn]; rfl
 clear hG hh hn
 have HK := Aside0.mk hk
 clear hk
 have HI := Aside0.mk hi
 clear hi
 have HN := Aside0.mk hs
 clear hs
 have HD := Aside0.mk hd
 clear hd
 have hkb : (kd != 2) = true := bne_iff_ne.mpr hk2
 go_enter Tryd.func15, Tryd.ntmps15
 go_wp2_with (first | ((with_reducible refine gate_dst (N := 2) rfl ?_); refine box_event ?hg (N := 2) ?hd (cs := #[.int .i64 0, .int .i64 0, .int .i64 0, .bool false, .int .i64 0, .string ⟨#[]⟩]) (t := 27) ?hr ?_; (case hd => rfl); (case hg => rfl); (case hr => first | (go_simp; done) | (go_simp; rfl)); intro gq hgq wa hbox hb; have HQa := Aside0.mk hbox; have HBa := Aside0.mk hb; have HQW := Aside0.mk (show w.heap.size ≤ gq by rw [hgq]; exact Nat.le_refl _); clear hb hbox hgq) | (go_at_call 52; (with_reducible refine (plenumref02_ReadHead.calls 30 s 0 n p1 true _ (Glob.below HG.out HBa.out) HH.out).mono ?_); rintro e wb ⟨rfl, hb⟩; have HBb := Aside0.mk (below_step HBa.out hb); have HQb := Aside0.mk (blk_below HQa.out hb); clear hb) | ((with_reducible refine gate_dst (N := 7) rfl ?_); refine box_event ?hg (N := 7) ?hd (cs := #[.int .i64 0, .int .i64 0, .int .i64 0, .bool false, .int .i64 0, .string ⟨#[]⟩]) (t := 27) ?hr ?_; (case hd => rfl); (case hg => rfl); (case hr => first | (go_simp; done) | (go_simp; rfl)); intro gp hgp wp hbox hb; have HPp := Aside0.mk hbox; have HQp := Aside0.mk (blk_below HQb.out hb); have HBp := Aside0.mk (below_step HBb.out hb); have HNE := Aside0.mk (show gq ≠ gp by rw [hgp]; exact Nat.ne_of_lt (blk_lt HQb.out)); have HGP := Aside0.mk (show w.heap.size ≤ gp by rw [hgp]; exact HBb.out.size); clear hb hbox hgp) | (refine wpList_store_row rfl 27 (.tmp 7) (.tmp 29) rfl gp #[.int .i64 0, .int .i64 0, .int .i64 0, .bool false, .int .i64 0, .string ⟨#[]⟩] rfl rfl 27 #[.int .i64 0, .int .i64 0, .int .i64 0, .bool false, .int .i64 0, .string ⟨#[]⟩] HPp.out (by kernel_rfl) rfl (by simp [Value.oneCell']) ?_; have HPr := Aside0.mk (setRow_heap _ _ _ #[.int .i64 0, .int .i64 0, .int .i64 0, .bool false, .int .i64 0, .string ⟨#[]⟩] _ _ HPp.out); have HQr := Aside0.mk ((setRow_other wp gp gq #[.int .i64 0, .int .i64 0, .int .i64 0, .bool false, .int .i64 0, .string ⟨#[]⟩] HNE.out).trans HQp.out); have HBr := Aside0.mk (below_setRow HBp.out HGP.out #[.int .i64 0, .int .i64 0, .int .i64 0, .bool false, .int .i64 0, .string ⟨#[]⟩]); generalize wp.setRow gp #[.int .i64 0, .int .i64 0, .int .i64 0, .bool false, .int .i64 0, .string ⟨#[]⟩] = wr at HPr HQr HBr ⊢) | (go_at_call 53; (with_reducible refine (plenumref49_small.calls 30 s p1 k p2 true _ (Glob.below HG.out HBr.out) HK.out).mono ?_); rintro e wc ⟨rfl, hb⟩; have HBc := Aside0.mk (below_step HBr.out hb); have HQc := Aside0.mk (blk_below HQr.out hb); have HPc := Aside0.mk (blk_below HPr.out hb); have cc0 := (blk_cell HPc.out 0).trans rfl; have fc0 := blk_frozen HPc.out 0; clear hb) | (go_at_call 53; (with_reducible refine (plenumref49_small.calls 30 s p2 i p3 true _ (Glob.below HG.out (HBc.out.setCell (p := ⟨gp, 0, none⟩) HGP.out (.int .i64 k))) HI.out).mono ?_); rintro e wd ⟨rfl, hb⟩; have HBd := Aside0.mk (below_step (HBc.out.setCell (p := ⟨gp, 0, none⟩) HGP.out (.int .i64 k)) hb); have HQd := Aside0.mk (blk_below (blk_far HQc.out (p := ⟨gp, 0, none⟩) HNE.out (.int .i64 k)) hb); have HPd := Aside0.mk (blk_below (blk_put HPc.out 0 (.int .i64 k) rfl) hb); have cd1 := (blk_cell HPd.out 1).trans rfl; have fd1 := blk_frozen HPd.out 1; clear hb) | (go_at_call 54; (with_reducible refine (plenumref02_ReadSigned.calls 30 s p3 num p4 true _ (Glob.below HG.out (HBd.out.setCell (p := ⟨gp, 1, none⟩) HGP.out (.int .i64 i))) HN.out).mono ?_); rintro e we ⟨rfl, hb⟩; have HBe := Aside0.mk (below_step (HBd.out.setCell (p := ⟨gp, 1, none⟩) HGP.out (.int .i64 i)) hb); have HQe := Aside0.mk (blk_below (blk_far HQd.out (p := ⟨gp, 1, none⟩) HNE.out (.int .i64 i)) hb); have HPe := Aside0.mk (blk_below (blk_put HPd.out 1 (.int .i64 i) rfl) hb); clear hb) | (go_at_call 55; (with_reducible refine (plenumref02_Kind.calls 30 s p4 kd _ (Glob.below HG.out HBe.out) HD.out).mono ?_); rintro e wh ⟨rfl, hb0⟩; have hb := hb0.below; clear hb0; have HBh := Aside0.mk (below_step HBe.out hb); have HQh := Aside0.mk (blk_below HQe.out hb); have HPh := Aside0.mk (blk_below HPe.out hb); have ch3 := (blk_cell HPh.out 3).trans rfl; have fh3 := blk_frozen HPh.out 3; clear hb) | (refine wpList_store_row rfl 27 (.tmp 2) (.tmp _) rfl gq #[.int .i64 0, .int .i64 0, .int .i64 0, .bool false, .int .i64 0, .string ⟨#[]⟩] rfl rfl 27 #[.int .i64 0, .int .i64 0, .int .i64 0, .bool false, .int .i64 0, .string ⟨#[]⟩] HQh.out (by kernel_rfl) rfl (by simp [Value.oneCell']) ?_))
 refine bodyPost_ret (results_ct rfl _ _ gq 27 #[.int .i64 0, .int .i64 0, .int .i64 0, .bool false, .int .i64 0, .string ⟨#[]⟩] (0, 0) _ rfl (setRow_heap _ _ _ _ _ _ HQh.out) Tryd.underlying27 rfl (by kernel_rfl)) rfl ⟨rfl, ?_⟩
 exact below_setRow HBh.out HQW.out _
def rT14 : Bool × List (List Nat × List Nat) := (true, [([], []), ([], []), ([], []), ([2], [2]), ([0, 1, 3], [0, 1, 3]), ([], []), ([4, 5], [4, 5]), ([0, 1, 2, 3, 4, 5, 6], []), ([7, 6, 5, 0, 1, 2, 3, 4, 5, 6], [6, 7])])
def rB14 : List Nat := [0, 0, 0, 4, 15, 0, 63, 127, 255]
theorem rtab14 : rtab .any (opsOf Tryd.f15 14) = rT14 := by kernel_rfl
theorem rbits14 : waitsOk rT14.2 rB14 = true := by kernel_rfl
set_option maxHeartbeats 16000000 in
set_option maxRecDepth 100000 in
theorem rdec6 (s : ByteArray) (w : World) (hG : Glob w) (n p1 : Int) (hh : plenumref02_ReadHead.f 30 s 0 = some (n, p1, true)) (hn : n = 6) (k p2 : Int) (hk : plenumref49_small.f 30 s p1 = some (k, p2, true)) (i p3 : Int) (hi : plenumref49_small.f 30 s p2 = some (i, p3, true)) (num p4 : Int) (hs : plenumref02_ReadSigned.f 30 s p3 = some (num, p4, true)) (hd : plenumref02_Kind.f 30 s p4 = some 2) (h0 : 0 ≤ p4) (h1 : p4 < (s.size : Int)) (hz : s.size ≤ 1000000) (vw p5 : Int) (hw5 : plenumref49_small.f 30 s (p4 + 1) = some (vw, p5, false)) : Calls Tryd.prog 15 #[.string s] w fun e w' => RDPost w (zA 2) e w' := by
 have HG := Aside0.mk hG
 have HH := Aside0.mk hh
 have hnb : (n != 6) = false := by rw [hn]; rfl
 clear hG hh hn
 have HK := Aside0.mk hk
 clear hk
 have HI := Aside0.mk hi
 clear hi
 have HN := Aside0.mk hs
 clear hs
 have HD := Aside0.mk hd
 clear hd
 have hw : wrap64 (p4 + 1) = p4 + 1 := by unfold wrap64; omega
 have hs1 : p4 ≤ p4 + 1 := by omega
 have hs2 : p4 + 1 ≤ (s.size : Int) := by omega
 have HW := Aside0.mk hw5
 clear hw5
 go_enter Tryd.func15, Tryd.ntmps15
 go_wp2_with (first | ((with_reducible refine gate_dst (N := 2) rfl ?_); refine box_event ?hg (N := 2) ?hd (cs := #[.int .i64 0, .int .i64 0, .int .i64 0, .bool false, .int .i64 0, .string ⟨#[]⟩]) (t := 27) ?hr ?_; (case hd => rfl); (case hg => rfl); (case hr => first | (go_simp; done) | (go_simp; rfl)); intro gq hgq wa hbox hb; have HQa := Aside0.mk hbox; have HBa := Aside0.mk hb; have HQW := Aside0.mk (show w.heap.size ≤ gq by rw [hgq]; exact Nat.le_refl _); clear hb hbox hgq) | (go_at_call 52; (with_reducible refine (plenumref02_ReadHead.calls 30 s 0 n p1 true _ (Glob.below HG.out HBa.out) HH.out).mono ?_); rintro e wb ⟨rfl, hb⟩; have HBb := Aside0.mk (below_step HBa.out hb); have HQb := Aside0.mk (blk_below HQa.out hb); clear hb) | ((with_reducible refine gate_dst (N := 7) rfl ?_); refine box_event ?hg (N := 7) ?hd (cs := #[.int .i64 0, .int .i64 0, .int .i64 0, .bool false, .int .i64 0, .string ⟨#[]⟩]) (t := 27) ?hr ?_; (case hd => rfl); (case hg => rfl); (case hr => first | (go_simp; done) | (go_simp; rfl)); intro gp hgp wp hbox hb; have HPp := Aside0.mk hbox; have HQp := Aside0.mk (blk_below HQb.out hb); have HBp := Aside0.mk (below_step HBb.out hb); have HNE := Aside0.mk (show gq ≠ gp by rw [hgp]; exact Nat.ne_of_lt (blk_lt HQb.out)); have HGP := Aside0.mk (show w.heap.size ≤ gp by rw [hgp]; exact HBb.out.size); clear hb hbox hgp) | (refine wpList_store_row rfl 27 (.tmp 7) (.tmp 29) rfl gp #[.int .i64 0, .int .i64 0, .int .i64 0, .bool false, .int .i64 0, .string ⟨#[]⟩] rfl rfl 27 #[.int .i64 0, .int .i64 0, .int .i64 0, .bool false, .int .i64 0, .string ⟨#[]⟩] HPp.out (by kernel_rfl) rfl (by simp [Value.oneCell']) ?_; have HPr := Aside0.mk (setRow_heap _ _ _ #[.int .i64 0, .int .i64 0, .int .i64 0, .bool false, .int .i64 0, .string ⟨#[]⟩] _ _ HPp.out); have HQr := Aside0.mk ((setRow_other wp gp gq #[.int .i64 0, .int .i64 0, .int .i64 0, .bool false, .int .i64 0, .string ⟨#[]⟩] HNE.out).trans HQp.out); have HBr := Aside0.mk (below_setRow HBp.out HGP.out #[.int .i64 0, .int .i64 0, .int .i64 0, .bool false, .int .i64 0, .string ⟨#[]⟩]); generalize wp.setRow gp #[.int .i64 0, .int .i64 0, .int .i64 0, .bool false, .int .i64 0, .string ⟨#[]⟩] = wr at HPr HQr HBr ⊢) | (go_at_call 53; (with_reducible refine (plenumref49_small.calls 30 s p1 k p2 true _ (Glob.below HG.out HBr.out) HK.out).mono ?_); rintro e wc ⟨rfl, hb⟩; have HBc := Aside0.mk (below_step HBr.out hb); have HQc := Aside0.mk (blk_below HQr.out hb); have HPc := Aside0.mk (blk_below HPr.out hb); have cc0 := (blk_cell HPc.out 0).trans rfl; have fc0 := blk_frozen HPc.out 0; clear hb) | (go_at_call 53; (with_reducible refine (plenumref49_small.calls 30 s p2 i p3 true _ (Glob.below HG.out (HBc.out.setCell (p := ⟨gp, 0, none⟩) HGP.out (.int .i64 k))) HI.out).mono ?_); rintro e wd ⟨rfl, hb⟩; have HBd := Aside0.mk (below_step (HBc.out.setCell (p := ⟨gp, 0, none⟩) HGP.out (.int .i64 k)) hb); have HQd := Aside0.mk (blk_below (blk_far HQc.out (p := ⟨gp, 0, none⟩) HNE.out (.int .i64 k)) hb); have HPd := Aside0.mk (blk_below (blk_put HPc.out 0 (.int .i64 k) rfl) hb); have cd1 := (blk_cell HPd.out 1).trans rfl; have fd1 := blk_frozen HPd.out 1; clear hb) | (go_at_call 54; (with_reducible refine (plenumref02_ReadSigned.calls 30 s p3 num p4 true _ (Glob.below HG.out (HBd.out.setCell (p := ⟨gp, 1, none⟩) HGP.out (.int .i64 i))) HN.out).mono ?_); rintro e we ⟨rfl, hb⟩; have HBe := Aside0.mk (below_step (HBd.out.setCell (p := ⟨gp, 1, none⟩) HGP.out (.int .i64 i)) hb); have HQe := Aside0.mk (blk_below (blk_far HQd.out (p := ⟨gp, 1, none⟩) HNE.out (.int .i64 i)) hb); have HPe := Aside0.mk (blk_below (blk_put HPd.out 1 (.int .i64 i) rfl) hb); clear hb) | (go_at_call 55; (with_reducible refine (plenumref02_Kind.calls 30 s p4 2 _ (Glob.below HG.out HBe.out) HD.out).mono ?_); rintro e wh ⟨rfl, hb0⟩; have hb := hb0.below; clear hb0; have HBh := Aside0.mk (below_step HBe.out hb); have HQh := Aside0.mk (blk_below HQe.out hb); have HPh := Aside0.mk (blk_below HPe.out hb); have ch3 := (blk_cell HPh.out 3).trans rfl; have fh3 := blk_frozen HPh.out 3; clear hb))
 have HQ0 := Aside0.mk (blk_drew HQh.out)
 have HP0 := Aside0.mk (blk_drew HPh.out)
 have HB0 := Aside0.mk (below_drew1 HBh.out)
 clear HQh HPh HBh
 refine start_ (n := 9) (S := fun w' => True) (ds := []) #[Yn, Yn, Yn, Yn, Yn, Yn, Yn, Yn, Yn] (by kernel_rfl) rfl rfl trivial (fun hHeld => ?_); refine with_tabW rtab14 rbits14 (fun HT_ HW_ => ?_)
 generalize wh.drew = w0 at HQ0 HP0 HB0 hHeld ⊢
 refine pure_ (i := 0) (N := some 70) (v := ?_) (a' := ?_) #[Y, Yn, Yn, Yn, Yn, Yn, Yn, Yn, Yn] rfl rfl (any_of HT_.out (by kernel_rfl)) (fun _ _ _ h => h) (Or.inl ⟨by rfl, ?_⟩) ?_ ?_
 rotate_left
 ·intro w'
  go_simp
  with_reducible rfl
 rotate_left
 ·simp only [Act.put, List.setIfInBounds_toArray, List.set_cons_zero, List.set_cons_succ, i64_w, i32_w]
  rfl
 refine pure_ (i := 1) (N := some 71) (v := ?_) (a' := ?_) #[Y, Y, Yn, Yn, Yn, Yn, Yn, Yn, Yn] rfl rfl (any_of HT_.out (by kernel_rfl)) (fun _ _ _ h => h) (Or.inl ⟨by rfl, ?_⟩) ?_ ?_
 rotate_left
 ·intro w'
  go_simp
  with_reducible rfl
 rotate_left
 ·simp only [Act.put, List.setIfInBounds_toArray, List.set_cons_zero, List.set_cons_succ, i64_w, i32_w]
  rfl
 refine pure_ (i := 2) (N := some 72) (v := ?_) (a' := ?_) #[Y, Y, Y, Yn, Yn, Yn, Yn, Yn, Yn] rfl rfl (any_of HT_.out (by kernel_rfl)) (fun _ _ _ h => h) (Or.inl ⟨by rfl, ?_⟩) ?_ ?_
 rotate_left
 ·intro w'
  go_simp
  with_reducible rfl
 rotate_left
 ·simp only [Act.put, List.setIfInBounds_toArray, List.set_cons_zero, List.set_cons_succ, i64_w, i32_w]
  rfl
 refine pure_ (i := 3) (N := some 73) (v := ?_) (a' := ?_) #[Y, Y, Y, Y, Yn, Yn, Yn, Yn, Yn] rfl rfl (any_of HT_.out (by kernel_rfl)) (fun _ _ _ h => h) (Or.inl ⟨by rfl, ?_⟩) ?_ ?_
 rotate_left
 ·intro w'
  go_simp
  with_reducible rfl
 rotate_left
 ·simp only [Act.put, List.setIfInBounds_toArray, List.set_cons_zero, List.set_cons_succ, i64_w, i32_w]
  rfl
 refine pure_ (i := 4) (N := some 74) (v := ?_) (a' := ?_) #[Y, Y, Y, Y, Y, Yn, Yn, Yn, Yn] rfl rfl (any_of HT_.out (by kernel_rfl)) (fun _ _ _ h => h) (Or.inl ⟨by rfl, ?_⟩) ?_ ?_
 rotate_left
 ·intro w'
  go_simp
  with_reducible rfl
 rotate_left
 ·simp only [Act.put, List.setIfInBounds_toArray, List.set_cons_zero, List.set_cons_succ, i64_w, i32_w]
  rfl
 refine one_ (i := 5) (N := some 75) #[Y, Y, Y, Y, Y, Y, Yn, Yn, Yn] rfl rfl (one_of HT_.out (by kernel_rfl)) (by decide) (fun K hK => ?_)
 refine goes_ Tryd.func56 (by kernel_rfl) rfl #[.bool true] (by rfl) rfl rfl (by (try simp only [List.map_toArray, List.map_cons, List.map_nil]); first | done | rfl | (simp only [List.length_drop, List.length_take]; rfl)) ?_
 with_reducible refine (plenumref02_Bool.calls true (⟨#[2]⟩ : ByteArray) _ (Glob.below HG.out HB0.out) rfl).mono ?_
 rintro e w' ⟨rfl, ⟨nd, rfl⟩⟩
 refine ⟨_, rfl, ?_⟩
 refine hK.out _ _ trivial (fun hHeld => ?_)
 clear hK K
 refine norm_ (a' := ?_) ?_ ?_
 rotate_left
 ·show Act.put _ (some 75) _ = _
  simp only [Act.put, List.setIfInBounds_toArray, List.set_cons_zero, List.set_cons_succ, i64_w, i32_w]
  rfl
 refine pure_ (i := 6) (N := some 76) (v := ?_) (a' := ?_) #[Y, Y, Y, Y, Y, Y, Y, Yn, Yn] rfl rfl (any_of HT_.out (by kernel_rfl)) (fun _ _ _ h => h) (Or.inl ⟨by rfl, ?_⟩) ?_ ?_
 rotate_left
 ·intro w'
  go_simp
  with_reducible rfl
 rotate_left
 ·simp only [Act.put, List.setIfInBounds_toArray, List.set_cons_zero, List.set_cons_succ, i64_w, i32_w]
  rfl
 refine pure_ (i := 7) (N := some 77) (v := ?_) (a' := ?_) #[Y, Y, Y, Y, Y, Y, Y, Y, Yn] rfl rfl (any_of HT_.out (by kernel_rfl)) (fun _ _ _ h => h) (Or.inl ⟨by rfl, ?_⟩) ?_ ?_
 rotate_left
 ·intro w'
  go_simp
  with_reducible rfl
 rotate_left
 ·simp only [Act.put, List.setIfInBounds_toArray, List.set_cons_zero, List.set_cons_succ, i64_w, i32_w]
  rfl
 refine one_ (i := 8) (N := none) #[Y, Y, Y, Y, Y, Y, Y, Y, Y] rfl rfl (one_of HT_.out (by kernel_rfl)) (by decide) (fun K hK => ?_)
 have hs43 : w0.cell? ⟨gp, 3, none⟩ = some (.bool false) := (blk_cell HP0.out 3).trans rfl
 have hfs43 := blk_frozen HP0.out 3
 refine skip_ (w1 := ?_) (by rfl) rfl ?_ ?_
 rotate_left
 ·go_simp
  rfl
 refine hK.out _ _ trivial (fun hHeld => ?_)
 clear hK K
 refine done_ (done_of HT_.out (by kernel_rfl)) ?_
 go_wp2_with (first | (go_at_call 53; (with_reducible refine (plenumref49_small.calls 30 s (p4 + 1) vw p5 false _ (Glob.below HG.out ((pw_below_drewN HB0.out nd).setCell (p := ⟨gp, 3, none⟩) HGP.out (.bool ((s.extract (p4 : Int).toNat ((p4 + 1) : Int).toNat).toList == [2])))) HW.out).mono ?_); rintro e wn ⟨rfl, hb⟩; have HBn := Aside0.mk (below_step ((pw_below_drewN HB0.out nd).setCell (p := ⟨gp, 3, none⟩) HGP.out (.bool ((s.extract (p4 : Int).toNat ((p4 + 1) : Int).toNat).toList == [2]))) hb); have HQn := Aside0.mk (blk_below (blk_far (blk_drewN HQ0.out nd) (p := ⟨gp, 3, none⟩) HNE.out (.bool ((s.extract (p4 : Int).toNat ((p4 + 1) : Int).toNat).toList == [2]))) hb); have HPn := Aside0.mk (blk_below (blk_put (blk_drewN HP0.out nd) 3 (.bool ((s.extract (p4 : Int).toNat ((p4 + 1) : Int).toNat).toList == [2])) rfl) hb); have cn4 := (blk_cell HPn.out 4).trans rfl; have fn4 := blk_frozen HPn.out 4; clear hb) | (refine wpList_store_row rfl 27 (.tmp 2) (.tmp _) rfl gq #[.int .i64 0, .int .i64 0, .int .i64 0, .bool false, .int .i64 0, .string ⟨#[]⟩] rfl rfl 27 #[.int .i64 0, .int .i64 0, .int .i64 0, .bool false, .int .i64 0, .string ⟨#[]⟩] (blk_far HQn.out (p := ⟨gp, 4, none⟩) HNE.out (.int .i64 vw)) (by kernel_rfl) rfl (by simp [Value.oneCell']) ?_))
 refine bodyPost_ret (results_ct rfl _ _ gq 27 #[.int .i64 0, .int .i64 0, .int .i64 0, .bool false, .int .i64 0, .string ⟨#[]⟩] (0, 0) _ rfl (setRow_heap _ _ _ _ _ _ (blk_far HQn.out (p := ⟨gp, 4, none⟩) HNE.out (.int .i64 vw))) Tryd.underlying27 rfl (by kernel_rfl)) rfl ⟨rfl, ?_⟩
 exact below_setRow (HBn.out.setCell (p := ⟨gp, 4, none⟩) HGP.out (.int .i64 vw)) HQW.out _
set_option maxHeartbeats 16000000 in
set_option maxRecDepth 100000 in
theorem rdec7 (s : ByteArray) (w : World) (hG : Glob w) (n p1 : Int) (hh : plenumref02_ReadHead.f 30 s 0 = some (n, p1, true)) (hn : n = 6) (k p2 : Int) (hk : plenumref49_small.f 30 s p1 = some (k, p2, true)) (i p3 : Int) (hi : plenumref49_small.f 30 s p2 = some (i, p3, true)) (num p4 : Int) (hs : plenumref02_ReadSigned.f 30 s p3 = some (num, p4, true)) (hd : plenumref02_Kind.f 30 s p4 = some 2) (h0 : 0 ≤ p4) (h1 : p4 < (s.size : Int)) (hz : s.size ≤ 1000000) (vw p5 : Int) (hw5 : plenumref49_small.f 30 s (p4 + 1) = some (vw, p5, true)) (t : ByteArray) (q : Int) (ht : plenumref02_ReadText.f 30 s p5 = some (t, q, false)) : Calls Tryd.prog 15 #[.string s] w fun e w' => RDPost w (zA 2) e w' := by
 have HG := Aside0.mk hG
 have HH := Aside0.mk hh
 have hnb : (n != 6) = false := by rw [hn]; rfl
 clear hG hh hn
 have HK := Aside0.mk hk
 clear hk
 have HI := Aside0.mk hi
 clear hi
 have HN := Aside0.mk hs
 clear hs
 have HD := Aside0.mk hd
 clear hd
 have hw : wrap64 (p4 + 1) = p4 + 1 := by unfold wrap64; omega
 have hs1 : p4 ≤ p4 + 1 := by omega
 have hs2 : p4 + 1 ≤ (s.size : Int) := by omega
 have HW := Aside0.mk hw5
 clear hw5
 have HT := Aside0.mk ht
 clear ht
 go_enter Tryd.func15, Tryd.ntmps15
 go_wp2_with (first | ((with_reducible refine gate_dst (N := 2) rfl ?_); refine box_event ?hg (N := 2) ?hd (cs := #[.int .i64 0, .int .i64 0, .int .i64 0, .bool false, .int .i64 0, .string ⟨#[]⟩]) (t := 27) ?hr ?_; (case hd => rfl); (case hg => rfl); (case hr => first | (go_simp; done) | (go_simp; rfl)); intro gq hgq wa hbox hb; have HQa := Aside0.mk hbox; have HBa := Aside0.mk hb; have HQW := Aside0.mk (show w.heap.size ≤ gq by rw [hgq]; exact Nat.le_refl _); clear hb hbox hgq) | (go_at_call 52; (with_reducible refine (plenumref02_ReadHead.calls 30 s 0 n p1 true _ (Glob.below HG.out HBa.out) HH.out).mono ?_); rintro e wb ⟨rfl, hb⟩; have HBb := Aside0.mk (below_step HBa.out hb); have HQb := Aside0.mk (blk_below HQa.out hb); clear hb) | ((with_reducible refine gate_dst (N := 7) rfl ?_); refine box_event ?hg (N := 7) ?hd (cs := #[.int .i64 0, .int .i64 0, .int .i64 0, .bool false, .int .i64 0, .string ⟨#[]⟩]) (t := 27) ?hr ?_; (case hd => rfl); (case hg => rfl); (case hr => first | (go_simp; done) | (go_simp; rfl)); intro gp hgp wp hbox hb; have HPp := Aside0.mk hbox; have HQp := Aside0.mk (blk_below HQb.out hb); have HBp := Aside0.mk (below_step HBb.out hb); have HNE := Aside0.mk (show gq ≠ gp by rw [hgp]; exact Nat.ne_of_lt (blk_lt HQb.out)); have HGP := Aside0.mk (show w.heap.size ≤ gp by rw [hgp]; exact HBb.out.size); clear hb hbox hgp) | (refine wpList_store_row rfl 27 (.tmp 7) (.tmp 29) rfl gp #[.int .i64 0, .int .i64 0, .int .i64 0, .bool false, .int .i64 0, .string ⟨#[]⟩] rfl rfl 27 #[.int .i64 0, .int .i64 0, .int .i64 0, .bool false, .int .i64 0, .string ⟨#[]⟩] HPp.out (by kernel_rfl) rfl (by simp [Value.oneCell']) ?_; have HPr := Aside0.mk (setRow_heap _ _ _ #[.int .i64 0, .int .i64 0, .int .i64 0, .bool false, .int .i64 0, .string ⟨#[]⟩] _ _ HPp.out); have HQr := Aside0.mk ((setRow_other wp gp gq #[.int .i64 0, .int .i64 0, .int .i64 0, .bool false, .int .i64 0, .string ⟨#[]⟩] HNE.out).trans HQp.out); have HBr := Aside0.mk (below_setRow HBp.out HGP.out #[.int .i64 0, .int .i64 0, .int .i64 0, .bool false, .int .i64 0, .string ⟨#[]⟩]); generalize wp.setRow gp #[.int .i64 0, .int .i64 0, .int .i64 0, .bool false, .int .i64 0, .string ⟨#[]⟩] = wr at HPr HQr HBr ⊢) | (go_at_call 53; (with_reducible refine (plenumref49_small.calls 30 s p1 k p2 true _ (Glob.below HG.out HBr.out) HK.out).mono ?_); rintro e wc ⟨rfl, hb⟩; have HBc := Aside0.mk (below_step HBr.out hb); have HQc := Aside0.mk (blk_below HQr.out hb); have HPc := Aside0.mk (blk_below HPr.out hb); have cc0 := (blk_cell HPc.out 0).trans rfl; have fc0 := blk_frozen HPc.out 0; clear hb) | (go_at_call 53; (with_reducible refine (plenumref49_small.calls 30 s p2 i p3 true _ (Glob.below HG.out (HBc.out.setCell (p := ⟨gp, 0, none⟩) HGP.out (.int .i64 k))) HI.out).mono ?_); rintro e wd ⟨rfl, hb⟩; have HBd := Aside0.mk (below_step (HBc.out.setCell (p := ⟨gp, 0, none⟩) HGP.out (.int .i64 k)) hb); have HQd := Aside0.mk (blk_below (blk_far HQc.out (p := ⟨gp, 0, none⟩) HNE.out (.int .i64 k)) hb); have HPd := Aside0.mk (blk_below (blk_put HPc.out 0 (.int .i64 k) rfl) hb); have cd1 := (blk_cell HPd.out 1).trans rfl; have fd1 := blk_frozen HPd.out 1; clear hb) | (go_at_call 54; (with_reducible refine (plenumref02_ReadSigned.calls 30 s p3 num p4 true _ (Glob.below HG.out (HBd.out.setCell (p := ⟨gp, 1, none⟩) HGP.out (.int .i64 i))) HN.out).mono ?_); rintro e we ⟨rfl, hb⟩; have HBe := Aside0.mk (below_step (HBd.out.setCell (p := ⟨gp, 1, none⟩) HGP.out (.int .i64 i)) hb); have HQe := Aside0.mk (blk_below (blk_far HQd.out (p := ⟨gp, 1, none⟩) HNE.out (.int .i64 i)) hb); have HPe := Aside0.mk (blk_below (blk_put HPd.out 1 (.int .i64 i) rfl) hb); clear hb) | (go_at_call 55; (with_reducible refine (plenumref02_Kind.calls 30 s p4 2 _ (Glob.below HG.out HBe.out) HD.out).mono ?_); rintro e wh ⟨rfl, hb0⟩; have hb := hb0.below; clear hb0; have HBh := Aside0.mk (below_step HBe.out hb); have HQh := Aside0.mk (blk_below HQe.out hb); have HPh := Aside0.mk (blk_below HPe.out hb); have ch3 := (blk_cell HPh.out 3).trans rfl; have fh3 := blk_frozen HPh.out 3; clear hb))
 have HQ0 := Aside0.mk (blk_drew HQh.out)
 have HP0 := Aside0.mk (blk_drew HPh.out)
 have HB0 := Aside0.mk (below_drew1 HBh.out)
 clear HQh HPh HBh
 refine start_ (n := 9) (S := fun w' => True) (ds := []) #[Yn, Yn, Yn, Yn, Yn, Yn, Yn, Yn, Yn] (by kernel_rfl) rfl rfl trivial (fun hHeld => ?_); refine with_tabW rtab14 rbits14 (fun HT_ HW_ => ?_)
 generalize wh.drew = w0 at HQ0 HP0 HB0 hHeld ⊢
 refine pure_ (i := 0) (N := some 70) (v := ?_) (a' := ?_) #[Y, Yn, Yn, Yn, Yn, Yn, Yn, Yn, Yn] rfl rfl (any_of HT_.out (by kernel_rfl)) (fun _ _ _ h => h) (Or.inl ⟨by rfl, ?_⟩) ?_ ?_
 rotate_left
 ·intro w'
  go_simp
  with_reducible rfl
 rotate_left
 ·simp only [Act.put, List.setIfInBounds_toArray, List.set_cons_zero, List.set_cons_succ, i64_w, i32_w]
  rfl
 refine pure_ (i := 1) (N := some 71) (v := ?_) (a' := ?_) #[Y, Y, Yn, Yn, Yn, Yn, Yn, Yn, Yn] rfl rfl (any_of HT_.out (by kernel_rfl)) (fun _ _ _ h => h) (Or.inl ⟨by rfl, ?_⟩) ?_ ?_
 rotate_left
 ·intro w'
  go_simp
  with_reducible rfl
 rotate_left
 ·simp only [Act.put, List.setIfInBounds_toArray, List.set_cons_zero, List.set_cons_succ, i64_w, i32_w]
  rfl
 refine pure_ (i := 2) (N := some 72) (v := ?_) (a' := ?_) #[Y, Y, Y, Yn, Yn, Yn, Yn, Yn, Yn] rfl rfl (any_of HT_.out (by kernel_rfl)) (fun _ _ _ h => h) (Or.inl ⟨by rfl, ?_⟩) ?_ ?_
 rotate_left
 ·intro w'
  go_simp
  with_reducible rfl
 rotate_left
 ·simp only [Act.put, List.setIfInBounds_toArray, List.set_cons_zero, List.set_cons_succ, i64_w, i32_w]
  rfl
 refine pure_ (i := 3) (N := some 73) (v := ?_) (a' := ?_) #[Y, Y, Y, Y, Yn, Yn, Yn, Yn, Yn] rfl rfl (any_of HT_.out (by kernel_rfl)) (fun _ _ _ h => h) (Or.inl ⟨by rfl, ?_⟩) ?_ ?_
 rotate_left
 ·intro w'
  go_simp
  with_reducible rfl
 rotate_left
 ·simp only [Act.put, List.setIfInBounds_toArray, List.set_cons_zero, List.set_cons_succ, i64_w, i32_w]
  rfl
 refine pure_ (i := 4) (N := some 74) (v := ?_) (a' := ?_) #[Y, Y, Y, Y, Y, Yn, Yn, Yn, Yn] rfl rfl (any_of HT_.out (by kernel_rfl)) (fun _ _ _ h => h) (Or.inl ⟨by rfl, ?_⟩) ?_ ?_
 rotate_left
 ·intro w'
  go_simp
  with_reducible rfl
 rotate_left
 ·simp only [Act.put, List.setIfInBounds_toArray, List.set_cons_zero, List.set_cons_succ, i64_w, i32_w]
  rfl
 refine one_ (i := 5) (N := some 75) #[Y, Y, Y, Y, Y, Y, Yn, Yn, Yn] rfl rfl (one_of HT_.out (by kernel_rfl)) (by decide) (fun K hK => ?_)
 refine goes_ Tryd.func56 (by kernel_rfl) rfl #[.bool true] (by rfl) rfl rfl (by (try simp only [List.map_toArray, List.map_cons, List.map_nil]); first | done | rfl | (simp only [List.length_drop, List.length_take]; rfl)) ?_
 with_reducible refine (plenumref02_Bool.calls true (⟨#[2]⟩ : ByteArray) _ (Glob.below HG.out HB0.out) rfl).mono ?_
 rintro e w' ⟨rfl, ⟨nd, rfl⟩⟩
 refine ⟨_, rfl, ?_⟩
 refine hK.out _ _ trivial (fun hHeld => ?_)
 clear hK K
 refine norm_ (a' := ?_) ?_ ?_
 rotate_left
 ·show Act.put _ (some 75) _ = _
  simp only [Act.put, List.setIfInBounds_toArray, List.set_cons_zero, List.set_cons_succ, i64_w, i32_w]
  rfl
 refine pure_ (i := 6) (N := some 76) (v := ?_) (a' := ?_) #[Y, Y, Y, Y, Y, Y, Y, Yn, Yn] rfl rfl (any_of HT_.out (by kernel_rfl)) (fun _ _ _ h => h) (Or.inl ⟨by rfl, ?_⟩) ?_ ?_
 rotate_left
 ·intro w'
  go_simp
  with_reducible rfl
 rotate_left
 ·simp only [Act.put, List.setIfInBounds_toArray, List.set_cons_zero, List.set_cons_succ, i64_w, i32_w]
  rfl
 refine pure_ (i := 7) (N := some 77) (v := ?_) (a' := ?_) #[Y, Y, Y, Y, Y, Y, Y, Y, Yn] rfl rfl (any_of HT_.out (by kernel_rfl)) (fun _ _ _ h => h) (Or.inl ⟨by rfl, ?_⟩) ?_ ?_
 rotate_left
 ·intro w'
  go_simp
  with_reducible rfl
 rotate_left
 ·simp only [Act.put, List.setIfInBounds_toArray, List.set_cons_zero, List.set_cons_succ, i64_w, i32_w]
  rfl
 refine one_ (i := 8) (N := none) #[Y, Y, Y, Y, Y, Y, Y, Y, Y] rfl rfl (one_of HT_.out (by kernel_rfl)) (by decide) (fun K hK => ?_)
 have hs43 : w0.cell? ⟨gp, 3, none⟩ = some (.bool false) := (blk_cell HP0.out 3).trans rfl
 have hfs43 := blk_frozen HP0.out 3
 refine skip_ (w1 := ?_) (by rfl) rfl ?_ ?_
 rotate_left
 ·go_simp
  rfl
 refine hK.out _ _ trivial (fun hHeld => ?_)
 clear hK K
 refine done_ (done_of HT_.out (by kernel_rfl)) ?_
 go_wp2_with (first | (go_at_call 53; (with_reducible refine (plenumref49_small.calls 30 s (p4 + 1) vw p5 true _ (Glob.below HG.out ((pw_below_drewN HB0.out nd).setCell (p := ⟨gp, 3, none⟩) HGP.out (.bool ((s.extract (p4 : Int).toNat ((p4 + 1) : Int).toNat).toList == [2])))) HW.out).mono ?_); rintro e wn ⟨rfl, hb⟩; have HBn := Aside0.mk (below_step ((pw_below_drewN HB0.out nd).setCell (p := ⟨gp, 3, none⟩) HGP.out (.bool ((s.extract (p4 : Int).toNat ((p4 + 1) : Int).toNat).toList == [2]))) hb); have HQn := Aside0.mk (blk_below (blk_far (blk_drewN HQ0.out nd) (p := ⟨gp, 3, none⟩) HNE.out (.bool ((s.extract (p4 : Int).toNat ((p4 + 1) : Int).toNat).toList == [2]))) hb); have HPn := Aside0.mk (blk_below (blk_put (blk_drewN HP0.out nd) 3 (.bool ((s.extract (p4 : Int).toNat ((p4 + 1) : Int).toNat).toList == [2])) rfl) hb); have cn4 := (blk_cell HPn.out 4).trans rfl; have fn4 := blk_frozen HPn.out 4; clear hb) | (go_at_call 57; (with_reducible refine (plenumref02_ReadText.calls 30 s p5 t q false _ (Glob.below HG.out (HBn.out.setCell (p := ⟨gp, 4, none⟩) HGP.out (.int .i64 vw))) HT.out).mono ?_); rintro e wo ⟨rfl, hb⟩; have HBo := Aside0.mk (below_step (HBn.out.setCell (p := ⟨gp, 4, none⟩) HGP.out (.int .i64 vw)) hb); have HQo := Aside0.mk (blk_below (blk_far HQn.out (p := ⟨gp, 4, none⟩) HNE.out (.int .i64 vw)) hb); have HPo := Aside0.mk (blk_below (blk_put HPn.out 4 (.int .i64 vw) rfl) hb); have co5 := (blk_cell HPo.out 5).trans rfl; have fo5 := blk_frozen HPo.out 5; have co2 := (blk_cell HPo.out 2).trans rfl; have fo2 := blk_frozen HPo.out 2; clear hb) | (refine wpList_store_row rfl 27 (.tmp 2) (.tmp _) rfl gq #[.int .i64 0, .int .i64 0, .int .i64 0, .bool false, .int .i64 0, .string ⟨#[]⟩] rfl rfl 27 #[.int .i64 0, .int .i64 0, .int .i64 0, .bool false, .int .i64 0, .string ⟨#[]⟩] (blk_far HQo.out (p := ⟨gp, 5, none⟩) HNE.out (.string t)) (by kernel_rfl) rfl (by simp [Value.oneCell']) ?_))
 refine bodyPost_ret (results_ct rfl _ _ gq 27 #[.int .i64 0, .int .i64 0, .int .i64 0, .bool false, .int .i64 0, .string ⟨#[]⟩] (0, 0) _ rfl (setRow_heap _ _ _ _ _ _ (blk_far HQo.out (p := ⟨gp, 5, none⟩) HNE.out (.string t))) Tryd.underlying27 rfl (by kernel_rfl)) rfl ⟨rfl, ?_⟩
 exact below_setRow (HBo.out.setCell (p := ⟨gp, 5, none⟩) HGP.out (.string t)) HQW.out _
set_option maxHeartbeats 16000000 in
set_option maxRecDepth 100000 in
theorem rdec8 (s : ByteArray) (w : World) (hG : Glob w) (n p1 : Int) (hh : plenumref02_ReadHead.f 30 s 0 = some (n, p1, true)) (hn : n = 6) (k p2 : Int) (hk : plenumref49_small.f 30 s p1 = some (k, p2, true)) (i p3 : Int) (hi : plenumref49_small.f 30 s p2 = some (i, p3, true)) (num p4 : Int) (hs : plenumref02_ReadSigned.f 30 s p3 = some (num, p4, true)) (hd : plenumref02_Kind.f 30 s p4 = some 2) (h0 : 0 ≤ p4) (h1 : p4 < (s.size : Int)) (hz : s.size ≤ 1000000) (vw p5 : Int) (hw5 : plenumref49_small.f 30 s (p4 + 1) = some (vw, p5, true)) (t : ByteArray) (q : Int) (ht : plenumref02_ReadText.f 30 s p5 = some (t, q, true)) (hq : q ≠ (s.size : Int)) : Calls Tryd.prog 15 #[.string s] w fun e w' => RDPost w (zA 2) e w' := by
 have HG := Aside0.mk hG
 have HH := Aside0.mk hh
 have hnb : (n != 6) = false := by rw [hn]; rfl
 clear hG hh hn
 have HK := Aside0.mk hk
 clear hk
 have HI := Aside0.mk hi
 clear hi
 have HN := Aside0.mk hs
 clear hs
 have HD := Aside0.mk hd
 clear hd
 have hw : wrap64 (p4 + 1) = p4 + 1 := by unfold wrap64; omega
 have hs1 : p4 ≤ p4 + 1 := by omega
 have hs2 : p4 + 1 ≤ (s.size : Int) := by omega
 have HW := Aside0.mk hw5
 clear hw5
 have HT := Aside0.mk ht
 clear ht
 have hqb : (q != (s.size : Int)) = true := bne_iff_ne.mpr hq
 go_enter Tryd.func15, Tryd.ntmps15
 go_wp2_with (first | ((with_reducible refine gate_dst (N := 2) rfl ?_); refine box_event ?hg (N := 2) ?hd (cs := #[.int .i64 0, .int .i64 0, .int .i64 0, .bool false, .int .i64 0, .string ⟨#[]⟩]) (t := 27) ?hr ?_; (case hd => rfl); (case hg => rfl); (case hr => first | (go_simp; done) | (go_simp; rfl)); intro gq hgq wa hbox hb; have HQa := Aside0.mk hbox; have HBa := Aside0.mk hb; have HQW := Aside0.mk (show w.heap.size ≤ gq by rw [hgq]; exact Nat.le_refl _); clear hb hbox hgq) | (go_at_call 52; (with_reducible refine (plenumref02_ReadHead.calls 30 s 0 n p1 true _ (Glob.below HG.out HBa.out) HH.out).mono ?_); rintro e wb ⟨rfl, hb⟩; have HBb := Aside0.mk (below_step HBa.out hb); have HQb := Aside0.mk (blk_below HQa.out hb); clear hb) | ((with_reducible refine gate_dst (N := 7) rfl ?_); refine box_event ?hg (N := 7) ?hd (cs := #[.int .i64 0, .int .i64 0, .int .i64 0, .bool false, .int .i64 0, .string ⟨#[]⟩]) (t := 27) ?hr ?_; (case hd => rfl); (case hg => rfl); (case hr => first | (go_simp; done) | (go_simp; rfl)); intro gp hgp wp hbox hb; have HPp := Aside0.mk hbox; have HQp := Aside0.mk (blk_below HQb.out hb); have HBp := Aside0.mk (below_step HBb.out hb); have HNE := Aside0.mk (show gq ≠ gp by rw [hgp]; exact Nat.ne_of_lt (blk_lt HQb.out)); have HGP := Aside0.mk (show w.heap.size ≤ gp by rw [hgp]; exact HBb.out.size); clear hb hbox hgp) | (refine wpList_store_row rfl 27 (.tmp 7) (.tmp 29) rfl gp #[.int .i64 0, .int .i64 0, .int .i64 0, .bool false, .int .i64 0, .string ⟨#[]⟩] rfl rfl 27 #[.int .i64 0, .int .i64 0, .int .i64 0, .bool false, .int .i64 0, .string ⟨#[]⟩] HPp.out (by kernel_rfl) rfl (by simp [Value.oneCell']) ?_; have HPr := Aside0.mk (setRow_heap _ _ _ #[.int .i64 0, .int .i64 0, .int .i64 0, .bool false, .int .i64 0, .string ⟨#[]⟩] _ _ HPp.out); have HQr := Aside0.mk ((setRow_other wp gp gq #[.int .i64 0, .int .i64 0, .int .i64 0, .bool false, .int .i64 0, .string ⟨#[]⟩] HNE.out).trans HQp.out); have HBr := Aside0.mk (below_setRow HBp.out HGP.out #[.int .i64 0, .int .i64 0, .int .i64 0, .bool false, .int .i64 0, .string ⟨#[]⟩]); generalize wp.setRow gp #[.int .i64 0, .int .i64 0, .int .i64 0, .bool false, .int .i64 0, .string ⟨#[]⟩] = wr at HPr HQr HBr ⊢) | (go_at_call 53; (with_reducible refine (plenumref49_small.calls 30 s p1 k p2 true _ (Glob.below HG.out HBr.out) HK.out).mono ?_); rintro e wc ⟨rfl, hb⟩; have HBc := Aside0.mk (below_step HBr.out hb); have HQc := Aside0.mk (blk_below HQr.out hb); have HPc := Aside0.mk (blk_below HPr.out hb); have cc0 := (blk_cell HPc.out 0).trans rfl; have fc0 := blk_frozen HPc.out 0; clear hb) | (go_at_call 53; (with_reducible refine (plenumref49_small.calls 30 s p2 i p3 true _ (Glob.below HG.out (HBc.out.setCell (p := ⟨gp, 0, none⟩) HGP.out (.int .i64 k))) HI.out).mono ?_); rintro e wd ⟨rfl, hb⟩; have HBd := Aside0.mk (below_step (HBc.out.setCell (p := ⟨gp, 0, none⟩) HGP.out (.int .i64 k)) hb); have HQd := Aside0.mk (blk_below (blk_far HQc.out (p := ⟨gp, 0, none⟩) HNE.out (.int .i64 k)) hb); have HPd := Aside0.mk (blk_below (blk_put HPc.out 0 (.int .i64 k) rfl) hb); have cd1 := (blk_cell HPd.out 1).trans rfl; have fd1 := blk_frozen HPd.out 1; clear hb) | (go_at_call 54; (with_reducible refine (plenumref02_ReadSigned.calls 30 s p3 num p4 true _ (Glob.below HG.out (HBd.out.setCell (p := ⟨gp, 1, none⟩) HGP.out (.int .i64 i))) HN.out).mono ?_); rintro e we ⟨rfl, hb⟩; have HBe := Aside0.mk (below_step (HBd.out.setCell (p := ⟨gp, 1, none⟩) HGP.out (.int .i64 i)) hb); have HQe := Aside0.mk (blk_below (blk_far HQd.out (p := ⟨gp, 1, none⟩) HNE.out (.int .i64 i)) hb); have HPe := Aside0.mk (blk_below (blk_put HPd.out 1 (.int .i64 i) rfl) hb); clear hb) | (go_at_call 55; (with_reducible refine (plenumref02_Kind.calls 30 s p4 2 _ (Glob.below HG.out HBe.out) HD.out).mono ?_); rintro e wh ⟨rfl, hb0⟩; have hb := hb0.below; clear hb0; have HBh := Aside0.mk (below_step HBe.out hb); have HQh := Aside0.mk (blk_below HQe.out hb); have HPh := Aside0.mk (blk_below HPe.out hb); have ch3 := (blk_cell HPh.out 3).trans rfl; have fh3 := blk_frozen HPh.out 3; clear hb))
 have HQ0 := Aside0.mk (blk_drew HQh.out)
 have HP0 := Aside0.mk (blk_drew HPh.out)
 have HB0 := Aside0.mk (below_drew1 HBh.out)
 clear HQh HPh HBh
 refine start_ (n := 9) (S := fun w' => True) (ds := []) #[Yn, Yn, Yn, Yn, Yn, Yn, Yn, Yn, Yn] (by kernel_rfl) rfl rfl trivial (fun hHeld => ?_); refine with_tabW rtab14 rbits14 (fun HT_ HW_ => ?_)
 generalize wh.drew = w0 at HQ0 HP0 HB0 hHeld ⊢
 refine pure_ (i := 0) (N := some 70) (v := ?_) (a' := ?_) #[Y, Yn, Yn, Yn, Yn, Yn, Yn, Yn, Yn] rfl rfl (any_of HT_.out (by kernel_rfl)) (fun _ _ _ h => h) (Or.inl ⟨by rfl, ?_⟩) ?_ ?_
 rotate_left
 ·intro w'
  go_simp
  with_reducible rfl
 rotate_left
 ·simp only [Act.put, List.setIfInBounds_toArray, List.set_cons_zero, List.set_cons_succ, i64_w, i32_w]
  rfl
 refine pure_ (i := 1) (N := some 71) (v := ?_) (a' := ?_) #[Y, Y, Yn, Yn, Yn, Yn, Yn, Yn, Yn] rfl rfl (any_of HT_.out (by kernel_rfl)) (fun _ _ _ h => h) (Or.inl ⟨by rfl, ?_⟩) ?_ ?_
 rotate_left
 ·intro w'
  go_simp
  with_reducible rfl
 rotate_left
 ·simp only [Act.put, List.setIfInBounds_toArray, List.set_cons_zero, List.set_cons_succ, i64_w, i32_w]
  rfl
 refine pure_ (i := 2) (N := some 72) (v := ?_) (a' := ?_) #[Y, Y, Y, Yn, Yn, Yn, Yn, Yn, Yn] rfl rfl (any_of HT_.out (by kernel_rfl)) (fun _ _ _ h => h) (Or.inl ⟨by rfl, ?_⟩) ?_ ?_
 rotate_left
 ·intro w'
  go_simp
  with_reducible rfl
 rotate_left
 ·simp only [Act.put, List.setIfInBounds_toArray, List.set_cons_zero, List.set_cons_succ, i64_w, i32_w]
  rfl
 refine pure_ (i := 3) (N := some 73) (v := ?_) (a' := ?_) #[Y, Y, Y, Y, Yn, Yn, Yn, Yn, Yn] rfl rfl (any_of HT_.out (by kernel_rfl)) (fun _ _ _ h => h) (Or.inl ⟨by rfl, ?_⟩) ?_ ?_
 rotate_left
 ·intro w'
  go_simp
  with_reducible rfl
 rotate_left
 ·simp only [Act.put, List.setIfInBounds_toArray, List.set_cons_zero, List.set_cons_succ, i64_w, i32_w]
  rfl
 refine pure_ (i := 4) (N := some 74) (v := ?_) (a' := ?_) #[Y, Y, Y, Y, Y, Yn, Yn, Yn, Yn] rfl rfl (any_of HT_.out (by kernel_rfl)) (fun _ _ _ h => h) (Or.inl ⟨by rfl, ?_⟩) ?_ ?_
 rotate_left
 ·intro w'
  go_simp
  with_reducible rfl
 rotate_left
 ·simp only [Act.put, List.setIfInBounds_toArray, List.set_cons_zero, List.set_cons_succ, i64_w, i32_w]
  rfl
 refine one_ (i := 5) (N := some 75) #[Y, Y, Y, Y, Y, Y, Yn, Yn, Yn] rfl rfl (one_of HT_.out (by kernel_rfl)) (by decide) (fun K hK => ?_)
 refine goes_ Tryd.func56 (by kernel_rfl) rfl #[.bool true] (by rfl) rfl rfl (by (try simp only [List.map_toArray, List.map_cons, List.map_nil]); first | done | rfl | (simp only [List.length_drop, List.length_take]; rfl)) ?_
 with_reducible refine (plenumref02_Bool.calls true (⟨#[2]⟩ : ByteArray) _ (Glob.below HG.out HB0.out) rfl).mono ?_
 rintro e w' ⟨rfl, ⟨nd, rfl⟩⟩
 refine ⟨_, rfl, ?_⟩
 refine hK.out _ _ trivial (fun hHeld => ?_)
 clear hK K
 refine norm_ (a' := ?_) ?_ ?_
 rotate_left
 ·show Act.put _ (some 75) _ = _
  simp only [Act.put, List.setIfInBounds_toArray, List.set_cons_zero, List.set_cons_succ, i64_w, i32_w]
  rfl
 refine pure_ (i := 6) (N := some 76) (v := ?_) (a' := ?_) #[Y, Y, Y, Y, Y, Y, Y, Yn, Yn] rfl rfl (any_of HT_.out (by kernel_rfl)) (fun _ _ _ h => h) (Or.inl ⟨by rfl, ?_⟩) ?_ ?_
 rotate_left
 ·intro w'
  go_simp
  with_reducible rfl
 rotate_left
 ·simp only [Act.put, List.setIfInBounds_toArray, List.set_cons_zero, List.set_cons_succ, i64_w, i32_w]
  rfl
 refine pure_ (i := 7) (N := some 77) (v := ?_) (a' := ?_) #[Y, Y, Y, Y, Y, Y, Y, Y, Yn] rfl rfl (any_of HT_.out (by kernel_rfl)) (fun _ _ _ h => h) (Or.inl ⟨by rfl, ?_⟩) ?_ ?_
 rotate_left
 ·intro w'
  go_simp
  with_reducible rfl
 rotate_left
 ·simp only [Act.put, List.setIfInBounds_toArray, List.set_cons_zero, List.set_cons_succ, i64_w, i32_w]
  rfl
 refine one_ (i := 8) (N := none) #[Y, Y, Y, Y, Y, Y, Y, Y, Y] rfl rfl (one_of HT_.out (by kernel_rfl)) (by decide) (fun K hK => ?_)
 have hs43 : w0.cell? ⟨gp, 3, none⟩ = some (.bool false) := (blk_cell HP0.out 3).trans rfl
 have hfs43 := blk_frozen HP0.out 3
 refine skip_ (w1 := ?_) (by rfl) rfl ?_ ?_
 rotate_left
 ·go_simp
  rfl
 refine hK.out _ _ trivial (fun hHeld => ?_)
 clear hK K
 refine done_ (done_of HT_.out (by kernel_rfl)) ?_
 go_wp2_with (first | (go_at_call 53; (with_reducible refine (plenumref49_small.calls 30 s (p4 + 1) vw p5 true _ (Glob.below HG.out ((pw_below_drewN HB0.out nd).setCell (p := ⟨gp, 3, none⟩) HGP.out (.bool ((s.extract (p4 : Int).toNat ((p4 + 1) : Int).toNat).toList == [2])))) HW.out).mono ?_); rintro e wn ⟨rfl, hb⟩; have HBn := Aside0.mk (below_step ((pw_below_drewN HB0.out nd).setCell (p := ⟨gp, 3, none⟩) HGP.out (.bool ((s.extract (p4 : Int).toNat ((p4 + 1) : Int).toNat).toList == [2]))) hb); have HQn := Aside0.mk (blk_below (blk_far (blk_drewN HQ0.out nd) (p := ⟨gp, 3, none⟩) HNE.out (.bool ((s.extract (p4 : Int).toNat ((p4 + 1) : Int).toNat).toList == [2]))) hb); have HPn := Aside0.mk (blk_below (blk_put (blk_drewN HP0.out nd) 3 (.bool ((s.extract (p4 : Int).toNat ((p4 + 1) : Int).toNat).toList == [2])) rfl) hb); have cn4 := (blk_cell HPn.out 4).trans rfl; have fn4 := blk_frozen HPn.out 4; clear hb) | (go_at_call 57; (with_reducible refine (plenumref02_ReadText.calls 30 s p5 t q true _ (Glob.below HG.out (HBn.out.setCell (p := ⟨gp, 4, none⟩) HGP.out (.int .i64 vw))) HT.out).mono ?_); rintro e wo ⟨rfl, hb⟩; have HBo := Aside0.mk (below_step (HBn.out.setCell (p := ⟨gp, 4, none⟩) HGP.out (.int .i64 vw)) hb); have HQo := Aside0.mk (blk_below (blk_far HQn.out (p := ⟨gp, 4, none⟩) HNE.out (.int .i64 vw)) hb); have HPo := Aside0.mk (blk_below (blk_put HPn.out 4 (.int .i64 vw) rfl) hb); have co5 := (blk_cell HPo.out 5).trans rfl; have fo5 := blk_frozen HPo.out 5; have co2 := (blk_cell HPo.out 2).trans rfl; have fo2 := blk_frozen HPo.out 2; clear hb) | (refine wpList_store_row rfl 27 (.tmp 2) (.tmp _) rfl gq #[.int .i64 0, .int .i64 0, .int .i64 0, .bool false, .int .i64 0, .string ⟨#[]⟩] rfl rfl 27 #[.int .i64 0, .int .i64 0, .int .i64 0, .bool false, .int .i64 0, .string ⟨#[]⟩] (blk_far HQo.out (p := ⟨gp, 5, none⟩) HNE.out (.string t)) (by kernel_rfl) rfl (by simp [Value.oneCell']) ?_))
 refine bodyPost_ret (results_ct rfl _ _ gq 27 #[.int .i64 0, .int .i64 0, .int .i64 0, .bool false, .int .i64 0, .string ⟨#[]⟩] (0, 0) _ rfl (setRow_heap _ _ _ _ _ _ (blk_far HQo.out (p := ⟨gp, 5, none⟩) HNE.out (.string t))) Tryd.underlying27 rfl (by kernel_rfl)) rfl ⟨rfl, ?_⟩
 exact below_setRow (HBo.out.setCell (p := ⟨gp, 5, none⟩) HGP.out (.string t)) HQW.out _
set_option maxHeartbeats 16000000 in
set_option maxRecDepth 100000 in
theorem rdec9_0 (s : ByteArray) (w : World) (hG : Glob w) (n p1 : Int) (hh : plenumref02_ReadHead.f 30 s 0 = some (n, p1, true)) (hn : n = 6) (k p2 : Int) (hk : plenumref49_small.f 30 s p1 = some (k, p2, true)) (i p3 : Int) (hi : plenumref49_small.f 30 s p2 = some (i, p3, true)) (num p4 : Int) (hs : plenumref02_ReadSigned.f 30 s p3 = some (num, p4, true)) (hd : plenumref02_Kind.f 30 s p4 = some 2) (h0 : 0 ≤ p4) (h1 : p4 < (s.size : Int)) (hz : s.size ≤ 1000000) (vw p5 : Int) (hw5 : plenumref49_small.f 30 s (p4 + 1) = some (vw, p5, true)) (t : ByteArray) (ht : plenumref02_ReadText.f 30 s p5 = some (t, (s.size : Int), true)) (c1 : num < -1) (ce : Int) (hce : plenumref49_Check.f 30 k i 1001 ((s.extract (p4 : Int).toNat ((p4 + 1) : Int).toNat).toList == [2]) vw t = some ce) (he : ce ≠ 0) : Calls Tryd.prog 15 #[.string s] w fun e w' => RDPost w (zA ce) e w' := by
 have HG := Aside0.mk hG
 have HH := Aside0.mk hh
 have hnb : (n != 6) = false := by rw [hn]; rfl
 clear hG hh hn
 have HK := Aside0.mk hk
 clear hk
 have HI := Aside0.mk hi
 clear hi
 have HN := Aside0.mk hs
 clear hs
 have HD := Aside0.mk hd
 clear hd
 have hw : wrap64 (p4 + 1) = p4 + 1 := by unfold wrap64; omega
 have hs1 : p4 ≤ p4 + 1 := by omega
 have hs2 : p4 + 1 ≤ (s.size : Int) := by omega
 have HW := Aside0.mk hw5
 clear hw5
 have HT := Aside0.mk ht
 clear ht
 have HE := Aside0.mk hce
 clear hce
 have b1 : decide (num < -1) = true := decide_eq_true c1
 have heb : (ce != 0) = true := bne_iff_ne.mpr he
 go_enter Tryd.func15, Tryd.ntmps15
 go_wp2_with (first | ((with_reducible refine gate_dst (N := 2) rfl ?_); refine box_event ?hg (N := 2) ?hd (cs := #[.int .i64 0, .int .i64 0, .int .i64 0, .bool false, .int .i64 0, .string ⟨#[]⟩]) (t := 27) ?hr ?_; (case hd => rfl); (case hg => rfl); (case hr => first | (go_simp; done) | (go_simp; rfl)); intro gq hgq wa hbox hb; have HQa := Aside0.mk hbox; have HBa := Aside0.mk hb; have HQW := Aside0.mk (show w.heap.size ≤ gq by rw [hgq]; exact Nat.le_refl _); clear hb hbox hgq) | (go_at_call 52; (with_reducible refine (plenumref02_ReadHead.calls 30 s 0 n p1 true _ (Glob.below HG.out HBa.out) HH.out).mono ?_); rintro e wb ⟨rfl, hb⟩; have HBb := Aside0.mk (below_step HBa.out hb); have HQb := Aside0.mk (blk_below HQa.out hb); clear hb) | ((with_reducible refine gate_dst (N := 7) rfl ?_); refine box_event ?hg (N := 7) ?hd (cs := #[.int .i64 0, .int .i64 0, .int .i64 0, .bool false, .int .i64 0, .string ⟨#[]⟩]) (t := 27) ?hr ?_; (case hd => rfl); (case hg => rfl); (case hr => first | (go_simp; done) | (go_simp; rfl)); intro gp hgp wp hbox hb; have HPp := Aside0.mk hbox; have HQp := Aside0.mk (blk_below HQb.out hb); have HBp := Aside0.mk (below_step HBb.out hb); have HNE := Aside0.mk (show gq ≠ gp by rw [hgp]; exact Nat.ne_of_lt (blk_lt HQb.out)); have HGP := Aside0.mk (show w.heap.size ≤ gp by rw [hgp]; exact HBb.out.size); clear hb hbox hgp) | (refine wpList_store_row rfl 27 (.tmp 7) (.tmp 29) rfl gp #[.int .i64 0, .int .i64 0, .int .i64 0, .bool false, .int .i64 0, .string ⟨#[]⟩] rfl rfl 27 #[.int .i64 0, .int .i64 0, .int .i64 0, .bool false, .int .i64 0, .string ⟨#[]⟩] HPp.out (by kernel_rfl) rfl (by simp [Value.oneCell']) ?_; have HPr := Aside0.mk (setRow_heap _ _ _ #[.int .i64 0, .int .i64 0, .int .i64 0, .bool false, .int .i64 0, .string ⟨#[]⟩] _ _ HPp.out); have HQr := Aside0.mk ((setRow_other wp gp gq #[.int .i64 0, .int .i64 0, .int .i64 0, .bool false, .int .i64 0, .string ⟨#[]⟩] HNE.out).trans HQp.out); have HBr := Aside0.mk (below_setRow HBp.out HGP.out #[.int .i64 0, .int .i64 0, .int .i64 0, .bool false, .int .i64 0, .string ⟨#[]⟩]); generalize wp.setRow gp #[.int .i64 0, .int .i64 0, .int .i64 0, .bool false, .int .i64 0, .string ⟨#[]⟩] = wr at HPr HQr HBr ⊢) | (go_at_call 53; (with_reducible refine (plenumref49_small.calls 30 s p1 k p2 true _ (Glob.below HG.out HBr.out) HK.out).mono ?_); rintro e wc ⟨rfl, hb⟩; have HBc := Aside0.mk (below_step HBr.out hb); have HQc := Aside0.mk (blk_below HQr.out hb); have HPc := Aside0.mk (blk_below HPr.out hb); have cc0 := (blk_cell HPc.out 0).trans rfl; have fc0 := blk_frozen HPc.out 0; clear hb) | (go_at_call 53; (with_reducible refine (plenumref49_small.calls 30 s p2 i p3 true _ (Glob.below HG.out (HBc.out.setCell (p := ⟨gp, 0, none⟩) HGP.out (.int .i64 k))) HI.out).mono ?_); rintro e wd ⟨rfl, hb⟩; have HBd := Aside0.mk (below_step (HBc.out.setCell (p := ⟨gp, 0, none⟩) HGP.out (.int .i64 k)) hb); have HQd := Aside0.mk (blk_below (blk_far HQc.out (p := ⟨gp, 0, none⟩) HNE.out (.int .i64 k)) hb); have HPd := Aside0.mk (blk_below (blk_put HPc.out 0 (.int .i64 k) rfl) hb); have cd1 := (blk_cell HPd.out 1).trans rfl; have fd1 := blk_frozen HPd.out 1; clear hb) | (go_at_call 54; (with_reducible refine (plenumref02_ReadSigned.calls 30 s p3 num p4 true _ (Glob.below HG.out (HBd.out.setCell (p := ⟨gp, 1, none⟩) HGP.out (.int .i64 i))) HN.out).mono ?_); rintro e we ⟨rfl, hb⟩; have HBe := Aside0.mk (below_step (HBd.out.setCell (p := ⟨gp, 1, none⟩) HGP.out (.int .i64 i)) hb); have HQe := Aside0.mk (blk_below (blk_far HQd.out (p := ⟨gp, 1, none⟩) HNE.out (.int .i64 i)) hb); have HPe := Aside0.mk (blk_below (blk_put HPd.out 1 (.int .i64 i) rfl) hb); clear hb) | (go_at_call 55; (with_reducible refine (plenumref02_Kind.calls 30 s p4 2 _ (Glob.below HG.out HBe.out) HD.out).mono ?_); rintro e wh ⟨rfl, hb0⟩; have hb := hb0.below; clear hb0; have HBh := Aside0.mk (below_step HBe.out hb); have HQh := Aside0.mk (blk_below HQe.out hb); have HPh := Aside0.mk (blk_below HPe.out hb); have ch3 := (blk_cell HPh.out 3).trans rfl; have fh3 := blk_frozen HPh.out 3; clear hb))
 have HQ0 := Aside0.mk (blk_drew HQh.out)
 have HP0 := Aside0.mk (blk_drew HPh.out)
 have HB0 := Aside0.mk (below_drew1 HBh.out)
 clear HQh HPh HBh
 refine start_ (n := 9) (S := fun w' => True) (ds := []) #[Yn, Yn, Yn, Yn, Yn, Yn, Yn, Yn, Yn] (by kernel_rfl) rfl rfl trivial (fun hHeld => ?_); refine with_tabW rtab14 rbits14 (fun HT_ HW_ => ?_)
 generalize wh.drew = w0 at HQ0 HP0 HB0 hHeld ⊢
 refine pure_ (i := 0) (N := some 70) (v := ?_) (a' := ?_) #[Y, Yn, Yn, Yn, Yn, Yn, Yn, Yn, Yn] rfl rfl (any_of HT_.out (by kernel_rfl)) (fun _ _ _ h => h) (Or.inl ⟨by rfl, ?_⟩) ?_ ?_
 rotate_left
 ·intro w'
  go_simp
  with_reducible rfl
 rotate_left
 ·simp only [Act.put, List.setIfInBounds_toArray, List.set_cons_zero, List.set_cons_succ, i64_w, i32_w]
  rfl
 refine pure_ (i := 1) (N := some 71) (v := ?_) (a' := ?_) #[Y, Y, Yn, Yn, Yn, Yn, Yn, Yn, Yn] rfl rfl (any_of HT_.out (by kernel_rfl)) (fun _ _ _ h => h) (Or.inl ⟨by rfl, ?_⟩) ?_ ?_
 rotate_left
 ·intro w'
  go_simp
  with_reducible rfl
 rotate_left
 ·simp only [Act.put, List.setIfInBounds_toArray, List.set_cons_zero, List.set_cons_succ, i64_w, i32_w]
  rfl
 refine pure_ (i := 2) (N := some 72) (v := ?_) (a' := ?_) #[Y, Y, Y, Yn, Yn, Yn, Yn, Yn, Yn] rfl rfl (any_of HT_.out (by kernel_rfl)) (fun _ _ _ h => h) (Or.inl ⟨by rfl, ?_⟩) ?_ ?_
 rotate_left
 ·intro w'
  go_simp
  with_reducible rfl
 rotate_left
 ·simp only [Act.put, List.setIfInBounds_toArray, List.set_cons_zero, List.set_cons_succ, i64_w, i32_w]
  rfl
 refine pure_ (i := 3) (N := some 73) (v := ?_) (a' := ?_) #[Y, Y, Y, Y, Yn, Yn, Yn, Yn, Yn] rfl rfl (any_of HT_.out (by kernel_rfl)) (fun _ _ _ h => h) (Or.inl ⟨by rfl, ?_⟩) ?_ ?_
 rotate_left
 ·intro w'
  go_simp
  with_reducible rfl
 rotate_left
 ·simp only [Act.put, List.setIfInBounds_toArray, List.set_cons_zero, List.set_cons_succ, i64_w, i32_w]
  rfl
 refine pure_ (i := 4) (N := some 74) (v := ?_) (a' := ?_) #[Y, Y, Y, Y, Y, Yn, Yn, Yn, Yn] rfl rfl (any_of HT_.out (by kernel_rfl)) (fun _ _ _ h => h) (Or.inl ⟨by rfl, ?_⟩) ?_ ?_
 rotate_left
 ·intro w'
  go_simp
  with_reducible rfl
 rotate_left
 ·simp only [Act.put, List.setIfInBounds_toArray, List.set_cons_zero, List.set_cons_succ, i64_w, i32_w]
  rfl
 refine one_ (i := 5) (N := some 75) #[Y, Y, Y, Y, Y, Y, Yn, Yn, Yn] rfl rfl (one_of HT_.out (by kernel_rfl)) (by decide) (fun K hK => ?_)
 refine goes_ Tryd.func56 (by kernel_rfl) rfl #[.bool true] (by rfl) rfl rfl (by (try simp only [List.map_toArray, List.map_cons, List.map_nil]); first | done | rfl | (simp only [List.length_drop, List.length_take]; rfl)) ?_
 with_reducible refine (plenumref02_Bool.calls true (⟨#[2]⟩ : ByteArray) _ (Glob.below HG.out HB0.out) rfl).mono ?_
 rintro e w' ⟨rfl, ⟨nd, rfl⟩⟩
 refine ⟨_, rfl, ?_⟩
 refine hK.out _ _ trivial (fun hHeld => ?_)
 clear hK K
 refine norm_ (a' := ?_) ?_ ?_
 rotate_left
 ·show Act.put _ (some 75) _ = _
  simp only [Act.put, List.setIfInBounds_toArray, List.set_cons_zero, List.set_cons_succ, i64_w, i32_w]
  rfl
 refine pure_ (i := 6) (N := some 76) (v := ?_) (a' := ?_) #[Y, Y, Y, Y, Y, Y, Y, Yn, Yn] rfl rfl (any_of HT_.out (by kernel_rfl)) (fun _ _ _ h => h) (Or.inl ⟨by rfl, ?_⟩) ?_ ?_
 rotate_left
 ·intro w'
  go_simp
  with_reducible rfl
 rotate_left
 ·simp only [Act.put, List.setIfInBounds_toArray, List.set_cons_zero, List.set_cons_succ, i64_w, i32_w]
  rfl
 refine pure_ (i := 7) (N := some 77) (v := ?_) (a' := ?_) #[Y, Y, Y, Y, Y, Y, Y, Y, Yn] rfl rfl (any_of HT_.out (by kernel_rfl)) (fun _ _ _ h => h) (Or.inl ⟨by rfl, ?_⟩) ?_ ?_
 rotate_left
 ·intro w'
  go_simp
  with_reducible rfl
 rotate_left
 ·simp only [Act.put, List.setIfInBounds_toArray, List.set_cons_zero, List.set_cons_succ, i64_w, i32_w]
  rfl
 refine one_ (i := 8) (N := none) #[Y, Y, Y, Y, Y, Y, Y, Y, Y] rfl rfl (one_of HT_.out (by kernel_rfl)) (by decide) (fun K hK => ?_)
 have hs43 : w0.cell? ⟨gp, 3, none⟩ = some (.bool false) := (blk_cell HP0.out 3).trans rfl
 have hfs43 := blk_frozen HP0.out 3
 refine skip_ (w1 := ?_) (by rfl) rfl ?_ ?_
 rotate_left
 ·go_simp
  rfl
 refine hK.out _ _ trivial (fun hHeld => ?_)
 clear hK K
 refine done_ (done_of HT_.out (by kernel_rfl)) ?_
 go_wp2_with (first | (go_at_call 53; (with_reducible refine (plenumref49_small.calls 30 s (p4 + 1) vw p5 true _ (Glob.below HG.out ((pw_below_drewN HB0.out nd).setCell (p := ⟨gp, 3, none⟩) HGP.out (.bool ((s.extract (p4 : Int).toNat ((p4 + 1) : Int).toNat).toList == [2])))) HW.out).mono ?_); rintro e wn ⟨rfl, hb⟩; have HBn := Aside0.mk (below_step ((pw_below_drewN HB0.out nd).setCell (p := ⟨gp, 3, none⟩) HGP.out (.bool ((s.extract (p4 : Int).toNat ((p4 + 1) : Int).toNat).toList == [2]))) hb); have HQn := Aside0.mk (blk_below (blk_far (blk_drewN HQ0.out nd) (p := ⟨gp, 3, none⟩) HNE.out (.bool ((s.extract (p4 : Int).toNat ((p4 + 1) : Int).toNat).toList == [2]))) hb); have HPn := Aside0.mk (blk_below (blk_put (blk_drewN HP0.out nd) 3 (.bool ((s.extract (p4 : Int).toNat ((p4 + 1) : Int).toNat).toList == [2])) rfl) hb); have cn4 := (blk_cell HPn.out 4).trans rfl; have fn4 := blk_frozen HPn.out 4; clear hb) | (go_at_call 57; (with_reducible refine (plenumref02_ReadText.calls 30 s p5 t (s.size : Int) true _ (Glob.below HG.out (HBn.out.setCell (p := ⟨gp, 4, none⟩) HGP.out (.int .i64 vw))) HT.out).mono ?_); rintro e wo ⟨rfl, hb⟩; have HBo := Aside0.mk (below_step (HBn.out.setCell (p := ⟨gp, 4, none⟩) HGP.out (.int .i64 vw)) hb); have HQo := Aside0.mk (blk_below (blk_far HQn.out (p := ⟨gp, 4, none⟩) HNE.out (.int .i64 vw)) hb); have HPo := Aside0.mk (blk_below (blk_put HPn.out 4 (.int .i64 vw) rfl) hb); have co5 := (blk_cell HPo.out 5).trans rfl; have fo5 := blk_frozen HPo.out 5; have co2 := (blk_cell HPo.out 2).trans rfl; have fo2 := blk_frozen HPo.out 2; clear hb) | (refine wpList_load_row rfl 27 (.tmp 7) rfl gp rfl 27 #[.int .i64 k, .int .i64 i, .int .i64 1001, .bool ((s.extract (p4 : Int).toNat ((p4 + 1) : Int).toNat).toList == [2]), .int .i64 vw, .string t] (0, 0) _ (blk_put (blk_put HPo.out 5 (.string t) rfl) 2 (.int .i64 1001) rfl) Tryd.underlying27 rfl (by kernel_rfl) ?_) | (go_at_call 11; (with_reducible refine (plenumref49_Check.calls 30 k i 1001 ((s.extract (p4 : Int).toNat ((p4 + 1) : Int).toNat).toList == [2]) vw t ce _ (Glob.below HG.out ((HBo.out.setCell (p := ⟨gp, 5, none⟩) HGP.out (.string t)).setCell (p := ⟨gp, 2, none⟩) HGP.out (.int .i64 1001))) HE.out).mono ?_); rintro e wz ⟨rfl, hb⟩; have HBz := Aside0.mk (below_step ((HBo.out.setCell (p := ⟨gp, 5, none⟩) HGP.out (.string t)).setCell (p := ⟨gp, 2, none⟩) HGP.out (.int .i64 1001)) hb); have HQz := Aside0.mk (blk_below (blk_far (blk_far HQo.out (p := ⟨gp, 5, none⟩) HNE.out (.string t)) (p := ⟨gp, 2, none⟩) HNE.out (.int .i64 1001)) hb); have HPz := Aside0.mk (blk_below (blk_put (blk_put HPo.out 5 (.string t) rfl) 2 (.int .i64 1001) rfl) hb); clear hb) | (refine wpList_store_row rfl 27 (.tmp 2) (.tmp _) rfl gq #[.int .i64 0, .int .i64 0, .int .i64 0, .bool false, .int .i64 0, .string ⟨#[]⟩] rfl rfl 27 #[.int .i64 0, .int .i64 0, .int .i64 0, .bool false, .int .i64 0, .string ⟨#[]⟩] HQz.out (by kernel_rfl) rfl (by simp [Value.oneCell']) ?_))
 refine bodyPost_ret (results_ct rfl _ _ gq 27 #[.int .i64 0, .int .i64 0, .int .i64 0, .bool false, .int .i64 0, .string ⟨#[]⟩] (0, 0) _ rfl (setRow_heap _ _ _ _ _ _ HQz.out) Tryd.underlying27 rfl (by kernel_rfl)) rfl ⟨rfl, ?_⟩
 exact below_setRow HBz.out HQW.out _
set_option maxHeartbeats 16000000 in
set_option maxRecDepth 100000 in
theorem rdec9_1 (s : ByteArray) (w : World) (hG : Glob w) (n p1 : Int) (hh : plenumref02_ReadHead.f 30 s 0 = some (n, p1, true)) (hn : n = 6) (k p2 : Int) (hk : plenumref49_small.f 30 s p1 = some (k, p2, true)) (i p3 : Int) (hi : plenumref49_small.f 30 s p2 = some (i, p3, true)) (num p4 : Int) (hs : plenumref02_ReadSigned.f 30 s p3 = some (num, p4, true)) (hd : plenumref02_Kind.f 30 s p4 = some 2) (h0 : 0 ≤ p4) (h1 : p4 < (s.size : Int)) (hz : s.size ≤ 1000000) (vw p5 : Int) (hw5 : plenumref49_small.f 30 s (p4 + 1) = some (vw, p5, true)) (t : ByteArray) (ht : plenumref02_ReadText.f 30 s p5 = some (t, (s.size : Int), true)) (c1 : ¬ num < -1) (c2 : num > 1000) (ce : Int) (hce : plenumref49_Check.f 30 k i 1001 ((s.extract (p4 : Int).toNat ((p4 + 1) : Int).toNat).toList == [2]) vw t = some ce) (he : ce ≠ 0) : Calls Tryd.prog 15 #[.string s] w fun e w' => RDPost w (zA ce) e w' := by
 have HG := Aside0.mk hG
 have HH := Aside0.mk hh
 have hnb : (n != 6) = false := by rw [hn]; rfl
 clear hG hh hn
 have HK := Aside0.mk hk
 clear hk
 have HI := Aside0.mk hi
 clear hi
 have HN := Aside0.mk hs
 clear hs
 have HD := Aside0.mk hd
 clear hd
 have hw : wrap64 (p4 + 1) = p4 + 1 := by unfold wrap64; omega
 have hs1 : p4 ≤ p4 + 1 := by omega
 have hs2 : p4 + 1 ≤ (s.size : Int) := by omega
 have HW := Aside0.mk hw5
 clear hw5
 have HT := Aside0.mk ht
 clear ht
 have HE := Aside0.mk hce
 clear hce
 have b1 : decide (num < -1) = false := decide_eq_false c1
 have b2 : decide (num > 1000) = true := decide_eq_true c2
 have heb : (ce != 0) = true := bne_iff_ne.mpr he
 go_enter Tryd.func15, Tryd.ntmps15
 go_wp2_with (first | ((with_reducible refine gate_dst (N := 2) rfl ?_); refine box_event ?hg (N := 2) ?hd (cs := #[.int .i64 0, .int .i64 0, .int .i64 0, .bool false, .int .i64 0, .string ⟨#[]⟩]) (t := 27) ?hr ?_; (case hd => rfl); (case hg => rfl); (case hr => first | (go_simp; done) | (go_simp; rfl)); intro gq hgq wa hbox hb; have HQa := Aside0.mk hbox; have HBa := Aside0.mk hb; have HQW := Aside0.mk (show w.heap.size ≤ gq by rw [hgq]; exact Nat.le_refl _); clear hb hbox hgq) | (go_at_call 52; (with_reducible refine (plenumref02_ReadHead.calls 30 s 0 n p1 true _ (Glob.below HG.out HBa.out) HH.out).mono ?_); rintro e wb ⟨rfl, hb⟩; have HBb := Aside0.mk (below_step HBa.out hb); have HQb := Aside0.mk (blk_below HQa.out hb); clear hb) | ((with_reducible refine gate_dst (N := 7) rfl ?_); refine box_event ?hg (N := 7) ?hd (cs := #[.int .i64 0, .int .i64 0, .int .i64 0, .bool false, .int .i64 0, .string ⟨#[]⟩]) (t := 27) ?hr ?_; (case hd => rfl); (case hg => rfl); (case hr => first | (go_simp; done) | (go_simp; rfl)); intro gp hgp wp hbox hb; have HPp := Aside0.mk hbox; have HQp := Aside0.mk (blk_below HQb.out hb); have HBp := Aside0.mk (below_step HBb.out hb); have HNE := Aside0.mk (show gq ≠ gp by rw [hgp]; exact Nat.ne_of_lt (blk_lt HQb.out)); have HGP := Aside0.mk (show w.heap.size ≤ gp by rw [hgp]; exact HBb.out.size); clear hb hbox hgp) | (refine wpList_store_row rfl 27 (.tmp 7) (.tmp 29) rfl gp #[.int .i64 0, .int .i64 0, .int .i64 0, .bool false, .int .i64 0, .string ⟨#[]⟩] rfl rfl 27 #[.int .i64 0, .int .i64 0, .int .i64 0, .bool false, .int .i64 0, .string ⟨#[]⟩] HPp.out (by kernel_rfl) rfl (by simp [Value.oneCell']) ?_; have HPr := Aside0.mk (setRow_heap _ _ _ #[.int .i64 0, .int .i64 0, .int .i64 0, .bool false, .int .i64 0, .string ⟨#[]⟩] _ _ HPp.out); have HQr := Aside0.mk ((setRow_other wp gp gq #[.int .i64 0, .int .i64 0, .int .i64 0, .bool false, .int .i64 0, .string ⟨#[]⟩] HNE.out).trans HQp.out); have HBr := Aside0.mk (below_setRow HBp.out HGP.out #[.int .i64 0, .int .i64 0, .int .i64 0, .bool false, .int .i64 0, .string ⟨#[]⟩]); generalize wp.setRow gp #[.int .i64 0, .int .i64 0, .int .i64 0, .bool false, .int .i64 0, .string ⟨#[]⟩] = wr at HPr HQr HBr ⊢) | (go_at_call 53; (with_reducible refine (plenumref49_small.calls 30 s p1 k p2 true _ (Glob.below HG.out HBr.out) HK.out).mono ?_); rintro e wc ⟨rfl, hb⟩; have HBc := Aside0.mk (below_step HBr.out hb); have HQc := Aside0.mk (blk_below HQr.out hb); have HPc := Aside0.mk (blk_below HPr.out hb); have cc0 := (blk_cell HPc.out 0).trans rfl; have fc0 := blk_frozen HPc.out 0; clear hb) | (go_at_call 53; (with_reducible refine (plenumref49_small.calls 30 s p2 i p3 true _ (Glob.below HG.out (HBc.out.setCell (p := ⟨gp, 0, none⟩) HGP.out (.int .i64 k))) HI.out).mono ?_); rintro e wd ⟨rfl, hb⟩; have HBd := Aside0.mk (below_step (HBc.out.setCell (p := ⟨gp, 0, none⟩) HGP.out (.int .i64 k)) hb); have HQd := Aside0.mk (blk_below (blk_far HQc.out (p := ⟨gp, 0, none⟩) HNE.out (.int .i64 k)) hb); have HPd := Aside0.mk (blk_below (blk_put HPc.out 0 (.int .i64 k) rfl) hb); have cd1 := (blk_cell HPd.out 1).trans rfl; have fd1 := blk_frozen HPd.out 1; clear hb) | (go_at_call 54; (with_reducible refine (plenumref02_ReadSigned.calls 30 s p3 num p4 true _ (Glob.below HG.out (HBd.out.setCell (p := ⟨gp, 1, none⟩) HGP.out (.int .i64 i))) HN.out).mono ?_); rintro e we ⟨rfl, hb⟩; have HBe := Aside0.mk (below_step (HBd.out.setCell (p := ⟨gp, 1, none⟩) HGP.out (.int .i64 i)) hb); have HQe := Aside0.mk (blk_below (blk_far HQd.out (p := ⟨gp, 1, none⟩) HNE.out (.int .i64 i)) hb); have HPe := Aside0.mk (blk_below (blk_put HPd.out 1 (.int .i64 i) rfl) hb); clear hb) | (go_at_call 55; (with_reducible refine (plenumref02_Kind.calls 30 s p4 2 _ (Glob.below HG.out HBe.out) HD.out).mono ?_); rintro e wh ⟨rfl, hb0⟩; have hb := hb0.below; clear hb0; have HBh := Aside0.mk (below_step HBe.out hb); have HQh := Aside0.mk (blk_below HQe.out hb); have HPh := Aside0.mk (blk_below HPe.out hb); have ch3 := (blk_cell HPh.out 3).trans rfl; have fh3 := blk_frozen HPh.out 3; clear hb))
 have HQ0 := Aside0.mk (blk_drew HQh.out)
 have HP0 := Aside0.mk (blk_drew HPh.out)
 have HB0 := Aside0.mk (below_drew1 HBh.out)
 clear HQh HPh HBh
 refine start_ (n := 9) (S := fun w' => True) (ds := []) #[Yn, Yn, Yn, Yn, Yn, Yn, Yn, Yn, Yn] (by kernel_rfl) rfl rfl trivial (fun hHeld => ?_); refine with_tabW rtab14 rbits14 (fun HT_ HW_ => ?_)
 generalize wh.drew = w0 at HQ0 HP0 HB0 hHeld ⊢
 refine pure_ (i := 0) (N := some 70) (v := ?_) (a' := ?_) #[Y, Yn, Yn, Yn, Yn, Yn, Yn, Yn, Yn] rfl rfl (any_of HT_.out (by kernel_rfl)) (fun _ _ _ h => h) (Or.inl ⟨by rfl, ?_⟩) ?_ ?_
 rotate_left
 ·intro w'
  go_simp
  with_reducible rfl
 rotate_left
 ·simp only [Act.put, List.setIfInBounds_toArray, List.set_cons_zero, List.set_cons_succ, i64_w, i32_w]
  rfl
 refine pure_ (i := 1) (N := some 71) (v := ?_) (a' := ?_) #[Y, Y, Yn, Yn, Yn, Yn, Yn, Yn, Yn] rfl rfl (any_of HT_.out (by kernel_rfl)) (fun _ _ _ h => h) (Or.inl ⟨by rfl, ?_⟩) ?_ ?_
 rotate_left
 ·intro w'
  go_simp
  with_reducible rfl
 rotate_left
 ·simp only [Act.put, List.setIfInBounds_toArray, List.set_cons_zero, List.set_cons_succ, i64_w, i32_w]
  rfl
 refine pure_ (i := 2) (N := some 72) (v := ?_) (a' := ?_) #[Y, Y, Y, Yn, Yn, Yn, Yn, Yn, Yn] rfl rfl (any_of HT_.out (by kernel_rfl)) (fun _ _ _ h => h) (Or.inl ⟨by rfl, ?_⟩) ?_ ?_
 rotate_left
 ·intro w'
  go_simp
  with_reducible rfl
 rotate_left
 ·simp only [Act.put, List.setIfInBounds_toArray, List.set_cons_zero, List.set_cons_succ, i64_w, i32_w]
  rfl
 refine pure_ (i := 3) (N := some 73) (v := ?_) (a' := ?_) #[Y, Y, Y, Y, Yn, Yn, Yn, Yn, Yn] rfl rfl (any_of HT_.out (by kernel_rfl)) (fun _ _ _ h => h) (Or.inl ⟨by rfl, ?_⟩) ?_ ?_
 rotate_left
 ·intro w'
  go_simp
  with_reducible rfl
 rotate_left
 ·simp only [Act.put, List.setIfInBounds_toArray, List.set_cons_zero, List.set_cons_succ, i64_w, i32_w]
  rfl
 refine pure_ (i := 4) (N := some 74) (v := ?_) (a' := ?_) #[Y, Y, Y, Y, Y, Yn, Yn, Yn, Yn] rfl rfl (any_of HT_.out (by kernel_rfl)) (fun _ _ _ h => h) (Or.inl ⟨by rfl, ?_⟩) ?_ ?_
 rotate_left
 ·intro w'
  go_simp
  with_reducible rfl
 rotate_left
 ·simp only [Act.put, List.setIfInBounds_toArray, List.set_cons_zero, List.set_cons_succ, i64_w, i32_w]
  rfl
 refine one_ (i := 5) (N := some 75) #[Y, Y, Y, Y, Y, Y, Yn, Yn, Yn] rfl rfl (one_of HT_.out (by kernel_rfl)) (by decide) (fun K hK => ?_)
 refine goes_ Tryd.func56 (by kernel_rfl) rfl #[.bool true] (by rfl) rfl rfl (by (try simp only [List.map_toArray, List.map_cons, List.map_nil]); first | done | rfl | (simp only [List.length_drop, List.length_take]; rfl)) ?_
 with_reducible refine (plenumref02_Bool.calls true (⟨#[2]⟩ : ByteArray) _ (Glob.below HG.out HB0.out) rfl).mono ?_
 rintro e w' ⟨rfl, ⟨nd, rfl⟩⟩
 refine ⟨_, rfl, ?_⟩
 refine hK.out _ _ trivial (fun hHeld => ?_)
 clear hK K
 refine norm_ (a' := ?_) ?_ ?_
 rotate_left
 ·show Act.put _ (some 75) _ = _
  simp only [Act.put, List.setIfInBounds_toArray, List.set_cons_zero, List.set_cons_succ, i64_w, i32_w]
  rfl
 refine pure_ (i := 6) (N := some 76) (v := ?_) (a' := ?_) #[Y, Y, Y, Y, Y, Y, Y, Yn, Yn] rfl rfl (any_of HT_.out (by kernel_rfl)) (fun _ _ _ h => h) (Or.inl ⟨by rfl, ?_⟩) ?_ ?_
 rotate_left
 ·intro w'
  go_simp
  with_reducible rfl
 rotate_left
 ·simp only [Act.put, List.setIfInBounds_toArray, List.set_cons_zero, List.set_cons_succ, i64_w, i32_w]
  rfl
 refine pure_ (i := 7) (N := some 77) (v := ?_) (a' := ?_) #[Y, Y, Y, Y, Y, Y, Y, Y, Yn] rfl rfl (any_of HT_.out (by kernel_rfl)) (fun _ _ _ h => h) (Or.inl ⟨by rfl, ?_⟩) ?_ ?_
 rotate_left
 ·intro w'
  go_simp
  with_reducible rfl
 rotate_left
 ·simp only [Act.put, List.setIfInBounds_toArray, List.set_cons_zero, List.set_cons_succ, i64_w, i32_w]
  rfl
 refine one_ (i := 8) (N := none) #[Y, Y, Y, Y, Y, Y, Y, Y, Y] rfl rfl (one_of HT_.out (by kernel_rfl)) (by decide) (fun K hK => ?_)
 have hs43 : w0.cell? ⟨gp, 3, none⟩ = some (.bool false) := (blk_cell HP0.out 3).trans rfl
 have hfs43 := blk_frozen HP0.out 3
 refine skip_ (w1 := ?_) (by rfl) rfl ?_ ?_
 rotate_left
 ·go_simp
  rfl
 refine hK.out _ _ trivial (fun hHeld => ?_)
 clear hK K
 refine done_ (done_of HT_.out (by kernel_rfl)) ?_
 go_wp2_with (first | (go_at_call 53; (with_reducible refine (plenumref49_small.calls 30 s (p4 + 1) vw p5 true _ (Glob.below HG.out ((pw_below_drewN HB0.out nd).setCell (p := ⟨gp, 3, none⟩) HGP.out (.bool ((s.extract (p4 : Int).toNat ((p4 + 1) : Int).toNat).toList == [2])))) HW.out).mono ?_); rintro e wn ⟨rfl, hb⟩; have HBn := Aside0.mk (below_step ((pw_below_drewN HB0.out nd).setCell (p := ⟨gp, 3, none⟩) HGP.out (.bool ((s.extract (p4 : Int).toNat ((p4 + 1) : Int).toNat).toList == [2]))) hb); have HQn := Aside0.mk (blk_below (blk_far (blk_drewN HQ0.out nd) (p := ⟨gp, 3, none⟩) HNE.out (.bool ((s.extract (p4 : Int).toNat ((p4 + 1) : Int).toNat).toList == [2]))) hb); have HPn := Aside0.mk (blk_below (blk_put (blk_drewN HP0.out nd) 3 (.bool ((s.extract (p4 : Int).toNat ((p4 + 1) : Int).toNat).toList == [2])) rfl) hb); have cn4 := (blk_cell HPn.out 4).trans rfl; have fn4 := blk_frozen HPn.out 4; clear hb) | (go_at_call 57; (with_reducible refine (plenumref02_ReadText.calls 30 s p5 t (s.size : Int) true _ (Glob.below HG.out (HBn.out.setCell (p := ⟨gp, 4, none⟩) HGP.out (.int .i64 vw))) HT.out).mono ?_); rintro e wo ⟨rfl, hb⟩; have HBo := Aside0.mk (below_step (HBn.out.setCell (p := ⟨gp, 4, none⟩) HGP.out (.int .i64 vw)) hb); have HQo := Aside0.mk (blk_below (blk_far HQn.out (p := ⟨gp, 4, none⟩) HNE.out (.int .i64 vw)) hb); have HPo := Aside0.mk (blk_below (blk_put HPn.out 4 (.int .i64 vw) rfl) hb); have co5 := (blk_cell HPo.out 5).trans rfl; have fo5 := blk_frozen HPo.out 5; have co2 := (blk_cell HPo.out 2).trans rfl; have fo2 := blk_frozen HPo.out 2; clear hb) | (refine wpList_load_row rfl 27 (.tmp 7) rfl gp rfl 27 #[.int .i64 k, .int .i64 i, .int .i64 1001, .bool ((s.extract (p4 : Int).toNat ((p4 + 1) : Int).toNat).toList == [2]), .int .i64 vw, .string t] (0, 0) _ (blk_put (blk_put HPo.out 5 (.string t) rfl) 2 (.int .i64 1001) rfl) Tryd.underlying27 rfl (by kernel_rfl) ?_) | (go_at_call 11; (with_reducible refine (plenumref49_Check.calls 30 k i 1001 ((s.extract (p4 : Int).toNat ((p4 + 1) : Int).toNat).toList == [2]) vw t ce _ (Glob.below HG.out ((HBo.out.setCell (p := ⟨gp, 5, none⟩) HGP.out (.string t)).setCell (p := ⟨gp, 2, none⟩) HGP.out (.int .i64 1001))) HE.out).mono ?_); rintro e wz ⟨rfl, hb⟩; have HBz := Aside0.mk (below_step ((HBo.out.setCell (p := ⟨gp, 5, none⟩) HGP.out (.string t)).setCell (p := ⟨gp, 2, none⟩) HGP.out (.int .i64 1001)) hb); have HQz := Aside0.mk (blk_below (blk_far (blk_far HQo.out (p := ⟨gp, 5, none⟩) HNE.out (.string t)) (p := ⟨gp, 2, none⟩) HNE.out (.int .i64 1001)) hb); have HPz := Aside0.mk (blk_below (blk_put (blk_put HPo.out 5 (.string t) rfl) 2 (.int .i64 1001) rfl) hb); clear hb) | (refine wpList_store_row rfl 27 (.tmp 2) (.tmp _) rfl gq #[.int .i64 0, .int .i64 0, .int .i64 0, .bool false, .int .i64 0, .string ⟨#[]⟩] rfl rfl 27 #[.int .i64 0, .int .i64 0, .int .i64 0, .bool false, .int .i64 0, .string ⟨#[]⟩] HQz.out (by kernel_rfl) rfl (by simp [Value.oneCell']) ?_))
 refine bodyPost_ret (results_ct rfl _ _ gq 27 #[.int .i64 0, .int .i64 0, .int .i64 0, .bool false, .int .i64 0, .string ⟨#[]⟩] (0, 0) _ rfl (setRow_heap _ _ _ _ _ _ HQz.out) Tryd.underlying27 rfl (by kernel_rfl)) rfl ⟨rfl, ?_⟩
 exact below_setRow HBz.out HQW.out _
set_option maxHeartbeats 16000000 in
set_option maxRecDepth 100000 in
theorem rdec9_2 (s : ByteArray) (w : World) (hG : Glob w) (n p1 : Int) (hh : plenumref02_ReadHead.f 30 s 0 = some (n, p1, true)) (hn : n = 6) (k p2 : Int) (hk : plenumref49_small.f 30 s p1 = some (k, p2, true)) (i p3 : Int) (hi : plenumref49_small.f 30 s p2 = some (i, p3, true)) (num p4 : Int) (hs : plenumref02_ReadSigned.f 30 s p3 = some (num, p4, true)) (hd : plenumref02_Kind.f 30 s p4 = some 2) (h0 : 0 ≤ p4) (h1 : p4 < (s.size : Int)) (hz : s.size ≤ 1000000) (vw p5 : Int) (hw5 : plenumref49_small.f 30 s (p4 + 1) = some (vw, p5, true)) (t : ByteArray) (ht : plenumref02_ReadText.f 30 s p5 = some (t, (s.size : Int), true)) (c1 : ¬ num < -1) (c2 : ¬ num > 1000) (ce : Int) (hce : plenumref49_Check.f 30 k i num ((s.extract (p4 : Int).toNat ((p4 + 1) : Int).toNat).toList == [2]) vw t = some ce) (he : ce ≠ 0) : Calls Tryd.prog 15 #[.string s] w fun e w' => RDPost w (zA ce) e w' := by
 have HG := Aside0.mk hG
 have HH := Aside0.mk hh
 have hnb : (n != 6) = false := by rw [hn]; rfl
 clear hG hh hn
 have HK := Aside0.mk hk
 clear hk
 have HI := Aside0.mk hi
 clear hi
 have HN := Aside0.mk hs
 clear hs
 have HD := Aside0.mk hd
 clear hd
 have hw : wrap64 (p4 + 1) = p4 + 1 := by unfold wrap64; omega
 have hs1 : p4 ≤ p4 + 1 := by omega
 have hs2 : p4 + 1 ≤ (s.size : Int) := by omega
 have HW := Aside0.mk hw5
 clear hw5
 have HT := Aside0.mk ht
 clear ht
 have HE := Aside0.mk hce
 clear hce
 have b1 : decide (num < -1) = false := decide_eq_false c1
 have b2 : decide (num > 1000) = false := decide_eq_false c2
 have hwn : wrap64 num = num := by unfold wrap64; omega
 have heb : (ce != 0) = true := bne_iff_ne.mpr he
 go_enter Tryd.func15, Tryd.ntmps15
 go_wp2_with (first | ((with_reducible refine gate_dst (N := 2) rfl ?_); refine box_event ?hg (N := 2) ?hd (cs := #[.int .i64 0, .int .i64 0, .int .i64 0, .bool false, .int .i64 0, .string ⟨#[]⟩]) (t := 27) ?hr ?_; (case hd => rfl); (case hg => rfl); (case hr => first | (go_simp; done) | (go_simp; rfl)); intro gq hgq wa hbox hb; have HQa := Aside0.mk hbox; have HBa := Aside0.mk hb; have HQW := Aside0.mk (show w.heap.size ≤ gq by rw [hgq]; exact Nat.le_refl _); clear hb hbox hgq) | (go_at_call 52; (with_reducible refine (plenumref02_ReadHead.calls 30 s 0 n p1 true _ (Glob.below HG.out HBa.out) HH.out).mono ?_); rintro e wb ⟨rfl, hb⟩; have HBb := Aside0.mk (below_step HBa.out hb); have HQb := Aside0.mk (blk_below HQa.out hb); clear hb) | ((with_reducible refine gate_dst (N := 7) rfl ?_); refine box_event ?hg (N := 7) ?hd (cs := #[.int .i64 0, .int .i64 0, .int .i64 0, .bool false, .int .i64 0, .string ⟨#[]⟩]) (t := 27) ?hr ?_; (case hd => rfl); (case hg => rfl); (case hr => first | (go_simp; done) | (go_simp; rfl)); intro gp hgp wp hbox hb; have HPp := Aside0.mk hbox; have HQp := Aside0.mk (blk_below HQb.out hb); have HBp := Aside0.mk (below_step HBb.out hb); have HNE := Aside0.mk (show gq ≠ gp by rw [hgp]; exact Nat.ne_of_lt (blk_lt HQb.out)); have HGP := Aside0.mk (show w.heap.size ≤ gp by rw [hgp]; exact HBb.out.size); clear hb hbox hgp) | (refine wpList_store_row rfl 27 (.tmp 7) (.tmp 29) rfl gp #[.int .i64 0, .int .i64 0, .int .i64 0, .bool false, .int .i64 0, .string ⟨#[]⟩] rfl rfl 27 #[.int .i64 0, .int .i64 0, .int .i64 0, .bool false, .int .i64 0, .string ⟨#[]⟩] HPp.out (by kernel_rfl) rfl (by simp [Value.oneCell']) ?_; have HPr := Aside0.mk (setRow_heap _ _ _ #[.int .i64 0, .int .i64 0, .int .i64 0, .bool false, .int .i64 0, .string ⟨#[]⟩] _ _ HPp.out); have HQr := Aside0.mk ((setRow_other wp gp gq #[.int .i64 0, .int .i64 0, .int .i64 0, .bool false, .int .i64 0, .string ⟨#[]⟩] HNE.out).trans HQp.out); have HBr := Aside0.mk (below_setRow HBp.out HGP.out #[.int .i64 0, .int .i64 0, .int .i64 0, .bool false, .int .i64 0, .string ⟨#[]⟩]); generalize wp.setRow gp #[.int .i64 0, .int .i64 0, .int .i64 0, .bool false, .int .i64 0, .string ⟨#[]⟩] = wr at HPr HQr HBr ⊢) | (go_at_call 53; (with_reducible refine (plenumref49_small.calls 30 s p1 k p2 true _ (Glob.below HG.out HBr.out) HK.out).mono ?_); rintro e wc ⟨rfl, hb⟩; have HBc := Aside0.mk (below_step HBr.out hb); have HQc := Aside0.mk (blk_below HQr.out hb); have HPc := Aside0.mk (blk_below HPr.out hb); have cc0 := (blk_cell HPc.out 0).trans rfl; have fc0 := blk_frozen HPc.out 0; clear hb) | (go_at_call 53; (with_reducible refine (plenumref49_small.calls 30 s p2 i p3 true _ (Glob.below HG.out (HBc.out.setCell (p := ⟨gp, 0, none⟩) HGP.out (.int .i64 k))) HI.out).mono ?_); rintro e wd ⟨rfl, hb⟩; have HBd := Aside0.mk (below_step (HBc.out.setCell (p := ⟨gp, 0, none⟩) HGP.out (.int .i64 k)) hb); have HQd := Aside0.mk (blk_below (blk_far HQc.out (p := ⟨gp, 0, none⟩) HNE.out (.int .i64 k)) hb); have HPd := Aside0.mk (blk_below (blk_put HPc.out 0 (.int .i64 k) rfl) hb); have cd1 := (blk_cell HPd.out 1).trans rfl; have fd1 := blk_frozen HPd.out 1; clear hb) | (go_at_call 54; (with_reducible refine (plenumref02_ReadSigned.calls 30 s p3 num p4 true _ (Glob.below HG.out (HBd.out.setCell (p := ⟨gp, 1, none⟩) HGP.out (.int .i64 i))) HN.out).mono ?_); rintro e we ⟨rfl, hb⟩; have HBe := Aside0.mk (below_step (HBd.out.setCell (p := ⟨gp, 1, none⟩) HGP.out (.int .i64 i)) hb); have HQe := Aside0.mk (blk_below (blk_far HQd.out (p := ⟨gp, 1, none⟩) HNE.out (.int .i64 i)) hb); have HPe := Aside0.mk (blk_below (blk_put HPd.out 1 (.int .i64 i) rfl) hb); clear hb) | (go_at_call 55; (with_reducible refine (plenumref02_Kind.calls 30 s p4 2 _ (Glob.below HG.out HBe.out) HD.out).mono ?_); rintro e wh ⟨rfl, hb0⟩; have hb := hb0.below; clear hb0; have HBh := Aside0.mk (below_step HBe.out hb); have HQh := Aside0.mk (blk_below HQe.out hb); have HPh := Aside0.mk (blk_below HPe.out hb); have ch3 := (blk_cell HPh.out 3).trans rfl; have fh3 := blk_frozen HPh.out 3; clear hb))
 have HQ0 := Aside0.mk (blk_drew HQh.out)
 have HP0 := Aside0.mk (blk_drew HPh.out)
 have HB0 := Aside0.mk (below_drew1 HBh.out)
 clear HQh HPh HBh
 refine start_ (n := 9) (S := fun w' => True) (ds := []) #[Yn, Yn, Yn, Yn, Yn, Yn, Yn, Yn, Yn] (by kernel_rfl) rfl rfl trivial (fun hHeld => ?_); refine with_tabW rtab14 rbits14 (fun HT_ HW_ => ?_)
 generalize wh.drew = w0 at HQ0 HP0 HB0 hHeld ⊢
 refine pure_ (i := 0) (N := some 70) (v := ?_) (a' := ?_) #[Y, Yn, Yn, Yn, Yn, Yn, Yn, Yn, Yn] rfl rfl (any_of HT_.out (by kernel_rfl)) (fun _ _ _ h => h) (Or.inl ⟨by rfl, ?_⟩) ?_ ?_
 rotate_left
 ·intro w'
  go_simp
  with_reducible rfl
 rotate_left
 ·simp only [Act.put, List.setIfInBounds_toArray, List.set_cons_zero, List.set_cons_succ, i64_w, i32_w]
  rfl
 refine pure_ (i := 1) (N := some 71) (v := ?_) (a' := ?_) #[Y, Y, Yn, Yn, Yn, Yn, Yn, Yn, Yn] rfl rfl (any_of HT_.out (by kernel_rfl)) (fun _ _ _ h => h) (Or.inl ⟨by rfl, ?_⟩) ?_ ?_
 rotate_left
 ·intro w'
  go_simp
  with_reducible rfl
 rotate_left
 ·simp only [Act.put, List.setIfInBounds_toArray, List.set_cons_zero, List.set_cons_succ, i64_w, i32_w]
  rfl
 refine pure_ (i := 2) (N := some 72) (v := ?_) (a' := ?_) #[Y, Y, Y, Yn, Yn, Yn, Yn, Yn, Yn] rfl rfl (any_of HT_.out (by kernel_rfl)) (fun _ _ _ h => h) (Or.inl ⟨by rfl, ?_⟩) ?_ ?_
 rotate_left
 ·intro w'
  go_simp
  with_reducible rfl
 rotate_left
 ·simp only [Act.put, List.setIfInBounds_toArray, List.set_cons_zero, List.set_cons_succ, i64_w, i32_w]
  rfl
 refine pure_ (i := 3) (N := some 73) (v := ?_) (a' := ?_) #[Y, Y, Y, Y, Yn, Yn, Yn, Yn, Yn] rfl rfl (any_of HT_.out (by kernel_rfl)) (fun _ _ _ h => h) (Or.inl ⟨by rfl, ?_⟩) ?_ ?_
 rotate_left
 ·intro w'
  go_simp
  with_reducible rfl
 rotate_left
 ·simp only [Act.put, List.setIfInBounds_toArray, List.set_cons_zero, List.set_cons_succ, i64_w, i32_w]
  rfl
 refine pure_ (i := 4) (N := some 74) (v := ?_) (a' := ?_) #[Y, Y, Y, Y, Y, Yn, Yn, Yn, Yn] rfl rfl (any_of HT_.out (by kernel_rfl)) (fun _ _ _ h => h) (Or.inl ⟨by rfl, ?_⟩) ?_ ?_
 rotate_left
 ·intro w'
  go_simp
  with_reducible rfl
 rotate_left
 ·simp only [Act.put, List.setIfInBounds_toArray, List.set_cons_zero, List.set_cons_succ, i64_w, i32_w]
  rfl
 refine one_ (i := 5) (N := some 75) #[Y, Y, Y, Y, Y, Y, Yn, Yn, Yn] rfl rfl (one_of HT_.out (by kernel_rfl)) (by decide) (fun K hK => ?_)
 refine goes_ Tryd.func56 (by kernel_rfl) rfl #[.bool true] (by rfl) rfl rfl (by (try simp only [List.map_toArray, List.map_cons, List.map_nil]); first | done | rfl | (simp only [List.length_drop, List.length_take]; rfl)) ?_
 with_reducible refine (plenumref02_Bool.calls true (⟨#[2]⟩ : ByteArray) _ (Glob.below HG.out HB0.out) rfl).mono ?_
 rintro e w' ⟨rfl, ⟨nd, rfl⟩⟩
 refine ⟨_, rfl, ?_⟩
 refine hK.out _ _ trivial (fun hHeld => ?_)
 clear hK K
 refine norm_ (a' := ?_) ?_ ?_
 rotate_left
 ·show Act.put _ (some 75) _ = _
  simp only [Act.put, List.setIfInBounds_toArray, List.set_cons_zero, List.set_cons_succ, i64_w, i32_w]
  rfl
 refine pure_ (i := 6) (N := some 76) (v := ?_) (a' := ?_) #[Y, Y, Y, Y, Y, Y, Y, Yn, Yn] rfl rfl (any_of HT_.out (by kernel_rfl)) (fun _ _ _ h => h) (Or.inl ⟨by rfl, ?_⟩) ?_ ?_
 rotate_left
 ·intro w'
  go_simp
  with_reducible rfl
 rotate_left
 ·simp only [Act.put, List.setIfInBounds_toArray, List.set_cons_zero, List.set_cons_succ, i64_w, i32_w]
  rfl
 refine pure_ (i := 7) (N := some 77) (v := ?_) (a' := ?_) #[Y, Y, Y, Y, Y, Y, Y, Y, Yn] rfl rfl (any_of HT_.out (by kernel_rfl)) (fun _ _ _ h => h) (Or.inl ⟨by rfl, ?_⟩) ?_ ?_
 rotate_left
 ·intro w'
  go_simp
  with_reducible rfl
 rotate_left
 ·simp only [Act.put, List.setIfInBounds_toArray, List.set_cons_zero, List.set_cons_succ, i64_w, i32_w]
  rfl
 refine one_ (i := 8) (N := none) #[Y, Y, Y, Y, Y, Y, Y, Y, Y] rfl rfl (one_of HT_.out (by kernel_rfl)) (by decide) (fun K hK => ?_)
 have hs43 : w0.cell? ⟨gp, 3, none⟩ = some (.bool false) := (blk_cell HP0.out 3).trans rfl
 have hfs43 := blk_frozen HP0.out 3
 refine skip_ (w1 := ?_) (by rfl) rfl ?_ ?_
 rotate_left
 ·go_simp
  rfl
 refine hK.out _ _ trivial (fun hHeld => ?_)
 clear hK K
 refine done_ (done_of HT_.out (by kernel_rfl)) ?_
 go_wp2_with (first | (go_at_call 53; (with_reducible refine (plenumref49_small.calls 30 s (p4 + 1) vw p5 true _ (Glob.below HG.out ((pw_below_drewN HB0.out nd).setCell (p := ⟨gp, 3, none⟩) HGP.out (.bool ((s.extract (p4 : Int).toNat ((p4 + 1) : Int).toNat).toList == [2])))) HW.out).mono ?_); rintro e wn ⟨rfl, hb⟩; have HBn := Aside0.mk (below_step ((pw_below_drewN HB0.out nd).setCell (p := ⟨gp, 3, none⟩) HGP.out (.bool ((s.extract (p4 : Int).toNat ((p4 + 1) : Int).toNat).toList == [2]))) hb); have HQn := Aside0.mk (blk_below (blk_far (blk_drewN HQ0.out nd) (p := ⟨gp, 3, none⟩) HNE.out (.bool ((s.extract (p4 : Int).toNat ((p4 + 1) : Int).toNat).toList == [2]))) hb); have HPn := Aside0.mk (blk_below (blk_put (blk_drewN HP0.out nd) 3 (.bool ((s.extract (p4 : Int).toNat ((p4 + 1) : Int).toNat).toList == [2])) rfl) hb); have cn4 := (blk_cell HPn.out 4).trans rfl; have fn4 := blk_frozen HPn.out 4; clear hb) | (go_at_call 57; (with_reducible refine (plenumref02_ReadText.calls 30 s p5 t (s.size : Int) true _ (Glob.below HG.out (HBn.out.setCell (p := ⟨gp, 4, none⟩) HGP.out (.int .i64 vw))) HT.out).mono ?_); rintro e wo ⟨rfl, hb⟩; have HBo := Aside0.mk (below_step (HBn.out.setCell (p := ⟨gp, 4, none⟩) HGP.out (.int .i64 vw)) hb); have HQo := Aside0.mk (blk_below (blk_far HQn.out (p := ⟨gp, 4, none⟩) HNE.out (.int .i64 vw)) hb); have HPo := Aside0.mk (blk_below (blk_put HPn.out 4 (.int .i64 vw) rfl) hb); have co5 := (blk_cell HPo.out 5).trans rfl; have fo5 := blk_frozen HPo.out 5; have co2 := (blk_cell HPo.out 2).trans rfl; have fo2 := blk_frozen HPo.out 2; clear hb) | (refine wpList_load_row rfl 27 (.tmp 7) rfl gp rfl 27 #[.int .i64 k, .int .i64 i, .int .i64 num, .bool ((s.extract (p4 : Int).toNat ((p4 + 1) : Int).toNat).toList == [2]), .int .i64 vw, .string t] (0, 0) _ (blk_put (blk_put HPo.out 5 (.string t) rfl) 2 (.int .i64 num) rfl) Tryd.underlying27 rfl (by kernel_rfl) ?_) | (go_at_call 11; (with_reducible refine (plenumref49_Check.calls 30 k i num ((s.extract (p4 : Int).toNat ((p4 + 1) : Int).toNat).toList == [2]) vw t ce _ (Glob.below HG.out ((HBo.out.setCell (p := ⟨gp, 5, none⟩) HGP.out (.string t)).setCell (p := ⟨gp, 2, none⟩) HGP.out (.int .i64 num))) HE.out).mono ?_); rintro e wz ⟨rfl, hb⟩; have HBz := Aside0.mk (below_step ((HBo.out.setCell (p := ⟨gp, 5, none⟩) HGP.out (.string t)).setCell (p := ⟨gp, 2, none⟩) HGP.out (.int .i64 num)) hb); have HQz := Aside0.mk (blk_below (blk_far (blk_far HQo.out (p := ⟨gp, 5, none⟩) HNE.out (.string t)) (p := ⟨gp, 2, none⟩) HNE.out (.int .i64 num)) hb); have HPz := Aside0.mk (blk_below (blk_put (blk_put HPo.out 5 (.string t) rfl) 2 (.int .i64 num) rfl) hb); clear hb) | (refine wpList_store_row rfl 27 (.tmp 2) (.tmp _) rfl gq #[.int .i64 0, .int .i64 0, .int .i64 0, .bool false, .int .i64 0, .string ⟨#[]⟩] rfl rfl 27 #[.int .i64 0, .int .i64 0, .int .i64 0, .bool false, .int .i64 0, .string ⟨#[]⟩] HQz.out (by kernel_rfl) rfl (by simp [Value.oneCell']) ?_))
 refine bodyPost_ret (results_ct rfl _ _ gq 27 #[.int .i64 0, .int .i64 0, .int .i64 0, .bool false, .int .i64 0, .string ⟨#[]⟩] (0, 0) _ rfl (setRow_heap _ _ _ _ _ _ HQz.out) Tryd.underlying27 rfl (by kernel_rfl)) rfl ⟨rfl, ?_⟩
 exact below_setRow HBz.out HQW.out _
set_option maxHeartbeats 16000000 in
set_option maxRecDepth 100000 in
theorem rdec10_2 (s : ByteArray) (w : World) (hG : Glob w) (n p1 : Int) (hh : plenumref02_ReadHead.f 30 s 0 = some (n, p1, true)) (hn : n = 6) (k p2 : Int) (hk : plenumref49_small.f 30 s p1 = some (k, p2, true)) (i p3 : Int) (hi : plenumref49_small.f 30 s p2 = some (i, p3, true)) (num p4 : Int) (hs : plenumref02_ReadSigned.f 30 s p3 = some (num, p4, true)) (hd : plenumref02_Kind.f 30 s p4 = some 2) (h0 : 0 ≤ p4) (h1 : p4 < (s.size : Int)) (hz : s.size ≤ 1000000) (vw p5 : Int) (hw5 : plenumref49_small.f 30 s (p4 + 1) = some (vw, p5, true)) (t : ByteArray) (ht : plenumref02_ReadText.f 30 s p5 = some (t, (s.size : Int), true)) (c1 : ¬ num < -1) (c2 : ¬ num > 1000) (hce : plenumref49_Check.f 30 k i num ((s.extract (p4 : Int).toNat ((p4 + 1) : Int).toNat).toList == [2]) vw t = some 0) : Calls Tryd.prog 15 #[.string s] w fun e w' => RDPost w (k, i, num, ((s.extract (p4 : Int).toNat ((p4 + 1) : Int).toNat).toList == [2]), vw, t, 0) e w' := by
 have HG := Aside0.mk hG
 have HH := Aside0.mk hh
 have hnb : (n != 6) = false := by rw [hn]; rfl
 clear hG hh hn
 have HK := Aside0.mk hk
 clear hk
 have HI := Aside0.mk hi
 clear hi
 have HN := Aside0.mk hs
 clear hs
 have HD := Aside0.mk hd
 clear hd
 have hw : wrap64 (p4 + 1) = p4 + 1 := by unfold wrap64; omega
 have hs1 : p4 ≤ p4 + 1 := by omega
 have hs2 : p4 + 1 ≤ (s.size : Int) := by omega
 have HW := Aside0.mk hw5
 clear hw5
 have HT := Aside0.mk ht
 clear ht
 have HE := Aside0.mk hce
 clear hce
 have b1 : decide (num < -1) = false := decide_eq_false c1
 have b2 : decide (num > 1000) = false := decide_eq_false c2
 have hwn : wrap64 num = num := by unfold wrap64; omega
 go_enter Tryd.func15, Tryd.ntmps15
 go_wp2_with (first | ((with_reducible refine gate_dst (N := 2) rfl ?_); refine box_event ?hg (N := 2) ?hd (cs := #[.int .i64 0, .int .i64 0, .int .i64 0, .bool false, .int .i64 0, .string ⟨#[]⟩]) (t := 27) ?hr ?_; (case hd => rfl); (case hg => rfl); (case hr => first | (go_simp; done) | (go_simp; rfl)); intro gq hgq wa hbox hb; have HQa := Aside0.mk hbox; have HBa := Aside0.mk hb; have HQW := Aside0.mk (show w.heap.size ≤ gq by rw [hgq]; exact Nat.le_refl _); clear hb hbox hgq) | (go_at_call 52; (with_reducible refine (plenumref02_ReadHead.calls 30 s 0 n p1 true _ (Glob.below HG.out HBa.out) HH.out).mono ?_); rintro e wb ⟨rfl, hb⟩; have HBb := Aside0.mk (below_step HBa.out hb); have HQb := Aside0.mk (blk_below HQa.out hb); clear hb) | ((with_reducible refine gate_dst (N := 7) rfl ?_); refine box_event ?hg (N := 7) ?hd (cs := #[.int .i64 0, .int .i64 0, .int .i64 0, .bool false, .int .i64 0, .string ⟨#[]⟩]) (t := 27) ?hr ?_; (case hd => rfl); (case hg => rfl); (case hr => first | (go_simp; done) | (go_simp; rfl)); intro gp hgp wp hbox hb; have HPp := Aside0.mk hbox; have HQp := Aside0.mk (blk_below HQb.out hb); have HBp := Aside0.mk (below_step HBb.out hb); have HNE := Aside0.mk (show gq ≠ gp by rw [hgp]; exact Nat.ne_of_lt (blk_lt HQb.out)); have HGP := Aside0.mk (show w.heap.size ≤ gp by rw [hgp]; exact HBb.out.size); clear hb hbox hgp) | (refine wpList_store_row rfl 27 (.tmp 7) (.tmp 29) rfl gp #[.int .i64 0, .int .i64 0, .int .i64 0, .bool false, .int .i64 0, .string ⟨#[]⟩] rfl rfl 27 #[.int .i64 0, .int .i64 0, .int .i64 0, .bool false, .int .i64 0, .string ⟨#[]⟩] HPp.out (by kernel_rfl) rfl (by simp [Value.oneCell']) ?_; have HPr := Aside0.mk (setRow_heap _ _ _ #[.int .i64 0, .int .i64 0, .int .i64 0, .bool false, .int .i64 0, .string ⟨#[]⟩] _ _ HPp.out); have HQr := Aside0.mk ((setRow_other wp gp gq #[.int .i64 0, .int .i64 0, .int .i64 0, .bool false, .int .i64 0, .string ⟨#[]⟩] HNE.out).trans HQp.out); have HBr := Aside0.mk (below_setRow HBp.out HGP.out #[.int .i64 0, .int .i64 0, .int .i64 0, .bool false, .int .i64 0, .string ⟨#[]⟩]); generalize wp.setRow gp #[.int .i64 0, .int .i64 0, .int .i64 0, .bool false, .int .i64 0, .string ⟨#[]⟩] = wr at HPr HQr HBr ⊢) | (go_at_call 53; (with_reducible refine (plenumref49_small.calls 30 s p1 k p2 true _ (Glob.below HG.out HBr.out) HK.out).mono ?_); rintro e wc ⟨rfl, hb⟩; have HBc := Aside0.mk (below_step HBr.out hb); have HQc := Aside0.mk (blk_below HQr.out hb); have HPc := Aside0.mk (blk_below HPr.out hb); have cc0 := (blk_cell HPc.out 0).trans rfl; have fc0 := blk_frozen HPc.out 0; clear hb) | (go_at_call 53; (with_reducible refine (plenumref49_small.calls 30 s p2 i p3 true _ (Glob.below HG.out (HBc.out.setCell (p := ⟨gp, 0, none⟩) HGP.out (.int .i64 k))) HI.out).mono ?_); rintro e wd ⟨rfl, hb⟩; have HBd := Aside0.mk (below_step (HBc.out.setCell (p := ⟨gp, 0, none⟩) HGP.out (.int .i64 k)) hb); have HQd := Aside0.mk (blk_below (blk_far HQc.out (p := ⟨gp, 0, none⟩) HNE.out (.int .i64 k)) hb); have HPd := Aside0.mk (blk_below (blk_put HPc.out 0 (.int .i64 k) rfl) hb); have cd1 := (blk_cell HPd.out 1).trans rfl; have fd1 := blk_frozen HPd.out 1; clear hb) | (go_at_call 54; (with_reducible refine (plenumref02_ReadSigned.calls 30 s p3 num p4 true _ (Glob.below HG.out (HBd.out.setCell (p := ⟨gp, 1, none⟩) HGP.out (.int .i64 i))) HN.out).mono ?_); rintro e we ⟨rfl, hb⟩; have HBe := Aside0.mk (below_step (HBd.out.setCell (p := ⟨gp, 1, none⟩) HGP.out (.int .i64 i)) hb); have HQe := Aside0.mk (blk_below (blk_far HQd.out (p := ⟨gp, 1, none⟩) HNE.out (.int .i64 i)) hb); have HPe := Aside0.mk (blk_below (blk_put HPd.out 1 (.int .i64 i) rfl) hb); clear hb) | (go_at_call 55; (with_reducible refine (plenumref02_Kind.calls 30 s p4 2 _ (Glob.below HG.out HBe.out) HD.out).mono ?_); rintro e wh ⟨rfl, hb0⟩; have hb := hb0.below; clear hb0; have HBh := Aside0.mk (below_step HBe.out hb); have HQh := Aside0.mk (blk_below HQe.out hb); have HPh := Aside0.mk (blk_below HPe.out hb); have ch3 := (blk_cell HPh.out 3).trans rfl; have fh3 := blk_frozen HPh.out 3; clear hb))
 have HQ0 := Aside0.mk (blk_drew HQh.out)
 have HP0 := Aside0.mk (blk_drew HPh.out)
 have HB0 := Aside0.mk (below_drew1 HBh.out)
 clear HQh HPh HBh
 refine start_ (n := 9) (S := fun w' => True) (ds := []) #[Yn, Yn, Yn, Yn, Yn, Yn, Yn, Yn, Yn] (by kernel_rfl) rfl rfl trivial (fun hHeld => ?_); refine with_tabW rtab14 rbits14 (fun HT_ HW_ => ?_)
 generalize wh.drew = w0 at HQ0 HP0 HB0 hHeld ⊢
 refine pure_ (i := 0) (N := some 70) (v := ?_) (a' := ?_) #[Y, Yn, Yn, Yn, Yn, Yn, Yn, Yn, Yn] rfl rfl (any_of HT_.out (by kernel_rfl)) (fun _ _ _ h => h) (Or.inl ⟨by rfl, ?_⟩) ?_ ?_
 rotate_left
 ·intro w'
  go_simp
  with_reducible rfl
 rotate_left
 ·simp only [Act.put, List.setIfInBounds_toArray, List.set_cons_zero, List.set_cons_succ, i64_w, i32_w]
  rfl
 refine pure_ (i := 1) (N := some 71) (v := ?_) (a' := ?_) #[Y, Y, Yn, Yn, Yn, Yn, Yn, Yn, Yn] rfl rfl (any_of HT_.out (by kernel_rfl)) (fun _ _ _ h => h) (Or.inl ⟨by rfl, ?_⟩) ?_ ?_
 rotate_left
 ·intro w'
  go_simp
  with_reducible rfl
 rotate_left
 ·simp only [Act.put, List.setIfInBounds_toArray, List.set_cons_zero, List.set_cons_succ, i64_w, i32_w]
  rfl
 refine pure_ (i := 2) (N := some 72) (v := ?_) (a' := ?_) #[Y, Y, Y, Yn, Yn, Yn, Yn, Yn, Yn] rfl rfl (any_of HT_.out (by kernel_rfl)) (fun _ _ _ h => h) (Or.inl ⟨by rfl, ?_⟩) ?_ ?_
 rotate_left
 ·intro w'
  go_simp
  with_reducible rfl
 rotate_left
 ·simp only [Act.put, List.setIfInBounds_toArray, List.set_cons_zero, List.set_cons_succ, i64_w, i32_w]
  rfl
 refine pure_ (i := 3) (N := some 73) (v := ?_) (a' := ?_) #[Y, Y, Y, Y, Yn, Yn, Yn, Yn, Yn] rfl rfl (any_of HT_.out (by kernel_rfl)) (fun _ _ _ h => h) (Or.inl ⟨by rfl, ?_⟩) ?_ ?_
 rotate_left
 ·intro w'
  go_simp
  with_reducible rfl
 rotate_left
 ·simp only [Act.put, List.setIfInBounds_toArray, List.set_cons_zero, List.set_cons_succ, i64_w, i32_w]
  rfl
 refine pure_ (i := 4) (N := some 74) (v := ?_) (a' := ?_) #[Y, Y, Y, Y, Y, Yn, Yn, Yn, Yn] rfl rfl (any_of HT_.out (by kernel_rfl)) (fun _ _ _ h => h) (Or.inl ⟨by rfl, ?_⟩) ?_ ?_
 rotate_left
 ·intro w'
  go_simp
  with_reducible rfl
 rotate_left
 ·simp only [Act.put, List.setIfInBounds_toArray, List.set_cons_zero, List.set_cons_succ, i64_w, i32_w]
  rfl
 refine one_ (i := 5) (N := some 75) #[Y, Y, Y, Y, Y, Y, Yn, Yn, Yn] rfl rfl (one_of HT_.out (by kernel_rfl)) (by decide) (fun K hK => ?_)
 refine goes_ Tryd.func56 (by kernel_rfl) rfl #[.bool true] (by rfl) rfl rfl (by (try simp only [List.map_toArray, List.map_cons, List.map_nil]); first | done | rfl | (simp only [List.length_drop, List.length_take]; rfl)) ?_
 with_reducible refine (plenumref02_Bool.calls true (⟨#[2]⟩ : ByteArray) _ (Glob.below HG.out HB0.out) rfl).mono ?_
 rintro e w' ⟨rfl, ⟨nd, rfl⟩⟩
 refine ⟨_, rfl, ?_⟩
 refine hK.out _ _ trivial (fun hHeld => ?_)
 clear hK K
 refine norm_ (a' := ?_) ?_ ?_
 rotate_left
 ·show Act.put _ (some 75) _ = _
  simp only [Act.put, List.setIfInBounds_toArray, List.set_cons_zero, List.set_cons_succ, i64_w, i32_w]
  rfl
 refine pure_ (i := 6) (N := some 76) (v := ?_) (a' := ?_) #[Y, Y, Y, Y, Y, Y, Y, Yn, Yn] rfl rfl (any_of HT_.out (by kernel_rfl)) (fun _ _ _ h => h) (Or.inl ⟨by rfl, ?_⟩) ?_ ?_
 rotate_left
 ·intro w'
  go_simp
  with_reducible rfl
 rotate_left
 ·simp only [Act.put, List.setIfInBounds_toArray, List.set_cons_zero, List.set_cons_succ, i64_w, i32_w]
  rfl
 refine pure_ (i := 7) (N := some 77) (v := ?_) (a' := ?_) #[Y, Y, Y, Y, Y, Y, Y, Y, Yn] rfl rfl (any_of HT_.out (by kernel_rfl)) (fun _ _ _ h => h) (Or.inl ⟨by rfl, ?_⟩) ?_ ?_
 rotate_left
 ·intro w'
  go_simp
  with_reducible rfl
 rotate_left
 ·simp only [Act.put, List.setIfInBounds_toArray, List.set_cons_zero, List.set_cons_succ, i64_w, i32_w]
  rfl
 refine one_ (i := 8) (N := none) #[Y, Y, Y, Y, Y, Y, Y, Y, Y] rfl rfl (one_of HT_.out (by kernel_rfl)) (by decide) (fun K hK => ?_)
 have hs43 : w0.cell? ⟨gp, 3, none⟩ = some (.bool false) := (blk_cell HP0.out 3).trans rfl
 have hfs43 := blk_frozen HP0.out 3
 refine skip_ (w1 := ?_) (by rfl) rfl ?_ ?_
 rotate_left
 ·go_simp
  rfl
 refine hK.out _ _ trivial (fun hHeld => ?_)
 clear hK K
 refine done_ (done_of HT_.out (by kernel_rfl)) ?_
 go_wp2_with (first | (go_at_call 53; (with_reducible refine (plenumref49_small.calls 30 s (p4 + 1) vw p5 true _ (Glob.below HG.out ((pw_below_drewN HB0.out nd).setCell (p := ⟨gp, 3, none⟩) HGP.out (.bool ((s.extract (p4 : Int).toNat ((p4 + 1) : Int).toNat).toList == [2])))) HW.out).mono ?_); rintro e wn ⟨rfl, hb⟩; have HBn := Aside0.mk (below_step ((pw_below_drewN HB0.out nd).setCell (p := ⟨gp, 3, none⟩) HGP.out (.bool ((s.extract (p4 : Int).toNat ((p4 + 1) : Int).toNat).toList == [2]))) hb); have HQn := Aside0.mk (blk_below (blk_far (blk_drewN HQ0.out nd) (p := ⟨gp, 3, none⟩) HNE.out (.bool ((s.extract (p4 : Int).toNat ((p4 + 1) : Int).toNat).toList == [2]))) hb); have HPn := Aside0.mk (blk_below (blk_put (blk_drewN HP0.out nd) 3 (.bool ((s.extract (p4 : Int).toNat ((p4 + 1) : Int).toNat).toList == [2])) rfl) hb); have cn4 := (blk_cell HPn.out 4).trans rfl; have fn4 := blk_frozen HPn.out 4; clear hb) | (go_at_call 57; (with_reducible refine (plenumref02_ReadText.calls 30 s p5 t (s.size : Int) true _ (Glob.below HG.out (HBn.out.setCell (p := ⟨gp, 4, none⟩) HGP.out (.int .i64 vw))) HT.out).mono ?_); rintro e wo ⟨rfl, hb⟩; have HBo := Aside0.mk (below_step (HBn.out.setCell (p := ⟨gp, 4, none⟩) HGP.out (.int .i64 vw)) hb); have HQo := Aside0.mk (blk_below (blk_far HQn.out (p := ⟨gp, 4, none⟩) HNE.out (.int .i64 vw)) hb); have HPo := Aside0.mk (blk_below (blk_put HPn.out 4 (.int .i64 vw) rfl) hb); have co5 := (blk_cell HPo.out 5).trans rfl; have fo5 := blk_frozen HPo.out 5; have co2 := (blk_cell HPo.out 2).trans rfl; have fo2 := blk_frozen HPo.out 2; clear hb) | (refine wpList_load_row rfl 27 (.tmp 7) rfl gp rfl 27 #[.int .i64 k, .int .i64 i, .int .i64 num, .bool ((s.extract (p4 : Int).toNat ((p4 + 1) : Int).toNat).toList == [2]), .int .i64 vw, .string t] (0, 0) _ (blk_put (blk_put HPo.out 5 (.string t) rfl) 2 (.int .i64 num) rfl) Tryd.underlying27 rfl (by kernel_rfl) ?_) | (go_at_call 11; (with_reducible refine (plenumref49_Check.calls 30 k i num ((s.extract (p4 : Int).toNat ((p4 + 1) : Int).toNat).toList == [2]) vw t 0 _ (Glob.below HG.out ((HBo.out.setCell (p := ⟨gp, 5, none⟩) HGP.out (.string t)).setCell (p := ⟨gp, 2, none⟩) HGP.out (.int .i64 num))) HE.out).mono ?_); rintro e wz ⟨rfl, hb⟩; have HBz := Aside0.mk (below_step ((HBo.out.setCell (p := ⟨gp, 5, none⟩) HGP.out (.string t)).setCell (p := ⟨gp, 2, none⟩) HGP.out (.int .i64 num)) hb); have HQz := Aside0.mk (blk_below (blk_far (blk_far HQo.out (p := ⟨gp, 5, none⟩) HNE.out (.string t)) (p := ⟨gp, 2, none⟩) HNE.out (.int .i64 num)) hb); have HPz := Aside0.mk (blk_below (blk_put (blk_put HPo.out 5 (.string t) rfl) 2 (.int .i64 num) rfl) hb); clear hb) | (refine wpList_load_row rfl 27 (.tmp 7) rfl gp rfl 27 #[.int .i64 k, .int .i64 i, .int .i64 num, .bool ((s.extract (p4 : Int).toNat ((p4 + 1) : Int).toNat).toList == [2]), .int .i64 vw, .string t] (0, 0) _ HPz.out Tryd.underlying27 rfl (by kernel_rfl) ?_) | (refine wpList_store_row rfl 27 (.tmp 2) (.tmp _) rfl gq #[.int .i64 k, .int .i64 i, .int .i64 num, .bool ((s.extract (p4 : Int).toNat ((p4 + 1) : Int).toNat).toList == [2]), .int .i64 vw, .string t] rfl rfl 27 #[.int .i64 0, .int .i64 0, .int .i64 0, .bool false, .int .i64 0, .string ⟨#[]⟩] HQz.out (by kernel_rfl) rfl (by simp [Value.oneCell']) ?_))
 refine bodyPost_ret (results_ct rfl _ _ gq 27 #[.int .i64 k, .int .i64 i, .int .i64 num, .bool ((s.extract (p4 : Int).toNat ((p4 + 1) : Int).toNat).toList == [2]), .int .i64 vw, .string t] (0, 0) _ rfl (setRow_heap _ _ _ _ _ _ HQz.out) Tryd.underlying27 rfl (by kernel_rfl)) rfl ⟨rfl, ?_⟩
 exact below_setRow HBz.out HQW.out _
end Go.Proofs.YtbgabhknmpbgiaaDoor.S
end
section
namespace Go.Proofs.YtbgabhknmpbgiaaDoor.S
open Go.RowKit Go.Proofs.YtbgabhknmpbgiaaDoor.Pure Go.Proofs.YtbgabhknmpbgiaaDoorW.PrintWords Go.Proofs.YtbgabhknmpbgiaaDoorW.PrintLast Go.Proofs.YtbgabhknmpbgiaaDoorW.PrintMore
set_option linter.unusedVariables false
set_option linter.unusedSimpArgs false
theorem chk_far (k i n : Int) (m : Bool) (vw : Int) (t : ByteArray) (h : n < -1 ∨ n > 1000) : chk k i 1001 m vw t = chk k i n m vw t := by
 have a1 : ¬ (0 ≤ n ∧ n ≤ 63) := by omega
 have a2 : ¬ (-1 ≤ n ∧ n ≤ 63) := by omega
 have a3 : ¬ n = 0 := by omega
 have b1 : ¬ ((0 : Int) ≤ 1001 ∧ (1001 : Int) ≤ 63) := by omega
 have b2 : ¬ ((-1 : Int) ≤ 1001 ∧ (1001 : Int) ≤ 63) := by omega
 have b3 : ¬ (1001 : Int) = 0 := by omega
 unfold chk
 simp only [a1, a2, a3, b1, b2, b3, false_and, if_false]
theorem dec_not6 {s : ByteArray} {n p1 : Int} (ea : lS s 0 = some (n, p1)) (hn : ¬ n = 6) : decA s = (0, 0, 0, false, 0, (⟨#[]⟩ : ByteArray), 2) := by
 unfold decA fullS
 rw [ea, Option.bind_some]
 cases eb : uS s p1 with
 | none => rfl
 | some b =>
 rw [Option.bind_some]
 cases ec : uS s b.2 with
 | none => rfl
 | some c =>
 rw [Option.bind_some]
 cases ed : sS s c.2 with
 | none => rfl
 | some d =>
 rw [Option.bind_some]
 by_cases hk : kindS s d.2 = 2
 ·rw [if_pos hk]
  cases ef : uS s (d.2 + 1) with
  | none => rfl
  | some f =>
  rw [Option.bind_some]
  cases eg : tS s f.2 with
  | none => rfl
  | some g =>
  rw [Option.bind_some]
  show (if n = 6 ∧ _ then _ else _) = _
  rw [if_neg (fun q => hn q.1)]
 ·rw [if_neg hk]
theorem RDPost.to {w : World} {r r' : Int × Int × Int × Bool × Int × ByteArray × Int} {s : ByteArray} (h : Calls Tryd.prog 15 #[.string s] w fun e w' => RDPost w r e w') (e : r' = r) : Calls Tryd.prog 15 #[.string s] w fun e w' => RDPost w r' e w' := e ▸ h
theorem smS_none {s : ByteArray} {p v e : Int} (h : smS s p = none) (hu : uS s p = some (v, e)) : ¬ v ≤ 1000 := by
 intro hv
 unfold smS at h
 rw [hu, Option.bind_some] at h
 rw [if_pos (show ((v, e) : Int × Int).1 ≤ 1000 from hv)] at h
 cases h
theorem smS_some {s : ByteArray} {p v e : Int} (h : smS s p = some (v, e)) : uS s p = some (v, e) ∧ v ≤ 1000 := by
 unfold smS at h
 obtain ⟨b, hb, h⟩ := Option.bind_eq_some_iff.mp h
 by_cases q : b.1 ≤ 1000
 ·rw [if_pos q] at h
  injection h with h
  subst h
  exact ⟨hb, q⟩
 ·rw [if_neg q] at h
  cases h
theorem full_inv {s : ByteArray} {n k i num : Int} {m : Bool} {wd : Int} {t : ByteArray} {q : Int} (h : fullS s = some (n, k, i, num, m, wd, t, q)) : ∃ p1 p2 p3 p4 p6, lS s 0 = some (n, p1) ∧ uS s p1 = some (k, p2) ∧ uS s p2 = some (i, p3) ∧ sS s p3 = some (num, p4) ∧ kindS s p4 = 2 ∧ uS s (p4 + 1) = some (wd, p6) ∧ tS s p6 = some (t, q) ∧ m = (bt s p4 == 2) := by
 unfold fullS at h
 obtain ⟨⟨n', p1⟩, h1, h⟩ := Option.bind_eq_some_iff.mp h
 obtain ⟨⟨k', p2⟩, h2, h⟩ := Option.bind_eq_some_iff.mp h
 obtain ⟨⟨i', p3⟩, h3, h⟩ := Option.bind_eq_some_iff.mp h
 obtain ⟨⟨num', p4⟩, h4, h⟩ := Option.bind_eq_some_iff.mp h
 simp only [] at h
 by_cases hk : kindS s p4 = 2
 case neg =>
  rw [if_neg hk] at h
  cases h
 rw [if_pos hk] at h
 obtain ⟨⟨wd', p6⟩, h6, h⟩ := Option.bind_eq_some_iff.mp h
 obtain ⟨⟨t', q'⟩, h7, h⟩ := Option.bind_eq_some_iff.mp h
 injection h with h
 simp only [Prod.mk.injEq] at h
 obtain ⟨rfl, rfl, rfl, rfl, e, rfl, rfl, rfl⟩ := h
 exact ⟨p1, p2, p3, p4, p6, h1, h2, h3, h4, hk, h6, h7, e.symm⟩
theorem decA_bad {s : ByteArray} (h : ∀ n k i num m wd t q, fullS s = some (n, k, i, num, m, wd, t, q) → ¬ (n = 6 ∧ q = (s.size : Int) ∧ k ≤ 1000 ∧ i ≤ 1000 ∧ wd ≤ 1000)) : decA s = zA 2 := by
 unfold decA
 cases e : fullS s with
 | none => rfl
 | some r =>
  obtain ⟨n, k, i, num, m, wd, t, q⟩ := r
  show (if _ then _ else _) = _
  rw [if_neg (h _ _ _ _ _ _ _ _ e)]
theorem decA_ok {s : ByteArray} {k i num : Int} {m : Bool} {wd : Int} {t : ByteArray} (h : fullS s = some (6, k, i, num, m, wd, t, (s.size : Int))) (hk : k ≤ 1000) (hi : i ≤ 1000) (hw : wd ≤ 1000) : decA s = if chk k i num m wd t = 0 then (k, i, num, m, wd, t, 0) else zA (chk k i num m wd t) := by
 unfold decA
 rw [h]
 show (if _ then _ else _) = _
 rw [if_pos ⟨rfl, rfl, hk, hi, hw⟩]
theorem one_byte2 (s : ByteArray) (p : Int) (h0 : 0 ≤ p) (h1 : p + 1 ≤ (s.size : Int)) : ((s.extract p.toNat (p + 1).toNat).toList == [2]) = (bt s p == 2) := by
 have h := one_byte s p h0 h1
 rw [← h]
 rw [show ((⟨#[2]⟩ : ByteArray).toList) = [2] by rw [ByteArray.toList_eq]]
theorem rdecX (s : ByteArray) (w : World) (hG : Glob w) (hz : s.size ≤ 1000000) : Calls Tryd.prog 15 #[.string s] w fun e w' => RDPost w (decA s) e w' := by
 have hz' : s.size ≤ 140737488355327 := by omega
 have hh := refRH_eq 11 s 0 (by decide) hz'
 cases ea : lS s 0 with
 | none =>
  rw [ea, opt3_none] at hh
  refine RDPost.to (rdec1 s w hG 0 0 false hh (Or.inl rfl)) (decA_bad fun n k i num m wd t q h => ?_)
  obtain ⟨p1, p2, p3, p4, p6, g1, g2, g3, g4, g5, g6, g7, g8⟩ := full_inv h
  rw [ea] at g1
  cases g1
 | some a =>
 obtain ⟨n, p1⟩ := a
 rw [ea, opt3_some] at hh
 have hl := lS_some ea
 by_cases hn : n = 6
 case neg => exact RDPost.to (rdec1 s w hG n p1 true hh (Or.inr hn)) (dec_not6 ea hn)
 obtain ⟨sm1, sm0⟩ := small_eq 12 s p1 (by omega) hz'
 cases eb : smS s p1 with
 | none =>
  obtain ⟨v, e, hk⟩ := sm0 eb
  refine RDPost.to (rdec2 s w hG n p1 hh hn v e hk) (decA_bad fun n' k i num m wd t q h => ?_)
  obtain ⟨q1, q2, q3, q4, q6, g1, g2, g3, g4, g5, g6, g7, g8⟩ := full_inv h
  rw [ea] at g1
  injection g1 with g1
  injection g1 with y1 y2
  subst y2
  have := smS_none eb g2
  exact fun c => this c.2.2.1
 | some b =>
 obtain ⟨k, p2⟩ := b
 have hk := sm1 k p2 eb
 have eb' := smS_some eb
 have hb := uS_some eb'.1
 clear sm1 sm0
 obtain ⟨sm1, sm0⟩ := small_eq 12 s p2 (by omega) hz'
 cases ec : smS s p2 with
 | none =>
  obtain ⟨v, e, hi⟩ := sm0 ec
  refine RDPost.to (rdec3 s w hG n p1 hh hn k p2 hk v e hi) (decA_bad fun n' k' i num m wd t q h => ?_)
  obtain ⟨q1, q2, q3, q4, q6, g1, g2, g3, g4, g5, g6, g7, g8⟩ := full_inv h
  rw [ea] at g1
  injection g1 with g1
  injection g1 with y1 y2
  subst y2
  rw [eb'.1] at g2
  injection g2 with g2
  injection g2 with y3 y4
  subst y4
  have := smS_none ec g3
  exact fun c => this c.2.2.2.1
 | some c =>
 obtain ⟨i, p3⟩ := c
 have hi := sm1 i p3 ec
 have ec' := smS_some ec
 have hc := uS_some ec'.1
 clear sm1 sm0
 have hs := refRS_eq 10 s p3 (by omega) hz'
 cases ed : sS s p3 with
 | none =>
  rw [ed, opt3_none] at hs
  refine RDPost.to (rdec4 s w hG n p1 hh hn k p2 hk i p3 hi 0 0 hs) (decA_bad fun n' k' i' num m wd t q h => ?_)
  obtain ⟨q1, q2, q3, q4, q6, g1, g2, g3, g4, g5, g6, g7, g8⟩ := full_inv h
  rw [ea] at g1
  injection g1 with g1
  injection g1 with y1 y2
  subst y2
  rw [eb'.1] at g2
  injection g2 with g2
  injection g2 with y3 y4
  subst y4
  rw [ec'.1] at g3
  injection g3 with g3
  injection g3 with y5 y6
  subst y6
  rw [ed] at g4
  cases g4
 | some d =>
 obtain ⟨num, p4⟩ := d
 rw [ed, opt3_some] at hs
 have hd := sS_some ed
 have hkd := refKind_eq 26 s p4
 by_cases ek : kindS s p4 = 2
 case neg =>
  refine RDPost.to (rdec5 s w hG n p1 hh hn k p2 hk i p3 hi num p4 hs _ hkd ek) (decA_bad fun n' k' i' num' m wd t q h => ?_)
  obtain ⟨q1, q2, q3, q4, q6, g1, g2, g3, g4, g5, g6, g7, g8⟩ := full_inv h
  rw [ea] at g1
  injection g1 with g1
  injection g1 with y1 y2
  subst y2
  rw [eb'.1] at g2
  injection g2 with g2
  injection g2 with y3 y4
  subst y4
  rw [ec'.1] at g3
  injection g3 with g3
  injection g3 with y5 y6
  subst y6
  rw [ed] at g4
  injection g4 with g4
  injection g4 with y7 y8
  subst y8
  exact absurd g5 ek
 rw [ek] at hkd
 have hin := kindS_in (s := s) (p := p4) (by rw [ek]; decide)
 obtain ⟨sm1, sm0⟩ := small_eq 12 s (p4 + 1) (by omega) hz'
 cases ef : smS s (p4 + 1) with
 | none =>
  obtain ⟨v, e, hw⟩ := sm0 ef
  refine RDPost.to (rdec6 s w hG n p1 hh hn k p2 hk i p3 hi num p4 hs hkd hin.1 hin.2.1 hz v e hw) (decA_bad fun n' k' i' num' m wd t q h => ?_)
  obtain ⟨q1, q2, q3, q4, q6, g1, g2, g3, g4, g5, g6, g7, g8⟩ := full_inv h
  rw [ea] at g1
  injection g1 with g1
  injection g1 with y1 y2
  subst y2
  rw [eb'.1] at g2
  injection g2 with g2
  injection g2 with y3 y4
  subst y4
  rw [ec'.1] at g3
  injection g3 with g3
  injection g3 with y5 y6
  subst y6
  rw [ed] at g4
  injection g4 with g4
  injection g4 with y7 y8
  subst y8
  have := smS_none ef g6
  exact fun c => this c.2.2.2.2
 | some f =>
 obtain ⟨vw, p5⟩ := f
 have hw := sm1 vw p5 ef
 have ef' := smS_some ef
 have hf := uS_some ef'.1
 clear sm1 sm0
 have ht := refRT_eq 11 s p5 (by omega) hz'
 cases eg : tS s p5 with
 | none =>
  rw [eg, optT_none] at ht
  refine RDPost.to (rdec7 s w hG n p1 hh hn k p2 hk i p3 hi num p4 hs hkd hin.1 hin.2.1 hz vw p5 hw _ _ ht) (decA_bad fun n' k' i' num' m wd t q h => ?_)
  obtain ⟨q1, q2, q3, q4, q6, g1, g2, g3, g4, g5, g6, g7, g8⟩ := full_inv h
  rw [ea] at g1
  injection g1 with g1
  injection g1 with y1 y2
  subst y2
  rw [eb'.1] at g2
  injection g2 with g2
  injection g2 with y3 y4
  subst y4
  rw [ec'.1] at g3
  injection g3 with g3
  injection g3 with y5 y6
  subst y6
  rw [ed] at g4
  injection g4 with g4
  injection g4 with y7 y8
  subst y8
  rw [ef'.1] at g6
  injection g6 with g6
  injection g6 with y9 y10
  subst y10
  rw [eg] at g7
  cases g7
 | some g =>
 obtain ⟨t, q⟩ := g
 rw [eg, optT_some] at ht
 have full : fullS s = some (n, k, i, num, bt s p4 == 2, vw, t, q) := by
  simp only [fullS, ea, eb'.1, ec'.1, ed, if_pos ek, ef'.1, eg, Option.bind_some]
 by_cases hq : q = (s.size : Int)
 case neg =>
  refine RDPost.to (rdec8 s w hG n p1 hh hn k p2 hk i p3 hi num p4 hs hkd hin.1 hin.2.1 hz vw p5 hw _ _ ht hq) (decA_bad fun n' k' i' num' m wd t' q' h => ?_)
  rw [full] at h
  injection h with h
  simp only [Prod.mk.injEq] at h
  obtain ⟨z1, z2, z3, z4, z5, z6, z7, z8⟩ := h
  exact fun c => hq (z8.trans c.2.1)
 subst hq hn
 have ob := one_byte2 s p4 hin.1 (by omega)
 have dec := decA_ok full eb'.2 ec'.2 ef'.2
 by_cases c1 : num < -1
 ·have e1 := chk_far k i num (bt s p4 == 2) vw t (Or.inl c1)
  have hce := chkR 26 k i 1001 (bt s p4 == 2) vw t
  have hne : ¬ chk k i num (bt s p4 == 2) vw t = 0 := fun h => by
   have := chk_ok h
   omega
  rw [if_neg hne] at dec
  rw [e1, ← ob] at hce
  exact RDPost.to (rdec9_0 s w hG 6 p1 hh rfl k p2 hk i p3 hi num p4 hs hkd hin.1 hin.2.1 hz vw p5 hw t ht c1 _ hce (by rw [ob]; exact hne)) (by rw [dec, ob])
 ·by_cases c2 : num > 1000
  ·have e1 := chk_far k i num (bt s p4 == 2) vw t (Or.inr c2)
   have hce := chkR 26 k i 1001 (bt s p4 == 2) vw t
   have hne : ¬ chk k i num (bt s p4 == 2) vw t = 0 := fun h => by
    have := chk_ok h
    omega
   rw [if_neg hne] at dec
   rw [e1, ← ob] at hce
   exact RDPost.to (rdec9_1 s w hG 6 p1 hh rfl k p2 hk i p3 hi num p4 hs hkd hin.1 hin.2.1 hz vw p5 hw t ht c1 c2 _ hce (by rw [ob]; exact hne)) (by rw [dec, ob])
  ·have hce := chkR 26 k i num (bt s p4 == 2) vw t
   by_cases hne : chk k i num (bt s p4 == 2) vw t = 0
   ·rw [if_pos hne] at dec
    rw [hne, ← ob] at hce
    exact RDPost.to (rdec10_2 s w hG 6 p1 hh rfl k p2 hk i p3 hi num p4 hs hkd hin.1 hin.2.1 hz vw p5 hw t ht c1 c2 hce) (by rw [dec, ob])
   ·rw [if_neg hne] at dec
    rw [← ob] at hce
    exact RDPost.to (rdec9_2 s w hG 6 p1 hh rfl k p2 hk i p3 hi num p4 hs hkd hin.1 hin.2.1 hz vw p5 hw t ht c1 c2 _ hce (by rw [ob]; exact hne)) (by rw [dec, ob])
def plenumref49_Decode.f (a0 : ByteArray) : Option (Int × Int × Int × Bool × Int × ByteArray × Int) := if a0.size ≤ 1000000 then some (decA a0) else none
theorem plenumref49_Decode.calls (a0 : ByteArray) (r1 : Int) (r2 : Int) (r3 : Int) (r4 : Bool) (r5 : Int) (r6 : ByteArray) (r7 : Int) (w : World) (hG : Glob w) (h : plenumref49_Decode.f a0 = some (r1, r2, r3, r4, r5, r6, r7)) :
  Calls Tryd.prog 15 #[.string a0] w fun e w' => e = .returned (.tuple #[.agg #[.int .i64 r1, .int .i64 r2, .int .i64 r3, .bool r4, .int .i64 r5, .string r6], .int .i64 r7]) ∧ Below w.heap.size w w' := by
 unfold plenumref49_Decode.f at h
 by_cases hz : a0.size ≤ 1000000
 ·rw [if_pos hz] at h
  injection h with h
  have := rdecX a0 w hG hz
  rw [h] at this
  exact this
 ·rw [if_neg hz] at h
  cases h
end Go.Proofs.YtbgabhknmpbgiaaDoor.S
end
section
namespace Go.Proofs.YtbgabhknmpbgiaaDoor.Pure
open Go.RowKit Go.Proofs.YtbgabhknmpbgiaaDoor.S Go.Proofs.YtbgabhknmpbgiaaDoorW.PrintWords Go.Proofs.YtbgabhknmpbgiaaDoorW.PrintLast Go.Proofs.YtbgabhknmpbgiaaDoorW.PrintMore
set_option linter.unusedVariables false
set_option linter.unusedSimpArgs false
theorem bt_mid (l pre post : List Int) (b : Int) (h : l = pre ++ b :: post) (h0 : 0 ≤ b) (h1 : b ≤ 255) : bt (strOfNums l) (pre.length : Int) = b := by
 subst h
 rw [← rd_bytesOf]
 have e : bytesOf (strOfNums (pre ++ b :: post)) = (pre ++ b :: post).map (fun n : Int => ((UInt8.ofNat n.toNat).toNat : Int)) := by
  show ((((pre ++ b :: post).map fun n => UInt8.ofNat n.toNat)).map fun b => (b.toNat : Int)) = _
  rw [List.map_map]
  rfl
 rw [e]
 unfold rd
 rw [show ((pre.length : Int)).toNat = pre.length from rfl, List.getD_eq_getElem?_getD, List.getElem?_map, List.getElem?_append_right (Nat.le_refl _), Nat.sub_self, List.getElem?_cons_zero]
 show ((UInt8.ofNat b.toNat).toNat : Int) = b
 rw [UInt8.toNat_ofNat']
 omega
theorem beN_at : ∀ (m : Nat) (V : Int) (l pre post : List Int), l = pre ++ beH V m ++ post → beN (strOfNums l) (pre.length : Int) m = V % 256 ^ m := by
 intro m
 induction m with
 | zero => intro V l pre post h; show (0 : Int) = V % 1; omega
 | succ m ih =>
  intro V l pre post h
  have e1 := ih (V / 256) l pre ([V % 256] ++ post) (by rw [h, beH_snoc]; simp [List.append_assoc])
  have e2 := bt_mid l (pre ++ beH (V / 256) m) post (V % 256) (by rw [h, beH_snoc]; simp [List.append_assoc]) (by omega) (by omega)
  rw [List.length_append, beH_length] at e2
  show beN (strOfNums l) (pre.length : Int) m * 256 + bt (strOfNums l) ((pre.length : Int) + (m : Int)) = V % 256 ^ (m + 1)
  rw [e1, show ((pre.length : Int) + (m : Int)) = ((pre.length + m : Nat) : Int) by omega, e2]
  rw [Int.pow_succ]
  have h1 := Int.emod_add_mul_ediv V 256
  have h2 : V % (256 ^ m * 256) = V % 256 + 256 * (V / 256 % 256 ^ m) := by
   have hB : (0 : Int) < 256 ^ m := Int.pow_pos (by decide)
   generalize (256 : Int) ^ m = B at *
   have q1 := Int.emod_add_mul_ediv (V / 256) B
   have r0 := Int.emod_nonneg (V / 256) (Int.ne_of_gt hB)
   have r1 := Int.emod_lt_of_pos (V / 256) hB
   have e : V = (V % 256 + 256 * (V / 256 % B)) + (B * 256) * (V / 256 / B) := by
    have : (B * 256) * (V / 256 / B) = 256 * (B * (V / 256 / B)) := by rw [Int.mul_comm B 256, Int.mul_assoc]
    rw [this]
    omega
   conv => lhs; rw [e]
   rw [Int.add_mul_emod_self_left, Int.emod_eq_of_lt]
   ·omega
   ·omega
  rw [h2]
  omega
theorem nb_lt {V : Int} (h0 : 0 ≤ V) (h1 : V < 18446744073709551616) : V < 256 ^ (nb V).toNat := by
 unfold nb
 repeat' split
 all_goals simp
 all_goals omega
theorem str_len (a b c : List Int) : ((strOfNums (a ++ b ++ c)).size : Int) = a.length + b.length + c.length := by
 rw [strOfNums_size, List.length_append, List.length_append]
 omega
theorem cnt_mid (l pre post : List Int) (lead n : Int) (h : l = pre ++ (lead + n) :: post) (hl : lead = 16 ∨ lead = 32) (h1 : 1 ≤ n) (h8 : n ≤ 8) : cnt (strOfNums l) (pre.length : Int) = n.toNat ∧ kindS (strOfNums l) (pre.length : Int) = (if lead = 16 then 3 else 4) := by
 have hb := bt_mid l pre post (lead + n) h (by omega) (by omega)
 have hs : (pre.length : Int) < ((strOfNums l).size : Int) := by rw [strOfNums_size, h]; simp; omega
 refine ⟨by unfold cnt; rw [hb]; omega, ?_⟩
 unfold kindS
 rw [if_neg (by omega), hb]
 unfold kd
 rcases hl with rfl | rfl
 ·rw [if_pos rfl]; omega
 ·rw [if_neg (show ¬ (32 : Int) = 16 by decide)]; omega
theorem uS_str (l pre post : List Int) (V : Int) (h : l = pre ++ uB V ++ post) (h0 : 0 ≤ V) (h1 : V < 18446744073709551616) : uS (strOfNums l) (pre.length : Int) = some (V, (pre.length : Int) + ((uB V).length : Int)) := by
 have hr := nb_range V
 have hu : uB V = (16 + nb V) :: beH V (nb V).toNat := by unfold uB; rw [beL_eq]
 have hl : (uB V).length = (nb V).toNat + 1 := by rw [hu, List.length_cons, beH_length]
 obtain ⟨hc, hk⟩ := cnt_mid l pre (beH V (nb V).toNat ++ post) 16 (nb V) (by rw [h, hu]; simp) (Or.inl rfl) hr.1 hr.2
 rw [if_pos rfl] at hk
 have hv := beN_at (nb V).toNat V l (pre ++ [16 + nb V]) post (by rw [h, hu]; simp)
 rw [Int.emod_eq_of_lt h0 (nb_lt h0 h1), List.length_append, List.length_singleton, show (((pre.length + 1 : Nat)) : Int) = (pre.length : Int) + 1 by omega] at hv
 have hval : val (strOfNums l) (pre.length : Int) = V := by unfold val; rw [hc]; exact hv
 unfold uS
 rw [if_pos, hval, hc, hl]
 ·congr 2
  omega
 ·refine ⟨hk, ?_, by rw [hval, hc]; omega⟩
  rw [hc, h, str_len, hl]
  omega
theorem sgn_mod {V : Int} (h0 : -9223372036854775808 ≤ V) (h1 : V ≤ 9223372036854775807) : sgn (ss V).toNat (V % 256 ^ (ss V).toNat) = V := by
 unfold ss sb
 repeat' split
 all_goals unfold sgn
 all_goals simp
 all_goals omega
theorem sS_str (l pre post : List Int) (V : Int) (h : l = pre ++ sB V ++ post) (h0 : -9223372036854775808 ≤ V) (h1 : V ≤ 9223372036854775807) : sS (strOfNums l) (pre.length : Int) = some (V, (pre.length : Int) + ((sB V).length : Int)) := by
 have hr := ss_range V h0 h1
 have hu : sB V = (32 + ss V) :: beH V (ss V).toNat := by unfold sB; rw [beL_eq]
 have hl : (sB V).length = (ss V).toNat + 1 := by rw [hu, List.length_cons, beH_length]
 obtain ⟨hc, hk⟩ := cnt_mid l pre (beH V (ss V).toNat ++ post) 32 (ss V) (by rw [h, hu]; simp) (Or.inr rfl) hr.1 hr.2
 rw [if_neg (by decide)] at hk
 have hv := beN_at (ss V).toNat V l (pre ++ [32 + ss V]) post (by rw [h, hu]; simp)
 rw [List.length_append, List.length_singleton, show (((pre.length + 1 : Nat)) : Int) = (pre.length : Int) + 1 by omega] at hv
 have hval : sgn (cnt (strOfNums l) (pre.length : Int)) (val (strOfNums l) (pre.length : Int)) = V := by unfold val; rw [hc, hv]; exact sgn_mod h0 h1
 unfold sS
 rw [if_pos, hval, hc, hl]
 ·congr 2
  omega
 ·refine ⟨hk, ?_, by rw [hval, hc]; omega⟩
  rw [hc, h, str_len, hl]
  omega
theorem kind_mid (l pre post : List Int) (b : Int) (h : l = pre ++ b :: post) (h0 : 0 ≤ b) (h1 : b ≤ 255) : kindS (strOfNums l) (pre.length : Int) = kd b := by
 have hb := bt_mid l pre post b h h0 h1
 have hs : (pre.length : Int) < ((strOfNums l).size : Int) := by rw [strOfNums_size, h]; simp; omega
 unfold kindS
 rw [if_neg (by omega), hb]
theorem ext_mid (a s c : ByteArray) : (a ++ s ++ c).extract a.size (a.size + s.size) = s := by
 apply ByteArray.ext
 apply Array.toList_inj.mp
 simp [ByteArray.data_extract, ByteArray.data_append, Array.toList_extract]
 have h1 : a.size = a.data.toList.length := by rw [Array.length_toList]; rfl
 have h2 : s.size = s.data.toList.length := by rw [Array.length_toList]; rfl
 rw [h1, h2, List.drop_length, List.take_length]
 simp
theorem tS_str (l pre post : List Int) (s : ByteArray) (h : l = pre ++ ([48] ++ uB (s.size : Int) ++ bytesOf s) ++ post) (hs : s.size ≤ 65535) : tS (strOfNums l) (pre.length : Int) = some (s, (pre.length : Int) + (([48] ++ uB (s.size : Int) ++ bytesOf s).length : Int)) := by
 have hk := kind_mid l pre (uB (s.size : Int) ++ bytesOf s ++ post) 48 (by rw [h]; simp) (by omega) (by omega)
 have hu := uS_str l (pre ++ [48]) (bytesOf s ++ post) (s.size : Int) (by rw [h]; simp) (by omega) (by omega)
 rw [List.length_append, List.length_singleton, show (((pre.length + 1 : Nat)) : Int) = (pre.length : Int) + 1 by omega] at hu
 have hsz : ((strOfNums l).size : Int) = (pre.length : Int) + 1 + ((uB (s.size : Int)).length : Int) + (s.size : Int) + (post.length : Int) := by
  rw [strOfNums_size, h]
  simp [bytesOf_length]
  omega
 unfold tS
 rw [if_pos (by rw [hk]; rfl), hu]
 simp only []
 rw [if_neg (by omega), if_neg (by omega)]
 have he : strOfNums l = strOfNums (pre ++ [48] ++ uB (s.size : Int)) ++ s ++ strOfNums post := by
  rw [h, show pre ++ ([48] ++ uB (s.size : Int) ++ bytesOf s) ++ post = (pre ++ [48] ++ uB (s.size : Int)) ++ bytesOf s ++ post by simp, strOfNums_app, strOfNums_app _ (bytesOf s), strOfNums_bytes]
 have ha : (strOfNums (pre ++ [48] ++ uB (s.size : Int))).size = pre.length + 1 + (uB (s.size : Int)).length := by rw [strOfNums_size]; simp; omega
 have hx := ext_mid (strOfNums (pre ++ [48] ++ uB (s.size : Int))) s (strOfNums post)
 rw [← he, ha] at hx
 rw [show ((pre.length : Int) + 1 + ((uB (s.size : Int)).length : Int)).toNat = pre.length + 1 + (uB (s.size : Int)).length by omega, show ((pre.length : Int) + 1 + ((uB (s.size : Int)).length : Int) + (s.size : Int)).toNat = pre.length + 1 + (uB (s.size : Int)).length + s.size by omega, hx]
 congr 2
 simp [bytesOf_length]
 omega
theorem lS_str (l pre post : List Int) (V : Int) (h : l = pre ++ ([64] ++ uB V) ++ post) (h0 : 0 ≤ V) (h1 : V ≤ 65535) : lS (strOfNums l) (pre.length : Int) = some (V, (pre.length : Int) + (([64] ++ uB V).length : Int)) := by
 have hk := kind_mid l pre (uB V ++ post) 64 (by rw [h]; simp) (by omega) (by omega)
 have hu := uS_str l (pre ++ [64]) post V (by rw [h]; simp) (by omega) (by omega)
 rw [List.length_append, List.length_singleton, show (((pre.length + 1 : Nat)) : Int) = (pre.length : Int) + 1 by omega] at hu
 unfold lS
 rw [if_pos (by rw [hk]; rfl), hu]
 simp only []
 rw [if_neg (by omega)]
 congr 2
 simp
 omega
theorem app_len (a b : List Int) : (a.length : Int) + (b.length : Int) = ((a ++ b).length : Int) := by
 rw [List.length_append]
 omega
theorem list_loop (L : List (List Int)) : ∀ (d k j : Nat) (acc : List Int), j + d = L.length → L.length ≤ 100000 → acc.length + (L.drop j).flatten.length ≤ 100000000 → plenumref02_List.l0 (k + d + 1) (L.map strOfNums) (strOfNums acc) (j : Int) = some (strOfNums (acc ++ (L.drop j).flatten))
 | 0, k, j, acc, hd, hn, hl => by
  rw [show k + 0 + 1 = k + 1 by omega, plenumref02_List.l0, List.length_map, if_neg (by omega), List.drop_eq_nil_of_le (by omega)]
  simp
 | d + 1, k, j, acc, hd, hn, hl => by
  have hj : j < L.length := by omega
  have hdrop : L.drop j = L[j] :: L.drop (j + 1) := List.drop_eq_getElem_cons hj
  rw [hdrop, List.flatten_cons, List.length_append] at hl
  have hr : rdOf ByteArray.empty (L.map strOfNums) (j : Int) = strOfNums L[j] := by
   unfold rdOf
   simp [hj]
  rw [show k + (d + 1) + 1 = (k + d + 1) + 1 by omega, plenumref02_List.l0, List.length_map, if_pos (by omega), if_pos (by omega), hr, if_pos (by rw [strOfNums_size, strOfNums_size]; omega), ← strOfNums_app, show wrap64 ((j : Int) + 1) = ((j + 1 : Nat) : Int) by rw [w64 (by omega) (by omega)]; omega]
  rw [list_loop L d k (j + 1) (acc ++ L[j]) (by omega) hn (by rw [List.length_append]; omega), hdrop, List.flatten_cons, List.append_assoc]
theorem list_eq_ref (k : Nat) (L : List (List Int)) (hn : L.length ≤ 65535) (hl : L.flatten.length ≤ 10000000) : plenumref02_List.f (k + L.length + 9) (L.map strOfNums) = some (strOfNums ([64] ++ uB (L.length : Int) ++ L.flatten)) := by
 unfold plenumref02_List.f
 rw [List.length_map, show k + L.length + 9 = (k + L.length + 1) + 8 by omega, refHead _ _ (by omega), Option.bind_some]
 have hu := uB_len (L.length : Int)
 have := list_loop L L.length (k + 8) 0 ([64] ++ uB (L.length : Int)) (by omega) (by omega) (by rw [List.drop_zero, List.length_append, List.length_singleton]; omega)
 rw [show k + 8 + L.length + 1 = k + L.length + 1 + 8 by omega, List.drop_zero] at this
 exact this
end Go.Proofs.YtbgabhknmpbgiaaDoor.Pure
end
section
namespace Go.Proofs.YtbgabhknmpbgiaaDoor.Pure
open Go.RowKit Go.Proofs.YtbgabhknmpbgiaaDoor.S Go.Proofs.YtbgabhknmpbgiaaDoorW.PrintWords Go.Proofs.YtbgabhknmpbgiaaDoorW.PrintLast Go.Proofs.YtbgabhknmpbgiaaDoorW.PrintMore
set_option linter.unusedVariables false
set_option linter.unusedSimpArgs false
theorem encR (k : Nat) (f0 f1 f2 : Int) (f3 : Bool) (f4 : Int) (f5 : ByteArray) (h0 : 0 ≤ f0 ∧ f0 ≤ 3) (h1 : 0 ≤ f1 ∧ f1 ≤ 255) (h2 : -1 ≤ f2 ∧ f2 ≤ 63) (h4 : 0 ≤ f4 ∧ f4 ≤ 16) (h5 : f5.size ≤ 400) :
  plenumref49_Encode.f (k + 20) f0 f1 f2 f3 f4 f5 = some (strOfNums (encB ⟨f0, f1, f2, f3, f4, f5⟩)) := by
 have w0 : IntKind.u64.wrap f0 = f0 := by rw [u64w]; omega
 have w1 : IntKind.u64.wrap f1 = f1 := by rw [u64w]; omega
 have w4 : IntKind.u64.wrap f4 = f4 := by rw [u64w]; omega
 have e0 : plenumref02_Unsigned.f (k + 20) f0 = some (strOfNums (uB f0)) := refU_eq (k + 12) f0 (by omega) (by omega)
 have e1 : plenumref02_Unsigned.f (k + 20) f1 = some (strOfNums (uB f1)) := refU_eq (k + 12) f1 (by omega) (by omega)
 have e2 : plenumref02_Signed.f (k + 20) f2 = some (strOfNums (sB f2)) := refS_eq (k + 12) f2 (by omega) (by omega)
 have e3 : plenumref02_Bool.f f3 = some (strOfNums [if f3 = true then 2 else 1]) := by cases f3 <;> rfl
 have e4 : plenumref02_Unsigned.f (k + 20) f4 = some (strOfNums (uB f4)) := refU_eq (k + 12) f4 (by omega) (by omega)
 have e5 : plenumref02_Text.f (k + 20) f5 = some (strOfNums ([48] ++ uB (f5.size : Int) ++ bytesOf f5)) := refText (k + 12) f5 (by omega)
 unfold plenumref49_Encode.f
 rw [w0, w1, w4, e0, Option.bind_some, e1, Option.bind_some, e2, Option.bind_some, e3, Option.bind_some, e4, Option.bind_some, e5, Option.bind_some]
 have l0 := uB_len f0
 have l1 := uB_len f1
 have l2 := sB_len f2 (by omega) (by omega)
 have l4 := uB_len f4
 have l5 := uB_len (f5.size : Int)
 have lb := bytesOf_length f5
 have := list_eq_ref (k + 5) [uB f0, uB f1, sB f2, [if f3 = true then 2 else 1], uB f4, [48] ++ uB (f5.size : Int) ++ bytesOf f5] (by simp only [List.length_cons, List.length_nil]; decide) (by simp only [List.flatten_cons, List.flatten_nil, List.length_append, List.length_cons, List.length_nil]; omega)
 rw [show k + 5 + [uB f0, uB f1, sB f2, [if f3 = true then 2 else 1], uB f4, [48] ++ uB (f5.size : Int) ++ bytesOf f5].length + 9 = k + 20 by simp only [List.length_cons, List.length_nil]] at this
 simp only [List.map_cons, List.map_nil] at this
 rw [this, Option.bind_some]
 refine congrArg (fun l => some (strOfNums l)) ?_
 unfold encB
 rw [show ([uB f0, uB f1, sB f2, [if f3 = true then 2 else 1], uB f4, [48] ++ uB (f5.size : Int) ++ bytesOf f5] : List (List Int)).length = 6 by simp only [List.length_cons, List.length_nil]]
 rw [List.flatten_cons, List.flatten_cons, List.flatten_cons, List.flatten_cons, List.flatten_cons, List.flatten_cons, List.flatten_nil]
 simp only [List.append_nil, List.nil_append, List.append_assoc]
 rfl
set_option maxHeartbeats 2000000 in
theorem backA (f0 f1 f2 : Int) (f3 : Bool) (f4 : Int) (f5 : ByteArray) (hc : chk f0 f1 f2 f3 f4 f5 = 0) : decA (strOfNums (encB ⟨f0, f1, f2, f3, f4, f5⟩)) = (f0, f1, f2, f3, f4, f5, 0) := by
 have hb := chk_ok hc
 obtain ⟨l, hl⟩ : ∃ l, encB ⟨f0, f1, f2, f3, f4, f5⟩ = l := ⟨_, rfl⟩
 rw [hl]
 unfold encB at hl
 rw [List.nil_append] at hl
 simp only [] at hl
 obtain ⟨m, hm⟩ : ∃ m : Int, (if f3 = true then (2 : Int) else 1) = m := ⟨_, rfl⟩
 have hmr : m = 1 ∨ m = 2 := by cases f3 <;> simp at hm <;> omega
 have hmb : (m == 2) = f3 := by cases f3 <;> simp at hm <;> subst hm <;> rfl
 rw [hm] at hl
 obtain ⟨P1, hp1⟩ : ∃ P : List Int, [64] ++ uB 6 = P := ⟨_, rfl⟩
 obtain ⟨P2, hp2⟩ : ∃ P : List Int, P1 ++ uB f0 = P := ⟨_, rfl⟩
 obtain ⟨P3, hp3⟩ : ∃ P : List Int, P2 ++ uB f1 = P := ⟨_, rfl⟩
 obtain ⟨P4, hp4⟩ : ∃ P : List Int, P3 ++ sB f2 = P := ⟨_, rfl⟩
 obtain ⟨P5, hp5⟩ : ∃ P : List Int, P4 ++ [m] = P := ⟨_, rfl⟩
 obtain ⟨P6, hp6⟩ : ∃ P : List Int, P5 ++ uB f4 = P := ⟨_, rfl⟩
 have hl6 : P6 ++ ([48] ++ uB (f5.size : Int) ++ bytesOf f5) = l := by rw [← hl, ← hp6, ← hp5, ← hp4, ← hp3, ← hp2, ← hp1]; simp only [List.append_assoc]
 have g1 := lS_str l [] (uB f0 ++ uB f1 ++ sB f2 ++ [m] ++ uB f4 ++ ([48] ++ uB (f5.size : Int) ++ bytesOf f5)) 6 (by rw [← hl]; simp only [List.nil_append, List.append_assoc]) (by decide) (by decide)
 rw [hp1, List.length_nil, show (((0 : Nat) : Int)) = 0 from rfl, Int.zero_add] at g1
 have g2 := uS_str l P1 (uB f1 ++ sB f2 ++ [m] ++ uB f4 ++ ([48] ++ uB (f5.size : Int) ++ bytesOf f5)) f0 (by rw [← hl, ← hp1]; simp only [List.append_assoc]) (by omega) (by omega)
 rw [app_len, hp2] at g2
 have g3 := uS_str l P2 (sB f2 ++ [m] ++ uB f4 ++ ([48] ++ uB (f5.size : Int) ++ bytesOf f5)) f1 (by rw [← hl, ← hp2, ← hp1]; simp only [List.append_assoc]) (by omega) (by omega)
 rw [app_len, hp3] at g3
 have g4 := sS_str l P3 ([m] ++ uB f4 ++ ([48] ++ uB (f5.size : Int) ++ bytesOf f5)) f2 (by rw [← hl, ← hp3, ← hp2, ← hp1]; simp only [List.append_assoc]) (by omega) (by omega)
 rw [app_len, hp4] at g4
 have hmid : l = P4 ++ m :: (uB f4 ++ ([48] ++ uB (f5.size : Int) ++ bytesOf f5)) := by rw [← hl6, ← hp6, ← hp5]; simp [List.append_assoc]
 have g5 := kind_mid l P4 _ m hmid (by omega) (by omega)
 have g5' : kindS (strOfNums l) (P4.length : Int) = 2 := by
  rw [g5]
  obtain rfl | rfl := hmr <;> rfl
 have gb := bt_mid l P4 _ m hmid (by omega) (by omega)
 have q5 : (P4.length : Int) + 1 = (P5.length : Int) := by
  rw [← hp5, List.length_append, List.length_singleton]
  omega
 have g6 := uS_str l P5 ([48] ++ uB (f5.size : Int) ++ bytesOf f5) f4 (by rw [← hl6, ← hp6]) (by omega) (by omega)
 rw [app_len, hp6] at g6
 have g7 := tS_str l P6 [] f5 (by rw [← hl6, List.append_nil]) (by omega)
 rw [app_len, hl6] at g7
 have hz : ((strOfNums l).size : Int) = (l.length : Int) := by rw [strOfNums_size]
 have full : fullS (strOfNums l) = some (6, f0, f1, f2, f3, f4, f5, ((strOfNums l).size : Int)) := by
  simp only [fullS, g1, g2, g3, g4, g5', q5, g6, g7, Option.bind_some, if_true, gb, hmb, hz]
 rw [decA_ok full (by omega) (by omega) (by omega), if_pos hc]
theorem encP (f0 f1 f2 : Int) (f3 : Bool) (f4 : Int) (f5 : ByteArray) (hz : chk f0 f1 f2 f3 f4 f5 = 0) : segment_Encode.f f0 f1 f2 f3 f4 f5 = some (strOfNums (encB ⟨f0, f1, f2, f3, f4, f5⟩), 0) := by
 have hb := chk_ok hz
 have hC4 : segment_Check.f 40 f0 f1 f2 f3 f4 f5 = some (chk f0 f1 f2 f3 f4 f5) := chkP 36 f0 f1 f2 f3 f4 f5
 unfold segment_Encode.f
 rw [hC4, hz, Option.bind_some, if_pos rfl, if_pos (by omega)]
theorem encBad (f0 f1 f2 : Int) (f3 : Bool) (f4 : Int) (f5 : ByteArray) (hz : ¬ chk f0 f1 f2 f3 f4 f5 = 0) : segment_Encode.f f0 f1 f2 f3 f4 f5 = some (⟨#[]⟩, chk f0 f1 f2 f3 f4 f5) := by
 have hC4 : segment_Check.f 40 f0 f1 f2 f3 f4 f5 = some (chk f0 f1 f2 f3 f4 f5) := chkP 36 f0 f1 f2 f3 f4 f5
 unfold segment_Encode.f
 rw [hC4, Option.bind_some, if_neg hz]
theorem decBack (f0 f1 f2 : Int) (f3 : Bool) (f4 : Int) (f5 : ByteArray) (hz : chk f0 f1 f2 f3 f4 f5 = 0) : segment_Decode.f (strOfNums (encB ⟨f0, f1, f2, f3, f4, f5⟩)) = some (f0, f1, f2, f3, f4, f5, 0) := by
 have hb := chk_ok hz
 have lB : (encB ⟨f0, f1, f2, f3, f4, f5⟩).length ≤ 1000 := by
  have l0 := uB_len f0
  have l1 := uB_len f1
  have l2 := sB_len f2 (by omega) (by omega)
  have l4 := uB_len f4
  have l5 := uB_len (f5.size : Int)
  have l6 := uB_len 6
  have lb := bytesOf_length f5
  unfold encB
  simp only [List.length_append, List.length_cons, List.length_nil]
  omega
 rw [decP _ (by rw [strOfNums_size]; omega), backA f0 f1 f2 f3 f4 f5 hz]
theorem encRc (f0 f1 f2 : Int) (f3 : Bool) (f4 : Int) (f5 : ByteArray) (hz : chk f0 f1 f2 f3 f4 f5 = 0) : plenumref49_Encode.f 40 f0 f1 f2 f3 f4 f5 = some (strOfNums (encB ⟨f0, f1, f2, f3, f4, f5⟩)) := by
 have hb := chk_ok hz
 exact encR 20 f0 f1 f2 f3 f4 f5 (by omega) (by omega) (by omega) (by omega) (by omega)
end Go.Proofs.YtbgabhknmpbgiaaDoor.Pure
end
section
namespace Go.Proofs.YtbgabhknmpbgiaaDoor.S
open Go.RowKit Go.Proofs.YtbgabhknmpbgiaaDoorW.PrintWords Go.Proofs.YtbgabhknmpbgiaaDoorW.PrintLast Go.Proofs.YtbgabhknmpbgiaaDoorW.PrintMore
attribute [local go_sem] max2_int min2_int max_two min_two max_three min_three max_four min_four
set_option linter.unusedVariables false
set_option linter.unusedSimpArgs false
def segment_Split.l0 : Nat → ByteArray → Int → List ByteArray → Option (List ByteArray × Int)
 | 0, _, _, _ => none
 | k + 1, x0, x1, x6 => if (x0.size : Int) > x1 then (if 0 ≤ x1 then (if x1 ≤ (x0.size : Int) then (if x6.length < 8796093022208 then (segment_Split.l0 k (x0.extract (x1 : Int).toNat x0.size) x1 (x6 ++ [x0.extract 0 (x1 : Int).toNat])) else (none)) else (none)) else (none)) else (if x6.length < 8796093022208 then (some ((x6 ++ [x0]), 0)) else (none))
def segment_Split.f (k : Nat) (a0 : ByteArray) (a1 : Int) : Option (List ByteArray × Int) := (segment_in.f a1 1 400).bind fun t157 => (if t157 = true then (if (a0.size : Int) > (wrap64 (a1 * 64)) then (some (([] : List ByteArray), 7)) else (segment_Split.l0 k a0 a1 ([] : List ByteArray))) else (some (([] : List ByteArray), 1)))
set_option maxHeartbeats 8000000 in
set_option maxRecDepth 100000 in
theorem segment_Split.calls (k : Nat) (a0 : ByteArray) (a1 : Int) (r1 : List ByteArray) (r2 : Int) (w : World) (hG : Glob w) (h : segment_Split.f k a0 a1 = some (r1, r2)) :
  Calls Tryd.prog 18 #[.string a0, .int .i64 a1] w fun e w' => ∃ v0_ : Value, e = .returned (.tuple #[v0_, .int .i64 r2]) ∧ Kd.R Kd.string 9 w' w.heap.size (fun _ => True) v0_ r1 ∧ Below w.heap.size w w' := by
 have HG := Aside0.mk hG
 clear hG
 have HB := Aside0.mk (Below.refl w.heap.size w)
 have H : ((segment_in.f a1 1 400).bind fun t157 => (if t157 = true then (if (a0.size : Int) > (wrap64 (a1 * 64)) then (some (([] : List ByteArray), 7)) else (segment_Split.l0 k a0 a1 ([] : List ByteArray))) else (some (([] : List ByteArray), 1)))) = some (r1, r2) := h
 clear h
 replace H := Option.bind_eq_some_iff.mp H
 obtain ⟨t157, A30, H⟩ := H
 replace H : (if t157 = true then (if (a0.size : Int) > (wrap64 (a1 * 64)) then (some (([] : List ByteArray), 7)) else (segment_Split.l0 k a0 a1 ([] : List ByteArray))) else (some (([] : List ByteArray), 1))) = some (r1, r2) := H
 have A3 := Aside0.mk A30
 clear A30
 by_cases c4 : t157 = true
 ·subst c4
  have H1 : (if (a0.size : Int) > (wrap64 (a1 * 64)) then (some (([] : List ByteArray), 7)) else (segment_Split.l0 k a0 a1 ([] : List ByteArray))) = some (r1, r2) := by rw [if_pos rfl] at H; exact H
  clear H
  have H := H1
  clear H1
  by_cases c5 : (a0.size : Int) > (wrap64 (a1 * 64))
  ·rw [if_pos c5] at H
   have c5b0 : decide ((wrap64 (a1 * 64)) < (a0.size : Int)) = true := decide_eq_true c5
   clear c5
   simp only [Option.some.injEq, Prod.mk.injEq] at H
   obtain ⟨rfl, rfl⟩ := H
   go_enter Tryd.func18, Tryd.ntmps18
   go_wp2_with (first | ((with_reducible refine gate_callee (f := 58) rfl ?_); refine goesL_ (some 8) rfl rfl Tryd.func58 (by kernel_rfl) rfl #[.int .i64 a1, .int .i64 1, .int .i64 400] rfl (by (try simp only [List.map_toArray, List.map_cons, List.map_nil]); first | done | rfl | (simp only [List.length_drop, List.length_take]; rfl)) ?_; (with_reducible refine (segment_in.calls a1 1 400 true _ ?side99  A3.out).mono ?_); (case side99 => first | exact HG.out | exact Glob.below HG.out (by repeat (first | (with_reducible first | exact HB.out | apply below_alloc | apply pw_below_drewN | apply below_drew1) | exact HB.out))); rintro e w' ⟨rfl, ⟨nd, rfl⟩⟩; refine ⟨_, rfl, ?_⟩))
   go_ret2
   exact ⟨_, by first | rfl | (simp [errW_none, errW_some] <;> rfl) | (simp [*, errW_none, errW_some] <;> rfl), by first | exact Kd.R_nil _ _ _ _ _ | exact Kd.N_nil _ _ _ _ _ | exact Kd.V_nil _ _ _ _ _ | exact Kd.Q_nil _ _ _ _ _ | exact Kd.S_nil _ _ _ _ _, by repeat (first | (with_reducible first | exact HB.out | apply below_alloc | apply pw_below_drewN | apply below_drew1) | exact HB.out)⟩
  ·rw [if_neg c5] at H
   have c5b0 : decide ((wrap64 (a1 * 64)) < (a0.size : Int)) = false := decide_eq_false c5
   clear c5
   have H' := Aside0.mk H
   clear H
   go_enter Tryd.func18, Tryd.ntmps18
   go_wp2_with (first | ((with_reducible refine gate_callee (f := 58) rfl ?_); refine goesL_ (some 8) rfl rfl Tryd.func58 (by kernel_rfl) rfl #[.int .i64 a1, .int .i64 1, .int .i64 400] rfl (by (try simp only [List.map_toArray, List.map_cons, List.map_nil]); first | done | rfl | (simp only [List.length_drop, List.length_take]; rfl)) ?_; (with_reducible refine (segment_in.calls a1 1 400 true _ ?side99  A3.out).mono ?_); (case side99 => first | exact HG.out | exact Glob.below HG.out (by repeat (first | (with_reducible first | exact HB.out | apply below_alloc | apply pw_below_drewN | apply below_drew1) | exact HB.out))); rintro e w' ⟨rfl, ⟨nd, rfl⟩⟩; refine ⟨_, rfl, ?_⟩))
   go_loopg [0, 6] k (fun kq v0 v6 w' => ∃ (x0_1 : ByteArray) (x6_1 : List ByteArray), v0 = .string x0_1 ∧ Aside0 (segment_Split.l0 kq x0_1 a1 x6_1 = some (r1, r2)) ∧ Aside0 (kq ≤ k) ∧ Aside0 (Kd.R Kd.string 9 w' w.heap.size (fun _ => True) v6 x6_1) ∧ Aside0 (Below w.heap.size w w'))
   case atStart => exact ⟨(a0), (([] : List ByteArray)), (by first | rfl | (simp; done) | (simp [*]; done)), H', ⟨Nat.le_refl _⟩, ⟨by first | exact Kd.R_nil _ _ _ _ _ | exact Kd.N_nil _ _ _ _ _ | exact Kd.V_nil _ _ _ _ _ | exact Kd.Q_nil _ _ _ _ _ | exact Kd.S_nil _ _ _ _ _⟩, ⟨by repeat (first | (with_reducible first | exact HB.out | apply below_alloc | apply pw_below_drewN | apply below_drew1) | exact HB.out)⟩⟩
   case round =>
    clear H'
    try clear c1
    try clear p2
    try clear c4
    try clear c5
    try clear c5b0
    obtain ⟨x0_1, x6_1, rfl, HA, HK1, HO_6, HB⟩ := hrel
    cases gk with
    | zero => exact absurd HA.out (by simp [segment_Split.l0])
    | succ k1 =>
     have H := HA.out
     clear HA
     simp only [segment_Split.l0] at H
     by_cases c6 : (x0_1.size : Int) > a1
     ·rw [if_pos c6] at H
      have c6b0 : decide (a1 < (x0_1.size : Int)) = true := decide_eq_true c6
      clear c6
      by_cases c7 : 0 ≤ a1
      ·rw [if_pos c7] at H
       have c7b0 := eq_true c7
       have c7b1 : decide (0 ≤ a1) = true := decide_eq_true c7
       clear c7
       by_cases c8 : a1 ≤ (x0_1.size : Int)
       ·rw [if_pos c8] at H
        have c8b0 := eq_true c8
        have c8b1 : decide (a1 ≤ (x0_1.size : Int)) = true := decide_eq_true c8
        clear c8
        by_cases c9 : x6_1.length < 8796093022208
        ·rw [if_pos c9] at H
         have LMc9 := Aside0.mk c9
         clear c9
         obtain ⟨y158, hy158⟩ : ∃ y_ : List ByteArray, y_ = (x6_1 ++ [x0_1.extract 0 (a1 : Int).toNat]) := ⟨_, rfl⟩
         replace H : (segment_Split.l0 k1 (x0_1.extract (a1 : Int).toNat x0_1.size) a1 y158) = some (r1, r2) := by first | (rw [hy158]; with_reducible exact H) | (have H2_ := (Option.bind_some _ _).symm.trans H; rw [hy158]; with_reducible exact H2_) | (have H2_ := (Option.bind_some _ _).symm.trans H; with_reducible exact H2_) | with_reducible exact H | (rw [hy158]; exact H) | exact H
         have Ny158 := Aside0.mk hy158
         clear hy158
         have c10b0 := eq_true (of_decide_eq_true (by first | (with_reducible assumption) | assumption) : 0 ≤ a1)
         have c11b0 := eq_true (of_decide_eq_true (by first | (with_reducible assumption) | assumption) : a1 ≤ (x0_1.size : Int))
         have H' := Aside0.mk H
         clear H
         go_wp2_with (first | ((with_reducible refine gate_builtin (b := .append) (xs := #[.tmp 19, .tmp 23]) rfl ?_); at_builtin; refine Kd.R_append Kd.string (w0 := w) w.heap.size rfl (.tmp 19) (.tmp 23) 38 9 (.string ⟨#[]⟩) 16 rfl Tryd.underlying38 info9 rfl (by decide) (by omega) u6 x6_1 (x0_1.extract 0 (a1 : Int).toNat) [.string (x0_1.extract 0 (a1 : Int).toNat)] (fun _ => True) (fun _ => False) rfl rfl ?aP (fun _ hk => hk.elim) ?aF ?aO ?aB ?aS ?aL ?_; (case aP => exact rfl); (case aB => exact (by repeat (first | (with_reducible first | exact HB.out | apply below_alloc | apply pw_below_drewN | apply below_drew1) | exact HB.out))); (case aF => exact (fun _ _ => trivial)); (case aO => exact (by (with_reducible repeat (first | apply Kd.R_alloc | apply Kd.R_drewN | apply Kd.R_drew)); exact HO_6.out)); (case aS => exact (below_size (by repeat (first | (with_reducible first | exact HB.out | apply below_alloc | apply pw_below_drewN | apply below_drew1) | exact HB.out)))); (case aL => have := LMc9.out; first | omega | (simp only [ByteArray.size, List.size_toArray, List.length_cons, List.length_nil] at this ⊢; omega)); intro v159 w12 ho hb hg hat; rw [← Ny158.out] at ho; have n0_ := Aside0.mk (hb); have n1_ := Aside0.mk (ho); clear HB; clear HO_6; have HB := n0_; have HO160 := n1_; clear n0_ n1_; clear ho hb hg hat))
         go_roundg k1
         case measure => have := HK1.out; omega
         case rel => exact ⟨(x0_1.extract (a1 : Int).toNat x0_1.size), (y158), (by first | rfl | (simp; done) | (simp [*]; done)), H', ⟨by have := HK1.out; omega⟩, ⟨by (with_reducible repeat (first | apply Kd.R_alloc | apply Kd.R_drewN | apply Kd.R_drew)); exact HO160.out⟩, ⟨by repeat (first | (with_reducible first | exact HB.out | apply below_alloc | apply pw_below_drewN | apply below_drew1) | exact HB.out)⟩⟩
        ·rw [if_neg c9] at H
         exact absurd H (by simp)
       ·rw [if_neg c8] at H
        exact absurd H (by simp)
      ·rw [if_neg c7] at H
       exact absurd H (by simp)
     ·rw [if_neg c6] at H
      have c6b0 : decide (a1 < (x0_1.size : Int)) = false := decide_eq_false c6
      clear c6
      by_cases c13 : x6_1.length < 8796093022208
      ·rw [if_pos c13] at H
       have LMc13 := Aside0.mk c13
       clear c13
       obtain ⟨y161, hy161⟩ : ∃ y_ : List ByteArray, y_ = (x6_1 ++ [x0_1]) := ⟨_, rfl⟩
       replace H : (some (y161, 0)) = some (r1, r2) := by first | (rw [hy161]; with_reducible exact H) | (have H2_ := (Option.bind_some _ _).symm.trans H; rw [hy161]; with_reducible exact H2_) | (have H2_ := (Option.bind_some _ _).symm.trans H; with_reducible exact H2_) | with_reducible exact H | (rw [hy161]; exact H) | exact H
       have Ny161 := Aside0.mk hy161
       clear hy161
       simp only [Option.some.injEq, Prod.mk.injEq] at H
       obtain ⟨rfl, rfl⟩ := H
       go_wp2_with (first | ((with_reducible refine gate_builtin (b := .append) (xs := #[.tmp 28, .tmp 30]) rfl ?_); at_builtin; refine Kd.R_append Kd.string (w0 := w) w.heap.size rfl (.tmp 28) (.tmp 30) 38 9 (.string ⟨#[]⟩) 16 rfl Tryd.underlying38 info9 rfl (by decide) (by omega) u6 x6_1 x0_1 [.string x0_1] (fun _ => True) (fun _ => False) rfl rfl ?aP (fun _ hk => hk.elim) ?aF ?aO ?aB ?aS ?aL ?_; (case aP => exact rfl); (case aB => exact (by repeat (first | (with_reducible first | exact HB.out | apply below_alloc | apply pw_below_drewN | apply below_drew1) | exact HB.out))); (case aF => exact (fun _ _ => trivial)); (case aO => exact (by (with_reducible repeat (first | apply Kd.R_alloc | apply Kd.R_drewN | apply Kd.R_drew)); exact HO_6.out)); (case aS => exact (below_size (by repeat (first | (with_reducible first | exact HB.out | apply below_alloc | apply pw_below_drewN | apply below_drew1) | exact HB.out)))); (case aL => have := LMc13.out; first | omega | (simp only [ByteArray.size, List.size_toArray, List.length_cons, List.length_nil] at this ⊢; omega)); intro v162 w14 ho hb hg hat; rw [← Ny161.out] at ho; have n0_ := Aside0.mk (hb); have n1_ := Aside0.mk (ho); clear HB; clear HO_6; have HB := n0_; have HO163 := n1_; clear n0_ n1_; clear ho hb hg hat))
       go_ret2
       exact ⟨_, by first | rfl | (simp [errW_none, errW_some] <;> rfl) | (simp [*, errW_none, errW_some] <;> rfl), by (with_reducible repeat (first | apply Kd.R_alloc | apply Kd.R_drewN | apply Kd.R_drew)); exact HO163.out, by repeat (first | (with_reducible first | exact HB.out | apply below_alloc | apply pw_below_drewN | apply below_drew1) | exact HB.out)⟩
      ·rw [if_neg c13] at H
       exact absurd H (by simp)
 ·replace c4 := Bool.eq_false_iff.mpr c4
  subst c4
  have H1 : (some (([] : List ByteArray), 1)) = some (r1, r2) := by rw [if_neg (show ¬ (false = true) by decide)] at H; exact H
  clear H
  have H := H1
  clear H1
  simp only [Option.some.injEq, Prod.mk.injEq] at H
  obtain ⟨rfl, rfl⟩ := H
  go_enter Tryd.func18, Tryd.ntmps18
  go_wp2_with (first | ((with_reducible refine gate_callee (f := 58) rfl ?_); refine goesL_ (some 8) rfl rfl Tryd.func58 (by kernel_rfl) rfl #[.int .i64 a1, .int .i64 1, .int .i64 400] rfl (by (try simp only [List.map_toArray, List.map_cons, List.map_nil]); first | done | rfl | (simp only [List.length_drop, List.length_take]; rfl)) ?_; (with_reducible refine (segment_in.calls a1 1 400 false _ ?side99  A3.out).mono ?_); (case side99 => first | exact HG.out | exact Glob.below HG.out (by repeat (first | (with_reducible first | exact HB.out | apply below_alloc | apply pw_below_drewN | apply below_drew1) | exact HB.out))); rintro e w' ⟨rfl, ⟨nd, rfl⟩⟩; refine ⟨_, rfl, ?_⟩))
  go_ret2
  exact ⟨_, by first | rfl | (simp [errW_none, errW_some] <;> rfl) | (simp [*, errW_none, errW_some] <;> rfl), by first | exact Kd.R_nil _ _ _ _ _ | exact Kd.N_nil _ _ _ _ _ | exact Kd.V_nil _ _ _ _ _ | exact Kd.Q_nil _ _ _ _ _ | exact Kd.S_nil _ _ _ _ _, by repeat (first | (with_reducible first | exact HB.out | apply below_alloc | apply pw_below_drewN | apply below_drew1) | exact HB.out)⟩
end Go.Proofs.YtbgabhknmpbgiaaDoor.S
end
section
namespace Go.Proofs.YtbgabhknmpbgiaaDoor.S
open Go.RowKit Go.Proofs.YtbgabhknmpbgiaaDoorW.PrintWords Go.Proofs.YtbgabhknmpbgiaaDoorW.PrintLast Go.Proofs.YtbgabhknmpbgiaaDoorW.PrintMore
attribute [local go_sem] max2_int min2_int max_two min_two max_three min_three max_four min_four
set_option linter.unusedVariables false
set_option linter.unusedSimpArgs false
def IsS110 (w0 W : World) (g : Nat) (f0 : Int) (f1 : Int) (f2 : Int) (f3 : Int) (f4 : List ByteArray) (f5 : Int) (f6 : Int) (f7 : Int) (f8 : Int) (f9 : Int) : Prop := ∃ A4 c4, W.heap[g]? = some (.cells #[.int .i64 f0, .int .i64 f1, .int .i64 f2, .int .i64 f3, .slice A4 f4.length c4, .int .i64 f5, .int .i64 f6, .int .i64 f7, .int .i64 f8, .int .i64 f9] 110 (0, 0)) ∧ w0.heap.size ≤ g ∧ Kd.C Kd.string w0 A4 f4.length f4
theorem IsS110.grown {w0 W : World} {g : Nat} {f0 : Int} {f1 : Int} {f2 : Int} {f3 : Int} {f4 : List ByteArray} {f5 : Int} {f6 : Int} {f7 : Int} {f8 : Int} {f9 : Int} {W1 : World} {row : Option Nat} (h : IsS110 w0 W g f0 f1 f2 f3 f4 f5 f6 f7 f8 f9) (hw : W.grownBy W1 row) (hne : some g ≠ row) : IsS110 w0 W1 g f0 f1 f2 f3 f4 f5 f6 f7 f8 f9 := by
 obtain ⟨A4, c4, hb, hg, hr4⟩ := h
 exact ⟨A4, c4, blk_grown hb hw hne, hg, hr4⟩
theorem IsS110.below {w0 W : World} {g : Nat} {f0 : Int} {f1 : Int} {f2 : Int} {f3 : Int} {f4 : List ByteArray} {f5 : Int} {f6 : Int} {f7 : Int} {f8 : Int} {f9 : Int} {W1 : World} (h : IsS110 w0 W g f0 f1 f2 f3 f4 f5 f6 f7 f8 f9) (hw : Below W.heap.size W W1) : IsS110 w0 W1 g f0 f1 f2 f3 f4 f5 f6 f7 f8 f9 := h.grown (grown_of_below hw none) (by simp)
theorem IsS110.alloc {w0 W : World} {g : Nat} {f0 : Int} {f1 : Int} {f2 : Int} {f3 : Int} {f4 : List ByteArray} {f5 : Int} {f6 : Int} {f7 : Int} {f8 : Int} {f9 : Int} (h : IsS110 w0 W g f0 f1 f2 f3 f4 f5 f6 f7 f8 f9) (o : Obj) : IsS110 w0 (W.alloc o) g f0 f1 f2 f3 f4 f5 f6 f7 f8 f9 := h.below (below_alloc (Below.refl _ _) o)
theorem IsS110.drew {w0 W : World} {g : Nat} {f0 : Int} {f1 : Int} {f2 : Int} {f3 : Int} {f4 : List ByteArray} {f5 : Int} {f6 : Int} {f7 : Int} {f8 : Int} {f9 : Int} (h : IsS110 w0 W g f0 f1 f2 f3 f4 f5 f6 f7 f8 f9) : IsS110 w0 W.drew g f0 f1 f2 f3 f4 f5 f6 f7 f8 f9 := h
theorem IsS110.own_ne {w0 W : World} {g : Nat} {f0 : Int} {f1 : Int} {f2 : Int} {f3 : Int} {f4 : List ByteArray} {f5 : Int} {f6 : Int} {f7 : Int} {f8 : Int} {f9 : Int} {α : Type} {d : Kd α} {e : Nat} {base : Nat} {ok : Nat → Prop} {v : Value} {xs : List α} (h : IsS110 w0 W g f0 f1 f2 f3 f4 f5 f6 f7 f8 f9) (ho : d.R e W base ok v xs) (ht : e ≠ 110) : some g ≠ v.ownBlock := by
 obtain ⟨A4, c4, hb, hg, hr4⟩ := h
 exact Kd.R_ne ho hb ht
theorem IsS110.ge {w0 W : World} {g : Nat} {f0 : Int} {f1 : Int} {f2 : Int} {f3 : Int} {f4 : List ByteArray} {f5 : Int} {f6 : Int} {f7 : Int} {f8 : Int} {f9 : Int} (h : IsS110 w0 W g f0 f1 f2 f3 f4 f5 f6 f7 f8 f9) : w0.heap.size ≤ g := by
 obtain ⟨A4, c4, hb, hg, hr4⟩ := h
 exact hg
theorem IsS110.far {w0 W : World} {g : Nat} {f0 : Int} {f1 : Int} {f2 : Int} {f3 : Int} {f4 : List ByteArray} {f5 : Int} {f6 : Int} {f7 : Int} {f8 : Int} {f9 : Int} {p : Addr} (h : IsS110 w0 W g f0 f1 f2 f3 f4 f5 f6 f7 f8 f9) (hne : g ≠ p.block) (u : Value) : IsS110 w0 (W.setCell p u) g f0 f1 f2 f3 f4 f5 f6 f7 f8 f9 := by
 obtain ⟨A4, c4, hb, hg, hr4⟩ := h
 exact ⟨A4, c4, blk_far hb hne u, hg, hr4⟩
theorem IsS110.set_5 {w0 W : World} {g : Nat} {f0 : Int} {f1 : Int} {f2 : Int} {f3 : Int} {f4 : List ByteArray} {f5 : Int} {f6 : Int} {f7 : Int} {f8 : Int} {f9 : Int} (h : IsS110 w0 W g f0 f1 f2 f3 f4 f5 f6 f7 f8 f9) (x : Int) : IsS110 w0 (W.setCell ⟨g, 5, none⟩ (.int .i64 x)) g f0 f1 f2 f3 f4 x f6 f7 f8 f9 := by
 obtain ⟨A4, c4, hb, hg, hr4⟩ := h
 exact ⟨A4, c4, by simpa using blk_set hb 5 (.int .i64 x), hg, hr4⟩
theorem IsS110.set_6 {w0 W : World} {g : Nat} {f0 : Int} {f1 : Int} {f2 : Int} {f3 : Int} {f4 : List ByteArray} {f5 : Int} {f6 : Int} {f7 : Int} {f8 : Int} {f9 : Int} (h : IsS110 w0 W g f0 f1 f2 f3 f4 f5 f6 f7 f8 f9) (x : Int) : IsS110 w0 (W.setCell ⟨g, 6, none⟩ (.int .i64 x)) g f0 f1 f2 f3 f4 f5 x f7 f8 f9 := by
 obtain ⟨A4, c4, hb, hg, hr4⟩ := h
 exact ⟨A4, c4, by simpa using blk_set hb 6 (.int .i64 x), hg, hr4⟩
theorem IsS110.set_7 {w0 W : World} {g : Nat} {f0 : Int} {f1 : Int} {f2 : Int} {f3 : Int} {f4 : List ByteArray} {f5 : Int} {f6 : Int} {f7 : Int} {f8 : Int} {f9 : Int} (h : IsS110 w0 W g f0 f1 f2 f3 f4 f5 f6 f7 f8 f9) (x : Int) : IsS110 w0 (W.setCell ⟨g, 7, none⟩ (.int .i64 x)) g f0 f1 f2 f3 f4 f5 f6 x f8 f9 := by
 obtain ⟨A4, c4, hb, hg, hr4⟩ := h
 exact ⟨A4, c4, by simpa using blk_set hb 7 (.int .i64 x), hg, hr4⟩
theorem IsS110.set_8 {w0 W : World} {g : Nat} {f0 : Int} {f1 : Int} {f2 : Int} {f3 : Int} {f4 : List ByteArray} {f5 : Int} {f6 : Int} {f7 : Int} {f8 : Int} {f9 : Int} (h : IsS110 w0 W g f0 f1 f2 f3 f4 f5 f6 f7 f8 f9) (x : Int) : IsS110 w0 (W.setCell ⟨g, 8, none⟩ (.int .i64 x)) g f0 f1 f2 f3 f4 f5 f6 f7 x f9 := by
 obtain ⟨A4, c4, hb, hg, hr4⟩ := h
 exact ⟨A4, c4, by simpa using blk_set hb 8 (.int .i64 x), hg, hr4⟩
theorem IsS110.set_9 {w0 W : World} {g : Nat} {f0 : Int} {f1 : Int} {f2 : Int} {f3 : Int} {f4 : List ByteArray} {f5 : Int} {f6 : Int} {f7 : Int} {f8 : Int} {f9 : Int} (h : IsS110 w0 W g f0 f1 f2 f3 f4 f5 f6 f7 f8 f9) (x : Int) : IsS110 w0 (W.setCell ⟨g, 9, none⟩ (.int .i64 x)) g f0 f1 f2 f3 f4 f5 f6 f7 f8 x := by
 obtain ⟨A4, c4, hb, hg, hr4⟩ := h
 exact ⟨A4, c4, by simpa using blk_set hb 9 (.int .i64 x), hg, hr4⟩
end Go.Proofs.YtbgabhknmpbgiaaDoor.S
end
section
namespace Go.Proofs.YtbgabhknmpbgiaaDoor.S
open Go.RowKit Go.Proofs.YtbgabhknmpbgiaaDoorW.PrintWords Go.Proofs.YtbgabhknmpbgiaaDoorW.PrintLast Go.Proofs.YtbgabhknmpbgiaaDoorW.PrintMore
set_option linter.unusedVariables false
set_option linter.unusedSimpArgs false
attribute [local go_sem] max2_int min2_int max_two min_two
def mk23 (id window : Int) (segs : List ByteArray) (i : Nat) : S23 := ⟨1, id, (i : Int), decide ((i : Int) < wrap64 ((segs.length : Int) - 1)), window, rdOf ByteArray.empty segs (i : Int)⟩
def parts23 (id window : Int) (segs : List ByteArray) (a n : Nat) : List S23 := (List.range n).map fun j => mk23 id window segs (a + j)
theorem parts23_succ (id window : Int) (segs : List ByteArray) (a n : Nat) : parts23 id window segs a (n + 1) = parts23 id window segs a n ++ [mk23 id window segs (a + n)] := by
 unfold parts23
 rw [List.range_succ, List.map_append]
 rfl
theorem parts23_len (id window : Int) (segs : List ByteArray) (a n : Nat) : (parts23 id window segs a n).length = n := by simp [parts23]
def okT (e n : Nat) (W : World) (k : Nat) : Prop := n ≤ k ∧ ∃ cells, W.heap[k]? = some (.cells cells e (0, 0))
theorem okT_le {e n m : Nat} {W : World} {k : Nat} (h : okT e n W k) (hm : m ≤ n) : okT e m W k := ⟨Nat.le_trans hm h.1, h.2⟩
def FV {α : Type} (d : Kd α) (e n : Nat) (w : World) (v : Value) (xs : List α) : Prop := Kd.V d e w 0 (okT e n w) v xs ∧ ∃ A, v = .slice A xs.length xs.length
theorem FV.nil {α : Type} (d : Kd α) (e n : Nat) (w : World) : FV d e n w (.slice none 0 0) [] := ⟨Kd.V_nil d e w 0 _, none, rfl⟩
theorem FV.low {α : Type} {d : Kd α} {e n m : Nat} {w : World} {v : Value} {xs : List α} (h : FV d e n w v xs) (hm : m ≤ n) : FV d e m w v xs := ⟨Kd.V_mono h.1 (fun _ hk => okT_le hk hm), h.2⟩
theorem okT_23 {n : Nat} {W : World} {A : Prop} (k : Nat) (h : A ∧ n ≤ k ∧ k < W.heap.size ∧ ∃ q, q ∈ 23 :: k23.E ∧ ∃ cells, W.heap[k]? = some (.cells cells q (0, 0))) : okT 23 n W k := by
 obtain ⟨_, h1, _, q, hq, hc⟩ := h
 rcases List.mem_cons.1 hq with rfl | hq
 ·exact ⟨h1, hc⟩
 ·cases hq
structure SendInv (w0 w : World) (g go gs : Nat) (id window timeout retries : Int) (segs : List ByteArray) (state base : Int) (a : Nat) (tries deadline : Int) (j : Nat) (v : Value) (nx : Int) (wr : World) : Prop where
 st : IsS110 w0 wr g id window timeout retries segs state base nx tries deadline
 bo : wr.heap[go]? = some (.cells #[v] 45 (0, 0))
 bs : wr.heap[gs]? = some (.cells #[.pointer (some ⟨g, 0, none⟩)] 44 (0, 0))
 own : Kd.R k23 23 wr w.heap.size (fun _ => True) v (parts23 id window segs a j)
 bel : Below w0.heap.size w0 wr
 kb : KeepBut w wr g none
theorem SendInv.drew {w0 w : World} {g go gs : Nat} {id window timeout retries : Int} {segs : List ByteArray} {state base : Int} {a : Nat} {tries deadline : Int} {j : Nat} {v : Value} {nx : Int} {wr : World} (h : SendInv w0 w g go gs id window timeout retries segs state base a tries deadline j v nx wr) : SendInv w0 w g go gs id window timeout retries segs state base a tries deadline j v nx wr.drew :=
 ⟨h.st.drew, h.bo, h.bs, Kd.R_drew h.own, h.bel.drew, h.kb⟩
structure SendStep (w0 w : World) (g go gs : Nat) (id window timeout retries : Int) (segs : List ByteArray) (state base : Int) (a : Nat) (tries deadline : Int) (j : Nat) (v v1 : Value) (nx : Int) (w9 : World) : Prop where
 st : IsS110 w0 w9 g id window timeout retries segs state base nx tries deadline
 bo : w9.heap[go]? = some (.cells #[v] 45 (0, 0))
 bs : w9.heap[gs]? = some (.cells #[.pointer (some ⟨g, 0, none⟩)] 44 (0, 0))
 nxt : SendInv w0 w g go gs id window timeout retries segs state base a tries deadline (j + 1) v1 nx (w9.setCell ⟨go, 0, none⟩ v1)
theorem SendInv.step {w0 w : World} {g go gs : Nat} {id window timeout retries : Int} {segs : List ByteArray} {state base : Int} {a : Nat} {tries deadline : Int} {j : Nat} {v v1 : Value} {nx : Int} {wr w9 : World} (h : SendInv w0 w g go gs id window timeout retries segs state base a tries deadline j v nx wr)
  (hw0 : w0.heap.size ≤ w.heap.size) (hgo : w.heap.size ≤ go) (ho : Kd.R k23 23 w9 w.heap.size (fun _ => True) v1 (parts23 id window segs a (j + 1))) (hb : Below w.heap.size wr w9) (hg : wr.grownBy w9 v.ownBlock) : SendStep w0 w g go gs id window timeout retries segs state base a tries deadline j v v1 nx w9 := by
 have s1 := h.st.grown hg (h.st.own_ne h.own (by decide))
 have b1 := blk_grown h.bo hg (Kd.R_ne h.own h.bo (by decide))
 have b2 := blk_grown h.bs hg (Kd.R_ne h.own h.bs (by decide))
 have hne : g ≠ go := by
  rintro rfl
  obtain ⟨A4, c4, hb0, _⟩ := s1
  rw [hb0] at b1
  injection b1 with b1
  injection b1 with _ b1 _
  exact absurd b1 (by decide)
 have hne2 : gs ≠ go := by
  rintro rfl
  rw [b2] at b1
  injection b1 with b1
  injection b1 with _ b1 _
  exact absurd b1 (by decide)
 refine ⟨s1, b1, b2, ⟨s1.far hne _, blk_put b1 0 v1 rfl, blk_far b2 hne2 _, ?_, (h.bel.trans (hb.mono hw0)).setCell (Nat.le_trans hw0 hgo) _, ?_⟩⟩
 ·exact Kd.R_mono (Kd.R_far (p := ⟨go, 0, none⟩) (Kd.R_types ho b1 (fun q hq => by
   rcases List.mem_cons.1 hq with rfl | hq
   ·decide
   ·cases hq)) (fun _ h => h.2) v1) (fun _ _ => trivial)
 ·exact keep_far ⟨Nat.le_trans h.kb.1 hg.size, fun i hi hne _ => (hb.block i hi).trans (h.kb.2 i hi hne (by simp))⟩ (p := ⟨go, 0, none⟩) hgo v1
theorem SendInv.ne {w0 w : World} {g go gs : Nat} {id window timeout retries : Int} {segs : List ByteArray} {state base : Int} {a : Nat} {tries deadline : Int} {j : Nat} {v : Value} {nx : Int} {wr : World} (h : SendInv w0 w g go gs id window timeout retries segs state base a tries deadline j v nx wr) : go ≠ g ∧ gs ≠ g := by
 obtain ⟨A4, c4, hb0, _⟩ := h.st
 have h1 := h.bo
 have h2 := h.bs
 refine ⟨?_, ?_⟩
 ·rintro rfl
  rw [hb0] at h1
  injection h1 with h1
  injection h1 with _ h1 _
  exact absurd h1 (by decide)
 ·rintro rfl
  rw [hb0] at h2
  injection h2 with h2
  injection h2 with _ h2 _
  exact absurd h2 (by decide)
theorem SendInv.next {w0 w : World} {g go gs : Nat} {id window timeout retries : Int} {segs : List ByteArray} {state base : Int} {a : Nat} {tries deadline : Int} {j : Nat} {v : Value} {nx : Int} {wr : World} (h : SendInv w0 w g go gs id window timeout retries segs state base a tries deadline j v nx wr) (nx' : Int) : SendInv w0 w g go gs id window timeout retries segs state base a tries deadline j v nx' (wr.setCell ⟨g, 7, none⟩ (.int .i64 nx')) := by
 obtain ⟨A4, c4, hb0, hge, _⟩ := h.st
 refine ⟨h.st.set_7 nx', blk_far h.bo h.ne.1 _, blk_far h.bs h.ne.2 _, ?_, h.bel.setCell hge _, h.kb.set_ 7 _⟩
 exact Kd.R_mono (Kd.R_far (p := ⟨g, 7, none⟩) (Kd.R_types h.own hb0 (fun q hq => by
   rcases List.mem_cons.1 hq with rfl | hq
   ·decide
   ·cases hq)) (fun _ h => h.2) _) (fun _ _ => trivial)
theorem SendInv.fin {w0 w : World} {g go gs : Nat} {id window timeout retries : Int} {segs : List ByteArray} {state base : Int} {a : Nat} {tries deadline : Int} {j : Nat} {v : Value} {nx : Int} {wr : World} (h : SendInv w0 w g go gs id window timeout retries segs state base a tries deadline j v nx wr) (d : Int) : SendInv w0 w g go gs id window timeout retries segs state base a tries d j v nx (wr.setCell ⟨g, 9, none⟩ (.int .i64 d)) := by
 obtain ⟨A4, c4, hb0, hge, _⟩ := h.st
 refine ⟨h.st.set_9 d, blk_far h.bo h.ne.1 _, blk_far h.bs h.ne.2 _, ?_, h.bel.setCell hge _, h.kb.set_ 9 _⟩
 exact Kd.R_mono (Kd.R_far (p := ⟨g, 9, none⟩) (Kd.R_types h.own hb0 (fun q hq => by
   rcases List.mem_cons.1 hq with rfl | hq
   ·decide
   ·cases hq)) (fun _ h => h.2) _) (fun _ _ => trivial)
def SendPost (w0 w : World) (g : Nat) (id window timeout retries : Int) (segs : List ByteArray) (state base : Int) (a n : Nat) (tries now : Int) (e : Ending) (w' : World) : Prop :=
 ∃ v : Value, e = .returned v ∧ FV k23 23 w.heap.size w' v (parts23 id window segs a n) ∧ IsS110 w0 w' g id window timeout retries segs state base ((a + n : Nat) : Int) tries (wrap64 (now + timeout)) ∧ Below w0.heap.size w0 w' ∧ KeepBut w w' g none
set_option maxHeartbeats 16000000 in
set_option maxRecDepth 100000 in
theorem send_calls (g : Nat) (id window timeout retries : Int) (segs : List ByteArray) (state base : Int) (a n : Nat) (tries deadline now : Int) (w0 w : World) (hI : IsS110 w0 w g id window timeout retries segs state base (a : Int) tries deadline) (hB : Below w0.heap.size w0 w) (hlen : segs.length ≤ 64) (hn : n ≤ 64) (ha : (n = 0 ∧ ¬ (a : Int) < mn (wrap64 (base + window)) (segs.length : Int)) ∨ ((a + n : Nat) : Int) = mn (wrap64 (base + window)) (segs.length : Int)) :
  Calls Tryd.prog 64 #[.pointer (some ⟨g, 0, none⟩), .int .i64 now] w fun e w' => SendPost w0 w g id window timeout retries segs state base a n tries now e w' := by
 have hmf_ : ∀ (fn : Fn) (first cap : Array Value) (w : World), (Instr.makeFunc fn first cap).run Tryd.prog w = .ok (.func fn first cap) w := fun _ _ _ _ => rfl
 have HI0 := Aside0.mk hI
 have HB0 := Aside0.mk hB
 have HW := Aside0.mk hB.size
 have HN := Aside0.mk ha
 clear hI hB ha
 obtain ⟨lim, HLim⟩ : ∃ l, Aside0 (mn (wrap64 (base + window)) (segs.length : Int) = l) := ⟨_, ⟨rfl⟩⟩
 have HLim2 := Aside0.mk (show (if (segs.length : Int) < wrap64 (base + window) then (segs.length : Int) else wrap64 (base + window)) = lim from HLim.out)
 have HN2 := Aside0.mk (show (n = 0 ∧ ¬ (a : Int) < lim) ∨ ((a + n : Nat) : Int) = lim by rw [← HLim.out]; exact HN.out)
 clear HN
 go_enter Tryd.func64, Tryd.ntmps64
 go_wp2_with (first | ((with_reducible refine gate_dst (N := 2) rfl ?_); refine box_event ?hg (N := 2) ?hd (cs := #[.pointer (some ⟨g, 0, none⟩)]) (t := 44) ?hr ?_; (case hd => rfl); (case hg => rfl); (case hr => first | (go_simp; done) | (go_simp; rfl)); intro gs hgs w1 hbox hb; have BS1 := Aside0.mk hbox; have HS1 := Aside0.mk (HI0.out.below hb); have HB1 := Aside0.mk (below_step (Below.refl w.heap.size w) hb); have GS := Aside0.mk (show w.heap.size ≤ gs by rw [hgs]; exact Nat.le_refl _); clear hb hbox hgs) | ((with_reducible refine gate_dst (N := 5) rfl ?_); refine box_event ?hg (N := 5) ?hd (cs := #[.slice none 0 0]) (t := 45) ?hr ?_; (case hd => rfl); (case hg => rfl); (case hr => first | (go_simp; done) | (go_simp; rfl)); intro go hgo w2 hbox hb; have BO2 := Aside0.mk hbox; have BS2 := Aside0.mk (blk_below BS1.out hb); have HS2 := Aside0.mk (HS1.out.below hb); have HB2 := Aside0.mk (below_step HB1.out hb); have GO := Aside0.mk (show w.heap.size ≤ go by rw [hgo]; exact HB1.out.size); clear hb hbox hgo))
 go_loopw [] (fun wr => ∃ (j : Nat) (v : Value) (nx : Int), j ≤ n ∧ nx = ((a + j : Nat) : Int) ∧ Aside0 (SendInv w0 w g go gs id window timeout retries segs state base a tries deadline j v nx wr)) (fun wr => (a + n) - (intOf ((wr.cell? ⟨g, 7, none⟩).getD undef)).toNat)
 case atStart => exact ⟨0, _, _, Nat.zero_le _, rfl, ⟨⟨HS2.out, BO2.out, BS2.out, Kd.R_nil _ _ _ _ _, HB0.out.trans (HB2.out.mono HW.out), ⟨HB2.out.size, fun i hi _ _ => HB2.out.block i hi⟩⟩⟩⟩
 case round =>
  clear BS1 HS1 HB1 BO2 BS2 HS2 HB2
  obtain ⟨j, v, nx, hj, hnx, HI⟩ := hrel
  have HNX := Aside0.mk hnx
  clear hnx
  have cs := (blk_cell HI.out.bs 0).trans rfl
  obtain ⟨A4, c4, hG4, hge, hC⟩ := HI.out.st
  have HG4 := Aside0.mk hG4
  have HC := Aside0.mk hC
  have c7 := (blk_cell hG4 7).trans rfl
  have c6 := (blk_cell hG4 6).trans rfl
  have c1 := (blk_cell hG4 1).trans rfl
  have c4' := (blk_cell hG4 4).trans rfl
  clear hG4 hC hge
  by_cases hlt : nx < lim
  ·have hlA := Aside0.mk (show decide (nx < lim) = true from decide_eq_true hlt)
   have hlN := Aside0.mk hlt
   have hjn := Aside0.mk (show j < n by have h1 := HNX.out; have h2 := HN2.out; omega)
   clear hlt hj
   go_wp2
   have HI3 := Aside0.mk HI.out.drew
   have HG43 := Aside0.mk (blk_drew HG4.out)
   refine start_ (n := 20) (S := fun w' => w'.cell? ⟨gs, 0, none⟩ = some (.pointer (some ⟨g, 0, none⟩)) ∧ w'.cell? ⟨g, 7, none⟩ = some (.int .i64 nx) ∧ w'.cell? ⟨g, 6, none⟩ = some (.int .i64 base) ∧ w'.cell? ⟨g, 1, none⟩ = some (.int .i64 window) ∧ w'.cell? ⟨g, 4, none⟩ = some (.slice A4 segs.length c4)) (ds := []) #[Yn, Yn, Yn, Yn, Yn, Yn, Yn, Yn, Yn, Yn, Yn, Yn, Yn, Yn, Yn, Yn, Yn, Yn, Yn, Yn] (by kernel_rfl) rfl rfl ⟨cs, c7, c6, c1, c4'⟩ (fun hHeld => ?_)
   generalize wr.drew = w3 at HI3 HG43 hHeld ⊢
   refine take_ (i := 0) (N := some 8) (v := ?_) (a' := ?_) #[Y, Yn, Yn, Yn, Yn, Yn, Yn, Yn, Yn, Yn, Yn, Yn, Yn, Yn, Yn, Yn, Yn, Yn, Yn, Yn] rfl rfl (by kernel_rfl) (fun _ _ _ h => h) (Or.inl ⟨by rfl, ?_⟩) hHeld ?_ ?_
   rotate_left
   ·rintro w' ⟨s0, s1, s2, s3, s4⟩
    go_simp
    with_reducible rfl
   rotate_left
   ·simp only [Act.put, List.setIfInBounds_toArray, List.set_cons_zero, List.set_cons_succ, i64_w, i32_w]
    rfl
   refine pure_ (i := 1) (N := some 9) (v := ?_) (a' := ?_) #[Y, Y, Yn, Yn, Yn, Yn, Yn, Yn, Yn, Yn, Yn, Yn, Yn, Yn, Yn, Yn, Yn, Yn, Yn, Yn] rfl rfl (by kernel_rfl) (fun _ _ _ h => h) (Or.inl ⟨by rfl, ?_⟩) ?_ ?_
   rotate_left
   ·intro w'
    go_simp
    with_reducible rfl
   rotate_left
   ·simp only [Act.put, List.setIfInBounds_toArray, List.set_cons_zero, List.set_cons_succ, i64_w, i32_w]
    rfl
   refine pure_ (i := 2) (N := some 10) (v := ?_) (a' := ?_) #[Y, Y, Y, Yn, Yn, Yn, Yn, Yn, Yn, Yn, Yn, Yn, Yn, Yn, Yn, Yn, Yn, Yn, Yn, Yn] rfl rfl (by kernel_rfl) (fun _ _ _ h => h) (Or.inl ⟨by rfl, ?_⟩) ?_ ?_
   rotate_left
   ·intro w'
    go_simp
    with_reducible rfl
   rotate_left
   ·simp only [Act.put, List.setIfInBounds_toArray, List.set_cons_zero, List.set_cons_succ, i64_w, i32_w]
    rfl
   refine take_ (i := 3) (N := some 11) (v := ?_) (a' := ?_) #[Y, Y, Y, Y, Yn, Yn, Yn, Yn, Yn, Yn, Yn, Yn, Yn, Yn, Yn, Yn, Yn, Yn, Yn, Yn] rfl rfl (by kernel_rfl) (fun _ _ _ h => h) (Or.inl ⟨by rfl, ?_⟩) hHeld ?_ ?_
   rotate_left
   ·rintro w' ⟨s0, s1, s2, s3, s4⟩
    go_simp
    with_reducible rfl
   rotate_left
   ·simp only [Act.put, List.setIfInBounds_toArray, List.set_cons_zero, List.set_cons_succ, i64_w, i32_w]
    rfl
   refine take_ (i := 4) (N := some 12) (v := ?_) (a' := ?_) #[Y, Y, Y, Y, Y, Yn, Yn, Yn, Yn, Yn, Yn, Yn, Yn, Yn, Yn, Yn, Yn, Yn, Yn, Yn] rfl rfl (by kernel_rfl) (fun _ _ _ h => h) (Or.inl ⟨by rfl, ?_⟩) hHeld ?_ ?_
   rotate_left
   ·rintro w' ⟨s0, s1, s2, s3, s4⟩
    go_simp
    with_reducible rfl
   rotate_left
   ·simp only [Act.put, List.setIfInBounds_toArray, List.set_cons_zero, List.set_cons_succ, i64_w, i32_w]
    rfl
   refine pure_ (i := 5) (N := some 13) (v := ?_) (a' := ?_) #[Y, Y, Y, Y, Y, Y, Yn, Yn, Yn, Yn, Yn, Yn, Yn, Yn, Yn, Yn, Yn, Yn, Yn, Yn] rfl rfl (by kernel_rfl) (fun _ _ _ h => h) (Or.inl ⟨by rfl, ?_⟩) ?_ ?_
   rotate_left
   ·intro w'
    go_simp
    with_reducible rfl
   rotate_left
   ·simp only [Act.put, List.setIfInBounds_toArray, List.set_cons_zero, List.set_cons_succ, i64_w, i32_w]
    rfl
   refine pure_ (i := 6) (N := some 14) (v := ?_) (a' := ?_) #[Y, Y, Y, Y, Y, Y, Y, Yn, Yn, Yn, Yn, Yn, Yn, Yn, Yn, Yn, Yn, Yn, Yn, Yn] rfl rfl (by kernel_rfl) (fun _ _ _ h => h) (Or.inl ⟨by rfl, ?_⟩) ?_ ?_
   rotate_left
   ·intro w'
    go_simp
    with_reducible rfl
   rotate_left
   ·simp only [Act.put, List.setIfInBounds_toArray, List.set_cons_zero, List.set_cons_succ, i64_w, i32_w]
    rfl
   refine take_ (i := 7) (N := some 15) (v := ?_) (a' := ?_) #[Y, Y, Y, Y, Y, Y, Y, Y, Yn, Yn, Yn, Yn, Yn, Yn, Yn, Yn, Yn, Yn, Yn, Yn] rfl rfl (by kernel_rfl) (fun _ _ _ h => h) (Or.inl ⟨by rfl, ?_⟩) hHeld ?_ ?_
   rotate_left
   ·rintro w' ⟨s0, s1, s2, s3, s4⟩
    go_simp
    with_reducible rfl
   rotate_left
   ·simp only [Act.put, List.setIfInBounds_toArray, List.set_cons_zero, List.set_cons_succ, i64_w, i32_w]
    rfl
   refine take_ (i := 8) (N := some 16) (v := ?_) (a' := ?_) #[Y, Y, Y, Y, Y, Y, Y, Y, Y, Yn, Yn, Yn, Yn, Yn, Yn, Yn, Yn, Yn, Yn, Yn] rfl rfl (by kernel_rfl) (fun _ _ _ h => h) (Or.inl ⟨by rfl, ?_⟩) hHeld ?_ ?_
   rotate_left
   ·rintro w' ⟨s0, s1, s2, s3, s4⟩
    go_simp
    with_reducible rfl
   rotate_left
   ·simp only [Act.put, List.setIfInBounds_toArray, List.set_cons_zero, List.set_cons_succ, i64_w, i32_w]
    rfl
   refine pure_ (i := 9) (N := some 17) (v := ?_) (a' := ?_) #[Y, Y, Y, Y, Y, Y, Y, Y, Y, Y, Yn, Yn, Yn, Yn, Yn, Yn, Yn, Yn, Yn, Yn] rfl rfl (by kernel_rfl) (fun _ _ _ h => h) (Or.inl ⟨by rfl, ?_⟩) ?_ ?_
   rotate_left
   ·intro w'
    go_simp
    with_reducible rfl
   rotate_left
   ·simp only [Act.put, List.setIfInBounds_toArray, List.set_cons_zero, List.set_cons_succ, i64_w, i32_w]
    rfl
   refine pure_ (i := 10) (N := some 18) (v := ?_) (a' := ?_) #[Y, Y, Y, Y, Y, Y, Y, Y, Y, Y, Y, Yn, Yn, Yn, Yn, Yn, Yn, Yn, Yn, Yn] rfl rfl (by kernel_rfl) (fun _ _ _ h => h) (Or.inl ⟨by rfl, ?_⟩) ?_ ?_
   rotate_left
   ·intro w'
    go_simp
    with_reducible rfl
   rotate_left
   ·simp only [Act.put, List.setIfInBounds_toArray, List.set_cons_zero, List.set_cons_succ, i64_w, i32_w]
    rfl
   refine take_ (i := 11) (N := some 19) (v := ?_) (a' := ?_) #[Y, Y, Y, Y, Y, Y, Y, Y, Y, Y, Y, Y, Yn, Yn, Yn, Yn, Yn, Yn, Yn, Yn] rfl rfl (by kernel_rfl) (fun _ _ _ h => h) (Or.inl ⟨by rfl, ?_⟩) hHeld ?_ ?_
   rotate_left
   ·rintro w' ⟨s0, s1, s2, s3, s4⟩
    go_simp
    with_reducible rfl
   rotate_left
   ·simp only [Act.put, List.setIfInBounds_toArray, List.set_cons_zero, List.set_cons_succ, i64_w, i32_w]
    rfl
   refine pure_ (i := 12) (N := some 20) (v := ?_) (a' := ?_) #[Y, Y, Y, Y, Y, Y, Y, Y, Y, Y, Y, Y, Y, Yn, Yn, Yn, Yn, Yn, Yn, Yn] rfl rfl (by kernel_rfl) (fun _ _ _ h => h) (Or.inl ⟨by rfl, ?_⟩) ?_ ?_
   rotate_left
   ·intro w'
    go_simp
    with_reducible rfl
   rotate_left
   ·simp only [Act.put, List.setIfInBounds_toArray, List.set_cons_zero, List.set_cons_succ, i64_w, i32_w]
    rfl
   refine take_ (i := 13) (N := some 21) (v := ?_) (a' := ?_) #[Y, Y, Y, Y, Y, Y, Y, Y, Y, Y, Y, Y, Y, Y, Yn, Yn, Yn, Yn, Yn, Yn] rfl rfl (by kernel_rfl) (fun _ _ _ h => h) (Or.inl ⟨by rfl, ?_⟩) hHeld ?_ ?_
   rotate_left
   ·rintro w' ⟨s0, s1, s2, s3, s4⟩
    go_simp
    with_reducible rfl
   rotate_left
   ·simp only [Act.put, List.setIfInBounds_toArray, List.set_cons_zero, List.set_cons_succ, i64_w, i32_w]
    rfl
   refine pure_ (i := 14) (N := some 22) (v := ?_) (a' := ?_) #[Y, Y, Y, Y, Y, Y, Y, Y, Y, Y, Y, Y, Y, Y, Y, Yn, Yn, Yn, Yn, Yn] rfl rfl (by kernel_rfl) (fun _ _ _ h => h) (Or.inl ⟨by rfl, ?_⟩) ?_ ?_
   rotate_left
   ·intro w'
    go_simp
    with_reducible rfl
   rotate_left
   ·simp only [Act.put, List.setIfInBounds_toArray, List.set_cons_zero, List.set_cons_succ, i64_w, i32_w]
    rfl
   refine pure_ (i := 15) (N := some 23) (v := ?_) (a' := ?_) #[Y, Y, Y, Y, Y, Y, Y, Y, Y, Y, Y, Y, Y, Y, Y, Y, Yn, Yn, Yn, Yn] rfl rfl (by kernel_rfl) (fun _ _ _ h => h) (Or.inl ⟨by rfl, ?_⟩) ?_ ?_
   rotate_left
   ·intro w'
    go_simp
    with_reducible rfl
   rotate_left
   ·simp only [Act.put, List.setIfInBounds_toArray, List.set_cons_zero, List.set_cons_succ, i64_w, i32_w]
    rfl
   refine take_ (i := 16) (N := some 24) (v := ?_) (a' := ?_) #[Y, Y, Y, Y, Y, Y, Y, Y, Y, Y, Y, Y, Y, Y, Y, Y, Y, Yn, Yn, Yn] rfl rfl (by kernel_rfl) (fun _ _ _ h => h) (Or.inl ⟨by rfl, ?_⟩) hHeld ?_ ?_
   rotate_left
   ·rintro w' ⟨s0, s1, s2, s3, s4⟩
    go_simp
    with_reducible rfl
   rotate_left
   ·simp only [Act.put, List.setIfInBounds_toArray, List.set_cons_zero, List.set_cons_succ, i64_w, i32_w]
    rfl
   refine pure_ (i := 17) (N := some 25) (v := ?_) (a' := ?_) #[Y, Y, Y, Y, Y, Y, Y, Y, Y, Y, Y, Y, Y, Y, Y, Y, Y, Y, Yn, Yn] rfl rfl (by kernel_rfl) (fun _ _ _ h => h) (Or.inl ⟨by rfl, ?_⟩) ?_ ?_
   rotate_left
   ·intro w'
    go_simp
    with_reducible rfl
   rotate_left
   ·simp only [Act.put, List.setIfInBounds_toArray, List.set_cons_zero, List.set_cons_succ, i64_w, i32_w]
    rfl
   refine pure_ (i := 18) (N := some 26) (v := ?_) (a' := ?_) #[Y, Y, Y, Y, Y, Y, Y, Y, Y, Y, Y, Y, Y, Y, Y, Y, Y, Y, Y, Yn] rfl rfl (by kernel_rfl) (fun _ _ _ h => h) (Or.inl ⟨by rfl, ?_⟩) ?_ ?_
   rotate_left
   ·intro w'
    go_simp
    with_reducible rfl
   rotate_left
   ·simp only [Act.put, List.setIfInBounds_toArray, List.set_cons_zero, List.set_cons_succ, i64_w, i32_w]
    rfl
   refine pure_ (i := 19) (N := some 27) (v := ?_) (a' := ?_) #[Y, Y, Y, Y, Y, Y, Y, Y, Y, Y, Y, Y, Y, Y, Y, Y, Y, Y, Y, Y] rfl rfl (by kernel_rfl) (fun _ _ _ h => h) (Or.inl ⟨by rfl, ?_⟩) ?_ ?_
   rotate_left
   ·intro w'
    go_simp
    with_reducible rfl
   rotate_left
   ·simp only [Act.put, List.setIfInBounds_toArray, List.set_cons_zero, List.set_cons_succ, i64_w, i32_w]
    rfl
   refine done_ (by kernel_rfl) ?_
   rw [HLim2.out, hlA.out]
   have hx0 := Aside0.mk (show 0 ≤ nx by have := HNX.out; omega)
   have hx1 := Aside0.mk (show nx < (segs.length : Int) by have h1 := hlN.out; have h2 := HLim2.out; split at h2 <;> omega)
   obtain ⟨ad, hA, hel⟩ := Kd.at_string HC.out nx hx0.out hx1.out
   subst hA
   obtain ⟨es, HES⟩ : ∃ es, Aside0 (rdOf ByteArray.empty segs nx = es) := ⟨_, ⟨rfl⟩⟩
   rw [HES.out] at hel
   have HEL := Aside0.mk hel
   replace hel := pw_cell_below HI3.out.bel hel
   have HX := Aside0.mk (show (⟨1, id, nx, decide (nx < wrap64 ((segs.length : Int) - 1)), window, es⟩ : S23) = mk23 id window segs (a + j) by unfold mk23; rw [← HNX.out, HES.out])
   have c0 := (blk_cell HG43.out 0).trans rfl
   have co := (blk_cell HI3.out.bo 0).trans rfl
   have C7 := Aside0.mk c7
   clear c7 c6 cs c1 c4' hHeld
   have cs := (blk_cell HI3.out.bs 0).trans rfl
   have c7 := (blk_cell HG43.out 7).trans rfl
   have c1 := (blk_cell HG43.out 1).trans rfl
   have c4' := (blk_cell HG43.out 4).trans rfl
   have h0t : (0 ≤ nx) = True := eq_true hx0.out
   have h1t : (nx < (segs.length : Int)) = True := eq_true hx1.out
   go_wp2
   have HI4 := Aside0.mk HI3.out.drew
   have HG44 := Aside0.mk (blk_drew HG43.out)
   refine start_ (n := 29) (S := fun w' => w'.cell? ⟨gs, 0, none⟩ = some (.pointer (some ⟨g, 0, none⟩)) ∧ w'.cell? ⟨go, 0, none⟩ = some v ∧ w'.cell? ⟨g, 0, none⟩ = some (.int .i64 id) ∧ w'.cell? ⟨g, 1, none⟩ = some (.int .i64 window) ∧ w'.cell? ⟨g, 4, none⟩ = some (.slice (some ad) segs.length c4) ∧ w'.cell? (ad.add nx.toNat) = some (.string es)) (ds := [28]) #[Yn, Yn, Yn, Yn, Yn, Yn, Yn, Yn, Yn, Yn, Yn, Yn, Yn, Yn, Yn, Yn, Yn, Yn, Yn, Yn, Yn, Yn, Yn, Yn, Yn, Yn, Yn, Yn, Yn] (by kernel_rfl) rfl rfl ⟨cs, co, c0, c1, c4', hel⟩ (fun hHeld => ?_)
   generalize w3.drew = w4 at HI4 HG44 hHeld ⊢
   refine pure_ (i := 5) (N := some 9) (v := ?_) (a' := ?_) #[Yn, Yn, Yn, Yn, Yn, Y, Yn, Yn, Yn, Yn, Yn, Yn, Yn, Yn, Yn, Yn, Yn, Yn, Yn, Yn, Yn, Yn, Yn, Yn, Yn, Yn, Yn, Yn, Yn] rfl rfl (by kernel_rfl) (fun _ _ _ h => h) (Or.inl ⟨by rfl, ?_⟩) ?_ ?_
   rotate_left
   ·intro w'
    go_simp
    with_reducible rfl
   rotate_left
   ·simp only [Act.put, List.setIfInBounds_toArray, List.set_cons_zero, List.set_cons_succ, i64_w, i32_w]
    rfl
   refine pure_ (i := 6) (N := some 10) (v := ?_) (a' := ?_) #[Yn, Yn, Yn, Yn, Yn, Y, Y, Yn, Yn, Yn, Yn, Yn, Yn, Yn, Yn, Yn, Yn, Yn, Yn, Yn, Yn, Yn, Yn, Yn, Yn, Yn, Yn, Yn, Yn] rfl rfl (by kernel_rfl) (fun _ _ _ h => h) (Or.inl ⟨by rfl, ?_⟩) ?_ ?_
   rotate_left
   ·intro w'
    go_simp
    with_reducible rfl
   rotate_left
   ·simp only [Act.put, List.setIfInBounds_toArray, List.set_cons_zero, List.set_cons_succ, i64_w, i32_w]
    rfl
   refine pure_ (i := 22) (N := some 26) (v := ?_) (a' := ?_) #[Yn, Yn, Yn, Yn, Yn, Y, Y, Yn, Yn, Yn, Yn, Yn, Yn, Yn, Yn, Yn, Yn, Yn, Yn, Yn, Yn, Yn, Y, Yn, Yn, Yn, Yn, Yn, Yn] rfl rfl (by kernel_rfl) (fun _ _ _ h => h) (Or.inl ⟨by rfl, ?_⟩) ?_ ?_
   rotate_left
   ·intro w'
    go_simp
    with_reducible rfl
   rotate_left
   ·simp only [Act.put, List.setIfInBounds_toArray, List.set_cons_zero, List.set_cons_succ, i64_w, i32_w]
    rfl
   refine take_ (i := 0) (N := some 4) (v := ?_) (a' := ?_) #[Y, Yn, Yn, Yn, Yn, Y, Y, Yn, Yn, Yn, Yn, Yn, Yn, Yn, Yn, Yn, Yn, Yn, Yn, Yn, Yn, Yn, Y, Yn, Yn, Yn, Yn, Yn, Yn] rfl rfl (by kernel_rfl) (fun _ _ _ h => h) (Or.inl ⟨by rfl, ?_⟩) hHeld ?_ ?_
   rotate_left
   ·rintro w' ⟨s0, s1, s2, s3, s4, s5⟩
    go_simp
    with_reducible rfl
   rotate_left
   ·simp only [Act.put, List.setIfInBounds_toArray, List.set_cons_zero, List.set_cons_succ, i64_w, i32_w]
    rfl
   refine take_ (i := 1) (N := some 5) (v := ?_) (a' := ?_) #[Y, Y, Yn, Yn, Yn, Y, Y, Yn, Yn, Yn, Yn, Yn, Yn, Yn, Yn, Yn, Yn, Yn, Yn, Yn, Yn, Yn, Y, Yn, Yn, Yn, Yn, Yn, Yn] rfl rfl (by kernel_rfl) (fun _ _ _ h => h) (Or.inl ⟨by rfl, ?_⟩) hHeld ?_ ?_
   rotate_left
   ·rintro w' ⟨s0, s1, s2, s3, s4, s5⟩
    go_simp
    with_reducible rfl
   rotate_left
   ·simp only [Act.put, List.setIfInBounds_toArray, List.set_cons_zero, List.set_cons_succ, i64_w, i32_w]
    rfl
   refine pure_ (i := 2) (N := some 6) (v := ?_) (a' := ?_) #[Y, Y, Y, Yn, Yn, Y, Y, Yn, Yn, Yn, Yn, Yn, Yn, Yn, Yn, Yn, Yn, Yn, Yn, Yn, Yn, Yn, Y, Yn, Yn, Yn, Yn, Yn, Yn] rfl rfl (by kernel_rfl) (fun _ _ _ h => h) (Or.inl ⟨by rfl, ?_⟩) ?_ ?_
   rotate_left
   ·intro w'
    go_simp
    with_reducible rfl
   rotate_left
   ·simp only [Act.put, List.setIfInBounds_toArray, List.set_cons_zero, List.set_cons_succ, i64_w, i32_w]
    rfl
   refine pure_ (i := 3) (N := some 7) (v := ?_) (a' := ?_) #[Y, Y, Y, Y, Yn, Y, Y, Yn, Yn, Yn, Yn, Yn, Yn, Yn, Yn, Yn, Yn, Yn, Yn, Yn, Yn, Yn, Y, Yn, Yn, Yn, Yn, Yn, Yn] rfl rfl (by kernel_rfl) (fun _ _ _ h => h) (Or.inl ⟨by rfl, ?_⟩) ?_ ?_
   rotate_left
   ·intro w'
    go_simp
    with_reducible rfl
   rotate_left
   ·simp only [Act.put, List.setIfInBounds_toArray, List.set_cons_zero, List.set_cons_succ, i64_w, i32_w]
    rfl
   refine take_ (i := 4) (N := some 8) (v := ?_) (a' := ?_) #[Y, Y, Y, Y, Y, Y, Y, Yn, Yn, Yn, Yn, Yn, Yn, Yn, Yn, Yn, Yn, Yn, Yn, Yn, Yn, Yn, Y, Yn, Yn, Yn, Yn, Yn, Yn] rfl rfl (by kernel_rfl) (fun _ _ _ h => h) (Or.inl ⟨by rfl, ?_⟩) hHeld ?_ ?_
   rotate_left
   ·rintro w' ⟨s0, s1, s2, s3, s4, s5⟩
    go_simp
    with_reducible rfl
   rotate_left
   ·simp only [Act.put, List.setIfInBounds_toArray, List.set_cons_zero, List.set_cons_succ, i64_w, i32_w]
    rfl
   refine take_ (i := 7) (N := some 11) (v := ?_) (a' := ?_) #[Y, Y, Y, Y, Y, Y, Y, Y, Yn, Yn, Yn, Yn, Yn, Yn, Yn, Yn, Yn, Yn, Yn, Yn, Yn, Yn, Y, Yn, Yn, Yn, Yn, Yn, Yn] rfl rfl (by kernel_rfl) (fun _ _ _ h => h) (Or.inl ⟨by rfl, ?_⟩) hHeld ?_ ?_
   rotate_left
   ·rintro w' ⟨s0, s1, s2, s3, s4, s5⟩
    go_simp
    with_reducible rfl
   rotate_left
   ·simp only [Act.put, List.setIfInBounds_toArray, List.set_cons_zero, List.set_cons_succ, i64_w, i32_w]
    rfl
   refine pure_ (i := 8) (N := some 12) (v := ?_) (a' := ?_) #[Y, Y, Y, Y, Y, Y, Y, Y, Y, Yn, Yn, Yn, Yn, Yn, Yn, Yn, Yn, Yn, Yn, Yn, Yn, Yn, Y, Yn, Yn, Yn, Yn, Yn, Yn] rfl rfl (by kernel_rfl) (fun _ _ _ h => h) (Or.inl ⟨by rfl, ?_⟩) ?_ ?_
   rotate_left
   ·intro w'
    go_simp
    with_reducible rfl
   rotate_left
   ·simp only [Act.put, List.setIfInBounds_toArray, List.set_cons_zero, List.set_cons_succ, i64_w, i32_w]
    rfl
   refine pure_ (i := 9) (N := some 13) (v := ?_) (a' := ?_) #[Y, Y, Y, Y, Y, Y, Y, Y, Y, Y, Yn, Yn, Yn, Yn, Yn, Yn, Yn, Yn, Yn, Yn, Yn, Yn, Y, Yn, Yn, Yn, Yn, Yn, Yn] rfl rfl (by kernel_rfl) (fun _ _ _ h => h) (Or.inl ⟨by rfl, ?_⟩) ?_ ?_
   rotate_left
   ·intro w'
    go_simp
    with_reducible rfl
   rotate_left
   ·simp only [Act.put, List.setIfInBounds_toArray, List.set_cons_zero, List.set_cons_succ, i64_w, i32_w]
    rfl
   refine take_ (i := 10) (N := some 14) (v := ?_) (a' := ?_) #[Y, Y, Y, Y, Y, Y, Y, Y, Y, Y, Y, Yn, Yn, Yn, Yn, Yn, Yn, Yn, Yn, Yn, Yn, Yn, Y, Yn, Yn, Yn, Yn, Yn, Yn] rfl rfl (by kernel_rfl) (fun _ _ _ h => h) (Or.inl ⟨by rfl, ?_⟩) hHeld ?_ ?_
   rotate_left
   ·rintro w' ⟨s0, s1, s2, s3, s4, s5⟩
    go_simp
    with_reducible rfl
   rotate_left
   ·simp only [Act.put, List.setIfInBounds_toArray, List.set_cons_zero, List.set_cons_succ, i64_w, i32_w]
    rfl
   refine pure_ (i := 11) (N := some 15) (v := ?_) (a' := ?_) #[Y, Y, Y, Y, Y, Y, Y, Y, Y, Y, Y, Y, Yn, Yn, Yn, Yn, Yn, Yn, Yn, Yn, Yn, Yn, Y, Yn, Yn, Yn, Yn, Yn, Yn] rfl rfl (by kernel_rfl) (fun _ _ _ h => h) (Or.inl ⟨by rfl, ?_⟩) ?_ ?_
   rotate_left
   ·intro w'
    go_simp
    with_reducible rfl
   rotate_left
   ·simp only [Act.put, List.setIfInBounds_toArray, List.set_cons_zero, List.set_cons_succ, i64_w, i32_w]
    rfl
   refine pure_ (i := 12) (N := some 16) (v := ?_) (a' := ?_) #[Y, Y, Y, Y, Y, Y, Y, Y, Y, Y, Y, Y, Y, Yn, Yn, Yn, Yn, Yn, Yn, Yn, Yn, Yn, Y, Yn, Yn, Yn, Yn, Yn, Yn] rfl rfl (by kernel_rfl) (fun _ _ _ h => h) (Or.inl ⟨by rfl, ?_⟩) ?_ ?_
   rotate_left
   ·intro w'
    go_simp
    with_reducible rfl
   rotate_left
   ·simp only [Act.put, List.setIfInBounds_toArray, List.set_cons_zero, List.set_cons_succ, i64_w, i32_w]
    rfl
   refine pure_ (i := 13) (N := some 17) (v := ?_) (a' := ?_) #[Y, Y, Y, Y, Y, Y, Y, Y, Y, Y, Y, Y, Y, Y, Yn, Yn, Yn, Yn, Yn, Yn, Yn, Yn, Y, Yn, Yn, Yn, Yn, Yn, Yn] rfl rfl (by kernel_rfl) (fun _ _ _ h => h) (Or.inl ⟨by rfl, ?_⟩) ?_ ?_
   rotate_left
   ·intro w'
    go_simp
    with_reducible rfl
   rotate_left
   ·simp only [Act.put, List.setIfInBounds_toArray, List.set_cons_zero, List.set_cons_succ, i64_w, i32_w]
    rfl
   refine take_ (i := 14) (N := some 18) (v := ?_) (a' := ?_) #[Y, Y, Y, Y, Y, Y, Y, Y, Y, Y, Y, Y, Y, Y, Y, Yn, Yn, Yn, Yn, Yn, Yn, Yn, Y, Yn, Yn, Yn, Yn, Yn, Yn] rfl rfl (by kernel_rfl) (fun _ _ _ h => h) (Or.inl ⟨by rfl, ?_⟩) hHeld ?_ ?_
   rotate_left
   ·rintro w' ⟨s0, s1, s2, s3, s4, s5⟩
    go_simp
    with_reducible rfl
   rotate_left
   ·simp only [Act.put, List.setIfInBounds_toArray, List.set_cons_zero, List.set_cons_succ, i64_w, i32_w]
    rfl
   refine pure_ (i := 15) (N := some 19) (v := ?_) (a' := ?_) #[Y, Y, Y, Y, Y, Y, Y, Y, Y, Y, Y, Y, Y, Y, Y, Y, Yn, Yn, Yn, Yn, Yn, Yn, Y, Yn, Yn, Yn, Yn, Yn, Yn] rfl rfl (by kernel_rfl) (fun _ _ _ h => h) (Or.inl ⟨by rfl, ?_⟩) ?_ ?_
   rotate_left
   ·intro w'
    go_simp
    with_reducible rfl
   rotate_left
   ·simp only [Act.put, List.setIfInBounds_toArray, List.set_cons_zero, List.set_cons_succ, i64_w, i32_w]
    rfl
   refine pure_ (i := 16) (N := some 20) (v := ?_) (a' := ?_) #[Y, Y, Y, Y, Y, Y, Y, Y, Y, Y, Y, Y, Y, Y, Y, Y, Y, Yn, Yn, Yn, Yn, Yn, Y, Yn, Yn, Yn, Yn, Yn, Yn] rfl rfl (by kernel_rfl) (fun _ _ _ h => h) (Or.inl ⟨by rfl, ?_⟩) ?_ ?_
   rotate_left
   ·intro w'
    go_simp
    with_reducible rfl
   rotate_left
   ·simp only [Act.put, List.setIfInBounds_toArray, List.set_cons_zero, List.set_cons_succ, i64_w, i32_w]
    rfl
   refine take_ (i := 17) (N := some 21) (v := ?_) (a' := ?_) #[Y, Y, Y, Y, Y, Y, Y, Y, Y, Y, Y, Y, Y, Y, Y, Y, Y, Y, Yn, Yn, Yn, Yn, Y, Yn, Yn, Yn, Yn, Yn, Yn] rfl rfl (by kernel_rfl) (fun _ _ _ h => h) (Or.inl ⟨by rfl, ?_⟩) hHeld ?_ ?_
   rotate_left
   ·rintro w' ⟨s0, s1, s2, s3, s4, s5⟩
    go_simp
    with_reducible rfl
   rotate_left
   ·simp only [Act.put, List.setIfInBounds_toArray, List.set_cons_zero, List.set_cons_succ, i64_w, i32_w]
    rfl
   refine take_ (i := 18) (N := some 22) (v := ?_) (a' := ?_) #[Y, Y, Y, Y, Y, Y, Y, Y, Y, Y, Y, Y, Y, Y, Y, Y, Y, Y, Y, Yn, Yn, Yn, Y, Yn, Yn, Yn, Yn, Yn, Yn] rfl rfl (by kernel_rfl) (fun _ _ _ h => h) (Or.inl ⟨by rfl, ?_⟩) hHeld ?_ ?_
   rotate_left
   ·rintro w' ⟨s0, s1, s2, s3, s4, s5⟩
    go_simp
    with_reducible rfl
   rotate_left
   ·simp only [Act.put, List.setIfInBounds_toArray, List.set_cons_zero, List.set_cons_succ, i64_w, i32_w]
    rfl
   refine pure_ (i := 19) (N := some 23) (v := ?_) (a' := ?_) #[Y, Y, Y, Y, Y, Y, Y, Y, Y, Y, Y, Y, Y, Y, Y, Y, Y, Y, Y, Y, Yn, Yn, Y, Yn, Yn, Yn, Yn, Yn, Yn] rfl rfl (by kernel_rfl) (fun _ _ _ h => h) (Or.inl ⟨by rfl, ?_⟩) ?_ ?_
   rotate_left
   ·intro w'
    go_simp
    with_reducible rfl
   rotate_left
   ·simp only [Act.put, List.setIfInBounds_toArray, List.set_cons_zero, List.set_cons_succ, i64_w, i32_w]
    rfl
   refine pure_ (i := 20) (N := some 24) (v := ?_) (a' := ?_) #[Y, Y, Y, Y, Y, Y, Y, Y, Y, Y, Y, Y, Y, Y, Y, Y, Y, Y, Y, Y, Y, Yn, Y, Yn, Yn, Yn, Yn, Yn, Yn] rfl rfl (by kernel_rfl) (fun _ _ _ h => h) (Or.inl ⟨by rfl, ?_⟩) ?_ ?_
   rotate_left
   ·intro w'
    go_simp
    with_reducible rfl
   rotate_left
   ·simp only [Act.put, List.setIfInBounds_toArray, List.set_cons_zero, List.set_cons_succ, i64_w, i32_w]
    rfl
   refine take_ (i := 21) (N := some 25) (v := ?_) (a' := ?_) #[Y, Y, Y, Y, Y, Y, Y, Y, Y, Y, Y, Y, Y, Y, Y, Y, Y, Y, Y, Y, Y, Y, Y, Yn, Yn, Yn, Yn, Yn, Yn] rfl rfl (by kernel_rfl) (fun _ _ _ h => h) (Or.inl ⟨by rfl, ?_⟩) hHeld ?_ ?_
   rotate_left
   ·rintro w' ⟨s0, s1, s2, s3, s4, s5⟩
    go_simp
    with_reducible rfl
   rotate_left
   ·simp only [Act.put, List.setIfInBounds_toArray, List.set_cons_zero, List.set_cons_succ, i64_w, i32_w]
    rfl
   refine pure_ (i := 23) (N := some 27) (v := ?_) (a' := ?_) #[Y, Y, Y, Y, Y, Y, Y, Y, Y, Y, Y, Y, Y, Y, Y, Y, Y, Y, Y, Y, Y, Y, Y, Y, Yn, Yn, Yn, Yn, Yn] rfl rfl (by kernel_rfl) (fun _ _ _ h => h) (Or.inl ⟨by rfl, ?_⟩) ?_ ?_
   rotate_left
   ·intro w'
    go_simp
    with_reducible rfl
   rotate_left
   ·simp only [Act.put, List.setIfInBounds_toArray, List.set_cons_zero, List.set_cons_succ, i64_w, i32_w]
    rfl
   refine take_ (i := 24) (N := some 28) (v := ?_) (a' := ?_) #[Y, Y, Y, Y, Y, Y, Y, Y, Y, Y, Y, Y, Y, Y, Y, Y, Y, Y, Y, Y, Y, Y, Y, Y, Y, Yn, Yn, Yn, Yn] rfl rfl (by kernel_rfl) (fun _ _ _ h => h) (Or.inl ⟨by rfl, ?_⟩) hHeld ?_ ?_
   rotate_left
   ·rintro w' ⟨s0, s1, s2, s3, s4, s5⟩
    go_simp
    with_reducible rfl
   rotate_left
   ·simp only [Act.put, List.setIfInBounds_toArray, List.set_cons_zero, List.set_cons_succ, i64_w, i32_w]
    rfl
   refine pure_ (i := 25) (N := some 29) (v := ?_) (a' := ?_) #[Y, Y, Y, Y, Y, Y, Y, Y, Y, Y, Y, Y, Y, Y, Y, Y, Y, Y, Y, Y, Y, Y, Y, Y, Y, Y, Yn, Yn, Yn] rfl rfl (by kernel_rfl) (fun _ _ _ h => h) (Or.inl ⟨by rfl, ?_⟩) ?_ ?_
   rotate_left
   ·intro w'
    go_simp
    with_reducible rfl
   rotate_left
   ·simp only [Act.put, List.setIfInBounds_toArray, List.set_cons_zero, List.set_cons_succ, i64_w, i32_w]
    rfl
   refine one_ (i := 26) (N := some 30) #[Y, Y, Y, Y, Y, Y, Y, Y, Y, Y, Y, Y, Y, Y, Y, Y, Y, Y, Y, Y, Y, Y, Y, Y, Y, Y, Y, Yn, Yn] rfl rfl (by kernel_rfl) (by decide) (fun K hK => ?_)
   refine value_ (w1 := ?_) (v := ?_) (by rfl) rfl ?_ ?_
   rotate_left 2
   ·go_simp
    constructor
    ·rfl
    ·rfl
   refine hK.out _ _ ⟨(blk_cell (by (with_reducible repeat (first | refine blk_drewN ?_ _ | refine blk_drew ?_ | refine blk_alloc ?_ _)); exact HI4.out.bs) 0).trans rfl, (blk_cell (by (with_reducible repeat (first | refine blk_drewN ?_ _ | refine blk_drew ?_ | refine blk_alloc ?_ _)); exact HI4.out.bo) 0).trans rfl, (blk_cell (by (with_reducible repeat (first | refine blk_drewN ?_ _ | refine blk_drew ?_ | refine blk_alloc ?_ _)); exact HG44.out) 0).trans rfl, (blk_cell (by (with_reducible repeat (first | refine blk_drewN ?_ _ | refine blk_drew ?_ | refine blk_alloc ?_ _)); exact HG44.out) 1).trans rfl, (blk_cell (by (with_reducible repeat (first | refine blk_drewN ?_ _ | refine blk_drew ?_ | refine blk_alloc ?_ _)); exact HG44.out) 4).trans rfl, pw_cell_below (HI4.out.bel.alloc HI4.out.bel.size _) HEL.out⟩ (fun hHeld => ?_)
   clear hK K
   refine norm_ (a' := ?_) ?_ ?_
   rotate_left
   ·show Act.put _ (some 30) _ = _
    simp only [Act.put, List.setIfInBounds_toArray, List.set_cons_zero, List.set_cons_succ, i64_w, i32_w]
    rfl
   refine one_ (i := 27) (N := some 31) #[Y, Y, Y, Y, Y, Y, Y, Y, Y, Y, Y, Y, Y, Y, Y, Y, Y, Y, Y, Y, Y, Y, Y, Y, Y, Y, Y, Y, Yn] rfl rfl (by kernel_rfl) (by decide) (fun K hK => ?_)
   refine Kd.R_append_step k23 (w0 := w4) w.heap.size (by rfl) (.tmp 4) (.tmp 30) 45 23 (.agg #[(.int .i64 0), (.int .i64 0), (.int .i64 0), (.bool false), (.int .i64 0), (.string ⟨#[]⟩)]) 56 rfl Tryd.underlying45 info23 rfl (by decide) (by omega) v (parts23 id window segs a j) (⟨1, id, nx, decide (nx < wrap64 ((segs.length : Int) - 1)), window, es⟩ : S23) [.int .i64 1, .int .i64 id, .int .i64 nx, .bool (decide (nx < wrap64 ((segs.length : Int) - 1))), .int .i64 window, .string es] (fun _ => True) (fun _ => False) rfl (by first | (go_simp; done) | (go_simp; rfl)) (k23_mkM _ _ _ (⟨1, id, nx, decide (nx < wrap64 ((segs.length : Int) - 1)), window, es⟩ : S23)) (fun _ hk => hk.elim) (fun _ _ => trivial) HI4.out.own (Below.refl _ _) HI4.out.kb.1 (by have := hjn.out; rw [parts23_len]; omega) ?_
   intro v1 w9 ho hb hg hat
   obtain ⟨ps, HPS⟩ : ∃ ps, Aside0 (parts23 id window segs a (j + 1) = ps) := ⟨_, ⟨rfl⟩⟩
   replace ho : Kd.R k23 23 w9 w.heap.size (fun _ => True) v1 ps := by rw [← HPS.out, parts23_succ, ← HX.out]; exact ho
   obtain ⟨A1, k1, e1⟩ := Kd.R_slice ho
   subst e1
   have HG9 := Aside0.mk (blk_grown HG44.out hg (HI4.out.st.own_ne HI4.out.own (by decide)))
   have hel9 := pw_cell_below (HI4.out.bel.trans (hb.mono HW.out)) HEL.out
   have HS9 := Aside0.mk (HI4.out.step HW.out GO.out (by rw [HPS.out]; exact ho) hb hg)
   have hf9 := blk_frozen HS9.out.bo 0
   have hc9 := (blk_cell HS9.out.bo 0).trans rfl
   clear ho hb hg hat
   refine hK.out _ _ ⟨(blk_cell (by (with_reducible repeat (first | refine blk_drewN ?_ _ | refine blk_drew ?_ | refine blk_alloc ?_ _)); exact HS9.out.bs) 0).trans rfl, (blk_cell (by (with_reducible repeat (first | refine blk_drewN ?_ _ | refine blk_drew ?_ | refine blk_alloc ?_ _)); exact HS9.out.bo) 0).trans rfl, (blk_cell (by (with_reducible repeat (first | refine blk_drewN ?_ _ | refine blk_drew ?_ | refine blk_alloc ?_ _)); exact HG9.out) 0).trans rfl, (blk_cell (by (with_reducible repeat (first | refine blk_drewN ?_ _ | refine blk_drew ?_ | refine blk_alloc ?_ _)); exact HG9.out) 1).trans rfl, (blk_cell (by (with_reducible repeat (first | refine blk_drewN ?_ _ | refine blk_drew ?_ | refine blk_alloc ?_ _)); exact HG9.out) 4).trans rfl, hel9⟩ (fun hHeld => ?_)
   clear hK K
   refine norm_ (a' := ?_) ?_ ?_
   rotate_left
   ·show Act.put _ (some 31) _ = _
    simp only [Act.put, List.setIfInBounds_toArray, List.set_cons_zero, List.set_cons_succ, i64_w, i32_w]
    rfl
   refine last_ (i := 28) (N := none) #[Y, Y, Y, Y, Y, Y, Y, Y, Y, Y, Y, Y, Y, Y, Y, Y, Y, Y, Y, Y, Y, Y, Y, Y, Y, Y, Y, Y, Y] rfl rfl (by kernel_rfl) (by decide) (fun K hK => ?_)
   refine skip_ (w1 := ?_) (by rfl) rfl ?_ ?_
   rotate_left
   ·go_simp
    rfl
   refine hK.out _ _ ?_
   clear hK K
   refine done_ (by kernel_rfl) ?_
   have HN := Aside0.mk HS9.out.nxt
   generalize w9.setCell ⟨go, 0, none⟩ _ = w10 at HN ⊢
   clear cs c7 co c0 c1 c4' hel hc9 hf9 hel9 hHeld
   have cs := (blk_cell HN.out.bs 0).trans rfl
   obtain ⟨A5, c5, hG5, hge5, _⟩ := HN.out.st
   have c7 := (blk_cell hG5 7).trans rfl
   have f7 := blk_frozen hG5 7
   clear hG5
   have hw1 : wrap64 (nx + 1) = nx + 1 := by have := hx0.out; have := hx1.out; unfold wrap64; omega
   go_wp2_with ((try simp only [Exit.inBlock, Exit.then]); refine bodyPost_end (results_none rfl _ _ _) rfl ?_; simp only []; go_at_K)
   have HN2 := Aside0.mk (HN.out.next (nx + 1))
   refine ⟨⟨j + 1, _, nx + 1, hjn.out, by have := HNX.out; omega, HN2⟩, ?_⟩
   obtain ⟨A6, c6, hG6, _, _⟩ := HN2.out.st
   rw [(blk_cell hG6 7).trans rfl, C7.out]
   simp [RowKit.intOf]
   have := HNX.out
   have := hjn.out
   omega
  ·have hlA := Aside0.mk (show decide (nx < lim) = false from decide_eq_false hlt)
   have hjn := Aside0.mk (show j = n by have h1 := HNX.out; have h2 := HN2.out; omega)
   clear hlt hj
   go_wp2
   have HI3 := Aside0.mk HI.out.drew
   have HG43 := Aside0.mk (blk_drew HG4.out)
   refine start_ (n := 20) (S := fun w' => w'.cell? ⟨gs, 0, none⟩ = some (.pointer (some ⟨g, 0, none⟩)) ∧ w'.cell? ⟨g, 7, none⟩ = some (.int .i64 nx) ∧ w'.cell? ⟨g, 6, none⟩ = some (.int .i64 base) ∧ w'.cell? ⟨g, 1, none⟩ = some (.int .i64 window) ∧ w'.cell? ⟨g, 4, none⟩ = some (.slice A4 segs.length c4)) (ds := []) #[Yn, Yn, Yn, Yn, Yn, Yn, Yn, Yn, Yn, Yn, Yn, Yn, Yn, Yn, Yn, Yn, Yn, Yn, Yn, Yn] (by kernel_rfl) rfl rfl ⟨cs, c7, c6, c1, c4'⟩ (fun hHeld => ?_)
   generalize wr.drew = w3 at HI3 HG43 hHeld ⊢
   refine take_ (i := 0) (N := some 8) (v := ?_) (a' := ?_) #[Y, Yn, Yn, Yn, Yn, Yn, Yn, Yn, Yn, Yn, Yn, Yn, Yn, Yn, Yn, Yn, Yn, Yn, Yn, Yn] rfl rfl (by kernel_rfl) (fun _ _ _ h => h) (Or.inl ⟨by rfl, ?_⟩) hHeld ?_ ?_
   rotate_left
   ·rintro w' ⟨s0, s1, s2, s3, s4⟩
    go_simp
    with_reducible rfl
   rotate_left
   ·simp only [Act.put, List.setIfInBounds_toArray, List.set_cons_zero, List.set_cons_succ, i64_w, i32_w]
    rfl
   refine pure_ (i := 1) (N := some 9) (v := ?_) (a' := ?_) #[Y, Y, Yn, Yn, Yn, Yn, Yn, Yn, Yn, Yn, Yn, Yn, Yn, Yn, Yn, Yn, Yn, Yn, Yn, Yn] rfl rfl (by kernel_rfl) (fun _ _ _ h => h) (Or.inl ⟨by rfl, ?_⟩) ?_ ?_
   rotate_left
   ·intro w'
    go_simp
    with_reducible rfl
   rotate_left
   ·simp only [Act.put, List.setIfInBounds_toArray, List.set_cons_zero, List.set_cons_succ, i64_w, i32_w]
    rfl
   refine pure_ (i := 2) (N := some 10) (v := ?_) (a' := ?_) #[Y, Y, Y, Yn, Yn, Yn, Yn, Yn, Yn, Yn, Yn, Yn, Yn, Yn, Yn, Yn, Yn, Yn, Yn, Yn] rfl rfl (by kernel_rfl) (fun _ _ _ h => h) (Or.inl ⟨by rfl, ?_⟩) ?_ ?_
   rotate_left
   ·intro w'
    go_simp
    with_reducible rfl
   rotate_left
   ·simp only [Act.put, List.setIfInBounds_toArray, List.set_cons_zero, List.set_cons_succ, i64_w, i32_w]
    rfl
   refine take_ (i := 3) (N := some 11) (v := ?_) (a' := ?_) #[Y, Y, Y, Y, Yn, Yn, Yn, Yn, Yn, Yn, Yn, Yn, Yn, Yn, Yn, Yn, Yn, Yn, Yn, Yn] rfl rfl (by kernel_rfl) (fun _ _ _ h => h) (Or.inl ⟨by rfl, ?_⟩) hHeld ?_ ?_
   rotate_left
   ·rintro w' ⟨s0, s1, s2, s3, s4⟩
    go_simp
    with_reducible rfl
   rotate_left
   ·simp only [Act.put, List.setIfInBounds_toArray, List.set_cons_zero, List.set_cons_succ, i64_w, i32_w]
    rfl
   refine take_ (i := 4) (N := some 12) (v := ?_) (a' := ?_) #[Y, Y, Y, Y, Y, Yn, Yn, Yn, Yn, Yn, Yn, Yn, Yn, Yn, Yn, Yn, Yn, Yn, Yn, Yn] rfl rfl (by kernel_rfl) (fun _ _ _ h => h) (Or.inl ⟨by rfl, ?_⟩) hHeld ?_ ?_
   rotate_left
   ·rintro w' ⟨s0, s1, s2, s3, s4⟩
    go_simp
    with_reducible rfl
   rotate_left
   ·simp only [Act.put, List.setIfInBounds_toArray, List.set_cons_zero, List.set_cons_succ, i64_w, i32_w]
    rfl
   refine pure_ (i := 5) (N := some 13) (v := ?_) (a' := ?_) #[Y, Y, Y, Y, Y, Y, Yn, Yn, Yn, Yn, Yn, Yn, Yn, Yn, Yn, Yn, Yn, Yn, Yn, Yn] rfl rfl (by kernel_rfl) (fun _ _ _ h => h) (Or.inl ⟨by rfl, ?_⟩) ?_ ?_
   rotate_left
   ·intro w'
    go_simp
    with_reducible rfl
   rotate_left
   ·simp only [Act.put, List.setIfInBounds_toArray, List.set_cons_zero, List.set_cons_succ, i64_w, i32_w]
    rfl
   refine pure_ (i := 6) (N := some 14) (v := ?_) (a' := ?_) #[Y, Y, Y, Y, Y, Y, Y, Yn, Yn, Yn, Yn, Yn, Yn, Yn, Yn, Yn, Yn, Yn, Yn, Yn] rfl rfl (by kernel_rfl) (fun _ _ _ h => h) (Or.inl ⟨by rfl, ?_⟩) ?_ ?_
   rotate_left
   ·intro w'
    go_simp
    with_reducible rfl
   rotate_left
   ·simp only [Act.put, List.setIfInBounds_toArray, List.set_cons_zero, List.set_cons_succ, i64_w, i32_w]
    rfl
   refine take_ (i := 7) (N := some 15) (v := ?_) (a' := ?_) #[Y, Y, Y, Y, Y, Y, Y, Y, Yn, Yn, Yn, Yn, Yn, Yn, Yn, Yn, Yn, Yn, Yn, Yn] rfl rfl (by kernel_rfl) (fun _ _ _ h => h) (Or.inl ⟨by rfl, ?_⟩) hHeld ?_ ?_
   rotate_left
   ·rintro w' ⟨s0, s1, s2, s3, s4⟩
    go_simp
    with_reducible rfl
   rotate_left
   ·simp only [Act.put, List.setIfInBounds_toArray, List.set_cons_zero, List.set_cons_succ, i64_w, i32_w]
    rfl
   refine take_ (i := 8) (N := some 16) (v := ?_) (a' := ?_) #[Y, Y, Y, Y, Y, Y, Y, Y, Y, Yn, Yn, Yn, Yn, Yn, Yn, Yn, Yn, Yn, Yn, Yn] rfl rfl (by kernel_rfl) (fun _ _ _ h => h) (Or.inl ⟨by rfl, ?_⟩) hHeld ?_ ?_
   rotate_left
   ·rintro w' ⟨s0, s1, s2, s3, s4⟩
    go_simp
    with_reducible rfl
   rotate_left
   ·simp only [Act.put, List.setIfInBounds_toArray, List.set_cons_zero, List.set_cons_succ, i64_w, i32_w]
    rfl
   refine pure_ (i := 9) (N := some 17) (v := ?_) (a' := ?_) #[Y, Y, Y, Y, Y, Y, Y, Y, Y, Y, Yn, Yn, Yn, Yn, Yn, Yn, Yn, Yn, Yn, Yn] rfl rfl (by kernel_rfl) (fun _ _ _ h => h) (Or.inl ⟨by rfl, ?_⟩) ?_ ?_
   rotate_left
   ·intro w'
    go_simp
    with_reducible rfl
   rotate_left
   ·simp only [Act.put, List.setIfInBounds_toArray, List.set_cons_zero, List.set_cons_succ, i64_w, i32_w]
    rfl
   refine pure_ (i := 10) (N := some 18) (v := ?_) (a' := ?_) #[Y, Y, Y, Y, Y, Y, Y, Y, Y, Y, Y, Yn, Yn, Yn, Yn, Yn, Yn, Yn, Yn, Yn] rfl rfl (by kernel_rfl) (fun _ _ _ h => h) (Or.inl ⟨by rfl, ?_⟩) ?_ ?_
   rotate_left
   ·intro w'
    go_simp
    with_reducible rfl
   rotate_left
   ·simp only [Act.put, List.setIfInBounds_toArray, List.set_cons_zero, List.set_cons_succ, i64_w, i32_w]
    rfl
   refine take_ (i := 11) (N := some 19) (v := ?_) (a' := ?_) #[Y, Y, Y, Y, Y, Y, Y, Y, Y, Y, Y, Y, Yn, Yn, Yn, Yn, Yn, Yn, Yn, Yn] rfl rfl (by kernel_rfl) (fun _ _ _ h => h) (Or.inl ⟨by rfl, ?_⟩) hHeld ?_ ?_
   rotate_left
   ·rintro w' ⟨s0, s1, s2, s3, s4⟩
    go_simp
    with_reducible rfl
   rotate_left
   ·simp only [Act.put, List.setIfInBounds_toArray, List.set_cons_zero, List.set_cons_succ, i64_w, i32_w]
    rfl
   refine pure_ (i := 12) (N := some 20) (v := ?_) (a' := ?_) #[Y, Y, Y, Y, Y, Y, Y, Y, Y, Y, Y, Y, Y, Yn, Yn, Yn, Yn, Yn, Yn, Yn] rfl rfl (by kernel_rfl) (fun _ _ _ h => h) (Or.inl ⟨by rfl, ?_⟩) ?_ ?_
   rotate_left
   ·intro w'
    go_simp
    with_reducible rfl
   rotate_left
   ·simp only [Act.put, List.setIfInBounds_toArray, List.set_cons_zero, List.set_cons_succ, i64_w, i32_w]
    rfl
   refine take_ (i := 13) (N := some 21) (v := ?_) (a' := ?_) #[Y, Y, Y, Y, Y, Y, Y, Y, Y, Y, Y, Y, Y, Y, Yn, Yn, Yn, Yn, Yn, Yn] rfl rfl (by kernel_rfl) (fun _ _ _ h => h) (Or.inl ⟨by rfl, ?_⟩) hHeld ?_ ?_
   rotate_left
   ·rintro w' ⟨s0, s1, s2, s3, s4⟩
    go_simp
    with_reducible rfl
   rotate_left
   ·simp only [Act.put, List.setIfInBounds_toArray, List.set_cons_zero, List.set_cons_succ, i64_w, i32_w]
    rfl
   refine pure_ (i := 14) (N := some 22) (v := ?_) (a' := ?_) #[Y, Y, Y, Y, Y, Y, Y, Y, Y, Y, Y, Y, Y, Y, Y, Yn, Yn, Yn, Yn, Yn] rfl rfl (by kernel_rfl) (fun _ _ _ h => h) (Or.inl ⟨by rfl, ?_⟩) ?_ ?_
   rotate_left
   ·intro w'
    go_simp
    with_reducible rfl
   rotate_left
   ·simp only [Act.put, List.setIfInBounds_toArray, List.set_cons_zero, List.set_cons_succ, i64_w, i32_w]
    rfl
   refine pure_ (i := 15) (N := some 23) (v := ?_) (a' := ?_) #[Y, Y, Y, Y, Y, Y, Y, Y, Y, Y, Y, Y, Y, Y, Y, Y, Yn, Yn, Yn, Yn] rfl rfl (by kernel_rfl) (fun _ _ _ h => h) (Or.inl ⟨by rfl, ?_⟩) ?_ ?_
   rotate_left
   ·intro w'
    go_simp
    with_reducible rfl
   rotate_left
   ·simp only [Act.put, List.setIfInBounds_toArray, List.set_cons_zero, List.set_cons_succ, i64_w, i32_w]
    rfl
   refine take_ (i := 16) (N := some 24) (v := ?_) (a' := ?_) #[Y, Y, Y, Y, Y, Y, Y, Y, Y, Y, Y, Y, Y, Y, Y, Y, Y, Yn, Yn, Yn] rfl rfl (by kernel_rfl) (fun _ _ _ h => h) (Or.inl ⟨by rfl, ?_⟩) hHeld ?_ ?_
   rotate_left
   ·rintro w' ⟨s0, s1, s2, s3, s4⟩
    go_simp
    with_reducible rfl
   rotate_left
   ·simp only [Act.put, List.setIfInBounds_toArray, List.set_cons_zero, List.set_cons_succ, i64_w, i32_w]
    rfl
   refine pure_ (i := 17) (N := some 25) (v := ?_) (a' := ?_) #[Y, Y, Y, Y, Y, Y, Y, Y, Y, Y, Y, Y, Y, Y, Y, Y, Y, Y, Yn, Yn] rfl rfl (by kernel_rfl) (fun _ _ _ h => h) (Or.inl ⟨by rfl, ?_⟩) ?_ ?_
   rotate_left
   ·intro w'
    go_simp
    with_reducible rfl
   rotate_left
   ·simp only [Act.put, List.setIfInBounds_toArray, List.set_cons_zero, List.set_cons_succ, i64_w, i32_w]
    rfl
   refine pure_ (i := 18) (N := some 26) (v := ?_) (a' := ?_) #[Y, Y, Y, Y, Y, Y, Y, Y, Y, Y, Y, Y, Y, Y, Y, Y, Y, Y, Y, Yn] rfl rfl (by kernel_rfl) (fun _ _ _ h => h) (Or.inl ⟨by rfl, ?_⟩) ?_ ?_
   rotate_left
   ·intro w'
    go_simp
    with_reducible rfl
   rotate_left
   ·simp only [Act.put, List.setIfInBounds_toArray, List.set_cons_zero, List.set_cons_succ, i64_w, i32_w]
    rfl
   refine pure_ (i := 19) (N := some 27) (v := ?_) (a' := ?_) #[Y, Y, Y, Y, Y, Y, Y, Y, Y, Y, Y, Y, Y, Y, Y, Y, Y, Y, Y, Y] rfl rfl (by kernel_rfl) (fun _ _ _ h => h) (Or.inl ⟨by rfl, ?_⟩) ?_ ?_
   rotate_left
   ·intro w'
    go_simp
    with_reducible rfl
   rotate_left
   ·simp only [Act.put, List.setIfInBounds_toArray, List.set_cons_zero, List.set_cons_succ, i64_w, i32_w]
    rfl
   refine done_ (by kernel_rfl) ?_
   rw [HLim2.out, hlA.out]
   go_wp2
   clear cs c7 c6 c1 c4' hHeld
   have HI4 := Aside0.mk HI3.out.drew
   have HG44 := Aside0.mk (blk_drew HG43.out)
   have cs := (blk_cell HI3.out.bs 0).trans rfl
   have c2 := (blk_cell HG43.out 2).trans rfl
   refine start_ (n := 10) (S := fun w' => w'.cell? ⟨gs, 0, none⟩ = some (.pointer (some ⟨g, 0, none⟩)) ∧ w'.cell? ⟨g, 2, none⟩ = some (.int .i64 timeout)) (ds := [9]) #[Yn, Yn, Yn, Yn, Yn, Yn, Yn, Yn, Yn, Yn] (by kernel_rfl) rfl rfl ⟨cs, c2⟩ (fun hHeld => ?_)
   generalize w3.drew = w4 at HI4 HG44 hHeld ⊢
   refine pure_ (i := 1) (N := some 42) (v := ?_) (a' := ?_) #[Yn, Y, Yn, Yn, Yn, Yn, Yn, Yn, Yn, Yn] rfl rfl (by kernel_rfl) (fun _ _ _ h => h) (Or.inl ⟨by rfl, ?_⟩) ?_ ?_
   rotate_left
   ·intro w'
    go_simp
    with_reducible rfl
   rotate_left
   ·simp only [Act.put, List.setIfInBounds_toArray, List.set_cons_zero, List.set_cons_succ, i64_w, i32_w]
    rfl
   refine take_ (i := 0) (N := some 41) (v := ?_) (a' := ?_) #[Y, Y, Yn, Yn, Yn, Yn, Yn, Yn, Yn, Yn] rfl rfl (by kernel_rfl) (fun _ _ _ h => h) (Or.inl ⟨by rfl, ?_⟩) hHeld ?_ ?_
   rotate_left
   ·rintro w' ⟨s0, s1⟩
    go_simp
    with_reducible rfl
   rotate_left
   ·simp only [Act.put, List.setIfInBounds_toArray, List.set_cons_zero, List.set_cons_succ, i64_w, i32_w]
    rfl
   refine take_ (i := 2) (N := some 43) (v := ?_) (a' := ?_) #[Y, Y, Y, Yn, Yn, Yn, Yn, Yn, Yn, Yn] rfl rfl (by kernel_rfl) (fun _ _ _ h => h) (Or.inl ⟨by rfl, ?_⟩) hHeld ?_ ?_
   rotate_left
   ·rintro w' ⟨s0, s1⟩
    go_simp
    with_reducible rfl
   rotate_left
   ·simp only [Act.put, List.setIfInBounds_toArray, List.set_cons_zero, List.set_cons_succ, i64_w, i32_w]
    rfl
   refine pure_ (i := 3) (N := some 44) (v := ?_) (a' := ?_) #[Y, Y, Y, Y, Yn, Yn, Yn, Yn, Yn, Yn] rfl rfl (by kernel_rfl) (fun _ _ _ h => h) (Or.inl ⟨by rfl, ?_⟩) ?_ ?_
   rotate_left
   ·intro w'
    go_simp
    with_reducible rfl
   rotate_left
   ·simp only [Act.put, List.setIfInBounds_toArray, List.set_cons_zero, List.set_cons_succ, i64_w, i32_w]
    rfl
   refine pure_ (i := 4) (N := some 45) (v := ?_) (a' := ?_) #[Y, Y, Y, Y, Y, Yn, Yn, Yn, Yn, Yn] rfl rfl (by kernel_rfl) (fun _ _ _ h => h) (Or.inl ⟨by rfl, ?_⟩) ?_ ?_
   rotate_left
   ·intro w'
    go_simp
    with_reducible rfl
   rotate_left
   ·simp only [Act.put, List.setIfInBounds_toArray, List.set_cons_zero, List.set_cons_succ, i64_w, i32_w]
    rfl
   refine take_ (i := 5) (N := some 46) (v := ?_) (a' := ?_) #[Y, Y, Y, Y, Y, Y, Yn, Yn, Yn, Yn] rfl rfl (by kernel_rfl) (fun _ _ _ h => h) (Or.inl ⟨by rfl, ?_⟩) hHeld ?_ ?_
   rotate_left
   ·rintro w' ⟨s0, s1⟩
    go_simp
    with_reducible rfl
   rotate_left
   ·simp only [Act.put, List.setIfInBounds_toArray, List.set_cons_zero, List.set_cons_succ, i64_w, i32_w]
    rfl
   refine pure_ (i := 6) (N := some 47) (v := ?_) (a' := ?_) #[Y, Y, Y, Y, Y, Y, Y, Yn, Yn, Yn] rfl rfl (by kernel_rfl) (fun _ _ _ h => h) (Or.inl ⟨by rfl, ?_⟩) ?_ ?_
   rotate_left
   ·intro w'
    go_simp
    with_reducible rfl
   rotate_left
   ·simp only [Act.put, List.setIfInBounds_toArray, List.set_cons_zero, List.set_cons_succ, i64_w, i32_w]
    rfl
   refine pure_ (i := 7) (N := some 48) (v := ?_) (a' := ?_) #[Y, Y, Y, Y, Y, Y, Y, Y, Yn, Yn] rfl rfl (by kernel_rfl) (fun _ _ _ h => h) (Or.inl ⟨by rfl, ?_⟩) ?_ ?_
   rotate_left
   ·intro w'
    go_simp
    with_reducible rfl
   rotate_left
   ·simp only [Act.put, List.setIfInBounds_toArray, List.set_cons_zero, List.set_cons_succ, i64_w, i32_w]
    rfl
   refine pure_ (i := 8) (N := some 49) (v := ?_) (a' := ?_) #[Y, Y, Y, Y, Y, Y, Y, Y, Y, Yn] rfl rfl (by kernel_rfl) (fun _ _ _ h => h) (Or.inl ⟨by rfl, ?_⟩) ?_ ?_
   rotate_left
   ·intro w'
    go_simp
    with_reducible rfl
   rotate_left
   ·simp only [Act.put, List.setIfInBounds_toArray, List.set_cons_zero, List.set_cons_succ, i64_w, i32_w]
    rfl
   refine last_ (i := 9) (N := none) #[Y, Y, Y, Y, Y, Y, Y, Y, Y, Y] rfl rfl (by kernel_rfl) (by decide) (fun K hK => ?_)
   have f9 := blk_frozen HG44.out 9
   have c9 := (blk_cell HG44.out 9).trans rfl
   refine skip_ (w1 := ?_) (by rfl) rfl ?_ ?_
   rotate_left
   ·go_simp
    rfl
   refine hK.out _ _ ?_
   clear hK K
   refine done_ (by kernel_rfl) ?_
   have HN := Aside0.mk (HI4.out.fin (wrap64 (now + timeout)))
   generalize w4.setCell ⟨g, 9, none⟩ _ = w10 at HN ⊢
   have ho := HN.out.own
   rw [hjn.out] at ho
   have HE := Aside0.mk (show nx = ((a + n : Nat) : Int) by have e := HNX.out; rw [hjn.out] at e; exact e)
   obtain ⟨ps, HPS⟩ : ∃ ps, Aside0 (parts23 id window segs a n = ps) := ⟨_, ⟨rfl⟩⟩
   rw [HPS.out] at ho
   have hv := Kd.R_V (base' := 0) (Kd.R_mono (Kd.R_bound ho) (ok' := okT 23 w.heap.size w10) (fun k hk => okT_23 k hk))
   have hbo := HN.out.bo
   obtain ⟨A1, k1, e1⟩ := Kd.R_slice ho
   subst e1
   have HV := Aside0.mk (Kd.V_mk (d := k23) (e := 23) (base := 0) (Nat.le_refl ps.length) (Kd.V_F hv))
   have co := (blk_cell hbo 0).trans rfl
   have hk1 : ps.length ≤ k1 := (Kd.R_reads' ho).2.1
   clear hv ho hbo
   go_wp2
   go_ret
   exact ⟨_, rfl, by rw [HPS.out]; exact ⟨HV.out, _, rfl⟩, by rw [← HE.out]; exact HN.out.st, HN.out.bel, HN.out.kb⟩
end Go.Proofs.YtbgabhknmpbgiaaDoor.S
end
section
namespace Go.Proofs.YtbgabhknmpbgiaaDoor.S
open Go.RowKit Go.Proofs.YtbgabhknmpbgiaaDoorW.PrintWords Go.Proofs.YtbgabhknmpbgiaaDoorW.PrintLast Go.Proofs.YtbgabhknmpbgiaaDoorW.PrintMore
set_option linter.unusedVariables false
set_option linter.unusedSimpArgs false
attribute [local go_sem] max2_int min2_int max_two min_two
end Go.Proofs.YtbgabhknmpbgiaaDoor.S
end
section
namespace Go.Proofs.YtbgabhknmpbgiaaDoor.S
open Go.RowKit Go.Proofs.YtbgabhknmpbgiaaDoorW.PrintWords Go.Proofs.YtbgabhknmpbgiaaDoorW.PrintLast Go.Proofs.YtbgabhknmpbgiaaDoorW.PrintMore
set_option linter.unusedVariables false
set_option linter.unusedSimpArgs false
structure Sn where
 id : Int
 window : Int
 timeout : Int
 retries : Int
 segs : List ByteArray
 state : Int
 base : Int
 next : Int
 tries : Int
 deadline : Int
abbrev AtP (w0 w : World) (g : Nat) (s : Sn) : Prop := IsS110 w0 w g s.id s.window s.timeout s.retries s.segs s.state s.base s.next s.tries s.deadline
structure OkS (s : Sn) : Prop where
 len : s.segs.length ≤ 64
 w0 : 0 ≤ s.window
 w1 : s.window ≤ 16
 b0 : 0 ≤ s.base
 b1 : s.base ≤ 64
 n0 : 0 ≤ s.next
 n1 : s.next ≤ 64
def Sn.cnt (s : Sn) : Nat := (mn (s.base + s.window) (s.segs.length : Int) - s.next).toNat
def Sn.send (s : Sn) (now : Int) : List S23 × Sn := (parts23 s.id s.window s.segs s.next.toNat s.cnt, { s with next := s.next + (s.cnt : Int), deadline := wrap64 (now + s.timeout) })
def abort23 (id : Int) : S23 := ⟨3, id, 0, false, 0, ⟨#[]⟩⟩
def Sn.tick (s : Sn) (now : Int) : List S23 × Sn := if s.state = 0 then (if now < s.deadline then ([], s) else if s.tries = s.retries then ([abort23 s.id], { s with state := 2 }) else Sn.send { s with tries := wrap64 (s.tries + 1), next := s.base } now) else ([], s)
def Sn.acked (s : Sn) (n : Int) : Sn := { s with base := n + 1, tries := 0 }
def Sn.handle (s : Sn) (kind id number : Int) (now : Int) : List S23 × Sn :=
 if s.state = 0 then (if id = s.id then (if kind = 3 then ([], { s with state := 2 }) else if kind = 2 then (if s.base ≤ number then (if number < s.next then (if number + 1 = (s.segs.length : Int) then ([], { s.acked number with state := 1 }) else (s.acked number).send now) else ([], s)) else ([], s)) else ([], s)) else ([], s)) else ([], s)
theorem OkS.wrap {s : Sn} (h : OkS s) : wrap64 (s.base + s.window) = s.base + s.window := by
 have := h.w0
 have := h.w1
 have := h.b0
 have := h.b1
 unfold wrap64
 omega
theorem OkS.cnt {s : Sn} (h : OkS s) : s.cnt ≤ 64 := by
 have := h.len
 have := h.n0
 unfold Sn.cnt mn
 split <;> omega
theorem OkS.pre {s : Sn} (h : OkS s) : (s.cnt = 0 ∧ ¬ (s.next.toNat : Int) < mn (wrap64 (s.base + s.window)) (s.segs.length : Int)) ∨ ((s.next.toNat + s.cnt : Nat) : Int) = mn (wrap64 (s.base + s.window)) (s.segs.length : Int) := by
 have := h.n0
 rw [h.wrap]
 unfold Sn.cnt
 omega
def PPost (w0 w : World) (g : Nat) (r : List S23 × Sn) (e : Ending) (w' : World) : Prop := ∃ v : Value, e = .returned v ∧ FV k23 23 w.heap.size w' v r.1 ∧ AtP w0 w' g r.2 ∧ Below w0.heap.size w0 w' ∧ KeepBut w w' g none
theorem sendP_calls (g : Nat) (s : Sn) (now : Int) (w0 w : World) (hI : AtP w0 w g s) (hB : Below w0.heap.size w0 w) (hs : OkS s) :
  Calls Tryd.prog 64 #[.pointer (some ⟨g, 0, none⟩), .int .i64 now] w fun e w' => PPost w0 w g (s.send now) e w' := by
 obtain ⟨a, ha⟩ : ∃ a : Nat, s.next = (a : Int) := ⟨s.next.toNat, by have := hs.n0; omega⟩
 have hp := hs.pre
 rw [ha, show ((a : Int)).toNat = a from rfl] at hp
 refine (send_calls g s.id s.window s.timeout s.retries s.segs s.state s.base a s.cnt s.tries s.deadline now w0 w (by rw [← ha]; exact hI) hB hs.len hs.cnt hp).mono ?_
 rintro e w' ⟨v, he, hv, hi, hb, hk⟩
 refine ⟨v, he, ?_, ?_, hb, hk⟩
 ·show FV k23 23 _ w' v (parts23 s.id s.window s.segs s.next.toNat s.cnt)
  rw [ha, show ((a : Int)).toNat = a from rfl]
  exact hv
 ·show IsS110 w0 w' g s.id s.window s.timeout s.retries s.segs s.state s.base (s.next + (s.cnt : Int)) s.tries (wrap64 (now + s.timeout))
  rw [show s.next + (s.cnt : Int) = ((a + s.cnt : Nat) : Int) by omega]
  exact hi
theorem V_one23 {w W : World} (x : S23) (n : Nat) (hn : W.heap.size = n) (hb : w.heap.size ≤ W.heap.size) : FV k23 23 w.heap.size (W.alloc (.cells #[.int .i64 x.f0, .int .i64 x.f1, .int .i64 x.f2, .bool x.f3, .int .i64 x.f4, .string x.f5] 23)) (.slice (some ⟨n, 0, none⟩) 1 1) [x] := by
 subst hn
 have h2 := World.ownsRow_lit (base := w.heap.size) (e := 23) (size := k23.sz) W #[.int .i64 x.f0, .int .i64 x.f1, .int .i64 x.f2, .bool x.f3, .int .i64 x.f4, .string x.f5] 1 hb (by simp [maxLen]) rfl
 have hR : Kd.R k23 23 (W.alloc (.cells #[.int .i64 x.f0, .int .i64 x.f1, .int .i64 x.f2, .bool x.f3, .int .i64 x.f4, .string x.f5] 23)) w.heap.size (fun _ => True) (.slice (some ⟨W.heap.size, 0, none⟩) 1 1) [x] :=
  ⟨fun _ _ => trivial, _, by simpa using h2, Reps.snoc (Reps.none _ _) (k23_mkM _ _ _ x) rfl⟩
 exact ⟨Kd.R_V (Kd.R_mono (Kd.R_bound hR) (fun k hk => okT_23 k hk)), _, rfl⟩
end Go.Proofs.YtbgabhknmpbgiaaDoor.S
end
section
namespace Go.Proofs.YtbgabhknmpbgiaaDoor.S
open Go.RowKit Go.Proofs.YtbgabhknmpbgiaaDoorW.PrintWords Go.Proofs.YtbgabhknmpbgiaaDoorW.PrintLast Go.Proofs.YtbgabhknmpbgiaaDoorW.PrintMore
set_option linter.unusedVariables false
set_option linter.unusedSimpArgs false
attribute [local go_sem] max2_int min2_int max_two min_two
set_option maxHeartbeats 16000000 in
set_option maxRecDepth 100000 in
theorem tickP_calls (g : Nat) (s : Sn) (now : Int) (w0 w : World) (hI : AtP w0 w g s) (hB : Below w0.heap.size w0 w) (hs : OkS s) :
  Calls Tryd.prog 24 #[.pointer (some ⟨g, 0, none⟩), .int .i64 now] w fun e w' => PPost w0 w g (s.tick now) e w' := by
 obtain ⟨id, window, timeout, retries, segs, state, base, next, tries, deadline⟩ := s
 have HI := Aside0.mk (show IsS110 w0 w g id window timeout retries segs state base next tries deadline from hI)
 have HB := Aside0.mk hB
 have HS := Aside0.mk hs
 clear hI hB hs
 obtain ⟨A4, c4, hG, hge, hC⟩ := HI.out
 have HG := Aside0.mk hG
 have c5 := (blk_cell hG 5).trans rfl
 have c9 := (blk_cell hG 9).trans rfl
 have f5 := blk_frozen hG 5
 clear hG hC hge
 by_cases k1 : state = 0
 ·have k1b : (state != 0) = false := by rw [k1]; rfl
  by_cases k2 : now < deadline
  ·have k2b : decide (now < deadline) = true := decide_eq_true k2
   have HT := Aside0.mk (show Sn.tick ⟨id, window, timeout, retries, segs, state, base, next, tries, deadline⟩ now = ([], ⟨id, window, timeout, retries, segs, state, base, next, tries, deadline⟩) by unfold Sn.tick; rw [if_pos k1, if_pos k2])
   rw [HT.out]
   clear k1 k2
   go_enter Tryd.func24, Tryd.ntmps24
   go_wp2
   go_ret
   exact ⟨_, rfl, (FV.nil k23 23 _ _), HI.out, HB.out, KeepBut.refl _ _ _⟩
  ·have k2b : decide (now < deadline) = false := decide_eq_false k2
   have c8 := (blk_cell HG.out 8).trans rfl
   have c3 := (blk_cell HG.out 3).trans rfl
   by_cases k3 : tries = retries
   ·have k3b : (tries == retries) = true := by rw [k3]; exact beq_self_eq_true _
    have HT := Aside0.mk (show Sn.tick ⟨id, window, timeout, retries, segs, state, base, next, tries, deadline⟩ now = ([abort23 id], ⟨id, window, timeout, retries, segs, 2, base, next, tries, deadline⟩) by unfold Sn.tick; rw [if_pos k1, if_neg k2, if_pos k3])
    rw [HT.out]
    clear k1 k2 k3
    go_enter Tryd.func24, Tryd.ntmps24
    go_wp2
    have HI3 := Aside0.mk HI.out.drew
    have HG3 := Aside0.mk (blk_drew HG.out)
    have HB3 := Aside0.mk HB.out.drew
    have HK3 := Aside0.mk (keep_drew (KeepBut.refl w g none))
    refine start_ (n := 9) (S := fun w' => w'.cell? ⟨g, 8, none⟩ = some (.int .i64 tries) ∧ w'.cell? ⟨g, 3, none⟩ = some (.int .i64 retries)) (ds := []) #[Yn, Yn, Yn, Yn, Yn, Yn, Yn, Yn, Yn] (by kernel_rfl) rfl rfl ⟨c8, c3⟩ (fun hHeld => ?_)
    generalize w.drew = w3 at HI3 HG3 HB3 HK3 hHeld ⊢
    refine pure_ (i := 0) (N := some 18) (v := ?_) (a' := ?_) #[Y, Yn, Yn, Yn, Yn, Yn, Yn, Yn, Yn] rfl rfl (by kernel_rfl) (fun _ _ _ h => h) (Or.inl ⟨by rfl, ?_⟩) ?_ ?_
    rotate_left
    ·intro w'
     go_simp
     with_reducible rfl
    rotate_left
    ·simp only [Act.put, List.setIfInBounds_toArray, List.set_cons_zero, List.set_cons_succ, i64_w, i32_w]
     rfl
    refine pure_ (i := 1) (N := some 19) (v := ?_) (a' := ?_) #[Y, Y, Yn, Yn, Yn, Yn, Yn, Yn, Yn] rfl rfl (by kernel_rfl) (fun _ _ _ h => h) (Or.inl ⟨by rfl, ?_⟩) ?_ ?_
    rotate_left
    ·intro w'
     go_simp
     with_reducible rfl
    rotate_left
    ·simp only [Act.put, List.setIfInBounds_toArray, List.set_cons_zero, List.set_cons_succ, i64_w, i32_w]
     rfl
    refine pure_ (i := 2) (N := some 20) (v := ?_) (a' := ?_) #[Y, Y, Y, Yn, Yn, Yn, Yn, Yn, Yn] rfl rfl (by kernel_rfl) (fun _ _ _ h => h) (Or.inl ⟨by rfl, ?_⟩) ?_ ?_
    rotate_left
    ·intro w'
     go_simp
     with_reducible rfl
    rotate_left
    ·simp only [Act.put, List.setIfInBounds_toArray, List.set_cons_zero, List.set_cons_succ, i64_w, i32_w]
     rfl
    refine pure_ (i := 4) (N := some 22) (v := ?_) (a' := ?_) #[Y, Y, Y, Yn, Y, Yn, Yn, Yn, Yn] rfl rfl (by kernel_rfl) (fun _ _ _ h => h) (Or.inl ⟨by rfl, ?_⟩) ?_ ?_
    rotate_left
    ·intro w'
     go_simp
     with_reducible rfl
    rotate_left
    ·simp only [Act.put, List.setIfInBounds_toArray, List.set_cons_zero, List.set_cons_succ, i64_w, i32_w]
     rfl
    refine pure_ (i := 5) (N := some 23) (v := ?_) (a' := ?_) #[Y, Y, Y, Yn, Y, Y, Yn, Yn, Yn] rfl rfl (by kernel_rfl) (fun _ _ _ h => h) (Or.inl ⟨by rfl, ?_⟩) ?_ ?_
    rotate_left
    ·intro w'
     go_simp
     with_reducible rfl
    rotate_left
    ·simp only [Act.put, List.setIfInBounds_toArray, List.set_cons_zero, List.set_cons_succ, i64_w, i32_w]
     rfl
    refine pure_ (i := 6) (N := some 24) (v := ?_) (a' := ?_) #[Y, Y, Y, Yn, Y, Y, Y, Yn, Yn] rfl rfl (by kernel_rfl) (fun _ _ _ h => h) (Or.inl ⟨by rfl, ?_⟩) ?_ ?_
    rotate_left
    ·intro w'
     go_simp
     with_reducible rfl
    rotate_left
    ·simp only [Act.put, List.setIfInBounds_toArray, List.set_cons_zero, List.set_cons_succ, i64_w, i32_w]
     rfl
    refine take_ (i := 3) (N := some 21) (v := ?_) (a' := ?_) #[Y, Y, Y, Y, Y, Y, Y, Yn, Yn] rfl rfl (by kernel_rfl) (fun _ _ _ h => h) (Or.inl ⟨by rfl, ?_⟩) hHeld ?_ ?_
    rotate_left
    ·rintro w' ⟨s0, s1⟩
     go_simp
     with_reducible rfl
    rotate_left
    ·simp only [Act.put, List.setIfInBounds_toArray, List.set_cons_zero, List.set_cons_succ, i64_w, i32_w]
     rfl
    refine take_ (i := 7) (N := some 25) (v := ?_) (a' := ?_) #[Y, Y, Y, Y, Y, Y, Y, Y, Yn] rfl rfl (by kernel_rfl) (fun _ _ _ h => h) (Or.inl ⟨by rfl, ?_⟩) hHeld ?_ ?_
    rotate_left
    ·rintro w' ⟨s0, s1⟩
     go_simp
     with_reducible rfl
    rotate_left
    ·simp only [Act.put, List.setIfInBounds_toArray, List.set_cons_zero, List.set_cons_succ, i64_w, i32_w]
     rfl
    refine pure_ (i := 8) (N := some 26) (v := ?_) (a' := ?_) #[Y, Y, Y, Y, Y, Y, Y, Y, Y] rfl rfl (by kernel_rfl) (fun _ _ _ h => h) (Or.inl ⟨by rfl, ?_⟩) ?_ ?_
    rotate_left
    ·intro w'
     go_simp
     with_reducible rfl
    rotate_left
    ·simp only [Act.put, List.setIfInBounds_toArray, List.set_cons_zero, List.set_cons_succ, i64_w, i32_w]
     rfl
    refine done_ (by kernel_rfl) ?_
    clear c5 c9 c8 c3 f5 hHeld
    have c0 := (blk_cell HG3.out 0).trans rfl
    have c5 := (blk_cell HG3.out 5).trans rfl
    have f5 := blk_frozen HG3.out 5
    have HS3 := Aside0.mk (HI3.out.set_5 2)
    have HB4 := Aside0.mk (HB3.out.setCell (p := ⟨g, 5, none⟩) HI3.out.ge (.int .i64 2))
    have HK4 := Aside0.mk (HK3.out.set_ 5 (.int .i64 2))
    go_wp2
    go_ret
    exact ⟨_, rfl, V_one23 (abort23 id) _ (by simp [World.setCell]) HK4.out.1, HS3.out.alloc _, HB4.out.alloc HB4.out.size _, keep_alloc HK4.out _⟩
   ·have k3b : (tries == retries) = false := beq_false_of_ne k3
    have HT := Aside0.mk (show Sn.tick ⟨id, window, timeout, retries, segs, state, base, next, tries, deadline⟩ now = Sn.send ⟨id, window, timeout, retries, segs, state, base, base, wrap64 (tries + 1), deadline⟩ now by unfold Sn.tick; rw [if_pos k1, if_neg k2, if_neg k3])
    have HOK := Aside0.mk (show OkS ⟨id, window, timeout, retries, segs, state, base, base, wrap64 (tries + 1), deadline⟩ from ⟨HS.out.len, HS.out.w0, HS.out.w1, HS.out.b0, HS.out.b1, HS.out.b0, HS.out.b1⟩)
    rw [HT.out]
    clear k1 k2 k3
    go_enter Tryd.func24, Tryd.ntmps24
    go_wp2
    have HI3 := Aside0.mk HI.out.drew
    have HG3 := Aside0.mk (blk_drew HG.out)
    have HB3 := Aside0.mk HB.out.drew
    have HK3 := Aside0.mk (keep_drew (KeepBut.refl w g none))
    refine start_ (n := 9) (S := fun w' => w'.cell? ⟨g, 8, none⟩ = some (.int .i64 tries) ∧ w'.cell? ⟨g, 3, none⟩ = some (.int .i64 retries)) (ds := []) #[Yn, Yn, Yn, Yn, Yn, Yn, Yn, Yn, Yn] (by kernel_rfl) rfl rfl ⟨c8, c3⟩ (fun hHeld => ?_)
    generalize w.drew = w3 at HI3 HG3 HB3 HK3 hHeld ⊢
    refine pure_ (i := 0) (N := some 18) (v := ?_) (a' := ?_) #[Y, Yn, Yn, Yn, Yn, Yn, Yn, Yn, Yn] rfl rfl (by kernel_rfl) (fun _ _ _ h => h) (Or.inl ⟨by rfl, ?_⟩) ?_ ?_
    rotate_left
    ·intro w'
     go_simp
     with_reducible rfl
    rotate_left
    ·simp only [Act.put, List.setIfInBounds_toArray, List.set_cons_zero, List.set_cons_succ, i64_w, i32_w]
     rfl
    refine pure_ (i := 1) (N := some 19) (v := ?_) (a' := ?_) #[Y, Y, Yn, Yn, Yn, Yn, Yn, Yn, Yn] rfl rfl (by kernel_rfl) (fun _ _ _ h => h) (Or.inl ⟨by rfl, ?_⟩) ?_ ?_
    rotate_left
    ·intro w'
     go_simp
     with_reducible rfl
    rotate_left
    ·simp only [Act.put, List.setIfInBounds_toArray, List.set_cons_zero, List.set_cons_succ, i64_w, i32_w]
     rfl
    refine pure_ (i := 2) (N := some 20) (v := ?_) (a' := ?_) #[Y, Y, Y, Yn, Yn, Yn, Yn, Yn, Yn] rfl rfl (by kernel_rfl) (fun _ _ _ h => h) (Or.inl ⟨by rfl, ?_⟩) ?_ ?_
    rotate_left
    ·intro w'
     go_simp
     with_reducible rfl
    rotate_left
    ·simp only [Act.put, List.setIfInBounds_toArray, List.set_cons_zero, List.set_cons_succ, i64_w, i32_w]
     rfl
    refine pure_ (i := 4) (N := some 22) (v := ?_) (a' := ?_) #[Y, Y, Y, Yn, Y, Yn, Yn, Yn, Yn] rfl rfl (by kernel_rfl) (fun _ _ _ h => h) (Or.inl ⟨by rfl, ?_⟩) ?_ ?_
    rotate_left
    ·intro w'
     go_simp
     with_reducible rfl
    rotate_left
    ·simp only [Act.put, List.setIfInBounds_toArray, List.set_cons_zero, List.set_cons_succ, i64_w, i32_w]
     rfl
    refine pure_ (i := 5) (N := some 23) (v := ?_) (a' := ?_) #[Y, Y, Y, Yn, Y, Y, Yn, Yn, Yn] rfl rfl (by kernel_rfl) (fun _ _ _ h => h) (Or.inl ⟨by rfl, ?_⟩) ?_ ?_
    rotate_left
    ·intro w'
     go_simp
     with_reducible rfl
    rotate_left
    ·simp only [Act.put, List.setIfInBounds_toArray, List.set_cons_zero, List.set_cons_succ, i64_w, i32_w]
     rfl
    refine pure_ (i := 6) (N := some 24) (v := ?_) (a' := ?_) #[Y, Y, Y, Yn, Y, Y, Y, Yn, Yn] rfl rfl (by kernel_rfl) (fun _ _ _ h => h) (Or.inl ⟨by rfl, ?_⟩) ?_ ?_
    rotate_left
    ·intro w'
     go_simp
     with_reducible rfl
    rotate_left
    ·simp only [Act.put, List.setIfInBounds_toArray, List.set_cons_zero, List.set_cons_succ, i64_w, i32_w]
     rfl
    refine take_ (i := 3) (N := some 21) (v := ?_) (a' := ?_) #[Y, Y, Y, Y, Y, Y, Y, Yn, Yn] rfl rfl (by kernel_rfl) (fun _ _ _ h => h) (Or.inl ⟨by rfl, ?_⟩) hHeld ?_ ?_
    rotate_left
    ·rintro w' ⟨s0, s1⟩
     go_simp
     with_reducible rfl
    rotate_left
    ·simp only [Act.put, List.setIfInBounds_toArray, List.set_cons_zero, List.set_cons_succ, i64_w, i32_w]
     rfl
    refine take_ (i := 7) (N := some 25) (v := ?_) (a' := ?_) #[Y, Y, Y, Y, Y, Y, Y, Y, Yn] rfl rfl (by kernel_rfl) (fun _ _ _ h => h) (Or.inl ⟨by rfl, ?_⟩) hHeld ?_ ?_
    rotate_left
    ·rintro w' ⟨s0, s1⟩
     go_simp
     with_reducible rfl
    rotate_left
    ·simp only [Act.put, List.setIfInBounds_toArray, List.set_cons_zero, List.set_cons_succ, i64_w, i32_w]
     rfl
    refine pure_ (i := 8) (N := some 26) (v := ?_) (a' := ?_) #[Y, Y, Y, Y, Y, Y, Y, Y, Y] rfl rfl (by kernel_rfl) (fun _ _ _ h => h) (Or.inl ⟨by rfl, ?_⟩) ?_ ?_
    rotate_left
    ·intro w'
     go_simp
     with_reducible rfl
    rotate_left
    ·simp only [Act.put, List.setIfInBounds_toArray, List.set_cons_zero, List.set_cons_succ, i64_w, i32_w]
     rfl
    refine done_ (by kernel_rfl) ?_
    clear c5 c9 c8 c3 f5 hHeld
    have c8 := (blk_cell HG3.out 8).trans rfl
    have f8 := blk_frozen HG3.out 8
    have c6 := (blk_cell HG3.out 6).trans rfl
    have f7 := blk_frozen HG3.out 7
    have c7 := (blk_cell HG3.out 7).trans rfl
    have HS3 := Aside0.mk ((HI3.out.set_8 (wrap64 (tries + 1))).set_7 base)
    have HB4 := Aside0.mk ((HB3.out.setCell (p := ⟨g, 8, none⟩) HI3.out.ge (.int .i64 (wrap64 (tries + 1)))).setCell (p := ⟨g, 7, none⟩) HI3.out.ge (.int .i64 base))
    have HK4 := Aside0.mk ((HK3.out.set_ 8 (.int .i64 (wrap64 (tries + 1)))).set_ 7 (.int .i64 base))
    go_wp2_with (go_at_call 64; (with_reducible refine (sendP_calls g ⟨id, window, timeout, retries, segs, state, base, base, wrap64 (tries + 1), deadline⟩ now w0 _ HS3.out HB4.out HOK.out).mono ?_); rintro e w9 ⟨v, rfl, hv, hi, hb, hk⟩; have HV9 := Aside0.mk hv; have HI9 := Aside0.mk hi; have HB9 := Aside0.mk hb; have HK9 := Aside0.mk hk; clear hv hi hb hk)
    go_ret
    exact ⟨v, rfl, (by first | exact FV.low HV9.out HK4.out.1 | exact Kd.V_mono HV9.out (fun k hk => okT_le hk HK4.out.1)), HI9.out, HB9.out, KeepBut.trans HK4.out HK9.out (Or.inl rfl)⟩
 ·have k1b : (state != 0) = true := bne_iff_ne.mpr k1
  have HT := Aside0.mk (show Sn.tick ⟨id, window, timeout, retries, segs, state, base, next, tries, deadline⟩ now = ([], ⟨id, window, timeout, retries, segs, state, base, next, tries, deadline⟩) by unfold Sn.tick; rw [if_neg k1])
  rw [HT.out]
  clear k1
  go_enter Tryd.func24, Tryd.ntmps24
  go_wp2
  go_ret
  exact ⟨_, rfl, (FV.nil k23 23 _ _), HI.out, HB.out, KeepBut.refl _ _ _⟩
end Go.Proofs.YtbgabhknmpbgiaaDoor.S
end
