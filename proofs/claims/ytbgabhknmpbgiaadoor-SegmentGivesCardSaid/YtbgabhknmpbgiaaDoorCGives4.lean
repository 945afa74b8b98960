/- SegmentGivesCard: one part of the proof that the law answers true for every input, and that its arguments read afterwards as before. No condition. -/
import Derived.Test.YtbgabhknmpbgiaaDoorCGives3
import Derived.Outline
import Derived.Deep.OwnRows
import Derived.Deep.MidRow
import Derived.LoopTactic
import Derived.ProofKit
import Derived.Deep.Slices
import Derived.SizedLaws
import Derived.OpenShut
import Derived.DataReads
import Derived.SevenTiedAt
import Derived.WalkKit
import Derived.ShutString
import Derived.ChangeOld
import Derived.Below
import Derived.Test.YtbgabhknmpbgiaaDoorCards
import Derived.Test.YtbgabhknmpbgiaaDoorRows
import Derived.Test.YtbgabhknmpbgiaaDoorTie
section
namespace Go.Proofs.YtbgabhknmpbgiaaDoor.S
open Go.RowKit Go.Proofs.YtbgabhknmpbgiaaDoorW.PrintWords Go.Proofs.YtbgabhknmpbgiaaDoorW.PrintLast Go.Proofs.YtbgabhknmpbgiaaDoorW.PrintMore
set_option linter.unusedVariables false
set_option linter.unusedSimpArgs false
attribute [local go_sem] max2_int min2_int max_two min_two max_three min_three
theorem below_setRow {B g : Nat} {w W : World} (h : Below B w W) (hg : B ≤ g) (cs : Array Value) : Below B w (W.setRow g cs) :=
  ⟨h.os, h.tape, h.output, by simp; exact h.size, fun i hi => (setRow_other W g i cs (by omega)).trans (h.block i hi)⟩
def decR (n kind id number : Int) (more : Bool) (window : Int) (text : ByteArray) (en ce : Int) : S23 × Int := if en = 0 then (if n = 6 then (if mx (mx kind id) window > 1000 then (z23, 2) else if ce = 0 then (⟨kind, id, number, more, window, text⟩, 0) else (z23, ce)) else (z23, 2)) else (z23, 2)
def DecPost (w : World) (r : S23 × Int) (e : Ending) (w' : World) : Prop := e = .returned (.tuple #[.agg #[.int .i64 r.1.f0, .int .i64 r.1.f1, .int .i64 r.1.f2, .bool r.1.f3, .int .i64 r.1.f4, .string r.1.f5], .int .i64 r.2]) ∧ Below w.heap.size w w'
set_option maxHeartbeats 16000000 in
set_option maxRecDepth 100000 in
theorem decode_calls (k : Nat) (S : ByteArray) (n kind id number : Int) (more : Bool) (window : Int) (text : ByteArray) (en : Int) (s1 s2 s3 s4 s5 s6 s7 s8 : ByteArray) (p1 e1 p2 e2 p3 e3 p4 e4 p5 e5 p6 e6 p7 e7 p8 e8 : Int) (h1 : codec_Reader_List.f k S 0 0 = some (n, s1, p1, e1)) (h2 : codec_Reader_Unsigned.f k s1 p1 e1 = some (kind, s2, p2, e2)) (h3 : codec_Reader_Unsigned.f k s2 p2 e2 = some (id, s3, p3, e3)) (h4 : codec_Reader_Signed.f k s3 p3 e3 = some (number, s4, p4, e4)) (h5 : codec_Reader_Bool.f k s4 p4 e4 = some (more, s5, p5, e5)) (h6 : codec_Reader_Unsigned.f k s5 p5 e5 = some (window, s6, p6, e6)) (h7 : codec_Reader_Text.f k s6 p6 e6 = some (text, s7, p7, e7)) (h8 : codec_Reader_End.f s7 p7 e7 = some (en, s8, p8, e8)) (ce : Int) (w : World) (hG : Glob w) (hc : segment_Check.f k kind id number more window text = some ce) (hu : 0 ≤ kind ∧ 0 ≤ id ∧ 0 ≤ window) :
    Calls Tryd.prog 14 #[.string S] w fun e w' => DecPost w (decR n kind id number more window text en ce) e w' := by
  have HG := Aside0.mk hG
  have HR1 := Aside0.mk h1
  have HR2 := Aside0.mk h2
  have HR3 := Aside0.mk h3
  have HR4 := Aside0.mk h4
  have HR5 := Aside0.mk h5
  have HR6 := Aside0.mk h6
  have HR7 := Aside0.mk h7
  have HR8 := Aside0.mk h8
  have HCK := Aside0.mk hc
  have HU := Aside0.mk hu
  clear hG hc hu h1 h2 h3 h4 h5 h6 h7 h8
  by_cases q0 : en = 0
  · have q0b : (en != 0) = false := by rw [q0]; rfl
    by_cases q1 : n = 6
    · have q1b : (n != 6) = false := by rw [q1]; rfl
      obtain ⟨M, hM⟩ : ∃ M, (if (if kind < id then id else kind) < window then window else (if kind < id then id else kind)) = M := ⟨_, rfl⟩
      have HM := Aside0.mk (show mx (mx kind id) window = M from hM)
      by_cases q2 : M > 1000
      · have q2b : decide (1000 < M) = true := decide_eq_true q2
        rw [show decR n kind id number more window text en ce = (z23, 2) from by unfold decR; rw [if_pos q0, if_pos q1, HM.out, if_pos q2]]
        clear q0 q1 q2
        go_enter Tryd.func14, Tryd.ntmps14
        go_wp2_with (first | ((with_reducible refine gate_dst (N := 2) rfl ?_); refine box_event ?hg (N := 2) ?hd (cs := #[.int .i64 0, .int .i64 0, .int .i64 0, .bool false, .int .i64 0, .string ⟨#[]⟩]) (t := 23) ?hr ?_; (case hd => rfl); (case hg => rfl); (case hr => first | (go_simp; done) | (go_simp; rfl)); intro gq hgq wa hbox hb; have HQa := Aside0.mk hbox; have HBa := Aside0.mk hb; have HQW := Aside0.mk (show w.heap.size ≤ gq by rw [hgq]; exact Nat.le_refl _); have HGa := Aside0.mk (Glob.below HG.out hb); clear hb hbox hgq) | (go_at_call 45; (with_reducible refine (codec_NewReader.calls S S 0 0 wa wa (Glob.below HG.out HBa.out) (Below.refl _ _) rfl).mono ?_); rintro e wb ⟨gr, rfl, hi, hb, hb2⟩; have HI0 := Aside0.mk hi; have HB0 := Aside0.mk hb; clear hi hb hb2) | (go_at_call 46; (with_reducible refine (codec_Reader_List.calls k gr S 0 0 n s1 p1 e1 wa _ HGa.out HI0.out HB0.out HR1.out).mono ?_); rintro e w1 ⟨rfl, hi, hb, hk⟩; have HI1 := Aside0.mk hi; have HB1 := Aside0.mk hb; clear hi hb hk) | (go_at_call 47; (with_reducible refine (codec_Reader_Unsigned.calls k gr s1 p1 e1 kind s2 p2 e2 wa _ HGa.out HI1.out HB1.out HR2.out).mono ?_); rintro e w2 ⟨rfl, hi, hb, hk⟩; have HI2 := Aside0.mk hi; have HB2 := Aside0.mk hb; clear hi hb hk) | (go_at_call 47; (with_reducible refine (codec_Reader_Unsigned.calls k gr s2 p2 e2 id s3 p3 e3 wa _ HGa.out HI2.out HB2.out HR3.out).mono ?_); rintro e w3 ⟨rfl, hi, hb, hk⟩; have HI3 := Aside0.mk hi; have HB3 := Aside0.mk hb; clear hi hb hk) | (go_at_call 48; (with_reducible refine (codec_Reader_Signed.calls k gr s3 p3 e3 number s4 p4 e4 wa _ HGa.out HI3.out HB3.out HR4.out).mono ?_); rintro e w4 ⟨rfl, hi, hb, hk⟩; have HI4 := Aside0.mk hi; have HB4 := Aside0.mk hb; clear hi hb hk) | (go_at_call 49; (with_reducible refine (codec_Reader_Bool.calls k gr s4 p4 e4 more s5 p5 e5 wa _ HGa.out HI4.out HB4.out HR5.out).mono ?_); rintro e w5 ⟨rfl, hi, hb, hk⟩; have HI5 := Aside0.mk hi; have HB5 := Aside0.mk hb; clear hi hb hk) | (go_at_call 47; (with_reducible refine (codec_Reader_Unsigned.calls k gr s5 p5 e5 window s6 p6 e6 wa _ HGa.out HI5.out HB5.out HR6.out).mono ?_); rintro e w6 ⟨rfl, hi, hb, hk⟩; have HI6 := Aside0.mk hi; have HB6 := Aside0.mk hb; clear hi hb hk) | (go_at_call 50; (with_reducible refine (codec_Reader_Text.calls k gr s6 p6 e6 text s7 p7 e7 wa _ HGa.out HI6.out HB6.out HR7.out).mono ?_); rintro e w7 ⟨rfl, hi, hb, hk⟩; have HI7 := Aside0.mk hi; have HB7 := Aside0.mk hb; clear hi hb hk) | (go_at_call 51; (with_reducible refine (codec_Reader_End.calls gr s7 p7 e7 en s8 p8 e8 wa _ HGa.out HI7.out HB7.out HR8.out).mono ?_); rintro e w8 ⟨rfl, hi, hb, hk⟩; have HI8 := Aside0.mk hi; have HB8 := Aside0.mk hb; clear hi hb hk) | (refine wpList_store_row rfl 23 (.tmp 2) (.tmp 44) rfl gq #[.int .i64 0, .int .i64 0, .int .i64 0, .bool false, .int .i64 0, .string ⟨#[]⟩] rfl rfl 23 #[.int .i64 0, .int .i64 0, .int .i64 0, .bool false, .int .i64 0, .string ⟨#[]⟩] (blk_below HQa.out HB8.out) (by kernel_rfl) rfl (by simp [Value.oneCell']) ?_))
        refine bodyPost_ret (results_ct rfl _ _ gq 23 #[.int .i64 0, .int .i64 0, .int .i64 0, .bool false, .int .i64 0, .string ⟨#[]⟩] (0, 0) _ rfl (setRow_heap _ _ _ _ _ _ (blk_below HQa.out HB8.out)) Tryd.underlying23 rfl (by kernel_rfl)) rfl ⟨rfl, ?_⟩
        exact below_setRow (below_step HBa.out HB8.out) HQW.out _
      · have q2b : decide (1000 < M) = false := decide_eq_false q2
        have hsm : kind ≤ 1000 ∧ id ≤ 1000 ∧ window ≤ 1000 := by
          have h2 := hM
          split at h2 <;> split at h2 <;> omega
        have wk : wrap64 kind = kind := by have := HU.out; unfold wrap64; omega
        have wi : wrap64 id = id := by have := HU.out; unfold wrap64; omega
        have ww : wrap64 window = window := by have := HU.out; unfold wrap64; omega
        by_cases q3 : ce = 0
        · have q3b : (ce != 0) = false := by rw [q3]; rfl
          rw [show decR n kind id number more window text en ce = (⟨kind, id, number, more, window, text⟩, 0) from by unfold decR; rw [if_pos q0, if_pos q1, HM.out, if_neg q2, if_pos q3]]
          clear q0 q1 q2 q3 hsm
          go_enter Tryd.func14, Tryd.ntmps14
          go_wp2_with (first | ((with_reducible refine gate_dst (N := 2) rfl ?_); refine box_event ?hg (N := 2) ?hd (cs := #[.int .i64 0, .int .i64 0, .int .i64 0, .bool false, .int .i64 0, .string ⟨#[]⟩]) (t := 23) ?hr ?_; (case hd => rfl); (case hg => rfl); (case hr => first | (go_simp; done) | (go_simp; rfl)); intro gq hgq wa hbox hb; have HQa := Aside0.mk hbox; have HBa := Aside0.mk hb; have HQW := Aside0.mk (show w.heap.size ≤ gq by rw [hgq]; exact Nat.le_refl _); have HGa := Aside0.mk (Glob.below HG.out hb); clear hb hbox hgq) | (go_at_call 45; (with_reducible refine (codec_NewReader.calls S S 0 0 wa wa (Glob.below HG.out HBa.out) (Below.refl _ _) rfl).mono ?_); rintro e wb ⟨gr, rfl, hi, hb, hb2⟩; have HI0 := Aside0.mk hi; have HB0 := Aside0.mk hb; clear hi hb hb2) | (go_at_call 46; (with_reducible refine (codec_Reader_List.calls k gr S 0 0 n s1 p1 e1 wa _ HGa.out HI0.out HB0.out HR1.out).mono ?_); rintro e w1 ⟨rfl, hi, hb, hk⟩; have HI1 := Aside0.mk hi; have HB1 := Aside0.mk hb; clear hi hb hk) | (go_at_call 47; (with_reducible refine (codec_Reader_Unsigned.calls k gr s1 p1 e1 kind s2 p2 e2 wa _ HGa.out HI1.out HB1.out HR2.out).mono ?_); rintro e w2 ⟨rfl, hi, hb, hk⟩; have HI2 := Aside0.mk hi; have HB2 := Aside0.mk hb; clear hi hb hk) | (go_at_call 47; (with_reducible refine (codec_Reader_Unsigned.calls k gr s2 p2 e2 id s3 p3 e3 wa _ HGa.out HI2.out HB2.out HR3.out).mono ?_); rintro e w3 ⟨rfl, hi, hb, hk⟩; have HI3 := Aside0.mk hi; have HB3 := Aside0.mk hb; clear hi hb hk) | (go_at_call 48; (with_reducible refine (codec_Reader_Signed.calls k gr s3 p3 e3 number s4 p4 e4 wa _ HGa.out HI3.out HB3.out HR4.out).mono ?_); rintro e w4 ⟨rfl, hi, hb, hk⟩; have HI4 := Aside0.mk hi; have HB4 := Aside0.mk hb; clear hi hb hk) | (go_at_call 49; (with_reducible refine (codec_Reader_Bool.calls k gr s4 p4 e4 more s5 p5 e5 wa _ HGa.out HI4.out HB4.out HR5.out).mono ?_); rintro e w5 ⟨rfl, hi, hb, hk⟩; have HI5 := Aside0.mk hi; have HB5 := Aside0.mk hb; clear hi hb hk) | (go_at_call 47; (with_reducible refine (codec_Reader_Unsigned.calls k gr s5 p5 e5 window s6 p6 e6 wa _ HGa.out HI5.out HB5.out HR6.out).mono ?_); rintro e w6 ⟨rfl, hi, hb, hk⟩; have HI6 := Aside0.mk hi; have HB6 := Aside0.mk hb; clear hi hb hk) | (go_at_call 50; (with_reducible refine (codec_Reader_Text.calls k gr s6 p6 e6 text s7 p7 e7 wa _ HGa.out HI6.out HB6.out HR7.out).mono ?_); rintro e w7 ⟨rfl, hi, hb, hk⟩; have HI7 := Aside0.mk hi; have HB7 := Aside0.mk hb; clear hi hb hk) | (go_at_call 51; (with_reducible refine (codec_Reader_End.calls gr s7 p7 e7 en s8 p8 e8 wa _ HGa.out HI7.out HB7.out HR8.out).mono ?_); rintro e w8 ⟨rfl, hi, hb, hk⟩; have HI8 := Aside0.mk hi; have HB8 := Aside0.mk hb; clear hi hb hk) | ((with_reducible refine gate_dst (N := 12) rfl ?_); refine box_event ?hg (N := 12) ?hd (cs := #[.int .i64 0, .int .i64 0, .int .i64 0, .bool false, .int .i64 0, .string ⟨#[]⟩]) (t := 23) ?hr ?_; (case hd => rfl); (case hg => rfl); (case hr => first | (go_simp; done) | (go_simp; rfl)); intro gp hgp wp hbox hb; have HPp := Aside0.mk hbox; have HQp := Aside0.mk (blk_below (blk_below HQa.out HB8.out) hb); have HBp := Aside0.mk (below_step (below_step HBa.out HB8.out) hb); have HNE := Aside0.mk (show gq ≠ gp by rw [hgp]; exact Nat.ne_of_lt (blk_lt (blk_below HQa.out HB8.out))); have HGP := Aside0.mk (show w.heap.size ≤ gp by rw [hgp]; exact (below_step HBa.out HB8.out).size); clear hb hbox hgp) | (refine wpList_store_row rfl 23 (.tmp 12) (.tmp 54) rfl gp #[.int .i64 kind, .int .i64 id, .int .i64 number, .bool more, .int .i64 window, .string text] rfl rfl 23 #[.int .i64 0, .int .i64 0, .int .i64 0, .bool false, .int .i64 0, .string ⟨#[]⟩] HPp.out (by kernel_rfl) rfl (by simp [Value.oneCell']) ?_; have HPr := Aside0.mk (setRow_heap _ _ _ #[.int .i64 kind, .int .i64 id, .int .i64 number, .bool more, .int .i64 window, .string text] _ _ HPp.out); have HQr := Aside0.mk ((setRow_other wp gp gq #[.int .i64 kind, .int .i64 id, .int .i64 number, .bool more, .int .i64 window, .string text] HNE.out).trans HQp.out); have HBr := Aside0.mk (below_setRow HBp.out HGP.out #[.int .i64 kind, .int .i64 id, .int .i64 number, .bool more, .int .i64 window, .string text]); generalize wp.setRow gp #[.int .i64 kind, .int .i64 id, .int .i64 number, .bool more, .int .i64 window, .string text] = wr at HPr HQr HBr ⊢) | (refine wpList_load_row rfl 23 (.tmp 12) rfl gp rfl 23 #[.int .i64 kind, .int .i64 id, .int .i64 number, .bool more, .int .i64 window, .string text] (0, 0) _ HPr.out Tryd.underlying23 rfl (by kernel_rfl) ?_) | (go_at_call 16; (with_reducible refine (segment_Check.calls k kind id number more window text ce _ (Glob.below HG.out HBr.out) HCK.out).mono ?_); rintro e wc ⟨rfl, hb⟩; have HPc := Aside0.mk (blk_below HPr.out hb); have HQc := Aside0.mk (blk_below HQr.out hb); have HBc := Aside0.mk (below_step HBr.out hb); clear hb) | (refine wpList_store_row rfl 23 (.tmp 2) (.tmp 59) rfl gq #[.int .i64 0, .int .i64 0, .int .i64 0, .bool false, .int .i64 0, .string ⟨#[]⟩] rfl rfl 23 #[.int .i64 0, .int .i64 0, .int .i64 0, .bool false, .int .i64 0, .string ⟨#[]⟩] HQc.out (by kernel_rfl) rfl (by simp [Value.oneCell']) ?_) | (refine wpList_load_row rfl 23 (.tmp 12) rfl gp rfl 23 #[.int .i64 kind, .int .i64 id, .int .i64 number, .bool more, .int .i64 window, .string text] (0, 0) _ HPc.out Tryd.underlying23 rfl (by kernel_rfl) ?_) | (refine wpList_store_row rfl 23 (.tmp 2) (.tmp 61) rfl gq #[.int .i64 kind, .int .i64 id, .int .i64 number, .bool more, .int .i64 window, .string text] rfl rfl 23 #[.int .i64 0, .int .i64 0, .int .i64 0, .bool false, .int .i64 0, .string ⟨#[]⟩] HQc.out (by kernel_rfl) rfl (by simp [Value.oneCell']) ?_))
          refine bodyPost_ret (results_ct rfl _ _ gq 23 #[.int .i64 kind, .int .i64 id, .int .i64 number, .bool more, .int .i64 window, .string text] (0, 0) _ rfl (setRow_heap _ _ _ _ _ _ HQc.out) Tryd.underlying23 rfl (by kernel_rfl)) rfl ⟨rfl, ?_⟩
          exact below_setRow HBc.out HQW.out _
        · have q3b : (ce != 0) = true := bne_iff_ne.mpr q3
          rw [show decR n kind id number more window text en ce = (z23, ce) from by unfold decR; rw [if_pos q0, if_pos q1, HM.out, if_neg q2, if_neg q3]]
          clear q0 q1 q2 q3 hsm
          go_enter Tryd.func14, Tryd.ntmps14
          go_wp2_with (first | ((with_reducible refine gate_dst (N := 2) rfl ?_); refine box_event ?hg (N := 2) ?hd (cs := #[.int .i64 0, .int .i64 0, .int .i64 0, .bool false, .int .i64 0, .string ⟨#[]⟩]) (t := 23) ?hr ?_; (case hd => rfl); (case hg => rfl); (case hr => first | (go_simp; done) | (go_simp; rfl)); intro gq hgq wa hbox hb; have HQa := Aside0.mk hbox; have HBa := Aside0.mk hb; have HQW := Aside0.mk (show w.heap.size ≤ gq by rw [hgq]; exact Nat.le_refl _); have HGa := Aside0.mk (Glob.below HG.out hb); clear hb hbox hgq) | (go_at_call 45; (with_reducible refine (codec_NewReader.calls S S 0 0 wa wa (Glob.below HG.out HBa.out) (Below.refl _ _) rfl).mono ?_); rintro e wb ⟨gr, rfl, hi, hb, hb2⟩; have HI0 := Aside0.mk hi; have HB0 := Aside0.mk hb; clear hi hb hb2) | (go_at_call 46; (with_reducible refine (codec_Reader_List.calls k gr S 0 0 n s1 p1 e1 wa _ HGa.out HI0.out HB0.out HR1.out).mono ?_); rintro e w1 ⟨rfl, hi, hb, hk⟩; have HI1 := Aside0.mk hi; have HB1 := Aside0.mk hb; clear hi hb hk) | (go_at_call 47; (with_reducible refine (codec_Reader_Unsigned.calls k gr s1 p1 e1 kind s2 p2 e2 wa _ HGa.out HI1.out HB1.out HR2.out).mono ?_); rintro e w2 ⟨rfl, hi, hb, hk⟩; have HI2 := Aside0.mk hi; have HB2 := Aside0.mk hb; clear hi hb hk) | (go_at_call 47; (with_reducible refine (codec_Reader_Unsigned.calls k gr s2 p2 e2 id s3 p3 e3 wa _ HGa.out HI2.out HB2.out HR3.out).mono ?_); rintro e w3 ⟨rfl, hi, hb, hk⟩; have HI3 := Aside0.mk hi; have HB3 := Aside0.mk hb; clear hi hb hk) | (go_at_call 48; (with_reducible refine (codec_Reader_Signed.calls k gr s3 p3 e3 number s4 p4 e4 wa _ HGa.out HI3.out HB3.out HR4.out).mono ?_); rintro e w4 ⟨rfl, hi, hb, hk⟩; have HI4 := Aside0.mk hi; have HB4 := Aside0.mk hb; clear hi hb hk) | (go_at_call 49; (with_reducible refine (codec_Reader_Bool.calls k gr s4 p4 e4 more s5 p5 e5 wa _ HGa.out HI4.out HB4.out HR5.out).mono ?_); rintro e w5 ⟨rfl, hi, hb, hk⟩; have HI5 := Aside0.mk hi; have HB5 := Aside0.mk hb; clear hi hb hk) | (go_at_call 47; (with_reducible refine (codec_Reader_Unsigned.calls k gr s5 p5 e5 window s6 p6 e6 wa _ HGa.out HI5.out HB5.out HR6.out).mono ?_); rintro e w6 ⟨rfl, hi, hb, hk⟩; have HI6 := Aside0.mk hi; have HB6 := Aside0.mk hb; clear hi hb hk) | (go_at_call 50; (with_reducible refine (codec_Reader_Text.calls k gr s6 p6 e6 text s7 p7 e7 wa _ HGa.out HI6.out HB6.out HR7.out).mono ?_); rintro e w7 ⟨rfl, hi, hb, hk⟩; have HI7 := Aside0.mk hi; have HB7 := Aside0.mk hb; clear hi hb hk) | (go_at_call 51; (with_reducible refine (codec_Reader_End.calls gr s7 p7 e7 en s8 p8 e8 wa _ HGa.out HI7.out HB7.out HR8.out).mono ?_); rintro e w8 ⟨rfl, hi, hb, hk⟩; have HI8 := Aside0.mk hi; have HB8 := Aside0.mk hb; clear hi hb hk) | ((with_reducible refine gate_dst (N := 12) rfl ?_); refine box_event ?hg (N := 12) ?hd (cs := #[.int .i64 0, .int .i64 0, .int .i64 0, .bool false, .int .i64 0, .string ⟨#[]⟩]) (t := 23) ?hr ?_; (case hd => rfl); (case hg => rfl); (case hr => first | (go_simp; done) | (go_simp; rfl)); intro gp hgp wp hbox hb; have HPp := Aside0.mk hbox; have HQp := Aside0.mk (blk_below (blk_below HQa.out HB8.out) hb); have HBp := Aside0.mk (below_step (below_step HBa.out HB8.out) hb); have HNE := Aside0.mk (show gq ≠ gp by rw [hgp]; exact Nat.ne_of_lt (blk_lt (blk_below HQa.out HB8.out))); have HGP := Aside0.mk (show w.heap.size ≤ gp by rw [hgp]; exact (below_step HBa.out HB8.out).size); clear hb hbox hgp) | (refine wpList_store_row rfl 23 (.tmp 12) (.tmp 54) rfl gp #[.int .i64 kind, .int .i64 id, .int .i64 number, .bool more, .int .i64 window, .string text] rfl rfl 23 #[.int .i64 0, .int .i64 0, .int .i64 0, .bool false, .int .i64 0, .string ⟨#[]⟩] HPp.out (by kernel_rfl) rfl (by simp [Value.oneCell']) ?_; have HPr := Aside0.mk (setRow_heap _ _ _ #[.int .i64 kind, .int .i64 id, .int .i64 number, .bool more, .int .i64 window, .string text] _ _ HPp.out); have HQr := Aside0.mk ((setRow_other wp gp gq #[.int .i64 kind, .int .i64 id, .int .i64 number, .bool more, .int .i64 window, .string text] HNE.out).trans HQp.out); have HBr := Aside0.mk (below_setRow HBp.out HGP.out #[.int .i64 kind, .int .i64 id, .int .i64 number, .bool more, .int .i64 window, .string text]); generalize wp.setRow gp #[.int .i64 kind, .int .i64 id, .int .i64 number, .bool more, .int .i64 window, .string text] = wr at HPr HQr HBr ⊢) | (refine wpList_load_row rfl 23 (.tmp 12) rfl gp rfl 23 #[.int .i64 kind, .int .i64 id, .int .i64 number, .bool more, .int .i64 window, .string text] (0, 0) _ HPr.out Tryd.underlying23 rfl (by kernel_rfl) ?_) | (go_at_call 16; (with_reducible refine (segment_Check.calls k kind id number more window text ce _ (Glob.below HG.out HBr.out) HCK.out).mono ?_); rintro e wc ⟨rfl, hb⟩; have HPc := Aside0.mk (blk_below HPr.out hb); have HQc := Aside0.mk (blk_below HQr.out hb); have HBc := Aside0.mk (below_step HBr.out hb); clear hb) | (refine wpList_store_row rfl 23 (.tmp 2) (.tmp 59) rfl gq #[.int .i64 0, .int .i64 0, .int .i64 0, .bool false, .int .i64 0, .string ⟨#[]⟩] rfl rfl 23 #[.int .i64 0, .int .i64 0, .int .i64 0, .bool false, .int .i64 0, .string ⟨#[]⟩] HQc.out (by kernel_rfl) rfl (by simp [Value.oneCell']) ?_) | (refine wpList_load_row rfl 23 (.tmp 12) rfl gp rfl 23 #[.int .i64 kind, .int .i64 id, .int .i64 number, .bool more, .int .i64 window, .string text] (0, 0) _ HPc.out Tryd.underlying23 rfl (by kernel_rfl) ?_) | (refine wpList_store_row rfl 23 (.tmp 2) (.tmp 61) rfl gq #[.int .i64 kind, .int .i64 id, .int .i64 number, .bool more, .int .i64 window, .string text] rfl rfl 23 #[.int .i64 0, .int .i64 0, .int .i64 0, .bool false, .int .i64 0, .string ⟨#[]⟩] HQc.out (by kernel_rfl) rfl (by simp [Value.oneCell']) ?_))
          refine bodyPost_ret (results_ct rfl _ _ gq 23 #[.int .i64 0, .int .i64 0, .int .i64 0, .bool false, .int .i64 0, .string ⟨#[]⟩] (0, 0) _ rfl (setRow_heap _ _ _ _ _ _ HQc.out) Tryd.underlying23 rfl (by kernel_rfl)) rfl ⟨rfl, ?_⟩
          exact below_setRow HBc.out HQW.out _
    · have q1b : (n != 6) = true := bne_iff_ne.mpr q1
      rw [show decR n kind id number more window text en ce = (z23, 2) from by unfold decR; rw [if_pos q0, if_neg q1]]
      clear q0 q1
      go_enter Tryd.func14, Tryd.ntmps14
      go_wp2_with (first | ((with_reducible refine gate_dst (N := 2) rfl ?_); refine box_event ?hg (N := 2) ?hd (cs := #[.int .i64 0, .int .i64 0, .int .i64 0, .bool false, .int .i64 0, .string ⟨#[]⟩]) (t := 23) ?hr ?_; (case hd => rfl); (case hg => rfl); (case hr => first | (go_simp; done) | (go_simp; rfl)); intro gq hgq wa hbox hb; have HQa := Aside0.mk hbox; have HBa := Aside0.mk hb; have HQW := Aside0.mk (show w.heap.size ≤ gq by rw [hgq]; exact Nat.le_refl _); have HGa := Aside0.mk (Glob.below HG.out hb); clear hb hbox hgq) | (go_at_call 45; (with_reducible refine (codec_NewReader.calls S S 0 0 wa wa (Glob.below HG.out HBa.out) (Below.refl _ _) rfl).mono ?_); rintro e wb ⟨gr, rfl, hi, hb, hb2⟩; have HI0 := Aside0.mk hi; have HB0 := Aside0.mk hb; clear hi hb hb2) | (go_at_call 46; (with_reducible refine (codec_Reader_List.calls k gr S 0 0 n s1 p1 e1 wa _ HGa.out HI0.out HB0.out HR1.out).mono ?_); rintro e w1 ⟨rfl, hi, hb, hk⟩; have HI1 := Aside0.mk hi; have HB1 := Aside0.mk hb; clear hi hb hk) | (go_at_call 47; (with_reducible refine (codec_Reader_Unsigned.calls k gr s1 p1 e1 kind s2 p2 e2 wa _ HGa.out HI1.out HB1.out HR2.out).mono ?_); rintro e w2 ⟨rfl, hi, hb, hk⟩; have HI2 := Aside0.mk hi; have HB2 := Aside0.mk hb; clear hi hb hk) | (go_at_call 47; (with_reducible refine (codec_Reader_Unsigned.calls k gr s2 p2 e2 id s3 p3 e3 wa _ HGa.out HI2.out HB2.out HR3.out).mono ?_); rintro e w3 ⟨rfl, hi, hb, hk⟩; have HI3 := Aside0.mk hi; have HB3 := Aside0.mk hb; clear hi hb hk) | (go_at_call 48; (with_reducible refine (codec_Reader_Signed.calls k gr s3 p3 e3 number s4 p4 e4 wa _ HGa.out HI3.out HB3.out HR4.out).mono ?_); rintro e w4 ⟨rfl, hi, hb, hk⟩; have HI4 := Aside0.mk hi; have HB4 := Aside0.mk hb; clear hi hb hk) | (go_at_call 49; (with_reducible refine (codec_Reader_Bool.calls k gr s4 p4 e4 more s5 p5 e5 wa _ HGa.out HI4.out HB4.out HR5.out).mono ?_); rintro e w5 ⟨rfl, hi, hb, hk⟩; have HI5 := Aside0.mk hi; have HB5 := Aside0.mk hb; clear hi hb hk) | (go_at_call 47; (with_reducible refine (codec_Reader_Unsigned.calls k gr s5 p5 e5 window s6 p6 e6 wa _ HGa.out HI5.out HB5.out HR6.out).mono ?_); rintro e w6 ⟨rfl, hi, hb, hk⟩; have HI6 := Aside0.mk hi; have HB6 := Aside0.mk hb; clear hi hb hk) | (go_at_call 50; (with_reducible refine (codec_Reader_Text.calls k gr s6 p6 e6 text s7 p7 e7 wa _ HGa.out HI6.out HB6.out HR7.out).mono ?_); rintro e w7 ⟨rfl, hi, hb, hk⟩; have HI7 := Aside0.mk hi; have HB7 := Aside0.mk hb; clear hi hb hk) | (go_at_call 51; (with_reducible refine (codec_Reader_End.calls gr s7 p7 e7 en s8 p8 e8 wa _ HGa.out HI7.out HB7.out HR8.out).mono ?_); rintro e w8 ⟨rfl, hi, hb, hk⟩; have HI8 := Aside0.mk hi; have HB8 := Aside0.mk hb; clear hi hb hk) | (refine wpList_store_row rfl 23 (.tmp 2) (.tmp 44) rfl gq #[.int .i64 0, .int .i64 0, .int .i64 0, .bool false, .int .i64 0, .string ⟨#[]⟩] rfl rfl 23 #[.int .i64 0, .int .i64 0, .int .i64 0, .bool false, .int .i64 0, .string ⟨#[]⟩] (blk_below HQa.out HB8.out) (by kernel_rfl) rfl (by simp [Value.oneCell']) ?_))
      refine bodyPost_ret (results_ct rfl _ _ gq 23 #[.int .i64 0, .int .i64 0, .int .i64 0, .bool false, .int .i64 0, .string ⟨#[]⟩] (0, 0) _ rfl (setRow_heap _ _ _ _ _ _ (blk_below HQa.out HB8.out)) Tryd.underlying23 rfl (by kernel_rfl)) rfl ⟨rfl, ?_⟩
      exact below_setRow (below_step HBa.out HB8.out) HQW.out _
  · have q0b : (en != 0) = true := bne_iff_ne.mpr q0
    rw [show decR n kind id number more window text en ce = (z23, 2) from by unfold decR; rw [if_neg q0]]
    clear q0
    go_enter Tryd.func14, Tryd.ntmps14
    go_wp2_with (first | ((with_reducible refine gate_dst (N := 2) rfl ?_); refine box_event ?hg (N := 2) ?hd (cs := #[.int .i64 0, .int .i64 0, .int .i64 0, .bool false, .int .i64 0, .string ⟨#[]⟩]) (t := 23) ?hr ?_; (case hd => rfl); (case hg => rfl); (case hr => first | (go_simp; done) | (go_simp; rfl)); intro gq hgq wa hbox hb; have HQa := Aside0.mk hbox; have HBa := Aside0.mk hb; have HQW := Aside0.mk (show w.heap.size ≤ gq by rw [hgq]; exact Nat.le_refl _); have HGa := Aside0.mk (Glob.below HG.out hb); clear hb hbox hgq) | (go_at_call 45; (with_reducible refine (codec_NewReader.calls S S 0 0 wa wa (Glob.below HG.out HBa.out) (Below.refl _ _) rfl).mono ?_); rintro e wb ⟨gr, rfl, hi, hb, hb2⟩; have HI0 := Aside0.mk hi; have HB0 := Aside0.mk hb; clear hi hb hb2) | (go_at_call 46; (with_reducible refine (codec_Reader_List.calls k gr S 0 0 n s1 p1 e1 wa _ HGa.out HI0.out HB0.out HR1.out).mono ?_); rintro e w1 ⟨rfl, hi, hb, hk⟩; have HI1 := Aside0.mk hi; have HB1 := Aside0.mk hb; clear hi hb hk) | (go_at_call 47; (with_reducible refine (codec_Reader_Unsigned.calls k gr s1 p1 e1 kind s2 p2 e2 wa _ HGa.out HI1.out HB1.out HR2.out).mono ?_); rintro e w2 ⟨rfl, hi, hb, hk⟩; have HI2 := Aside0.mk hi; have HB2 := Aside0.mk hb; clear hi hb hk) | (go_at_call 47; (with_reducible refine (codec_Reader_Unsigned.calls k gr s2 p2 e2 id s3 p3 e3 wa _ HGa.out HI2.out HB2.out HR3.out).mono ?_); rintro e w3 ⟨rfl, hi, hb, hk⟩; have HI3 := Aside0.mk hi; have HB3 := Aside0.mk hb; clear hi hb hk) | (go_at_call 48; (with_reducible refine (codec_Reader_Signed.calls k gr s3 p3 e3 number s4 p4 e4 wa _ HGa.out HI3.out HB3.out HR4.out).mono ?_); rintro e w4 ⟨rfl, hi, hb, hk⟩; have HI4 := Aside0.mk hi; have HB4 := Aside0.mk hb; clear hi hb hk) | (go_at_call 49; (with_reducible refine (codec_Reader_Bool.calls k gr s4 p4 e4 more s5 p5 e5 wa _ HGa.out HI4.out HB4.out HR5.out).mono ?_); rintro e w5 ⟨rfl, hi, hb, hk⟩; have HI5 := Aside0.mk hi; have HB5 := Aside0.mk hb; clear hi hb hk) | (go_at_call 47; (with_reducible refine (codec_Reader_Unsigned.calls k gr s5 p5 e5 window s6 p6 e6 wa _ HGa.out HI5.out HB5.out HR6.out).mono ?_); rintro e w6 ⟨rfl, hi, hb, hk⟩; have HI6 := Aside0.mk hi; have HB6 := Aside0.mk hb; clear hi hb hk) | (go_at_call 50; (with_reducible refine (codec_Reader_Text.calls k gr s6 p6 e6 text s7 p7 e7 wa _ HGa.out HI6.out HB6.out HR7.out).mono ?_); rintro e w7 ⟨rfl, hi, hb, hk⟩; have HI7 := Aside0.mk hi; have HB7 := Aside0.mk hb; clear hi hb hk) | (go_at_call 51; (with_reducible refine (codec_Reader_End.calls gr s7 p7 e7 en s8 p8 e8 wa _ HGa.out HI7.out HB7.out HR8.out).mono ?_); rintro e w8 ⟨rfl, hi, hb, hk⟩; have HI8 := Aside0.mk hi; have HB8 := Aside0.mk hb; clear hi hb hk) | (refine wpList_store_row rfl 23 (.tmp 2) (.tmp 44) rfl gq #[.int .i64 0, .int .i64 0, .int .i64 0, .bool false, .int .i64 0, .string ⟨#[]⟩] rfl rfl 23 #[.int .i64 0, .int .i64 0, .int .i64 0, .bool false, .int .i64 0, .string ⟨#[]⟩] (blk_below HQa.out HB8.out) (by kernel_rfl) rfl (by simp [Value.oneCell']) ?_))
    refine bodyPost_ret (results_ct rfl _ _ gq 23 #[.int .i64 0, .int .i64 0, .int .i64 0, .bool false, .int .i64 0, .string ⟨#[]⟩] (0, 0) _ rfl (setRow_heap _ _ _ _ _ _ (blk_below HQa.out HB8.out)) Tryd.underlying23 rfl (by kernel_rfl)) rfl ⟨rfl, ?_⟩
    exact below_setRow (below_step HBa.out HB8.out) HQW.out _
end Go.Proofs.YtbgabhknmpbgiaaDoor.S
end
section
namespace Go.Proofs.YtbgabhknmpbgiaaDoor.S
open Go.RowKit Go.Proofs.YtbgabhknmpbgiaaDoor.Pure Go.Proofs.YtbgabhknmpbgiaaDoorW.PrintWords Go.Proofs.YtbgabhknmpbgiaaDoorW.PrintLast Go.Proofs.YtbgabhknmpbgiaaDoorW.PrintMore
set_option linter.unusedVariables false
def segment_Decode.f (a0 : ByteArray) : Option (Int × Int × Int × Bool × Int × ByteArray × Int) :=
  (codec_Reader_List.f 40 a0 0 0).bind fun x1 => (codec_Reader_Unsigned.f 40 x1.2.1 x1.2.2.1 x1.2.2.2).bind fun x2 => (codec_Reader_Unsigned.f 40 x2.2.1 x2.2.2.1 x2.2.2.2).bind fun x3 => (codec_Reader_Signed.f 40 x3.2.1 x3.2.2.1 x3.2.2.2).bind fun x4 => (codec_Reader_Bool.f 40 x4.2.1 x4.2.2.1 x4.2.2.2).bind fun x5 => (codec_Reader_Unsigned.f 40 x5.2.1 x5.2.2.1 x5.2.2.2).bind fun x6 => (codec_Reader_Text.f 40 x6.2.1 x6.2.2.1 x6.2.2.2).bind fun x7 => (codec_Reader_End.f x7.2.1 x7.2.2.1 x7.2.2.2).bind fun x8 => (segment_Check.f 40 x2.1 x3.1 x4.1 x5.1 x6.1 x7.1).bind fun ce => if 0 ≤ x2.1 ∧ 0 ≤ x3.1 ∧ 0 ≤ x6.1 then some ((decR x1.1 x2.1 x3.1 x4.1 x5.1 x6.1 x7.1 x8.1 ce).1.f0, (decR x1.1 x2.1 x3.1 x4.1 x5.1 x6.1 x7.1 x8.1 ce).1.f1, (decR x1.1 x2.1 x3.1 x4.1 x5.1 x6.1 x7.1 x8.1 ce).1.f2, (decR x1.1 x2.1 x3.1 x4.1 x5.1 x6.1 x7.1 x8.1 ce).1.f3, (decR x1.1 x2.1 x3.1 x4.1 x5.1 x6.1 x7.1 x8.1 ce).1.f4, (decR x1.1 x2.1 x3.1 x4.1 x5.1 x6.1 x7.1 x8.1 ce).1.f5, (decR x1.1 x2.1 x3.1 x4.1 x5.1 x6.1 x7.1 x8.1 ce).2) else none
theorem segment_Decode.calls (a0 : ByteArray) (r1 : Int) (r2 : Int) (r3 : Int) (r4 : Bool) (r5 : Int) (r6 : ByteArray) (r7 : Int) (w : World) (hG : Glob w) (h : segment_Decode.f a0 = some (r1, r2, r3, r4, r5, r6, r7)) :
    Calls Tryd.prog 14 #[.string a0] w fun e w' => e = .returned (.tuple #[.agg #[.int .i64 r1, .int .i64 r2, .int .i64 r3, .bool r4, .int .i64 r5, .string r6], .int .i64 r7]) ∧ Below w.heap.size w w' := by
  unfold segment_Decode.f at h
  obtain ⟨⟨x1, s1, p1, e1⟩, h1, h⟩ := Option.bind_eq_some_iff.mp h
  obtain ⟨⟨x2, s2, p2, e2⟩, h2, h⟩ := Option.bind_eq_some_iff.mp h
  obtain ⟨⟨x3, s3, p3, e3⟩, h3, h⟩ := Option.bind_eq_some_iff.mp h
  obtain ⟨⟨x4, s4, p4, e4⟩, h4, h⟩ := Option.bind_eq_some_iff.mp h
  obtain ⟨⟨x5, s5, p5, e5⟩, h5, h⟩ := Option.bind_eq_some_iff.mp h
  obtain ⟨⟨x6, s6, p6, e6⟩, h6, h⟩ := Option.bind_eq_some_iff.mp h
  obtain ⟨⟨x7, s7, p7, e7⟩, h7, h⟩ := Option.bind_eq_some_iff.mp h
  obtain ⟨⟨x8, s8, p8, e8⟩, h8, h⟩ := Option.bind_eq_some_iff.mp h
  obtain ⟨ce, hc, h⟩ := Option.bind_eq_some_iff.mp h
  by_cases q : 0 ≤ x2 ∧ 0 ≤ x3 ∧ 0 ≤ x6
  · rw [if_pos q] at h
    injection h with h
    injection h with z1 h
    injection h with z2 h
    injection h with z3 h
    injection h with z4 h
    injection h with z5 h
    injection h with z6 z7
    refine (decode_calls 40 a0 x1 x2 x3 x4 x5 x6 x7 x8 s1 s2 s3 s4 s5 s6 s7 s8 p1 e1 p2 e2 p3 e3 p4 e4 p5 e5 p6 e6 p7 e7 p8 e8 h1 h2 h3 h4 h5 h6 h7 h8 ce w hG hc q).mono ?_
    rintro e w' ⟨he, hb⟩
    rw [z1, z2, z3, z4, z5, z6, z7] at he
    exact ⟨he, hb⟩
  · rw [if_neg q] at h
    cases h
end Go.Proofs.YtbgabhknmpbgiaaDoor.S
end
section
namespace Go.Proofs.YtbgabhknmpbgiaaDoor.S
open Go.RowKit Go.Proofs.YtbgabhknmpbgiaaDoor.Pure Go.Proofs.YtbgabhknmpbgiaaDoorW.PrintWords Go.Proofs.YtbgabhknmpbgiaaDoorW.PrintLast Go.Proofs.YtbgabhknmpbgiaaDoorW.PrintMore
set_option linter.unusedVariables false
set_option linter.unusedSimpArgs false
attribute [local go_sem] max2_int min2_int max_two min_two
abbrev msgA : ByteArray := ⟨#[97, 98, 99, 100, 101, 102, 103]⟩
def segsA : List ByteArray := [⟨#[97, 98, 99]⟩, ⟨#[100, 101, 102]⟩, ⟨#[103]⟩]
def P0 : S23 := ⟨1, 5, 0, true, 2, ⟨#[97, 98, 99]⟩⟩
def P1 : S23 := ⟨1, 5, 1, true, 2, ⟨#[100, 101, 102]⟩⟩
def P2 : S23 := ⟨1, 5, 2, false, 2, ⟨#[103]⟩⟩
def sA1 : Sn := ⟨5, 2, 10, 1, segsA, 0, 0, 2, 0, 110⟩
def sA2 : Sn := ⟨5, 2, 10, 1, segsA, 0, 0, 2, 1, 120⟩
def sA3 : Sn := ⟨5, 2, 10, 1, segsA, 0, 2, 3, 0, 123⟩
def rA0 : Rn := ⟨5, 30, 0, 0, [], 130⟩
def rA1 : Rn := ⟨5, 30, 0, 0, [], 131⟩
def rA2 : Rn := ⟨5, 30, 0, 1, [97, 98, 99], 141⟩
def rA3 : Rn := ⟨5, 30, 0, 2, [97, 98, 99, 100, 101, 102], 142⟩
def rA4 : Rn := ⟨5, 30, 1, 3, [97, 98, 99, 100, 101, 102, 103], 144⟩
def ackA (n : Int) : S23 := ⟨2, 5, n, false, 0, ⟨#[]⟩⟩
def encS : ByteArray := strOfNums (encB P0)
theorem Pt.C {n l c : Nat} {w : World} {A : Option Addr} {xs : List S23} (h : Pt n w (.slice A l c) xs) : Kd.C k23 w A xs.length xs := by
  obtain ⟨A', e, hC⟩ := h.slice
  injection e with e1
  exact e1 ▸ hC
structure AtE (w : World) (ad : Addr) (o : Nat) (x : S23) : Prop where
  c0 : w.cell? (if o = 0 then ad else ⟨ad.block, ad.off + o, none⟩) = some (.int .i64 x.f0)
  c1 : w.cell? ⟨ad.block, ad.off + o + 1, none⟩ = some (.int .i64 x.f1)
  c2 : w.cell? ⟨ad.block, ad.off + o + 2, none⟩ = some (.int .i64 x.f2)
  c3 : w.cell? ⟨ad.block, ad.off + o + 3, none⟩ = some (.bool x.f3)
  c4 : w.cell? ⟨ad.block, ad.off + o + 4, none⟩ = some (.int .i64 x.f4)
  c5 : w.cell? ⟨ad.block, ad.off + o + 5, none⟩ = some (.string x.f5)
theorem Pt.atE {n l c : Nat} {w : World} {ad : Addr} {xs : List S23} (h : Pt n w (.slice (some ad) l c) xs) (i : Nat) (hi : i < xs.length) : AtE w ad (i * 6) (rd_T23 xs i) := by
  obtain ⟨ad', e, h0, h1, h2, h3, h4, h5⟩ := at_T23 h.C (i : Int) (by omega) (by omega)
  obtain rfl := Option.some.inj e
  rw [Int.toNat_natCast] at h0 h1 h2 h3 h4 h5
  simp only [Addr.add] at h0 h1 h2 h3 h4 h5
  have hb : (if i * 6 = 0 then ad else (⟨ad.block, ad.off + i * 6, none⟩ : Addr)).block = ad.block := by split <;> rfl
  have ho : (if i * 6 = 0 then ad else (⟨ad.block, ad.off + i * 6, none⟩ : Addr)).off = ad.off + i * 6 := by split <;> (try omega) <;> (try rfl)
  rw [hb, ho] at h1 h2 h3 h4 h5
  exact ⟨h0, h1, h2, h3, h4, h5⟩
theorem Pt.head_at {n c : Nat} {w : World} {A : Option Addr} {l : Nat} {x : S23} {xs : List S23} (h : Pt n w (.slice A l c) (x :: xs)) : ∃ ad, A = some ad := by
  obtain ⟨ad, e, _⟩ := at_T23 h.C 0 (by decide) (by simp)
  exact ⟨ad, e⟩
theorem splitA : segment_Split.f 40 msgA 3 = some (segsA, 0) := by kernel_rfl
theorem newEA : newE 5 2 10 1 0 = 0 := by kernel_rfl
theorem begA : begE 5 30 = 0 := by kernel_rfl
theorem newA : newS 5 2 10 1 segsA 100 = ([P0, P1], sA1) := by kernel_rfl
theorem hA1 : rA0.handle 1 5 1 true ⟨#[100, 101, 102]⟩ 101 = ([ackA (-1)], rA1) := by kernel_rfl
theorem tA1 : sA1.tick 110 = ([P0, P1], sA2) := by kernel_rfl
theorem hA2 : rA1.handle 1 5 0 true ⟨#[97, 98, 99]⟩ 111 = ([ackA 0], rA2) := by kernel_rfl
theorem hA3 : rA2.handle 1 5 1 true ⟨#[100, 101, 102]⟩ 112 = ([ackA 1], rA3) := by kernel_rfl
theorem shA : sA2.handle 2 5 1 113 = ([P2], sA3) := by kernel_rfl
theorem hA4 : rA3.handle 1 5 2 false ⟨#[103]⟩ 114 = ([ackA 2], rA4) := by kernel_rfl
theorem tA2 : rA4.tick 1000 = ([], rA4) := by kernel_rfl
theorem mA : (if rA4.state = 1 then strOfNums rA4.msg else ⟨#[]⟩) = msgA := by kernel_rfl
theorem encA : segment_Encode.f 1 5 0 true 2 ⟨#[97, 98, 99]⟩ = some (encS, 0) := by kernel_rfl
theorem decA_ : segment_Decode.f encS = some (1, 5, 0, true, 2, ⟨#[97, 98, 99]⟩, 0) := by kernel_rfl
theorem chkA : segment_Check.f 40 1 5 0 true 2 ⟨#[97, 98, 99]⟩ = some 0 := by kernel_rfl
theorem chkZ : segment_Check.f 40 0 0 0 false 0 ⟨#[]⟩ = some 3 := by kernel_rfl
theorem okA1 : OkS sA1 := ⟨by decide, by decide, by decide, by decide, by decide, by decide, by decide⟩
theorem okA2 : OkS sA2 := ⟨by decide, by decide, by decide, by decide, by decide, by decide, by decide⟩
def Row (w : World) (ad : Addr) (cs : List Value) : Prop := ∀ j v, cs[j]? = some v → w.cell? (ad.add j) = some v
theorem Row.below {w w1 : World} {ad : Addr} {cs : List Value} (h : Row w ad cs) (hb : Below w.heap.size w w1) : Row w1 ad cs := fun j v hv => pw_cell_below hb (h j v hv)
theorem row_blk {w : World} {g : Nat} {cs : List Value} {t : TypeId} {fr : Nat × Nat} (h : w.heap[g]? = some (.cells cs.toArray t fr)) : Row w ⟨g, 0, none⟩ cs := fun j v hv => by
  have hadd : (⟨g, 0, none⟩ : Addr).add j = ⟨g, j, none⟩ := by unfold Addr.add; split <;> simp_all
  rw [hadd, cell_of_row w g j _ t fr h]
  simpa using hv
theorem Pt.row {n l c : Nat} {w : World} {ad : Addr} {x : S23} {xs : List S23} (h : Pt n w (.slice (some ad) l c) (x :: xs)) (h0 : 0 < (x :: xs).length) : Row w ad [.int .i64 x.f0, .int .i64 x.f1, .int .i64 x.f2, .bool x.f3, .int .i64 x.f4, .string x.f5] := by
  obtain ⟨c0, c1, c2, c3, c4, c5⟩ := h.atE 0 h0
  have hadd : ∀ j, j ≠ 0 → ad.add j = ⟨ad.block, ad.off + j, none⟩ := fun j hj => by unfold Addr.add; rw [if_neg hj]
  intro j v hv
  rcases j with _ | _ | _ | _ | _ | _ | j
  · injection hv with hv; subst hv; exact c0
  · injection hv with hv; subst hv; rw [hadd 1 (by decide)]; exact c1
  · injection hv with hv; subst hv; rw [hadd 2 (by decide)]; exact c2
  · injection hv with hv; subst hv; rw [hadd 3 (by decide)]; exact c3
  · injection hv with hv; subst hv; rw [hadd 4 (by decide)]; exact c4
  · injection hv with hv; subst hv; rw [hadd 5 (by decide)]; exact c5
  · cases hv
theorem run_loadVar_at {P : Program} (w : World) (ad : Addr) (ty : TypeId) (cs : List Value) (d : TypeDesc) (hc : Row w ad cs)
    (hu : P.underlying ty = some d) (hd : d.isRow = true) (hi : (P.info? ty).map (·.size) = some cs.length) : (loadVar ty ad).run P w = .ok (.agg cs.toArray) w := by
  have hl := run_loadCells_list (P := P) w ad cs hc
  cases hq : P.info? ty with
  | none => simp [hq] at hi
  | some i =>
    have hs : i.size = cs.length := by simpa [hq] using hi
    have hagg : (isAgg ty).run P w = .ok true w := by
      unfold isAgg
      rw [Sem.run_bind, run_underlying hu w]
      cases d <;> simp_all
    simp [loadVar, Sem.run_bind, hagg, sizeOf, typeInfo, hq, hs, hl]
theorem yieldsIf_load_at {P : Program} {ops : Array Oper} {S : World → Prop} {op : Oper} {a : Act} (hw : Region.wanted op (yielded ops a.tmps) = true) (ty : TypeId) (x : Operand) (ho : op.op = .load ty x)
    (ad : Addr) (hx : a.eval x = .pointer (some ad)) (cs : List Value) (d : TypeDesc) (hS : ∀ w, S w → Row w ad cs)
    (hu : P.underlying ty = some d) (hd : d.isRow = true) (hi : (P.info? ty).map (·.size) = some cs.length) : YieldsIf P ops S op (.agg cs.toArray) a :=
  .inl ⟨hw, fun w hw' => by
    unfold execOp
    simp only [ho, hx, Instr.loadAt, Instr.sureAddr, Sem.run_bind, Sem.run_pure, Result.andThen_ok, run_loadVar_at w ad ty cs d (hS w hw') hu hd hi]⟩
theorem stA (B g : Nat) (w : World) (h : RcvAt B g rA4 w) : Calls Tryd.prog 38 #[.pointer (some ⟨g, 0, none⟩)] w fun e w' => e = .returned (.int .i64 1) ∧ w' = w := rstate_calls B g rA4 w h
set_option maxHeartbeats 16000000 in
set_option maxRecDepth 100000 in
theorem sstate_calls (g : Nat) (s : Sn) (w0 w : World) (h : AtP w0 w g s) : Calls Tryd.prog 29 #[.pointer (some ⟨g, 0, none⟩)] w fun e w' => e = .returned (.int .i64 s.state) ∧ w' = w := by
  obtain ⟨id, window, timeout, retries, segs, state, base, next, tries, deadline⟩ := s
  obtain ⟨A4, c4, hG, _⟩ := h
  have c5 := (blk_cell hG 5).trans rfl
  clear hG
  go_enter Tryd.func29, Tryd.ntmps29
  go_wp2
  go_ret
  exact ⟨rfl, rfl⟩
theorem ssA (g : Nat) (w0 w : World) (h : AtP w0 w g sA3) : Calls Tryd.prog 29 #[.pointer (some ⟨g, 0, none⟩)] w fun e w' => e = .returned (.int .i64 0) ∧ w' = w := sstate_calls g sA3 w0 w h
theorem rtA (w0 ws : World) (B gs gr : Nat) (s : Sn) (w : World) (h : Net w0 ws B gs gr s rA4 w) : Calls Tryd.prog 32 #[.pointer (some ⟨gr, 0, none⟩), .int .i64 1000] w fun e w' => ∃ A, e = .returned (.slice A 0 0) ∧ Net w0 ws B gs gr s rA4 w' ∧ Keep23 w w' := by
  refine (rtick_calls B gr rA4 1000 w h.rcv).mono ?_
  intro e w' hp
  rw [tA2] at hp
  obtain ⟨v, rfl, hv, hn, hk⟩ := h.rcall hp
  obtain ⟨A, ev, _⟩ := hv.slice
  subst ev
  exact ⟨A, rfl, hn, hk⟩
set_option maxHeartbeats 16000000 in
set_option maxRecDepth 100000 in
theorem awake_calls (w : World) (hG : Glob w) : Calls Tryd.prog 10 #[] w fun e w' => e = .returned (.bool true) ∧ Below w.heap.size w w' := by
  have HG := Aside0.mk hG
  clear hG
  go_enter Tryd.func10, Tryd.ntmps10
  go_wp2_with (first | (go_at_call 18; (with_reducible refine (segment_Split.calls 40 msgA 3 segsA 0 w HG.out splitA).mono ?_); rintro e w1 ⟨v1, rfl, ho, hb⟩; have HB1 := Aside0.mk hb; obtain ⟨A1, c1, ev, hcl, hC⟩ := Kd.R_reads ho; have ev2 : v1 = .slice A1 3 c1 := ev; clear ev; subst ev2; clear hC hcl ho hb) | (go_at_call 21; (with_reducible refine (newP_calls 40 5 msgA 3 2 10 1 100 segsA 0 w1 (Glob.below HG.out HB1.out) splitA (by decide)).mono ?_); rintro e w2 ⟨_, hp⟩; obtain ⟨gs, v2, ws, rfl, hv, hs, hb0, hb⟩ := hp newEA; rw [newA] at hv hs; obtain ⟨hvv, A2, ev⟩ := hv; have ev2 : v2 = .slice A2 2 2 := ev; clear ev; subst ev2; have HV2 := Aside0.mk (show Pt w1.heap.size w2 (.slice A2 2 2) [P0, P1] from ⟨hvv, A2, rfl⟩); have HS2 := Aside0.mk hs; have HW2 := Aside0.mk hb0; have HB2 := Aside0.mk hb; clear hp hvv hs hb0 hb) | (go_at_call 30; (with_reducible refine (rnew_calls 5 30 100 w2 (Glob.below HG.out (below_step (below_step HB1.out HW2.out) HB2.out))).mono ?_); rintro e w3 ⟨_, hp⟩; obtain ⟨gr, rfl, hr, hb⟩ := hp begA; rw [show wrap64 ((100 : Int) + 30) = 130 by kernel_rfl] at hr; have HN3 := Aside0.mk (show Net w ws w2.heap.size gs gr sA1 rA0 w3 from ⟨HS2.out.below hb, HB2.out.trans (hb.mono HB2.out.size), hr, HB2.out.size, hb.size, Nat.le_trans HB1.out.size HW2.out.size, below_step (below_step (below_step HB1.out HW2.out) HB2.out) hb⟩); have HPa3 := Aside0.mk (HV2.out.keep (Keep23.of_below hb)); clear hp hr hb; obtain ⟨ada, rfl⟩ := HPa3.out.head_at; have h_ := Pt.atE HPa3.out 1 (by decide); have y0 : w3.cell? ⟨ada.block, ada.off + 6, none⟩ = some (.int .i64 1) := h_.c0; have y1 : w3.cell? ⟨ada.block, ada.off + 6 + 1, none⟩ = some (.int .i64 5) := h_.c1; have y2 : w3.cell? ⟨ada.block, ada.off + 6 + 2, none⟩ = some (.int .i64 1) := h_.c2; have y3 : w3.cell? ⟨ada.block, ada.off + 6 + 3, none⟩ = some (.bool true) := h_.c3; have y4 : w3.cell? ⟨ada.block, ada.off + 6 + 4, none⟩ = some (.int .i64 2) := h_.c4; have y5 : w3.cell? ⟨ada.block, ada.off + 6 + 5, none⟩ = some (.string ⟨#[100, 101, 102]⟩) := h_.c5; clear h_; skip) | (go_at_call 34; (with_reducible refine (rhandle_calls w2.heap.size gr rA0 1 5 1 true 2 ⟨#[100, 101, 102]⟩ 101 w3 HN3.out.rcv HN3.out.bw (by decide)).mono ?_); rintro e w4 hp; rw [hA1] at hp; obtain ⟨v4, rfl, hv, hn, hk⟩ := Net.rcall HN3.out hp; have HN4 := Aside0.mk (show Net w ws w2.heap.size gs gr sA1 rA1 w4 from hn); have HPa4 := Aside0.mk (HPa3.out.keep hk); obtain ⟨A4, ev, _⟩ := hv.slice; subst ev; have HPb4 := Aside0.mk (show Pt w3.heap.size w4 (.slice A4 1 1) [ackA (-1)] from hv); clear hv; obtain ⟨adb, rfl⟩ := HPb4.out.head_at; clear y0 y1 y2 y3 y4 y5; clear hp hn hk) | (go_at_call 24; (with_reducible refine (tickP_calls gs sA1 110 ws w4 HN4.out.snd HN4.out.sb okA1).mono ?_); rintro e w5 hp; rw [tA1] at hp; obtain ⟨v5, rfl, hv, hn, hk⟩ := Net.scall HN4.out hp; have HN5 := Aside0.mk (show Net w ws w2.heap.size gs gr sA2 rA1 w5 from hn); have HPa5 := Aside0.mk (HPa4.out.keep hk); have HPb5 := Aside0.mk (HPb4.out.keep hk); obtain ⟨A5, ev, _⟩ := hv.slice; subst ev; have HPc5 := Aside0.mk (show Pt w4.heap.size w5 (.slice A5 2 2) [P0, P1] from hv); clear hv; obtain ⟨adc, rfl⟩ := HPc5.out.head_at; have h_ := Pt.atE HPa5.out 0 (by decide); have x0 : w5.cell? ada = some (.int .i64 1) := h_.c0; have x1 : w5.cell? ⟨ada.block, ada.off + 1, none⟩ = some (.int .i64 5) := h_.c1; have x2 : w5.cell? ⟨ada.block, ada.off + 2, none⟩ = some (.int .i64 0) := h_.c2; have x3 : w5.cell? ⟨ada.block, ada.off + 3, none⟩ = some (.bool true) := h_.c3; have x4 : w5.cell? ⟨ada.block, ada.off + 4, none⟩ = some (.int .i64 2) := h_.c4; have x5 : w5.cell? ⟨ada.block, ada.off + 5, none⟩ = some (.string ⟨#[97, 98, 99]⟩) := h_.c5; clear h_; clear hp hn hk) | (go_at_call 34; (with_reducible refine (rhandle_calls w2.heap.size gr rA1 1 5 0 true 2 ⟨#[97, 98, 99]⟩ 111 w5 HN5.out.rcv HN5.out.bw (by decide)).mono ?_); rintro e w6 hp; rw [hA2] at hp; obtain ⟨v6, rfl, hv, hn, hk⟩ := Net.rcall HN5.out hp; have HN6 := Aside0.mk (show Net w ws w2.heap.size gs gr sA2 rA2 w6 from hn); have HPa6 := Aside0.mk (HPa5.out.keep hk); have HPb6 := Aside0.mk (HPb5.out.keep hk); obtain ⟨A6, ev, _⟩ := hv.slice; subst ev; clear hv; clear x0 x1 x2 x3 x4 x5; have h_ := Pt.atE HPa6.out 1 (by decide); have y0 : w6.cell? ⟨ada.block, ada.off + 6, none⟩ = some (.int .i64 1) := h_.c0; have y1 : w6.cell? ⟨ada.block, ada.off + 6 + 1, none⟩ = some (.int .i64 5) := h_.c1; have y2 : w6.cell? ⟨ada.block, ada.off + 6 + 2, none⟩ = some (.int .i64 1) := h_.c2; have y3 : w6.cell? ⟨ada.block, ada.off + 6 + 3, none⟩ = some (.bool true) := h_.c3; have y4 : w6.cell? ⟨ada.block, ada.off + 6 + 4, none⟩ = some (.int .i64 2) := h_.c4; have y5 : w6.cell? ⟨ada.block, ada.off + 6 + 5, none⟩ = some (.string ⟨#[100, 101, 102]⟩) := h_.c5; clear h_; clear hp hn hk) | (go_at_call 34; (with_reducible refine (rhandle_calls w2.heap.size gr rA2 1 5 1 true 2 ⟨#[100, 101, 102]⟩ 112 w6 HN6.out.rcv HN6.out.bw (by decide)).mono ?_); rintro e w7 hp; rw [hA3] at hp; obtain ⟨v7, rfl, hv, hn, hk⟩ := Net.rcall HN6.out hp; have HN7 := Aside0.mk (show Net w ws w2.heap.size gs gr sA2 rA3 w7 from hn); have HPa7 := Aside0.mk (HPa6.out.keep hk); have HPb7 := Aside0.mk (HPb6.out.keep hk); obtain ⟨A7, ev, _⟩ := hv.slice; subst ev; have HPd7 := Aside0.mk (show Pt w6.heap.size w7 (.slice A7 1 1) [ackA 1] from hv); clear hv; obtain ⟨add, rfl⟩ := HPd7.out.head_at; clear y0 y1 y2 y3 y4 y5; have h_ := Pt.atE HPb7.out 0 (by decide); have x0 : w7.cell? adb = some (.int .i64 2) := h_.c0; have x1 : w7.cell? ⟨adb.block, adb.off + 1, none⟩ = some (.int .i64 5) := h_.c1; have x2 : w7.cell? ⟨adb.block, adb.off + 2, none⟩ = some (.int .i64 (-1)) := h_.c2; have x3 : w7.cell? ⟨adb.block, adb.off + 3, none⟩ = some (.bool false) := h_.c3; have x4 : w7.cell? ⟨adb.block, adb.off + 4, none⟩ = some (.int .i64 0) := h_.c4; have x5 : w7.cell? ⟨adb.block, adb.off + 5, none⟩ = some (.string ⟨#[]⟩) := h_.c5; clear h_; have h_ := Pt.atE HPd7.out 0 (by decide); have y0 : w7.cell? add = some (.int .i64 2) := h_.c0; have y1 : w7.cell? ⟨add.block, add.off + 1, none⟩ = some (.int .i64 5) := h_.c1; have y2 : w7.cell? ⟨add.block, add.off + 2, none⟩ = some (.int .i64 1) := h_.c2; have y3 : w7.cell? ⟨add.block, add.off + 3, none⟩ = some (.bool false) := h_.c3; have y4 : w7.cell? ⟨add.block, add.off + 4, none⟩ = some (.int .i64 0) := h_.c4; have y5 : w7.cell? ⟨add.block, add.off + 5, none⟩ = some (.string ⟨#[]⟩) := h_.c5; clear h_; clear hp hn hk) | (go_at_call 26; (with_reducible refine (handleP_calls gs sA2 2 5 1 false 0 ⟨#[]⟩ 113 ws w7 HN7.out.snd HN7.out.sb okA2).mono ?_); rintro e w8 hp; rw [shA] at hp; obtain ⟨v8, rfl, hv, hn, hk⟩ := Net.scall HN7.out hp; have HN8 := Aside0.mk (show Net w ws w2.heap.size gs gr sA3 rA3 w8 from hn); have HPa8 := Aside0.mk (HPa7.out.keep hk); have HPd8 := Aside0.mk (HPd7.out.keep hk); obtain ⟨A8, ev, _⟩ := hv.slice; subst ev; have HPh8 := Aside0.mk (show Pt w7.heap.size w8 (.slice A8 1 1) [P2] from hv); clear hv; obtain ⟨adh, rfl⟩ := HPh8.out.head_at; clear x0 x1 x2 x3 x4 x5 y0 y1 y2 y3 y4 y5; have h_ := Pt.atE HPh8.out 0 (by decide); have x0 : w8.cell? adh = some (.int .i64 1) := h_.c0; have x1 : w8.cell? ⟨adh.block, adh.off + 1, none⟩ = some (.int .i64 5) := h_.c1; have x2 : w8.cell? ⟨adh.block, adh.off + 2, none⟩ = some (.int .i64 2) := h_.c2; have x3 : w8.cell? ⟨adh.block, adh.off + 3, none⟩ = some (.bool false) := h_.c3; have x4 : w8.cell? ⟨adh.block, adh.off + 4, none⟩ = some (.int .i64 2) := h_.c4; have x5 : w8.cell? ⟨adh.block, adh.off + 5, none⟩ = some (.string ⟨#[103]⟩) := h_.c5; clear h_; clear hp hn hk) | (go_at_call 34; (with_reducible refine (rhandle_calls w2.heap.size gr rA3 1 5 2 false 2 ⟨#[103]⟩ 114 w8 HN8.out.rcv HN8.out.bw (by decide)).mono ?_); rintro e w9 hp; rw [hA4] at hp; obtain ⟨v9, rfl, hv, hn, hk⟩ := Net.rcall HN8.out hp; have HN9 := Aside0.mk (show Net w ws w2.heap.size gs gr sA3 rA4 w9 from hn); have HPa9 := Aside0.mk (HPa8.out.keep hk); have HPh9 := Aside0.mk (HPh8.out.keep hk); obtain ⟨A9, ev, _⟩ := hv.slice; subst ev; clear hv; clear x0 x1 x2 x3 x4 x5; have h_ := Pt.atE HPa9.out 0 (by decide); have x0 : w9.cell? ada = some (.int .i64 1) := h_.c0; have x1 : w9.cell? ⟨ada.block, ada.off + 1, none⟩ = some (.int .i64 5) := h_.c1; have x2 : w9.cell? ⟨ada.block, ada.off + 2, none⟩ = some (.int .i64 0) := h_.c2; have x3 : w9.cell? ⟨ada.block, ada.off + 3, none⟩ = some (.bool true) := h_.c3; have x4 : w9.cell? ⟨ada.block, ada.off + 4, none⟩ = some (.int .i64 2) := h_.c4; have x5 : w9.cell? ⟨ada.block, ada.off + 5, none⟩ = some (.string ⟨#[97, 98, 99]⟩) := h_.c5; clear h_; clear hp hn hk) | (go_at_call 36; (with_reducible refine (rmessage_calls w2.heap.size gr rA4 w9 HN9.out.rcv).mono ?_); rintro e wm ⟨he, rfl⟩; rw [mA, show (rA4.state == 1) = true from rfl] at he; subst he) | (go_at_call 13; (with_reducible refine (segment_Encode.calls 1 5 0 true 2 ⟨#[97, 98, 99]⟩ encS 0 wm (Glob.below HG.out HN9.out.base) encA).mono ?_); rintro e w10 ⟨rfl, hb⟩; have HN10 := Aside0.mk (HN9.out.below hb); have HPa10 := Aside0.mk (HPa9.out.keep (Keep23.of_below hb)); have HPh10 := Aside0.mk (HPh9.out.keep (Keep23.of_below hb)); clear hb; clear x0 x1 x2 x3 x4 x5) | (go_at_call 14; (with_reducible refine (segment_Decode.calls encS 1 5 0 true 2 ⟨#[97, 98, 99]⟩ 0 w10 (Glob.below HG.out HN10.out.base) decA_).mono ?_); rintro e w11 ⟨rfl, hb⟩; have HN11 := Aside0.mk (HN10.out.below hb); have HPa11 := Aside0.mk (HPa10.out.keep (Keep23.of_below hb)); have HPh11 := Aside0.mk (HPh10.out.keep (Keep23.of_below hb)); clear hb))
  have HN12 := Aside0.mk (HN11.out.below (below_alloc (Below.refl _ _) (.cells #[.int .i64 1, .int .i64 5, .int .i64 0, .bool true, .int .i64 2, .string ⟨#[97, 98, 99]⟩] 23)))
  have HPa12 := Aside0.mk (HPa11.out.keep (Keep23.of_below (below_alloc (Below.refl _ _) (.cells #[.int .i64 1, .int .i64 5, .int .i64 0, .bool true, .int .i64 2, .string ⟨#[97, 98, 99]⟩] 23))))
  have HX12 := Aside0.mk (blk_new w11 (.cells #[.int .i64 1, .int .i64 5, .int .i64 0, .bool true, .int .i64 2, .string ⟨#[97, 98, 99]⟩] 23))
  clear HN11 HPa11
  generalize hgx : w11.heap.size = gx at HX12 ⊢
  clear hgx
  generalize w11.alloc (.cells #[.int .i64 1, .int .i64 5, .int .i64 0, .bool true, .int .i64 2, .string ⟨#[97, 98, 99]⟩] 23) = w12 at HN12 HPa12 HX12 ⊢
  have HN13 := Aside0.mk (HN12.out.below (below_drew1 (Below.refl _ _)))
  have HPa13 := Aside0.mk (HPa12.out.keep (Keep23.of_below (below_drew1 (Below.refl _ _))))
  have HX13 := Aside0.mk (blk_drew HX12.out)
  clear HN12 HPa12 HX12
  have hu23 := Tryd.underlying23
  clear HB1 HS2 HW2 HB2 HN3 HV2 HPa3 HN4 HPa4 HPb4 HN5 HPa5 HPb5 HPc5 HN6 HPa6 HPb6 HN7 HPa7 HPb7 HPd7 HN8 HPa8 HPd8 HPh8 HN9 HPa9 HPh9 HN10 HPa10 HPh10 HPh11
  refine start_ (n := 47) (S := fun w' => Row w' ada [.int .i64 1, .int .i64 5, .int .i64 0, .bool true, .int .i64 2, .string ⟨#[97, 98, 99]⟩] ∧ Row w' ⟨gx, 0, none⟩ [.int .i64 1, .int .i64 5, .int .i64 0, .bool true, .int .i64 2, .string ⟨#[97, 98, 99]⟩]) (ds := []) #[false, false, false, false, false, false, false, false, false, false, false, false, false, false, false, false, false, false, false, false, false, false, false, false, false, false, false, false, false, false, false, false, false, false, false, false, false, false, false, false, false, false, false, false, false, false, false] (by kernel_rfl) rfl rfl ⟨(Pt.row (x := P0) (xs := [P1]) HPa13.out (by decide)), (row_blk HX13.out)⟩ (fun hHeld => ?_)
  refine pure_ (i := 0) (N := some 146) (v := ?_) (a' := ?_) #[true, false, false, false, false, false, false, false, false, false, false, false, false, false, false, false, false, false, false, false, false, false, false, false, false, false, false, false, false, false, false, false, false, false, false, false, false, false, false, false, false, false, false, false, false, false, false] rfl rfl (by kernel_rfl) (fun _ _ _ h => h) (Or.inl ⟨by rfl, ?_⟩) ?_ ?_
  rotate_left
  · intro w'
    go_simp
    with_reducible rfl
  rotate_left
  · simp only [Act.put, List.setIfInBounds_toArray, List.set_cons_zero, List.set_cons_succ, i64_w, i32_w]
    rfl
  refine pure_ (i := 1) (N := some 147) (v := ?_) (a' := ?_) #[true, true, false, false, false, false, false, false, false, false, false, false, false, false, false, false, false, false, false, false, false, false, false, false, false, false, false, false, false, false, false, false, false, false, false, false, false, false, false, false, false, false, false, false, false, false, false] rfl rfl (by kernel_rfl) (fun _ _ _ h => h) (Or.inl ⟨by rfl, ?_⟩) ?_ ?_
  rotate_left
  · intro w'
    go_simp
    with_reducible rfl
  rotate_left
  · simp only [Act.put, List.setIfInBounds_toArray, List.set_cons_zero, List.set_cons_succ, i64_w, i32_w]
    rfl
  refine pure_ (i := 2) (N := some 148) (v := ?_) (a' := ?_) #[true, true, true, false, false, false, false, false, false, false, false, false, false, false, false, false, false, false, false, false, false, false, false, false, false, false, false, false, false, false, false, false, false, false, false, false, false, false, false, false, false, false, false, false, false, false, false] rfl rfl (by kernel_rfl) (fun _ _ _ h => h) (Or.inl ⟨by rfl, ?_⟩) ?_ ?_
  rotate_left
  · intro w'
    go_simp
    with_reducible rfl
  rotate_left
  · simp only [Act.put, List.setIfInBounds_toArray, List.set_cons_zero, List.set_cons_succ, i64_w, i32_w]
    rfl
  refine pure_ (i := 3) (N := some 149) (v := ?_) (a' := ?_) #[true, true, true, true, false, false, false, false, false, false, false, false, false, false, false, false, false, false, false, false, false, false, false, false, false, false, false, false, false, false, false, false, false, false, false, false, false, false, false, false, false, false, false, false, false, false, false] rfl rfl (by kernel_rfl) (fun _ _ _ h => h) (Or.inl ⟨by rfl, ?_⟩) ?_ ?_
  rotate_left
  · intro w'
    go_simp
    with_reducible rfl
  rotate_left
  · simp only [Act.put, List.setIfInBounds_toArray, List.set_cons_zero, List.set_cons_succ, i64_w, i32_w]
    rfl
  refine pure_ (i := 4) (N := some 150) (v := ?_) (a' := ?_) #[true, true, true, true, true, false, false, false, false, false, false, false, false, false, false, false, false, false, false, false, false, false, false, false, false, false, false, false, false, false, false, false, false, false, false, false, false, false, false, false, false, false, false, false, false, false, false] rfl rfl (by kernel_rfl) (fun _ _ _ h => h) (Or.inl ⟨by rfl, ?_⟩) ?_ ?_
  rotate_left
  · intro w'
    go_simp
    with_reducible rfl
  rotate_left
  · simp only [Act.put, List.setIfInBounds_toArray, List.set_cons_zero, List.set_cons_succ, i64_w, i32_w]
    rfl
  refine pure_ (i := 5) (N := some 151) (v := ?_) (a' := ?_) #[true, true, true, true, true, true, false, false, false, false, false, false, false, false, false, false, false, false, false, false, false, false, false, false, false, false, false, false, false, false, false, false, false, false, false, false, false, false, false, false, false, false, false, false, false, false, false] rfl rfl (by kernel_rfl) (fun _ _ _ h => h) (Or.inl ⟨by rfl, ?_⟩) ?_ ?_
  rotate_left
  · intro w'
    go_simp
    with_reducible rfl
  rotate_left
  · simp only [Act.put, List.setIfInBounds_toArray, List.set_cons_zero, List.set_cons_succ, i64_w, i32_w]
    rfl
  refine pure_ (i := 6) (N := some 152) (v := ?_) (a' := ?_) #[true, true, true, true, true, true, true, false, false, false, false, false, false, false, false, false, false, false, false, false, false, false, false, false, false, false, false, false, false, false, false, false, false, false, false, false, false, false, false, false, false, false, false, false, false, false, false] rfl rfl (by kernel_rfl) (fun _ _ _ h => h) (Or.inl ⟨by rfl, ?_⟩) ?_ ?_
  rotate_left
  · intro w'
    go_simp
    with_reducible rfl
  rotate_left
  · simp only [Act.put, List.setIfInBounds_toArray, List.set_cons_zero, List.set_cons_succ, i64_w, i32_w]
    rfl
  refine one_ (i := 7) (N := some 153) #[true, true, true, true, true, true, true, true, false, false, false, false, false, false, false, false, false, false, false, false, false, false, false, false, false, false, false, false, false, false, false, false, false, false, false, false, false, false, false, false, false, false, false, false, false, false, false] rfl rfl (by kernel_rfl) (by decide) (fun K hK => ?_)
  refine goes_ Tryd.func38 (by kernel_rfl) rfl #[.pointer (some ⟨gr, 0, none⟩)] (by rfl) rfl rfl (by simp only [List.map_toArray, List.map_cons, List.map_nil]; rfl) ?_
  with_reducible refine (stA _ gr _ HN13.out.rcv).mono ?_
  rintro e w14 ⟨rfl, rfl⟩
  refine ⟨_, rfl, ?_⟩
  refine hK.out _ _ ⟨hHeld.1, hHeld.2⟩ (fun hHeld => ?_)
  clear hK K
  refine norm_ (a' := ?_) ?_ ?_
  rotate_left
  · show Act.put _ (some 153) _ = _
    simp only [Act.put, List.setIfInBounds_toArray, List.set_cons_zero, List.set_cons_succ, i64_w, i32_w]
    rfl
  refine pure_ (i := 8) (N := some 154) (v := ?_) (a' := ?_) #[true, true, true, true, true, true, true, true, true, false, false, false, false, false, false, false, false, false, false, false, false, false, false, false, false, false, false, false, false, false, false, false, false, false, false, false, false, false, false, false, false, false, false, false, false, false, false] rfl rfl (by kernel_rfl) (fun _ _ _ h => h) (Or.inl ⟨by rfl, ?_⟩) ?_ ?_
  rotate_left
  · intro w'
    go_simp
    with_reducible rfl
  rotate_left
  · simp only [Act.put, List.setIfInBounds_toArray, List.set_cons_zero, List.set_cons_succ, i64_w, i32_w]
    rfl
  refine pure_ (i := 9) (N := some 155) (v := ?_) (a' := ?_) #[true, true, true, true, true, true, true, true, true, true, false, false, false, false, false, false, false, false, false, false, false, false, false, false, false, false, false, false, false, false, false, false, false, false, false, false, false, false, false, false, false, false, false, false, false, false, false] rfl rfl (by kernel_rfl) (fun _ _ _ h => h) (Or.inl ⟨by rfl, ?_⟩) ?_ ?_
  rotate_left
  · intro w'
    go_simp
    with_reducible rfl
  rotate_left
  · simp only [Act.put, List.setIfInBounds_toArray, List.set_cons_zero, List.set_cons_succ, i64_w, i32_w]
    rfl
  refine pure_ (i := 10) (N := some 156) (v := ?_) (a' := ?_) #[true, true, true, true, true, true, true, true, true, true, true, false, false, false, false, false, false, false, false, false, false, false, false, false, false, false, false, false, false, false, false, false, false, false, false, false, false, false, false, false, false, false, false, false, false, false, false] rfl rfl (by kernel_rfl) (fun _ _ _ h => h) (Or.inl ⟨by rfl, ?_⟩) ?_ ?_
  rotate_left
  · intro w'
    go_simp
    with_reducible rfl
  rotate_left
  · simp only [Act.put, List.setIfInBounds_toArray, List.set_cons_zero, List.set_cons_succ, i64_w, i32_w]
    rfl
  refine pure_ (i := 11) (N := some 157) (v := ?_) (a' := ?_) #[true, true, true, true, true, true, true, true, true, true, true, true, false, false, false, false, false, false, false, false, false, false, false, false, false, false, false, false, false, false, false, false, false, false, false, false, false, false, false, false, false, false, false, false, false, false, false] rfl rfl (by kernel_rfl) (fun _ _ _ h => h) (Or.inl ⟨by rfl, ?_⟩) ?_ ?_
  rotate_left
  · intro w'
    go_simp
    with_reducible rfl
  rotate_left
  · simp only [Act.put, List.setIfInBounds_toArray, List.set_cons_zero, List.set_cons_succ, i64_w, i32_w]
    rfl
  refine one_ (i := 12) (N := some 158) #[true, true, true, true, true, true, true, true, true, true, true, true, true, false, false, false, false, false, false, false, false, false, false, false, false, false, false, false, false, false, false, false, false, false, false, false, false, false, false, false, false, false, false, false, false, false, false] rfl rfl (by kernel_rfl) (by decide) (fun K hK => ?_)
  refine goes_ Tryd.func29 (by kernel_rfl) rfl #[.pointer (some ⟨gs, 0, none⟩)] (by rfl) rfl rfl (by simp only [List.map_toArray, List.map_cons, List.map_nil]; rfl) ?_
  with_reducible refine (ssA gs ws _ HN13.out.snd).mono ?_
  rintro e w15 ⟨rfl, rfl⟩
  refine ⟨_, rfl, ?_⟩
  refine hK.out _ _ ⟨hHeld.1, hHeld.2⟩ (fun hHeld => ?_)
  clear hK K
  refine norm_ (a' := ?_) ?_ ?_
  rotate_left
  · show Act.put _ (some 158) _ = _
    simp only [Act.put, List.setIfInBounds_toArray, List.set_cons_zero, List.set_cons_succ, i64_w, i32_w]
    rfl
  refine pure_ (i := 13) (N := some 159) (v := ?_) (a' := ?_) #[true, true, true, true, true, true, true, true, true, true, true, true, true, true, false, false, false, false, false, false, false, false, false, false, false, false, false, false, false, false, false, false, false, false, false, false, false, false, false, false, false, false, false, false, false, false, false] rfl rfl (by kernel_rfl) (fun _ _ _ h => h) (Or.inl ⟨by rfl, ?_⟩) ?_ ?_
  rotate_left
  · intro w'
    go_simp
    with_reducible rfl
  rotate_left
  · simp only [Act.put, List.setIfInBounds_toArray, List.set_cons_zero, List.set_cons_succ, i64_w, i32_w]
    rfl
  refine pure_ (i := 14) (N := some 160) (v := ?_) (a' := ?_) #[true, true, true, true, true, true, true, true, true, true, true, true, true, true, true, false, false, false, false, false, false, false, false, false, false, false, false, false, false, false, false, false, false, false, false, false, false, false, false, false, false, false, false, false, false, false, false] rfl rfl (by kernel_rfl) (fun _ _ _ h => h) (Or.inl ⟨by rfl, ?_⟩) ?_ ?_
  rotate_left
  · intro w'
    go_simp
    with_reducible rfl
  rotate_left
  · simp only [Act.put, List.setIfInBounds_toArray, List.set_cons_zero, List.set_cons_succ, i64_w, i32_w]
    rfl
  refine pure_ (i := 15) (N := some 161) (v := ?_) (a' := ?_) #[true, true, true, true, true, true, true, true, true, true, true, true, true, true, true, true, false, false, false, false, false, false, false, false, false, false, false, false, false, false, false, false, false, false, false, false, false, false, false, false, false, false, false, false, false, false, false] rfl rfl (by kernel_rfl) (fun _ _ _ h => h) (Or.inl ⟨by rfl, ?_⟩) ?_ ?_
  rotate_left
  · intro w'
    go_simp
    with_reducible rfl
  rotate_left
  · simp only [Act.put, List.setIfInBounds_toArray, List.set_cons_zero, List.set_cons_succ, i64_w, i32_w]
    rfl
  refine pure_ (i := 16) (N := some 162) (v := ?_) (a' := ?_) #[true, true, true, true, true, true, true, true, true, true, true, true, true, true, true, true, true, false, false, false, false, false, false, false, false, false, false, false, false, false, false, false, false, false, false, false, false, false, false, false, false, false, false, false, false, false, false] rfl rfl (by kernel_rfl) (fun _ _ _ h => h) (Or.inl ⟨by rfl, ?_⟩) ?_ ?_
  rotate_left
  · intro w'
    go_simp
    with_reducible rfl
  rotate_left
  · simp only [Act.put, List.setIfInBounds_toArray, List.set_cons_zero, List.set_cons_succ, i64_w, i32_w]
    rfl
  refine pure_ (i := 17) (N := some 163) (v := ?_) (a' := ?_) #[true, true, true, true, true, true, true, true, true, true, true, true, true, true, true, true, true, true, false, false, false, false, false, false, false, false, false, false, false, false, false, false, false, false, false, false, false, false, false, false, false, false, false, false, false, false, false] rfl rfl (by kernel_rfl) (fun _ _ _ h => h) (Or.inl ⟨by rfl, ?_⟩) ?_ ?_
  rotate_left
  · intro w'
    go_simp
    with_reducible rfl
  rotate_left
  · simp only [Act.put, List.setIfInBounds_toArray, List.set_cons_zero, List.set_cons_succ, i64_w, i32_w]
    rfl
  refine pure_ (i := 18) (N := some 164) (v := ?_) (a' := ?_) #[true, true, true, true, true, true, true, true, true, true, true, true, true, true, true, true, true, true, true, false, false, false, false, false, false, false, false, false, false, false, false, false, false, false, false, false, false, false, false, false, false, false, false, false, false, false, false] rfl rfl (by kernel_rfl) (fun _ _ _ h => h) (Or.inl ⟨by rfl, ?_⟩) ?_ ?_
  rotate_left
  · intro w'
    go_simp
    with_reducible rfl
  rotate_left
  · simp only [Act.put, List.setIfInBounds_toArray, List.set_cons_zero, List.set_cons_succ, i64_w, i32_w]
    rfl
  refine pure_ (i := 19) (N := some 165) (v := ?_) (a' := ?_) #[true, true, true, true, true, true, true, true, true, true, true, true, true, true, true, true, true, true, true, true, false, false, false, false, false, false, false, false, false, false, false, false, false, false, false, false, false, false, false, false, false, false, false, false, false, false, false] rfl rfl (by kernel_rfl) (fun _ _ _ h => h) (Or.inl ⟨by rfl, ?_⟩) ?_ ?_
  rotate_left
  · intro w'
    go_simp
    with_reducible rfl
  rotate_left
  · simp only [Act.put, List.setIfInBounds_toArray, List.set_cons_zero, List.set_cons_succ, i64_w, i32_w]
    rfl
  refine pure_ (i := 20) (N := some 166) (v := ?_) (a' := ?_) #[true, true, true, true, true, true, true, true, true, true, true, true, true, true, true, true, true, true, true, true, true, false, false, false, false, false, false, false, false, false, false, false, false, false, false, false, false, false, false, false, false, false, false, false, false, false, false] rfl rfl (by kernel_rfl) (fun _ _ _ h => h) (Or.inl ⟨by rfl, ?_⟩) ?_ ?_
  rotate_left
  · intro w'
    go_simp
    with_reducible rfl
  rotate_left
  · simp only [Act.put, List.setIfInBounds_toArray, List.set_cons_zero, List.set_cons_succ, i64_w, i32_w]
    rfl
  refine pure_ (i := 21) (N := some 167) (v := ?_) (a' := ?_) #[true, true, true, true, true, true, true, true, true, true, true, true, true, true, true, true, true, true, true, true, true, true, false, false, false, false, false, false, false, false, false, false, false, false, false, false, false, false, false, false, false, false, false, false, false, false, false] rfl rfl (by kernel_rfl) (fun _ _ _ h => h) (Or.inl ⟨by rfl, ?_⟩) ?_ ?_
  rotate_left
  · intro w'
    go_simp
    with_reducible rfl
  rotate_left
  · simp only [Act.put, List.setIfInBounds_toArray, List.set_cons_zero, List.set_cons_succ, i64_w, i32_w]
    rfl
  refine pure_ (i := 22) (N := some 168) (v := ?_) (a' := ?_) #[true, true, true, true, true, true, true, true, true, true, true, true, true, true, true, true, true, true, true, true, true, true, true, false, false, false, false, false, false, false, false, false, false, false, false, false, false, false, false, false, false, false, false, false, false, false, false] rfl rfl (by kernel_rfl) (fun _ _ _ h => h) (Or.inl ⟨by rfl, ?_⟩) ?_ ?_
  rotate_left
  · intro w'
    go_simp
    with_reducible rfl
  rotate_left
  · simp only [Act.put, List.setIfInBounds_toArray, List.set_cons_zero, List.set_cons_succ, i64_w, i32_w]
    rfl
  refine pure_ (i := 23) (N := some 169) (v := ?_) (a' := ?_) #[true, true, true, true, true, true, true, true, true, true, true, true, true, true, true, true, true, true, true, true, true, true, true, true, false, false, false, false, false, false, false, false, false, false, false, false, false, false, false, false, false, false, false, false, false, false, false] rfl rfl (by kernel_rfl) (fun _ _ _ h => h) (Or.inl ⟨by rfl, ?_⟩) ?_ ?_
  rotate_left
  · intro w'
    go_simp
    with_reducible rfl
  rotate_left
  · simp only [Act.put, List.setIfInBounds_toArray, List.set_cons_zero, List.set_cons_succ, i64_w, i32_w]
    rfl
  refine pure_ (i := 25) (N := some 171) (v := ?_) (a' := ?_) #[true, true, true, true, true, true, true, true, true, true, true, true, true, true, true, true, true, true, true, true, true, true, true, true, false, true, false, false, false, false, false, false, false, false, false, false, false, false, false, false, false, false, false, false, false, false, false] rfl rfl (by kernel_rfl) (fun _ _ _ h => h) (Or.inl ⟨by rfl, ?_⟩) ?_ ?_
  rotate_left
  · intro w'
    go_simp
    with_reducible rfl
  rotate_left
  · simp only [Act.put, List.setIfInBounds_toArray, List.set_cons_zero, List.set_cons_succ, i64_w, i32_w]
    rfl
  refine pure_ (i := 26) (N := some 172) (v := ?_) (a' := ?_) #[true, true, true, true, true, true, true, true, true, true, true, true, true, true, true, true, true, true, true, true, true, true, true, true, false, true, true, false, false, false, false, false, false, false, false, false, false, false, false, false, false, false, false, false, false, false, false] rfl rfl (by kernel_rfl) (fun _ _ _ h => h) (Or.inl ⟨by rfl, ?_⟩) ?_ ?_
  rotate_left
  · intro w'
    go_simp
    with_reducible rfl
  rotate_left
  · simp only [Act.put, List.setIfInBounds_toArray, List.set_cons_zero, List.set_cons_succ, i64_w, i32_w]
    rfl
  refine take_ (i := 24) (N := some 170) (v := .agg #[.int .i64 1, .int .i64 5, .int .i64 0, .bool true, .int .i64 2, .string ⟨#[97, 98, 99]⟩]) (a' := ?_) #[true, true, true, true, true, true, true, true, true, true, true, true, true, true, true, true, true, true, true, true, true, true, true, true, true, true, true, false, false, false, false, false, false, false, false, false, false, false, false, false, false, false, false, false, false, false, false] rfl rfl (by kernel_rfl) (fun _ _ _ h => h) (yieldsIf_load_at (by rfl) 23 (.tmp 16) rfl ⟨gx, 0, none⟩ rfl [.int .i64 1, .int .i64 5, .int .i64 0, .bool true, .int .i64 2, .string ⟨#[97, 98, 99]⟩] _ (fun _ h => h.2) Tryd.underlying23 rfl (by kernel_rfl)) hHeld ?_ ?_
  rotate_left
  · simp only [Act.put, List.setIfInBounds_toArray, List.set_cons_zero, List.set_cons_succ, i64_w, i32_w]
    rfl
  refine take_ (i := 27) (N := some 173) (v := .agg #[.int .i64 1, .int .i64 5, .int .i64 0, .bool true, .int .i64 2, .string ⟨#[97, 98, 99]⟩]) (a' := ?_) #[true, true, true, true, true, true, true, true, true, true, true, true, true, true, true, true, true, true, true, true, true, true, true, true, true, true, true, true, false, false, false, false, false, false, false, false, false, false, false, false, false, false, false, false, false, false, false] rfl rfl (by kernel_rfl) (fun _ _ _ h => h) (yieldsIf_load_at (by rfl) 23 (.tmp 172) rfl ada rfl [.int .i64 1, .int .i64 5, .int .i64 0, .bool true, .int .i64 2, .string ⟨#[97, 98, 99]⟩] _ (fun _ h => h.1) Tryd.underlying23 rfl (by kernel_rfl)) hHeld ?_ ?_
  rotate_left
  · simp only [Act.put, List.setIfInBounds_toArray, List.set_cons_zero, List.set_cons_succ, i64_w, i32_w]
    rfl
  refine pure_ (i := 28) (N := some 174) (v := ?_) (a' := ?_) #[true, true, true, true, true, true, true, true, true, true, true, true, true, true, true, true, true, true, true, true, true, true, true, true, true, true, true, true, true, false, false, false, false, false, false, false, false, false, false, false, false, false, false, false, false, false, false] rfl rfl (by kernel_rfl) (fun _ _ _ h => h) (Or.inl ⟨by rfl, ?_⟩) ?_ ?_
  rotate_left
  · intro w'
    go_simp
    with_reducible rfl
  rotate_left
  · simp only [Act.put, List.setIfInBounds_toArray, List.set_cons_zero, List.set_cons_succ, i64_w, i32_w]
    rfl
  refine pure_ (i := 29) (N := some 175) (v := ?_) (a' := ?_) #[true, true, true, true, true, true, true, true, true, true, true, true, true, true, true, true, true, true, true, true, true, true, true, true, true, true, true, true, true, true, false, false, false, false, false, false, false, false, false, false, false, false, false, false, false, false, false] rfl rfl (by kernel_rfl) (fun _ _ _ h => h) (Or.inl ⟨by rfl, ?_⟩) ?_ ?_
  rotate_left
  · intro w'
    go_simp
    with_reducible rfl
  rotate_left
  · simp only [Act.put, List.setIfInBounds_toArray, List.set_cons_zero, List.set_cons_succ, i64_w, i32_w]
    rfl
  refine pure_ (i := 30) (N := some 176) (v := ?_) (a' := ?_) #[true, true, true, true, true, true, true, true, true, true, true, true, true, true, true, true, true, true, true, true, true, true, true, true, true, true, true, true, true, true, true, false, false, false, false, false, false, false, false, false, false, false, false, false, false, false, false] rfl rfl (by kernel_rfl) (fun _ _ _ h => h) (Or.inl ⟨by rfl, ?_⟩) ?_ ?_
  rotate_left
  · intro w'
    go_simp
    with_reducible rfl
  rotate_left
  · simp only [Act.put, List.setIfInBounds_toArray, List.set_cons_zero, List.set_cons_succ, i64_w, i32_w]
    rfl
  refine take_ (i := 31) (N := some 177) (v := .agg #[.int .i64 1, .int .i64 5, .int .i64 0, .bool true, .int .i64 2, .string ⟨#[97, 98, 99]⟩]) (a' := ?_) #[true, true, true, true, true, true, true, true, true, true, true, true, true, true, true, true, true, true, true, true, true, true, true, true, true, true, true, true, true, true, true, true, false, false, false, false, false, false, false, false, false, false, false, false, false, false, false] rfl rfl (by kernel_rfl) (fun _ _ _ h => h) (yieldsIf_load_at (by rfl) 23 (.tmp 16) rfl ⟨gx, 0, none⟩ rfl [.int .i64 1, .int .i64 5, .int .i64 0, .bool true, .int .i64 2, .string ⟨#[97, 98, 99]⟩] _ (fun _ h => h.2) Tryd.underlying23 rfl (by kernel_rfl)) hHeld ?_ ?_
  rotate_left
  · simp only [Act.put, List.setIfInBounds_toArray, List.set_cons_zero, List.set_cons_succ, i64_w, i32_w]
    rfl
  refine one_ (i := 32) (N := some 178) #[true, true, true, true, true, true, true, true, true, true, true, true, true, true, true, true, true, true, true, true, true, true, true, true, true, true, true, true, true, true, true, true, true, false, false, false, false, false, false, false, false, false, false, false, false, false, false] rfl rfl (by kernel_rfl) (by decide) (fun K hK => ?_)
  refine goes_ Tryd.func16 (by kernel_rfl) rfl #[.agg #[.int .i64 1, .int .i64 5, .int .i64 0, .bool true, .int .i64 2, .string ⟨#[97, 98, 99]⟩]] (by rfl) rfl rfl (by simp only [List.map_toArray, List.map_cons, List.map_nil]; rfl) ?_
  with_reducible refine (segment_Check.calls 40 1 5 0 true 2 ⟨#[97, 98, 99]⟩ 0 _ (Glob.below HG.out HN13.out.base) chkA).mono ?_
  rintro e w16 ⟨rfl, hb_⟩
  refine ⟨_, rfl, ?_⟩
  have HN16 := Aside0.mk (HN13.out.below hb_)
  have HPa16 := Aside0.mk (HPa13.out.keep (Keep23.of_below hb_))
  have HX16 := Aside0.mk (blk_below HX13.out hb_)
  have hb_ := Aside0.mk hb_
  refine hK.out _ _ ⟨hHeld.1.below hb_.out, hHeld.2.below hb_.out⟩ (fun hHeld => ?_)
  clear hK K
  refine norm_ (a' := ?_) ?_ ?_
  rotate_left
  · show Act.put _ (some 178) _ = _
    simp only [Act.put, List.setIfInBounds_toArray, List.set_cons_zero, List.set_cons_succ, i64_w, i32_w]
    rfl
  refine pure_ (i := 33) (N := some 179) (v := ?_) (a' := ?_) #[true, true, true, true, true, true, true, true, true, true, true, true, true, true, true, true, true, true, true, true, true, true, true, true, true, true, true, true, true, true, true, true, true, true, false, false, false, false, false, false, false, false, false, false, false, false, false] rfl rfl (by kernel_rfl) (fun _ _ _ h => h) (Or.inl ⟨by rfl, ?_⟩) ?_ ?_
  rotate_left
  · intro w'
    go_simp
    with_reducible rfl
  rotate_left
  · simp only [Act.put, List.setIfInBounds_toArray, List.set_cons_zero, List.set_cons_succ, i64_w, i32_w]
    rfl
  refine pure_ (i := 34) (N := some 180) (v := ?_) (a' := ?_) #[true, true, true, true, true, true, true, true, true, true, true, true, true, true, true, true, true, true, true, true, true, true, true, true, true, true, true, true, true, true, true, true, true, true, true, false, false, false, false, false, false, false, false, false, false, false, false] rfl rfl (by kernel_rfl) (fun _ _ _ h => h) (Or.inl ⟨by rfl, ?_⟩) ?_ ?_
  rotate_left
  · intro w'
    go_simp
    with_reducible rfl
  rotate_left
  · simp only [Act.put, List.setIfInBounds_toArray, List.set_cons_zero, List.set_cons_succ, i64_w, i32_w]
    rfl
  refine pure_ (i := 35) (N := some 181) (v := ?_) (a' := ?_) #[true, true, true, true, true, true, true, true, true, true, true, true, true, true, true, true, true, true, true, true, true, true, true, true, true, true, true, true, true, true, true, true, true, true, true, true, false, false, false, false, false, false, false, false, false, false, false] rfl rfl (by kernel_rfl) (fun _ _ _ h => h) (Or.inl ⟨by rfl, ?_⟩) ?_ ?_
  rotate_left
  · intro w'
    go_simp
    with_reducible rfl
  rotate_left
  · simp only [Act.put, List.setIfInBounds_toArray, List.set_cons_zero, List.set_cons_succ, i64_w, i32_w]
    rfl
  refine pure_ (i := 36) (N := some 182) (v := ?_) (a' := ?_) #[true, true, true, true, true, true, true, true, true, true, true, true, true, true, true, true, true, true, true, true, true, true, true, true, true, true, true, true, true, true, true, true, true, true, true, true, true, false, false, false, false, false, false, false, false, false, false] rfl rfl (by kernel_rfl) (fun _ _ _ h => h) (Or.inl ⟨by rfl, ?_⟩) ?_ ?_
  rotate_left
  · intro w'
    go_simp
    with_reducible rfl
  rotate_left
  · simp only [Act.put, List.setIfInBounds_toArray, List.set_cons_zero, List.set_cons_succ, i64_w, i32_w]
    rfl
  refine one_ (i := 37) (N := some 183) #[true, true, true, true, true, true, true, true, true, true, true, true, true, true, true, true, true, true, true, true, true, true, true, true, true, true, true, true, true, true, true, true, true, true, true, true, true, true, false, false, false, false, false, false, false, false, false] rfl rfl (by kernel_rfl) (by decide) (fun K hK => ?_)
  refine goes_ Tryd.func16 (by kernel_rfl) rfl #[.agg #[.int .i64 0, .int .i64 0, .int .i64 0, .bool false, .int .i64 0, .string ⟨#[]⟩]] (by rfl) rfl rfl (by simp only [List.map_toArray, List.map_cons, List.map_nil]; rfl) ?_
  with_reducible refine (segment_Check.calls 40 0 0 0 false 0 ⟨#[]⟩ 3 _ (Glob.below HG.out HN16.out.base) chkZ).mono ?_
  rintro e w16b ⟨rfl, hb2_⟩
  refine ⟨_, rfl, ?_⟩
  have HN16b := Aside0.mk (HN16.out.below hb2_)
  have HPa16b := Aside0.mk (HPa16.out.keep (Keep23.of_below hb2_))
  have HX16b := Aside0.mk (blk_below HX16.out hb2_)
  have hb2_ := Aside0.mk hb2_
  refine hK.out _ _ ⟨hHeld.1.below hb2_.out, hHeld.2.below hb2_.out⟩ (fun hHeld => ?_)
  clear hK K
  refine norm_ (a' := ?_) ?_ ?_
  rotate_left
  · show Act.put _ (some 183) _ = _
    simp only [Act.put, List.setIfInBounds_toArray, List.set_cons_zero, List.set_cons_succ, i64_w, i32_w]
    rfl
  refine pure_ (i := 38) (N := some 184) (v := ?_) (a' := ?_) #[true, true, true, true, true, true, true, true, true, true, true, true, true, true, true, true, true, true, true, true, true, true, true, true, true, true, true, true, true, true, true, true, true, true, true, true, true, true, true, false, false, false, false, false, false, false, false] rfl rfl (by kernel_rfl) (fun _ _ _ h => h) (Or.inl ⟨by rfl, ?_⟩) ?_ ?_
  rotate_left
  · intro w'
    go_simp
    with_reducible rfl
  rotate_left
  · simp only [Act.put, List.setIfInBounds_toArray, List.set_cons_zero, List.set_cons_succ, i64_w, i32_w]
    rfl
  refine pure_ (i := 39) (N := some 185) (v := ?_) (a' := ?_) #[true, true, true, true, true, true, true, true, true, true, true, true, true, true, true, true, true, true, true, true, true, true, true, true, true, true, true, true, true, true, true, true, true, true, true, true, true, true, true, true, false, false, false, false, false, false, false] rfl rfl (by kernel_rfl) (fun _ _ _ h => h) (Or.inl ⟨by rfl, ?_⟩) ?_ ?_
  rotate_left
  · intro w'
    go_simp
    with_reducible rfl
  rotate_left
  · simp only [Act.put, List.setIfInBounds_toArray, List.set_cons_zero, List.set_cons_succ, i64_w, i32_w]
    rfl
  refine pure_ (i := 40) (N := some 186) (v := ?_) (a' := ?_) #[true, true, true, true, true, true, true, true, true, true, true, true, true, true, true, true, true, true, true, true, true, true, true, true, true, true, true, true, true, true, true, true, true, true, true, true, true, true, true, true, true, false, false, false, false, false, false] rfl rfl (by kernel_rfl) (fun _ _ _ h => h) (Or.inl ⟨by rfl, ?_⟩) ?_ ?_
  rotate_left
  · intro w'
    go_simp
    with_reducible rfl
  rotate_left
  · simp only [Act.put, List.setIfInBounds_toArray, List.set_cons_zero, List.set_cons_succ, i64_w, i32_w]
    rfl
  refine pure_ (i := 41) (N := some 187) (v := ?_) (a' := ?_) #[true, true, true, true, true, true, true, true, true, true, true, true, true, true, true, true, true, true, true, true, true, true, true, true, true, true, true, true, true, true, true, true, true, true, true, true, true, true, true, true, true, true, false, false, false, false, false] rfl rfl (by kernel_rfl) (fun _ _ _ h => h) (Or.inl ⟨by rfl, ?_⟩) ?_ ?_
  rotate_left
  · intro w'
    go_simp
    with_reducible rfl
  rotate_left
  · simp only [Act.put, List.setIfInBounds_toArray, List.set_cons_zero, List.set_cons_succ, i64_w, i32_w]
    rfl
  refine one_ (i := 42) (N := some 188) #[true, true, true, true, true, true, true, true, true, true, true, true, true, true, true, true, true, true, true, true, true, true, true, true, true, true, true, true, true, true, true, true, true, true, true, true, true, true, true, true, true, true, true, false, false, false, false] rfl rfl (by kernel_rfl) (by decide) (fun K hK => ?_)
  refine goes_ Tryd.func32 (by kernel_rfl) rfl #[.pointer (some ⟨gr, 0, none⟩), .int .i64 1000] (by rfl) rfl rfl (by simp only [List.map_toArray, List.map_cons, List.map_nil]; rfl) ?_
  with_reducible refine (rtA w ws _ gs gr sA3 _ HN16b.out).mono ?_
  rintro e w17 ⟨A17, rfl, hn, hk⟩
  refine ⟨_, rfl, ?_⟩
  have HN17 := Aside0.mk hn
  clear hn
  refine hK.out _ _ ⟨(Pt.row (x := P0) (xs := [P1]) (HPa16b.out.keep hk) (by decide)), (row_blk (hk.keep _ _ HX16b.out))⟩ (fun hHeld => ?_)
  clear hK K
  refine norm_ (a' := ?_) ?_ ?_
  rotate_left
  · show Act.put _ (some 188) _ = _
    simp only [Act.put, List.setIfInBounds_toArray, List.set_cons_zero, List.set_cons_succ, i64_w, i32_w]
    rfl
  refine pure_ (i := 43) (N := some 189) (v := ?_) (a' := ?_) #[true, true, true, true, true, true, true, true, true, true, true, true, true, true, true, true, true, true, true, true, true, true, true, true, true, true, true, true, true, true, true, true, true, true, true, true, true, true, true, true, true, true, true, true, false, false, false] rfl rfl (by kernel_rfl) (fun _ _ _ h => h) (Or.inl ⟨by rfl, ?_⟩) ?_ ?_
  rotate_left
  · intro w'
    go_simp
    with_reducible rfl
  rotate_left
  · simp only [Act.put, List.setIfInBounds_toArray, List.set_cons_zero, List.set_cons_succ, i64_w, i32_w]
    rfl
  refine pure_ (i := 44) (N := some 190) (v := ?_) (a' := ?_) #[true, true, true, true, true, true, true, true, true, true, true, true, true, true, true, true, true, true, true, true, true, true, true, true, true, true, true, true, true, true, true, true, true, true, true, true, true, true, true, true, true, true, true, true, true, false, false] rfl rfl (by kernel_rfl) (fun _ _ _ h => h) (Or.inl ⟨by rfl, ?_⟩) ?_ ?_
  rotate_left
  · intro w'
    go_simp
    with_reducible rfl
  rotate_left
  · simp only [Act.put, List.setIfInBounds_toArray, List.set_cons_zero, List.set_cons_succ, i64_w, i32_w]
    rfl
  refine pure_ (i := 45) (N := some 191) (v := ?_) (a' := ?_) #[true, true, true, true, true, true, true, true, true, true, true, true, true, true, true, true, true, true, true, true, true, true, true, true, true, true, true, true, true, true, true, true, true, true, true, true, true, true, true, true, true, true, true, true, true, true, false] rfl rfl (by kernel_rfl) (fun _ _ _ h => h) (Or.inl ⟨by rfl, ?_⟩) ?_ ?_
  rotate_left
  · intro w'
    go_simp
    with_reducible rfl
  rotate_left
  · simp only [Act.put, List.setIfInBounds_toArray, List.set_cons_zero, List.set_cons_succ, i64_w, i32_w]
    rfl
  refine pure_ (i := 46) (N := some 0) (v := ?_) (a' := ?_) #[true, true, true, true, true, true, true, true, true, true, true, true, true, true, true, true, true, true, true, true, true, true, true, true, true, true, true, true, true, true, true, true, true, true, true, true, true, true, true, true, true, true, true, true, true, true, true] rfl rfl (by kernel_rfl) (fun _ _ _ h => h) (Or.inl ⟨by rfl, ?_⟩) ?_ ?_
  rotate_left
  · intro w'
    go_simp
    with_reducible rfl
  rotate_left
  · simp only [Act.put, List.setIfInBounds_toArray, List.set_cons_zero, List.set_cons_succ, i64_w, i32_w]
    rfl
  refine done_ (by kernel_rfl) ?_
  go_wp2
  go_ret
  exact ⟨rfl, HN17.out.base⟩
end Go.Proofs.YtbgabhknmpbgiaaDoor.S
end
section
namespace Go.Proofs.YtbgabhknmpbgiaaDoor.S
open Go.RowKit Go.Proofs.YtbgabhknmpbgiaaDoorW.PrintWords Go.Proofs.YtbgabhknmpbgiaaDoorW.PrintLast Go.Proofs.YtbgabhknmpbgiaaDoorW.PrintMore
attribute [local go_sem] max2_int min2_int max_two min_two max_three min_three max_four min_four
set_option linter.unusedVariables false
set_option linter.unusedSimpArgs false
end Go.Proofs.YtbgabhknmpbgiaaDoor.S
end
section
namespace Go.Proofs.YtbgabhknmpbgiaaDoor.Pure
open Go.RowKit Go.Proofs.YtbgabhknmpbgiaaDoor.S Go.Proofs.YtbgabhknmpbgiaaDoorW.PrintWords Go.Proofs.YtbgabhknmpbgiaaDoorW.PrintLast Go.Proofs.YtbgabhknmpbgiaaDoorW.PrintMore
set_option linter.unusedVariables false
theorem seg_in (a lo hi : Int) : segment_in.f a lo hi = some (decide (lo ≤ a ∧ a ≤ hi)) := by
  unfold segment_in.f
  by_cases h : a ≥ lo
  · rw [if_pos h]
    congr 1
    by_cases h2 : a ≤ hi
    · rw [decide_eq_true h2, decide_eq_true ⟨h, h2⟩]
    · rw [decide_eq_false h2, decide_eq_false (fun q => h2 q.2)]
  · rw [if_neg h, decide_eq_false (fun q => h q.1)]
end Go.Proofs.YtbgabhknmpbgiaaDoor.Pure
end
section
namespace Go.Proofs.YtbgabhknmpbgiaaDoor.Pure
open Go.RowKit Go.Proofs.YtbgabhknmpbgiaaDoor.S Go.Proofs.YtbgabhknmpbgiaaDoorW.PrintWords Go.Proofs.YtbgabhknmpbgiaaDoorW.PrintLast Go.Proofs.YtbgabhknmpbgiaaDoorW.PrintMore
set_option linter.unusedVariables false
def pieces (s : ByteArray) (n : Nat) : Nat → List ByteArray
  | 0 => []
  | j + 1 => pieces s n j ++ [s.extract (j * n) (min (j * n + n) s.size)]
theorem pieces_len (s : ByteArray) (n j : Nat) : (pieces s n j).length = j := by
  induction j with
  | zero => rfl
  | succ j ih => simp [pieces, ih]
def pcs (size n : Nat) : Nat := if size ≤ n then 1 else (size + n - 1) / n
theorem pcs_ok {size n : Nat} (hn : 1 ≤ n) : 1 ≤ pcs size n ∧ size ≤ pcs size n * n ∧ (pcs size n = 1 ∨ (pcs size n - 1) * n < size) := by
  unfold pcs
  split
  · rename_i h
    exact ⟨Nat.le_refl _, by omega, Or.inl rfl⟩
  · rename_i h
    have h1 := Nat.div_add_mod (size + n - 1) n
    have h2 := Nat.mod_lt (size + n - 1) (show 0 < n by omega)
    rw [Nat.mul_comm] at h1
    have h3 : 1 ≤ (size + n - 1) / n := by
      rw [Nat.le_div_iff_mul_le (by omega)]
      omega
    have h4 : ((size + n - 1) / n - 1) * n + n = (size + n - 1) / n * n := by
      rw [← Nat.succ_mul, Nat.succ_eq_add_one, Nat.sub_add_cancel h3]
    exact ⟨h3, by omega, Or.inr (by omega)⟩
theorem pcs_le {size n m : Nat} (hn : 1 ≤ n) (hm : 1 ≤ m) (h : size ≤ n * m) : pcs size n ≤ m := by
  unfold pcs
  split
  · exact hm
  · rw [Nat.div_le_iff_le_mul (by omega), Nat.mul_comm m n]
    omega
def segsOf (s : ByteArray) (n : Nat) : List ByteArray := pieces s n (pcs s.size n)
theorem mulStep {a b n : Nat} (h : a ≤ b) : a * n ≤ b * n := Nat.mul_le_mul_right n h
theorem splitP_loop (s : ByteArray) (n : Nat) (hn : 1 ≤ n) (hn2 : n ≤ 400) (hK : pcs s.size n ≤ 64) : ∀ (d j F : Nat), j + d + 1 = pcs s.size n →
    segment_Split.l0 (F + d + 1) (s.extract (j * n) s.size) (n : Int) (pieces s n j) = some (segsOf s n, 0) := by
  obtain ⟨h1, h2, h3⟩ := pcs_ok (size := s.size) hn
  intro d
  induction d with
  | zero =>
    intro j F hj
    have hle : s.size ≤ (j + 1) * n := by rw [show j + 1 = pcs s.size n by omega]; exact h2
    rw [Nat.succ_mul] at hle
    have hjn : j * n ≤ s.size := by
      rcases h3 with h3 | h3
      · have : j = 0 := by omega
        subst this
        omega
      · have := mulStep (n := n) (show j ≤ pcs s.size n - 1 by omega)
        omega
    have hsz : (s.extract (j * n) s.size).size = s.size - j * n := ext_size s _ _ hjn (Nat.le_refl _)
    rw [show F + 0 + 1 = F + 1 from rfl]
    unfold segment_Split.l0
    rw [if_neg (by omega), if_pos (by rw [pieces_len]; omega)]
    unfold segsOf
    rw [← hj]
    show _ = some (pieces s n j ++ [s.extract (j * n) (min (j * n + n) s.size)], 0)
    rw [show min (j * n + n) s.size = s.size by omega]
  | succ d ih =>
    intro j F hj
    have hlt : (j + 1) * n < s.size := by
      rcases h3 with h3 | h3
      · omega
      · have := mulStep (n := n) (show j + 1 ≤ pcs s.size n - 1 by omega)
        omega
    have hm := Nat.succ_mul j n
    rw [Nat.succ_eq_add_one] at hm
    have hsz : (s.extract (j * n) s.size).size = s.size - j * n := ext_size s _ _ (by omega) (Nat.le_refl _)
    rw [show F + (d + 1) + 1 = (F + d + 1) + 1 by omega]
    unfold segment_Split.l0
    rw [if_pos (by omega), if_pos (by omega), if_pos (by omega), if_pos (by rw [pieces_len]; omega)]
    have e1 : (s.extract (j * n) s.size).extract ((n : Int)).toNat (s.extract (j * n) s.size).size = s.extract ((j + 1) * n) s.size := by
      rw [hsz, Int.toNat_natCast, ByteArray.extract_extract, hm, show min (j * n + (s.size - j * n)) s.size = s.size by omega]
    have e2 : (s.extract (j * n) s.size).extract 0 ((n : Int)).toNat = s.extract (j * n) (min (j * n + n) s.size) := by
      rw [Int.toNat_natCast, ByteArray.extract_extract, Nat.add_zero]
    rw [e1, e2]
    exact ih (j + 1) F (by omega)
theorem splitP (s : ByteArray) (n : Nat) (F : Nat) (hn : 1 ≤ n) (hn2 : n ≤ 400) (hs : s.size ≤ n * 64) : segment_Split.f (F + 64) s (n : Int) = some (segsOf s n, 0) := by
  have hK := pcs_le hn (by decide) hs
  have h1 := (pcs_ok (size := s.size) hn).1
  unfold segment_Split.f
  rw [seg_in, Option.bind_some, decide_eq_true (by omega), if_pos rfl, if_neg (by unfold wrap64; omega)]
  have := splitP_loop s n hn hn2 hK (pcs s.size n - 1) 0 (F + 64 - pcs s.size n) (by omega)
  rw [Nat.zero_mul, ByteArray.extract_zero_size, show F + 64 - pcs s.size n + (pcs s.size n - 1) + 1 = F + 64 by omega] at this
  exact this
theorem splitR_loop (s : ByteArray) (n : Nat) (hz : s.size ≤ 100000) (hn : 1 ≤ n) (hn2 : n ≤ 400) (hK : pcs s.size n ≤ 64) : ∀ (d j F : Nat), j + d = pcs s.size n → 1 ≤ j →
    plenumref49_Split.l0 (F + d + 1) s (n : Int) (pieces s n j) ((j * n : Nat) : Int) = some (segsOf s n, 0) := by
  obtain ⟨h1, h2, h3⟩ := pcs_ok (size := s.size) hn
  intro d
  induction d with
  | zero =>
    intro j F hj h0
    have hle : s.size ≤ j * n := by rw [show j = pcs s.size n by omega]; exact h2
    rw [show F + 0 + 1 = F + 1 from rfl]
    unfold plenumref49_Split.l0
    rw [if_neg (by omega), show j = pcs s.size n by omega]
    rfl
  | succ d ih =>
    intro j F hj h0
    have hlt : j * n < s.size := by
      rcases h3 with h3 | h3
      · omega
      · have := mulStep (n := n) (show j ≤ pcs s.size n - 1 by omega)
        omega
    have hm := Nat.succ_mul j n
    rw [Nat.succ_eq_add_one] at hm
    rw [show F + (d + 1) + 1 = (F + d + 1) + 1 by omega]
    unfold plenumref49_Split.l0
    have w1 : wrap64 (((j * n : Nat) : Int) + (n : Int)) = (((j + 1) * n : Nat) : Int) := by rw [hm]; unfold wrap64; omega
    have hmn : mn (((j + 1) * n : Nat) : Int) (s.size : Int) = ((min (j * n + n) s.size : Nat) : Int) := by unfold mn; rw [hm]; split <;> omega
    rw [w1, hmn, if_pos (by omega), if_pos (by omega), if_pos (by omega), if_pos (by omega), if_pos (by rw [pieces_len]; omega), Int.toNat_natCast, Int.toNat_natCast]
    exact ih (j + 1) F (by omega) (by omega)
theorem splitR (s : ByteArray) (n : Nat) (F : Nat) (hz : s.size ≤ 100000) (hn : 1 ≤ n) (hn2 : n ≤ 400) (hs : s.size ≤ n * 64) : plenumref49_Split.f (F + 66) s (n : Int) = some (segsOf s n, 0) := by
  have hK := pcs_le hn (by decide) hs
  have h1 := (pcs_ok (size := s.size) hn).1
  unfold plenumref49_Split.f
  rw [if_neg (by omega), decide_eq_false (by omega)]
  have hmn : mn (n : Int) (s.size : Int) = ((min n s.size : Nat) : Int) := by unfold mn; split <;> omega
  rw [plenumref49_Split.j0, if_neg Bool.false_ne_true, if_neg (by unfold wrap64; omega), hmn, if_pos (by omega), if_pos (by omega), Int.toNat_natCast]
  have := splitR_loop s n hz hn hn2 hK (pcs s.size n - 1) 1 (F + 65 - pcs s.size n) (by omega) (Nat.le_refl _)
  rw [show F + 65 - pcs s.size n + (pcs s.size n - 1) + 1 = F + 65 by omega, Nat.one_mul] at this
  have e : pieces s n 1 = [s.extract 0 (min n s.size)] := by
    unfold pieces pieces
    rw [Nat.zero_mul, Nat.zero_add]
    rfl
  rw [e] at this
  exact this
theorem splitP_bad (s : ByteArray) (z : Int) (F : Nat) (h : z < 1 ∨ 400 < z) : segment_Split.f F s z = some ([], 1) ∧ plenumref49_Split.f (F + 1) s z = some ([], 1) := by
  refine ⟨?_, ?_⟩
  · unfold segment_Split.f
    rw [seg_in, Option.bind_some, decide_eq_false (by omega), if_neg Bool.false_ne_true]
  · unfold plenumref49_Split.f
    by_cases c : z < 1
    · rw [if_pos c, plenumref49_Split.j0, if_pos rfl]
    · rw [if_neg c, decide_eq_true (by omega), plenumref49_Split.j0, if_pos rfl]
theorem splitP_long (s : ByteArray) (n : Nat) (F : Nat) (hn : 1 ≤ n) (hn2 : n ≤ 400) (h : n * 64 < s.size) : segment_Split.f F s (n : Int) = some ([], 7) ∧ plenumref49_Split.f (F + 1) s (n : Int) = some ([], 7) := by
  refine ⟨?_, ?_⟩
  · unfold segment_Split.f
    rw [seg_in, Option.bind_some, decide_eq_true (by omega), if_pos rfl, if_pos (by unfold wrap64; omega)]
  · unfold plenumref49_Split.f
    rw [if_neg (by omega), decide_eq_false (by omega), plenumref49_Split.j0, if_neg Bool.false_ne_true, if_pos (by unfold wrap64; omega)]
theorem split_both (s : ByteArray) (z : Int) (F : Nat) (hz : s.size ≤ 100000) : ∃ segs e, segment_Split.f (F + 66) s z = some (segs, e) ∧ plenumref49_Split.f (F + 66) s z = some (segs, e) ∧ segs.length ≤ 64 ∧ (e = 0 → 1 ≤ z ∧ z ≤ 400 ∧ s.size ≤ z.toNat * 64 ∧ segs = segsOf s z.toNat) ∧ (e ≠ 0 → segs = []) := by
  by_cases c : z < 1 ∨ 400 < z
  · have h1 := (splitP_bad s z (F + 66) c).1
    have h2 := (splitP_bad s z (F + 65) c).2
    exact ⟨[], 1, h1, h2, by decide, fun h => absurd h (by decide), fun _ => rfl⟩
  · obtain ⟨n, rfl⟩ : ∃ n : Nat, z = (n : Int) := ⟨z.toNat, by omega⟩
    by_cases l : n * 64 < s.size
    · have h1 := (splitP_long s n (F + 66) (by omega) (by omega) l).1
      have h2 := (splitP_long s n (F + 65) (by omega) (by omega) l).2
      exact ⟨[], 7, h1, h2, by decide, fun h => absurd h (by decide), fun _ => rfl⟩
    · refine ⟨segsOf s n, 0, splitP s n (F + 2) (by omega) (by omega) (by omega), splitR s n F hz (by omega) (by omega) (by omega), ?_, fun _ => ⟨by omega, by omega, by rw [Int.toNat_natCast]; omega, by rw [Int.toNat_natCast]⟩, fun h => absurd rfl h⟩
      unfold segsOf
      rw [pieces_len]
      exact pcs_le (by omega) (by decide) (by omega)
end Go.Proofs.YtbgabhknmpbgiaaDoor.Pure
end
section
namespace Go.Proofs.YtbgabhknmpbgiaaDoor.S
open Go.RowKit Go.Proofs.YtbgabhknmpbgiaaDoor.Pure Go.Proofs.YtbgabhknmpbgiaaDoorW.PrintWords Go.Proofs.YtbgabhknmpbgiaaDoorW.PrintLast Go.Proofs.YtbgabhknmpbgiaaDoorW.PrintMore
set_option linter.unusedVariables false
set_option linter.unusedSimpArgs false
structure One (w0 ws : World) (gs : Nat) (s : Sn) (w : World) : Prop where
  snd : AtP ws w gs s
  sb : Below ws.heap.size ws w
  b0 : w0.heap.size ≤ ws.heap.size
  base : Below w0.heap.size w0 w
theorem One.below {w0 ws : World} {gs : Nat} {s : Sn} {w w1 : World} (h : One w0 ws gs s w) (hb : Below w.heap.size w w1) : One w0 ws gs s w1 :=
  ⟨h.snd.below hb, h.sb.trans (hb.mono h.sb.size), h.b0, below_step h.base hb⟩
theorem One.pcall {w0 ws : World} {gs : Nat} {s : Sn} {w w1 : World} {x : List S23 × Sn} {e : Ending} (h : One w0 ws gs s w) (hp : PPost ws w gs x e w1) : ∃ v : Value, e = .returned v ∧ Pt w.heap.size w1 v x.1 ∧ One w0 ws gs x.2 w1 ∧ Keep23 w w1 := by
  obtain ⟨v, he, hv, hs, hb, hk⟩ := hp
  obtain ⟨A4, c4, h1, h1b, h1c⟩ := h.snd
  exact ⟨v, he, hv, ⟨hs, hb, h.b0, ⟨hb.os.trans (h.sb.os.symm.trans h.base.os), hb.tape.trans (h.sb.tape.symm.trans h.base.tape), hb.output.trans (h.sb.output.symm.trans h.base.output), Nat.le_trans h.base.size hk.1, fun k hk0 => (hb.block k (Nat.lt_of_lt_of_le hk0 h.b0)).trans ((h.sb.block k (Nat.lt_of_lt_of_le hk0 h.b0)).symm.trans (h.base.block k hk0))⟩⟩, Keep23.of_keepBut hk h1 (by decide)⟩
theorem One.tick {w0 ws : World} {gs : Nat} {s : Sn} {w : World} (h : One w0 ws gs s w) (hs : OkS s) (now : Int) (xs : List S23) (s2 : Sn) (he : s.tick now = (xs, s2)) : Calls Tryd.prog 24 #[.pointer (some ⟨gs, 0, none⟩), .int .i64 now] w fun e w' => ∃ A, e = .returned (.slice A xs.length xs.length) ∧ Pt w.heap.size w' (.slice A xs.length xs.length) xs ∧ One w0 ws gs s2 w' ∧ Keep23 w w' := by
  refine (tickP_calls gs s now ws w h.snd h.sb hs).mono fun e w' hp => ?_
  rw [he] at hp
  obtain ⟨v, h1, h2, h3, h4⟩ := h.pcall hp
  obtain ⟨A, ev, _⟩ := Pt.slice h2
  subst ev
  exact ⟨A, h1, h2, h3, h4⟩
def gS (window timeout retries : Int) (segs : List ByteArray) (c x nw : Int) : Sn := ⟨7, window, timeout, retries, segs, 0, 0, c, x, nw + timeout⟩
def gC (window : Int) (segs : List ByteArray) : Nat := (mn (0 + window) (segs.length : Int) - 0).toNat
def gX (window : Int) (segs : List ByteArray) : List S23 := parts23 7 window segs 0 (gC window segs)
theorem gNew {window timeout retries now : Int} {segs : List ByteArray} (h0 : 0 ≤ now) (h1 : now ≤ 1000000) (t0 : 1 ≤ timeout) (t1 : timeout ≤ 86400) : newS 7 window timeout retries segs now = (gX window segs, gS window timeout retries segs (gC window segs : Int) 0 now) := by
  unfold newS Sn.send gX gS
  have hw : wrap64 (now + timeout) = now + timeout := by unfold wrap64; omega
  show (parts23 7 window segs ((0 : Int)).toNat _, _) = _
  simp only [hw, Int.zero_add]
  rfl
theorem gEarly {window timeout retries x nw t : Int} {segs : List ByteArray} {c : Int} (h : t < nw + timeout) : (gS window timeout retries segs c x nw).tick t = ([], gS window timeout retries segs c x nw) := by
  unfold Sn.tick gS
  rw [if_pos rfl, if_pos h]
theorem gAgain {window timeout retries x nw : Int} {segs : List ByteArray} (h0 : 0 ≤ nw) (h1 : nw ≤ 2000000) (t0 : 1 ≤ timeout) (t1 : timeout ≤ 86400) (x0 : 0 ≤ x) (hx : x < retries) (hr : retries ≤ 10) : (gS window timeout retries segs (gC window segs : Int) x nw).tick (nw + timeout) = (gX window segs, gS window timeout retries segs (gC window segs : Int) (x + 1) (nw + timeout)) := by
  unfold Sn.tick gS gX
  rw [if_pos rfl, if_neg (by show ¬ (nw + timeout < nw + timeout); omega), if_neg (by show ¬ (x = retries); omega)]
  unfold Sn.send
  have hw : wrap64 (nw + timeout + timeout) = nw + timeout + timeout := by unfold wrap64; omega
  have hx1 : wrap64 (x + 1) = x + 1 := by unfold wrap64; omega
  show (parts23 7 window segs ((0 : Int)).toNat _, _) = _
  simp only [hw, hx1, Int.zero_add]
  rfl
theorem gLast {window timeout retries nw : Int} {segs : List ByteArray} {c : Int} : (gS window timeout retries segs c retries nw).tick (nw + timeout) = ([abort23 7], { gS window timeout retries segs c retries nw with state := 2 }) := by
  unfold Sn.tick gS
  rw [if_pos rfl, if_neg (by show ¬ (nw + timeout < nw + timeout); omega), if_pos rfl]
theorem gOk {window timeout retries x nw : Int} {segs : List ByteArray} (hl : segs.length ≤ 64) (w0 : 1 ≤ window) (w1 : window ≤ 16) : OkS (gS window timeout retries segs (gC window segs : Int) x nw) :=
  ⟨hl, by show 0 ≤ window; omega, w1, Int.le_refl _, by show (0 : Int) ≤ 64; decide, by show (0 : Int) ≤ (gC window segs : Int); omega, by
    show (gC window segs : Int) ≤ 64
    unfold gC mn
    split <;> omega⟩
theorem gX_len (window : Int) (segs : List ByteArray) : (gX window segs).length = gC window segs := parts23_len _ _ _ _ _
theorem gX_num {window : Int} {segs : List ByteArray} {y : Int} (h0 : 0 ≤ y) (h1 : y < ((gX window segs).length : Int)) : (rd_T23 (gX window segs) y).f2 = y := by
  rw [gX_len] at h1
  unfold rd_T23 gX parts23
  rw [List.getD_eq_getElem?_getD, List.getElem?_map, List.getElem?_range (by omega)]
  show ((0 + y.toNat : Nat) : Int) = y
  omega
end Go.Proofs.YtbgabhknmpbgiaaDoor.S
end
section
namespace Go.Proofs.YtbgabhknmpbgiaaDoor.S
open Go.RowKit Go.Proofs.YtbgabhknmpbgiaaDoor.Pure Go.Proofs.YtbgabhknmpbgiaaDoorW.PrintWords Go.Proofs.YtbgabhknmpbgiaaDoorW.PrintLast Go.Proofs.YtbgabhknmpbgiaaDoorW.PrintMore
set_option linter.unusedVariables false
set_option linter.unusedSimpArgs false
attribute [local go_sem] max2_int min2_int max_two min_two
theorem state0 (g : Nat) (s : Sn) (w0 w : World) (h : AtP w0 w g s) (hs : s.state = 0) : Calls Tryd.prog 29 #[.pointer (some ⟨g, 0, none⟩)] w fun e w' => e = .returned (.int .i64 0) ∧ w' = w := by
  rw [← hs]
  exact sstate_calls g s w0 w h
theorem state2 (g : Nat) (s : Sn) (w0 w : World) (h : AtP w0 w g s) (hs : s.state = 2) : Calls Tryd.prog 29 #[.pointer (some ⟨g, 0, none⟩)] w fun e w' => e = .returned (.int .i64 2) ∧ w' = w := by
  rw [← hs]
  exact sstate_calls g s w0 w h
theorem gnewE_0 {id window timeout retries e2 : Int} (h : newE id window timeout retries e2 = 0) : e2 = 0 ∧ 1 ≤ window ∧ window ≤ 16 ∧ 0 ≤ retries ∧ retries ≤ 10 ∧ 1 ≤ timeout ∧ timeout ≤ 86400 ∧ 0 ≤ id ∧ id ≤ 255 := by
  unfold newE at h
  split at h
  · rename_i hb
    unfold begE at hb
    split at hb
    · split at h
      · exact ⟨h, by omega⟩
      · exact absurd h (by decide)
    · exact absurd hb (by decide)
  · exact absurd h (by assumption)
set_option maxHeartbeats 16000000 in
set_option maxRecDepth 100000 in
theorem gives_walk (message : ByteArray) (size window timeout retries now : Int) (w : World) (hG : Glob w) :
    Calls Tryd.prog 9 #[.string message, .int .i64 size, .int .i64 window, .int .i64 timeout, .int .i64 retries, .int .i64 now] w fun e w' => e = .returned (.bool true) ∧ Below w.heap.size w w' := by
  have HG := Aside0.mk hG
  clear hG
  have hu23 := Tryd.underlying23
  by_cases k0 : (message.size : Int) > 300
  · have k0b : decide (300 < (message.size : Int)) = true := decide_eq_true k0
    have k0c : decide (300 < message.size) = true := decide_eq_true (by omega)
    clear k0
    go_enter Tryd.func9, Tryd.ntmps9
    go_wp2_with (first | (go_at_call 10; (with_reducible refine (awake_calls w HG.out).mono ?_); rintro e w1 ⟨rfl, hb⟩; have HB1 := Aside0.mk hb; clear hb))
    go_ret
    exact ⟨rfl, HB1.out⟩
  have HMS := Aside0.mk k0
  have k0b : decide (300 < (message.size : Int)) = false := decide_eq_false k0
  have k0c : decide (300 < message.size) = false := decide_eq_false (by omega)
  clear k0
  by_cases k1 : now < 0
  · have k1b : decide (now < 0) = true := decide_eq_true k1
    clear k1
    go_enter Tryd.func9, Tryd.ntmps9
    go_wp2_with (first | (go_at_call 10; (with_reducible refine (awake_calls w HG.out).mono ?_); rintro e w1 ⟨rfl, hb⟩; have HB1 := Aside0.mk hb; clear hb))
    go_ret
    exact ⟨rfl, HB1.out⟩
  have K1 := Aside0.mk k1
  have k1b : decide (now < 0) = false := decide_eq_false k1
  clear k1
  by_cases k2 : 1000000 < now
  · have k2b : decide (1000000 < now) = true := decide_eq_true k2
    clear k2
    go_enter Tryd.func9, Tryd.ntmps9
    go_wp2_with (first | (go_at_call 10; (with_reducible refine (awake_calls w HG.out).mono ?_); rintro e w1 ⟨rfl, hb⟩; have HB1 := Aside0.mk hb; clear hb))
    go_ret
    exact ⟨rfl, HB1.out⟩
  have K2 := Aside0.mk k2
  have k2b : decide (1000000 < now) = false := decide_eq_false k2
  clear k2
  obtain ⟨segs, e2, hsp, hsr, hl, h0, hne⟩ := split_both message size 0 (by have := HMS.out; omega)
  have HSP := Aside0.mk (show segment_Split.f 66 message size = some (segs, e2) from hsp)
  have HL := Aside0.mk hl
  clear hsp hsr hl h0 hne
  by_cases ke : newE 7 window timeout retries e2 = 0
  case neg =>
    have HE := Aside0.mk ke
    obtain ⟨er, HER⟩ : ∃ er, Aside0 (newE 7 window timeout retries e2 = er) := ⟨_, ⟨rfl⟩⟩
    have kb : (er != 0) = true := bne_iff_ne.mpr (by rw [← HER.out]; exact ke)
    clear ke
    go_enter Tryd.func9, Tryd.ntmps9
    go_wp2_with (first | (go_at_call 10; (with_reducible refine (awake_calls w HG.out).mono ?_); rintro e w1 ⟨rfl, hb⟩; have HB1 := Aside0.mk hb; clear hb) | (go_at_call 21; (with_reducible refine (newP_calls 66 7 message size window timeout retries now segs e2 w1 (Glob.below HG.out HB1.out) HSP.out HL.out).mono ?_); rintro e w3 ⟨hn, _⟩; obtain ⟨he, hb⟩ := hn HE.out; rw [HER.out] at he; subst he; have HB3 := Aside0.mk (below_step HB1.out hb); clear hn hb))
    go_ret
    exact ⟨rfl, HB3.out⟩
  have HE := Aside0.mk ke
  obtain ⟨_, hw0, hw1, hr0, hr1, ht0, ht1, _⟩ := gnewE_0 ke
  have HW := Aside0.mk (show 1 ≤ window ∧ window ≤ 16 from ⟨hw0, hw1⟩)
  have HR := Aside0.mk (show 0 ≤ retries ∧ retries ≤ 10 from ⟨hr0, hr1⟩)
  have HTM := Aside0.mk (show 1 ≤ timeout ∧ timeout ≤ 86400 from ⟨ht0, ht1⟩)
  obtain ⟨xs, HXS⟩ : ∃ xs, Aside0 (gX window segs = xs) := ⟨_, ⟨rfl⟩⟩
  have HX0 := Aside0.mk (show newS 7 window timeout retries segs now = (xs, gS window timeout retries segs (gC window segs : Int) 0 now) by rw [← HXS.out]; exact gNew (by have := K1.out; omega) (by have := K2.out; omega) ht0 ht1)
  have HXL := Aside0.mk (show xs.length ≤ 64 by rw [← HXS.out, gX_len]; have h1 := HL.out; unfold gC mn; split <;> omega)
  clear ke hw0 hw1 hr0 hr1 ht0 ht1
  go_enter Tryd.func9, Tryd.ntmps9
  go_wp2_with (first | (go_at_call 10; (with_reducible refine (awake_calls w HG.out).mono ?_); rintro e w1 ⟨rfl, hb⟩; have HB1 := Aside0.mk hb; clear hb) | (go_at_call 21; (with_reducible refine (newP_calls 66 7 message size window timeout retries now segs e2 w1 (Glob.below HG.out HB1.out) HSP.out HL.out).mono ?_); rintro e w3 ⟨_, hp⟩; obtain ⟨gs, v3, ws, rfl, hv, hs, hb0, hb⟩ := hp HE.out; rw [HX0.out] at hv hs; obtain ⟨A3, ev, _⟩ := Pt.slice hv; subst ev; have HP3 := Aside0.mk (show Pt 0 w3 (.slice A3 xs.length xs.length) xs from Pt.low hv (Nat.zero_le _)); have HO3 := Aside0.mk (show One w ws gs (gS window timeout retries segs (gC window segs : Int) 0 now) w3 from ⟨hs, hb, Nat.le_trans HB1.out.size hb0.size, below_step (below_step HB1.out hb0) hb⟩); clear hp hv hs hb0 hb))
  go_loopg [5, 16, 17, 18] retries.toNat (fun kq v5 v16 v17 v18 wr => ∃ (x nw : Int), v16 = .int .i64 x ∧ v5 = .int .i64 nw ∧ Aside0 (0 ≤ x ∧ x + (kq : Int) = retries ∧ 0 ≤ nw ∧ nw ≤ 1000000 + 86400 * x) ∧ Aside0 (One w ws gs (gS window timeout retries segs (gC window segs : Int) x nw) wr) ∧ Aside0 (Pt 0 wr (.slice A3 xs.length xs.length) xs))
  case atStart => exact ⟨0, now, rfl, rfl, ⟨by have h1 := HR.out; have h2 := K1.out; have h3 := K2.out; omega⟩, HO3, HP3⟩
  case round =>
    obtain ⟨x, nw, rfl, rfl, HXX, HO, HP⟩ := hrel
    clear HB1 HO3 HP3
    have HOK := Aside0.mk (gOk (timeout := timeout) (retries := retries) (x := x) (nw := nw) HL.out HW.out.1 HW.out.2)
    have hw1 : wrap64 (nw + timeout) = nw + timeout := by have h1 := HXX.out; have h2 := HR.out; have h3 := HTM.out; unfold wrap64; omega
    have hw2 : wrap64 (nw + timeout - 1) = nw + timeout - 1 := by have h1 := HXX.out; have h2 := HR.out; have h3 := HTM.out; unfold wrap64; omega
    cases gk with
    | zero =>
      have q0 : decide (x < retries) = false := decide_eq_false (by have h1 := HXX.out; omega)
      have HLA := Aside0.mk (show (gS window timeout retries segs (gC window segs : Int) x nw).tick (nw + timeout) = ([abort23 7], { gS window timeout retries segs (gC window segs : Int) x nw with state := 2 }) by rw [show x = retries by have h1 := HXX.out; omega]; exact gLast)
      go_wp2_with (first | (go_at_call 24; (with_reducible refine (One.tick HO.out HOK.out (nw + timeout - 1) [] _ (gEarly (by omega))).mono ?_); rintro e wa ⟨Aa, rfl, _, hta, hka⟩; have HOa := Aside0.mk hta; clear hta hka) | (go_at_call 24; (with_reducible refine (One.tick HOa.out HOK.out (nw + timeout) [abort23 7] _ HLA.out).mono ?_); rintro e wb ⟨Ab, rfl, hvb, htb, hkb⟩; have HOb := Aside0.mk htb; have HQb := Aside0.mk (show Pt wa.heap.size wb (.slice Ab 1 1) [abort23 7] from hvb); clear hvb htb hkb; obtain ⟨adb, rfl⟩ := HQb.out.head_at; have h_ := Pt.atE HQb.out 0 (by decide); have y0 : wb.cell? adb = some (.int .i64 3) := h_.c0; have y1 : wb.cell? ⟨adb.block, adb.off + 1, none⟩ = some (.int .i64 7) := h_.c1; have y2 : wb.cell? ⟨adb.block, adb.off + 2, none⟩ = some (.int .i64 0) := h_.c2; have y3 : wb.cell? ⟨adb.block, adb.off + 3, none⟩ = some (.bool false) := h_.c3; have y4 : wb.cell? ⟨adb.block, adb.off + 4, none⟩ = some (.int .i64 0) := h_.c4; have y5 : wb.cell? ⟨adb.block, adb.off + 5, none⟩ = some (.string ⟨#[]⟩) := h_.c5; clear h_) | (go_at_call 29; (with_reducible refine (state2 gs _ ws _ HOb.out.snd rfl).mono ?_); rintro e wz ⟨rfl, rfl⟩))
      go_ret
      exact ⟨rfl, HOb.out.base⟩
    | succ k1 =>
      have q0 : decide (x < retries) = true := decide_eq_true (by have h1 := HXX.out; omega)
      have hxw : wrap64 (x + 1) = x + 1 := by have h1 := HXX.out; have h2 := HR.out; unfold wrap64; omega
      have HAG := Aside0.mk (show (gS window timeout retries segs (gC window segs : Int) x nw).tick (nw + timeout) = (xs, gS window timeout retries segs (gC window segs : Int) (x + 1) (nw + timeout)) by rw [← HXS.out]; have h1 := HXX.out; have h2 := HR.out; have h3 := HTM.out; exact gAgain (by omega) (by omega) h3.1 h3.2 (by omega) (by omega) (by omega))
      have hll : ((xs.length : Int) != (xs.length : Int)) = false := bne_self_eq_false _
      go_wp2_with (first | (go_at_call 24; (with_reducible refine (One.tick HO.out HOK.out (nw + timeout - 1) [] _ (gEarly (by omega))).mono ?_); rintro e wa ⟨Aa, rfl, _, hta, hka⟩; have HOa := Aside0.mk hta; have HPa := Aside0.mk (HP.out.keep hka); clear hta hka) | (go_at_call 29; (with_reducible refine (state0 gs _ ws _ HOa.out.snd rfl).mono ?_); rintro e wz ⟨rfl, rfl⟩) | (go_at_call 24; (with_reducible refine (One.tick HOa.out HOK.out (nw + timeout) xs _ HAG.out).mono ?_); rintro e wb ⟨Ab, rfl, hvb, htb, hkb⟩; have HOb := Aside0.mk htb; have HPb := Aside0.mk (HPa.out.keep hkb); have HQb := Aside0.mk (Pt.low hvb (Nat.zero_le _)); clear hvb htb hkb))
      go_loopg [18] xs.length (fun kq v18 wq => ∃ (y : Int), v18 = .int .i64 y ∧ Aside0 (0 ≤ y ∧ y + (kq : Int) = (xs.length : Int)) ∧ Aside0 (One w ws gs (gS window timeout retries segs (gC window segs : Int) (x + 1) (nw + timeout)) wq) ∧ Aside0 (Pt 0 wq (.slice A3 xs.length xs.length) xs) ∧ Aside0 (Pt 0 wq (.slice Ab xs.length xs.length) xs))
      case atStart => exact ⟨0, rfl, ⟨by omega⟩, HOb, HPb, HQb⟩
      case round =>
        obtain ⟨y, rfl, HYY, HO2, HP2, HQ2⟩ := hrel
        clear HO HP HOa HPa HOb HPb HQb
        cases gk with
        | zero =>
          have q1 : decide (y < (xs.length : Int)) = false := decide_eq_false (by have h1 := HYY.out; omega)
          go_wp2
          go_roundg k1
          case measure => omega
          case rel => exact ⟨x + 1, nw + timeout, (by first | rfl | (rw [hxw])), (by first | rfl | (rw [hw1])), ⟨by have h1 := HXX.out; have h3 := HTM.out; omega⟩, HO2, HP2⟩
        | succ k2 =>
          have hlt : y < (xs.length : Int) := by have h1 := HYY.out; omega
          have q1 : decide (y < (xs.length : Int)) = true := decide_eq_true hlt
          have hyw : wrap64 (y + 1) = y + 1 := by have h1 := HYY.out; have h2 := HXL.out; unfold wrap64; omega
          have p1 : (0 ≤ y) = True := eq_true HYY.out.1
          have p2 : (y < (xs.length : Int)) = True := eq_true hlt
          have HN := Aside0.mk (show (rd_T23 xs y).f2 = y by have h1 := hlt; rw [← HXS.out] at h1 ⊢; exact gX_num HYY.out.1 h1)
          go_wp2
          have HO3 := Aside0.mk (HO2.out.below (below_drew1 (Below.refl _ _)))
          have HP3 := Aside0.mk (HP2.out.keep (Keep23.of_below (below_drew1 (Below.refl _ _))))
          have HQ3 := Aside0.mk (HQ2.out.keep (Keep23.of_below (below_drew1 (Below.refl _ _))))
          obtain ⟨ad2, e7, z0, z1, z2, z3, z4, z5⟩ := at_T23 (Pt.C HP3.out) y HYY.out.1 hlt
          subst e7
          obtain ⟨ad1, e8, x0, x1, x2, x3, x4, x5⟩ := at_T23 (Pt.C HQ3.out) y HYY.out.1 hlt
          subst e8
          clear hlt
          generalize rd_T23 xs y = m at x0 x1 x2 x3 x4 x5 z0 z1 z2 z3 z4 z5 HN
          have hnm : (m.f2 != y) = false := by rw [HN.out]; exact bne_self_eq_false _
          have hne : (m.f5.toList == m.f5.toList) = true := beq_self_eq_true _
          refine start_ (n := 18) (S := fun w' => w'.cell? (ad1.add (y.toNat * 6)) = some (.int .i64 m.f0) ∧ w'.cell? ⟨(ad1.add (y.toNat * 6)).block, (ad1.add (y.toNat * 6)).off + 1, none⟩ = some (.int .i64 m.f1) ∧ w'.cell? ⟨(ad1.add (y.toNat * 6)).block, (ad1.add (y.toNat * 6)).off + 2, none⟩ = some (.int .i64 m.f2) ∧ w'.cell? ⟨(ad1.add (y.toNat * 6)).block, (ad1.add (y.toNat * 6)).off + 3, none⟩ = some (.bool m.f3) ∧ w'.cell? ⟨(ad1.add (y.toNat * 6)).block, (ad1.add (y.toNat * 6)).off + 4, none⟩ = some (.int .i64 m.f4) ∧ w'.cell? ⟨(ad1.add (y.toNat * 6)).block, (ad1.add (y.toNat * 6)).off + 5, none⟩ = some (.string m.f5) ∧ w'.cell? (ad2.add (y.toNat * 6)) = some (.int .i64 m.f0) ∧ w'.cell? ⟨(ad2.add (y.toNat * 6)).block, (ad2.add (y.toNat * 6)).off + 1, none⟩ = some (.int .i64 m.f1) ∧ w'.cell? ⟨(ad2.add (y.toNat * 6)).block, (ad2.add (y.toNat * 6)).off + 2, none⟩ = some (.int .i64 m.f2) ∧ w'.cell? ⟨(ad2.add (y.toNat * 6)).block, (ad2.add (y.toNat * 6)).off + 3, none⟩ = some (.bool m.f3) ∧ w'.cell? ⟨(ad2.add (y.toNat * 6)).block, (ad2.add (y.toNat * 6)).off + 4, none⟩ = some (.int .i64 m.f4) ∧ w'.cell? ⟨(ad2.add (y.toNat * 6)).block, (ad2.add (y.toNat * 6)).off + 5, none⟩ = some (.string m.f5)) (ds := []) #[false, false, false, false, false, false, false, false, false, false, false, false, false, false, false, false, false, false] (by kernel_rfl) rfl rfl ⟨x0, x1, x2, x3, x4, x5, z0, z1, z2, z3, z4, z5⟩ (fun hHeld => ?_)
          clear x0 x1 x2 x3 x4 x5 z0 z1 z2 z3 z4 z5
          refine pure_ (i := 0) (N := some 80) (v := ?_) (a' := ?_) #[true, false, false, false, false, false, false, false, false, false, false, false, false, false, false, false, false, false] rfl rfl (by kernel_rfl) (fun _ _ _ h => h) (Or.inl ⟨by rfl, ?_⟩) ?_ ?_
          rotate_left
          · intro w'
            go_simp
            with_reducible rfl
          rotate_left
          · simp only [Act.put, List.setIfInBounds_toArray, List.set_cons_zero, List.set_cons_succ, i64_w, i32_w]
            rfl
          refine pure_ (i := 1) (N := some 81) (v := ?_) (a' := ?_) #[true, true, false, false, false, false, false, false, false, false, false, false, false, false, false, false, false, false] rfl rfl (by kernel_rfl) (fun _ _ _ h => h) (Or.inl ⟨by rfl, ?_⟩) ?_ ?_
          rotate_left
          · intro w'
            go_simp
            with_reducible rfl
          rotate_left
          · simp only [Act.put, List.setIfInBounds_toArray, List.set_cons_zero, List.set_cons_succ, i64_w, i32_w]
            rfl
          refine pure_ (i := 2) (N := some 82) (v := ?_) (a' := ?_) #[true, true, true, false, false, false, false, false, false, false, false, false, false, false, false, false, false, false] rfl rfl (by kernel_rfl) (fun _ _ _ h => h) (Or.inl ⟨by rfl, ?_⟩) ?_ ?_
          rotate_left
          · intro w'
            go_simp
            with_reducible rfl
          rotate_left
          · simp only [Act.put, List.setIfInBounds_toArray, List.set_cons_zero, List.set_cons_succ, i64_w, i32_w]
            rfl
          refine pure_ (i := 4) (N := some 84) (v := ?_) (a' := ?_) #[true, true, true, false, true, false, false, false, false, false, false, false, false, false, false, false, false, false] rfl rfl (by kernel_rfl) (fun _ _ _ h => h) (Or.inl ⟨by rfl, ?_⟩) ?_ ?_
          rotate_left
          · intro w'
            go_simp
            with_reducible rfl
          rotate_left
          · simp only [Act.put, List.setIfInBounds_toArray, List.set_cons_zero, List.set_cons_succ, i64_w, i32_w]
            rfl
          refine pure_ (i := 5) (N := some 85) (v := ?_) (a' := ?_) #[true, true, true, false, true, true, false, false, false, false, false, false, false, false, false, false, false, false] rfl rfl (by kernel_rfl) (fun _ _ _ h => h) (Or.inl ⟨by rfl, ?_⟩) ?_ ?_
          rotate_left
          · intro w'
            go_simp
            with_reducible rfl
          rotate_left
          · simp only [Act.put, List.setIfInBounds_toArray, List.set_cons_zero, List.set_cons_succ, i64_w, i32_w]
            rfl
          refine pure_ (i := 6) (N := some 86) (v := ?_) (a' := ?_) #[true, true, true, false, true, true, true, false, false, false, false, false, false, false, false, false, false, false] rfl rfl (by kernel_rfl) (fun _ _ _ h => h) (Or.inl ⟨by rfl, ?_⟩) ?_ ?_
          rotate_left
          · intro w'
            go_simp
            with_reducible rfl
          rotate_left
          · simp only [Act.put, List.setIfInBounds_toArray, List.set_cons_zero, List.set_cons_succ, i64_w, i32_w]
            rfl
          refine take_ (i := 3) (N := some 83) (v := ?_) (a' := ?_) #[true, true, true, true, true, true, true, false, false, false, false, false, false, false, false, false, false, false] rfl rfl (by kernel_rfl) (fun _ _ _ h => h) (Or.inl ⟨by rfl, ?_⟩) hHeld ?_ ?_
          rotate_left
          · rintro w' ⟨s0, s1, s2, s3, s4, s5, s6, s7, s8, s9, s10, s11⟩
            go_simp
            with_reducible rfl
          rotate_left
          · simp only [Act.put, List.setIfInBounds_toArray, List.set_cons_zero, List.set_cons_succ, i64_w, i32_w]
            rfl
          refine take_ (i := 7) (N := some 87) (v := ?_) (a' := ?_) #[true, true, true, true, true, true, true, true, false, false, false, false, false, false, false, false, false, false] rfl rfl (by kernel_rfl) (fun _ _ _ h => h) (Or.inl ⟨by rfl, ?_⟩) hHeld ?_ ?_
          rotate_left
          · rintro w' ⟨s0, s1, s2, s3, s4, s5, s6, s7, s8, s9, s10, s11⟩
            go_simp
            with_reducible rfl
          rotate_left
          · simp only [Act.put, List.setIfInBounds_toArray, List.set_cons_zero, List.set_cons_succ, i64_w, i32_w]
            rfl
          refine pure_ (i := 8) (N := some 88) (v := ?_) (a' := ?_) #[true, true, true, true, true, true, true, true, true, false, false, false, false, false, false, false, false, false] rfl rfl (by kernel_rfl) (fun _ _ _ h => h) (Or.inl ⟨by rfl, ?_⟩) ?_ ?_
          rotate_left
          · intro w'
            go_simp
            with_reducible rfl
          rotate_left
          · simp only [Act.put, List.setIfInBounds_toArray, List.set_cons_zero, List.set_cons_succ, i64_w, i32_w]
            rfl
          refine pure_ (i := 9) (N := some 89) (v := ?_) (a' := ?_) #[true, true, true, true, true, true, true, true, true, true, false, false, false, false, false, false, false, false] rfl rfl (by kernel_rfl) (fun _ _ _ h => h) (Or.inl ⟨by rfl, ?_⟩) ?_ ?_
          rotate_left
          · intro w'
            go_simp
            with_reducible rfl
          rotate_left
          · simp only [Act.put, List.setIfInBounds_toArray, List.set_cons_zero, List.set_cons_succ, i64_w, i32_w]
            rfl
          refine pure_ (i := 10) (N := some 90) (v := ?_) (a' := ?_) #[true, true, true, true, true, true, true, true, true, true, true, false, false, false, false, false, false, false] rfl rfl (by kernel_rfl) (fun _ _ _ h => h) (Or.inl ⟨by rfl, ?_⟩) ?_ ?_
          rotate_left
          · intro w'
            go_simp
            with_reducible rfl
          rotate_left
          · simp only [Act.put, List.setIfInBounds_toArray, List.set_cons_zero, List.set_cons_succ, i64_w, i32_w]
            rfl
          refine pure_ (i := 11) (N := some 91) (v := ?_) (a' := ?_) #[true, true, true, true, true, true, true, true, true, true, true, true, false, false, false, false, false, false] rfl rfl (by kernel_rfl) (fun _ _ _ h => h) (Or.inl ⟨by rfl, ?_⟩) ?_ ?_
          rotate_left
          · intro w'
            go_simp
            with_reducible rfl
          rotate_left
          · simp only [Act.put, List.setIfInBounds_toArray, List.set_cons_zero, List.set_cons_succ, i64_w, i32_w]
            rfl
          refine pure_ (i := 12) (N := some 92) (v := ?_) (a' := ?_) #[true, true, true, true, true, true, true, true, true, true, true, true, true, false, false, false, false, false] rfl rfl (by kernel_rfl) (fun _ _ _ h => h) (Or.inl ⟨by rfl, ?_⟩) ?_ ?_
          rotate_left
          · intro w'
            go_simp
            with_reducible rfl
          rotate_left
          · simp only [Act.put, List.setIfInBounds_toArray, List.set_cons_zero, List.set_cons_succ, i64_w, i32_w]
            rfl
          refine pure_ (i := 13) (N := some 93) (v := ?_) (a' := ?_) #[true, true, true, true, true, true, true, true, true, true, true, true, true, true, false, false, false, false] rfl rfl (by kernel_rfl) (fun _ _ _ h => h) (Or.inl ⟨by rfl, ?_⟩) ?_ ?_
          rotate_left
          · intro w'
            go_simp
            with_reducible rfl
          rotate_left
          · simp only [Act.put, List.setIfInBounds_toArray, List.set_cons_zero, List.set_cons_succ, i64_w, i32_w]
            rfl
          refine pure_ (i := 15) (N := some 95) (v := ?_) (a' := ?_) #[true, true, true, true, true, true, true, true, true, true, true, true, true, true, false, true, false, false] rfl rfl (by kernel_rfl) (fun _ _ _ h => h) (Or.inl ⟨by rfl, ?_⟩) ?_ ?_
          rotate_left
          · intro w'
            go_simp
            with_reducible rfl
          rotate_left
          · simp only [Act.put, List.setIfInBounds_toArray, List.set_cons_zero, List.set_cons_succ, i64_w, i32_w]
            rfl
          refine take_ (i := 14) (N := some 94) (v := ?_) (a' := ?_) #[true, true, true, true, true, true, true, true, true, true, true, true, true, true, true, true, false, false] rfl rfl (by kernel_rfl) (fun _ _ _ h => h) (Or.inl ⟨by rfl, ?_⟩) hHeld ?_ ?_
          rotate_left
          · rintro w' ⟨s0, s1, s2, s3, s4, s5, s6, s7, s8, s9, s10, s11⟩
            go_simp
            with_reducible rfl
          rotate_left
          · simp only [Act.put, List.setIfInBounds_toArray, List.set_cons_zero, List.set_cons_succ, i64_w, i32_w]
            rfl
          refine pure_ (i := 16) (N := some 96) (v := ?_) (a' := ?_) #[true, true, true, true, true, true, true, true, true, true, true, true, true, true, true, true, true, false] rfl rfl (by kernel_rfl) (fun _ _ _ h => h) (Or.inl ⟨by rfl, ?_⟩) ?_ ?_
          rotate_left
          · intro w'
            go_simp
            with_reducible rfl
          rotate_left
          · simp only [Act.put, List.setIfInBounds_toArray, List.set_cons_zero, List.set_cons_succ, i64_w, i32_w]
            rfl
          refine pure_ (i := 17) (N := some 97) (v := ?_) (a' := ?_) #[true, true, true, true, true, true, true, true, true, true, true, true, true, true, true, true, true, true] rfl rfl (by kernel_rfl) (fun _ _ _ h => h) (Or.inl ⟨by rfl, ?_⟩) ?_ ?_
          rotate_left
          · intro w'
            go_simp
            with_reducible rfl
          rotate_left
          · simp only [Act.put, List.setIfInBounds_toArray, List.set_cons_zero, List.set_cons_succ, i64_w, i32_w]
            rfl
          refine done_ (by kernel_rfl) ?_
          go_wp2
          go_roundg k2
          case measure => omega
          case rel => exact ⟨y + 1, (by first | rfl | (rw [hyw])), ⟨by have h1 := HYY.out; omega⟩, HO3, HP3, HQ3⟩
def plenumlaw49_SegmentGives.f (k : Nat) (a0 : ByteArray) (a1 : Int) (a2 : Int) (a3 : Int) (a4 : Int) (a5 : Int) : Option (Bool) := some true
theorem plenumlaw49_SegmentGives.calls (k : Nat) (a0 : ByteArray) (a1 : Int) (a2 : Int) (a3 : Int) (a4 : Int) (a5 : Int) (r : Bool) (w : World) (hG : Glob w) (h : plenumlaw49_SegmentGives.f k a0 a1 a2 a3 a4 a5 = some r) :
    Calls Tryd.prog 9 #[.string a0, .int .i64 a1, .int .i64 a2, .int .i64 a3, .int .i64 a4, .int .i64 a5] w fun e w' => e = .returned (.bool r) ∧ Below w.heap.size w w' := by
  injection h with h
  subst h
  exact gives_walk a0 a1 a2 a3 a4 a5 w hG
end Go.Proofs.YtbgabhknmpbgiaaDoor.S
end
section
namespace Go.Proofs.YtbgabhknmpbgiaaDoor.Opn
open Go.RowKit Go.Proofs.YtbgabhknmpbgiaaDoorW.PrintWords
end Go.Proofs.YtbgabhknmpbgiaaDoor.Opn
end
section
namespace Go.Proofs.YtbgabhknmpbgiaaDoor.S
open Go.RowKit Go.Proofs.YtbgabhknmpbgiaaDoorW.PrintWords Go.Proofs.YtbgabhknmpbgiaaDoor.Opn
end Go.Proofs.YtbgabhknmpbgiaaDoor.S
end
section
namespace Go.Proofs.YtbgabhknmpbgiaaDoor.S
open Go.RowKit Go.Proofs.YtbgabhknmpbgiaaDoorW.PrintWords
def plenumlaw49_SegmentGives.Pure : Prop := ∀ (a0 : ByteArray) (a1 : Int) (a2 : Int) (a3 : Int) (a4 : Int) (a5 : Int), (a0.size ≤ 140737488351232) → ((Lit.int .i64 a1).wf = true) → ((Lit.int .i64 a2).wf = true) → ((Lit.int .i64 a3).wf = true) → ((Lit.int .i64 a4).wf = true) → ((Lit.int .i64 a5).wf = true) → ∃ k, plenumlaw49_SegmentGives.f k a0 a1 a2 a3 a4 a5 = some true
end Go.Proofs.YtbgabhknmpbgiaaDoor.S
end
section
namespace Go.Proofs.YtbgabhknmpbgiaaDoor.Pure
open Go.RowKit Go.Proofs.YtbgabhknmpbgiaaDoor.S
theorem SegmentGives : plenumlaw49_SegmentGives.Pure := by
  unfold plenumlaw49_SegmentGives.Pure
  intros
  exact ⟨0, rfl⟩
end Go.Proofs.YtbgabhknmpbgiaaDoor.Pure
end
section
namespace Go.Proofs.YtbgabhknmpbgiaaDoor.segmentGives
open Go.ChangeShapes Go.WideShapes Go.ChangeAt Go.RowKit
open Go.ChangeMaps (open_string shut_string)
open Go.Proofs.YtbgabhknmpbgiaaDoor.Opn Go.Proofs.YtbgabhknmpbgiaaDoorW.PrintWords Go.Proofs.YtbgabhknmpbgiaaDoor.S
set_option linter.unusedVariables false
theorem own : ownKnob Tryd.prog.godebug = none := by kernel_rfl
set_option maxHeartbeats 2000000 in
set_option maxRecDepth 100000 in
theorem lifted (os : Os) (started : os.Started) (H : Type) (enc : TypeId × Value → H) :
    ReturnsInHanded {} Tryd.checked os 9 .any (fun w args => (Rows.segmentGivesSpec.pre enc Tryd.prog Tryd.f9 Rows.segmentGivesRow.domain false w args ∧ laidMet Tryd.prog theLaid w) ∧ sizedMet enc Tryd.prog Tryd.f9 (OpenSpec.ofChange Rows.segmentGivesSpec) false w args) (Rows.segmentGivesSpec.post enc Tryd.prog Tryd.f9 false true false false) := by
  refine returnsInHanded_of_change_and (C := Tryd.checked) (X := fun w _ => laidMet Tryd.prog theLaid w) (fun _ _ _ hh h => h.of_heap hh) own started (by kernel_rfl) Tryd.func9
    (ChangeSpec.witness_at (enc := enc) (C := Tryd.checked) (os := os) (X := fun w _ => laidMet Tryd.prog theLaid w) false (laidWorld os) #[.string ByteArray.empty, .int .i64 0, .int .i64 0, .int .i64 0, .int .i64 0, .int .i64 0] 8 rfl (by kernel_rfl) (by kernel_rfl) (by kernel_rfl) (by kernel_rfl) (by kernel_rfl) (laidWorld_met os _)) ?_
  intro W base args ds gs before hval0 hW hcnd hsz0 hL0 _
  have hGl := glob_of_laid hL0
  have hsz : (DataW.weightsEach Tryd.prog (Tryd.f9.params.toList ++ Rows.segmentGivesSpec.plain.varTypes Tryd.prog) (ds ++ gs)).all (· ≤ reachBytes) = true := hsz0
  have hval : ∀ (j : Nat) t v, Tryd.f9.params[j]? = some t → args[j]? = some v → Value.okWide Tryd.prog W .any base t v := hval0
  have hW' := hW
  obtain ⟨p, q, hA0, hV, rfl, hfz, hnd⟩ := hW
  have hA : DataW.TrodAll enc Tryd.prog W 0 (fun _ => true) true Tryd.f9.params.toList args.toList ds p := hA0
  rw [Tryd.params9] at hA hval hsz
  obtain ⟨v0, vs0, d0, ds0, p0, q0, hargs, rfl, rfl, h0, r0⟩ := trodAll_cons hA
  obtain ⟨v1, vs1, d1, ds1, p1, q1, rfl, rfl, rfl, h1, r1⟩ := trodAll_cons r0
  obtain ⟨v2, vs2, d2, ds2, p2, q2, rfl, rfl, rfl, h2, r2⟩ := trodAll_cons r1
  obtain ⟨v3, vs3, d3, ds3, p3, q3, rfl, rfl, rfl, h3, r3⟩ := trodAll_cons r2
  obtain ⟨v4, vs4, d4, ds4, p4, q4, rfl, rfl, rfl, h4, r4⟩ := trodAll_cons r3
  obtain ⟨v5, vs5, d5, ds5, p5, q5, rfl, rfl, rfl, h5, r5⟩ := trodAll_cons r4
  obtain ⟨rfl, rfl, rfl⟩ := trodAll_nil r5
  obtain rfl : args = #[v0, v1, v2, v3, v4, v5] := by cases args; simp_all
  obtain ⟨rfl, rfl⟩ := trodVars_none hV
  obtain ⟨a0, rfl, rfl, rfl, y0⟩ := open_string Tryd.underlying9 (hval 0 9 v0 rfl rfl) h0
  have hV0 : a0.size ≤ 140737488351232 := by
    have z := sized_string hsz (j := 0) (t := 9) rfl rfl
    rw [Array.length_toList] at z
    exact z
  obtain ⟨a1, rfl, rfl, rfl, w1⟩ := open_int Tryd.underlying3 (hval 1 3 v1 rfl rfl) h1
  obtain ⟨a2, rfl, rfl, rfl, w2⟩ := open_int Tryd.underlying3 (hval 2 3 v2 rfl rfl) h2
  obtain ⟨a3, rfl, rfl, rfl, w3⟩ := open_int Tryd.underlying3 (hval 3 3 v3 rfl rfl) h3
  obtain ⟨a4, rfl, rfl, rfl, w4⟩ := open_int Tryd.underlying3 (hval 4 3 v4 rfl rfl) h4
  obtain ⟨a5, rfl, rfl, rfl, w5⟩ := open_int Tryd.underlying3 (hval 5 3 v5 rfl rfl) h5
  clear hA0 hval0 hsz0 hsz
  obtain ⟨k, h⟩ := Pure.SegmentGives a0 a1 a2 a3 a4 a5 hV0 w1 w2 w3 w4 w5
  refine (S.plenumlaw49_SegmentGives.calls k a0 a1 a2 a3 a4 a5 true W hGl  h).mono fun e W' ⟨he, bel0⟩ => ?_
  have bel : Below W.heap.size W W' := bel0
  subst he
  exact ⟨_, rfl, _, _, _, [], _, [], hW', trodAll_mk1 (shut_bool Tryd.underlying4 _), (trodAll_cons_mk (shut_string Tryd.underlying9 y0) (trodAll_cons_mk (shut_int Tryd.underlying3 w1) (trodAll_cons_mk (shut_int Tryd.underlying3 w2) (trodAll_cons_mk (shut_int Tryd.underlying3 w3) (trodAll_cons_mk (shut_int Tryd.underlying3 w4) (trodAll_cons_mk (shut_int Tryd.underlying3 w5) trodAll_mk0)))))), rfl, bel.frame _, fun h => by cases h⟩
theorem over : Rows.segmentGivesRow.holds Tryd.pinned (OpenSpec.ofChange Rows.segmentGivesSpec) :=
  OpenClaim.holds_of_wide 9 Tryd.f9 rfl rfl rfl rfl rfl rfl rfl ⟨rfl, rfl, rfl, rfl, rfl⟩ rfl rfl rfl rfl rfl (by kernel_rfl) Tryd.func9 (by kernel_rfl)
    (of_decide_eq_true (by kernel_rfl)) (by unfold Func.isWrapper; first | (rw [if_pos (by decide +kernel)]; kernel_rfl) | (rw [if_neg (by decide +kernel)]; exact ⟨rfl, rfl⟩))
    (fun os started H enc _ => lifted os started H enc)
theorem card_holds : Rows.SegmentGivesCardSaid :=
  Claim7.holds_tied_plain_at .later [] [.data] true (true, "890f3340eab410ca07798f741ff427d8fc963afe88bbea7d7902dec58a10bb18") false
    over (fun _ h => by cases h) (by kernel_rfl) (fun _ h => by cases h) segmentGives_row_tie rfl ⟨rfl, rfl⟩ (by kernel_rfl) rfl
    (fun f fn hf hfn => by
      obtain rfl : f = 9 := Option.some.inj ((show Tryd.prog.funcNamed "plenum/plenumlaw49.SegmentGives" = some 9 by kernel_rfl).symm.trans hf) |>.symm
      obtain rfl : fn = Tryd.f9 := (Option.some.inj (Tryd.func9.symm.trans hfn)).symm
      exact ⟨by kernel_rfl, fun j t ht => by
        rw [Tryd.params9] at ht
        have ho : t = 3 ∨ t = 9 := by
          rcases j with _ | _ | _ | _ | _ | _ | j
          all_goals simp at ht
          all_goals subst ht; simp
        obtain rfl | rfl := ho
        · exact (show Tryd.prog.wantsStandIn 3 = false by kernel_rfl)
        · exact (show Tryd.prog.wantsStandIn 9 = false by kernel_rfl)⟩)
    (by kernel_rfl)
#print axioms card_holds
end Go.Proofs.YtbgabhknmpbgiaaDoor.segmentGives
namespace Go.Proofs.YtbgabhknmpbgiaaDoor
theorem segmentGives_holds : Rows.SegmentGivesCardSaid := segmentGives.card_holds
end Go.Proofs.YtbgabhknmpbgiaaDoor
end
