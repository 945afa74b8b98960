/- SegmentSafeCard: one part of the proof that the law answers true for every input, and that its arguments read afterwards as before. No condition. -/
import Derived.Test.YtbgabhknmpbgiaaDoorCSafe3
import Derived.Outline
import Derived.Deep.OwnRows
import Derived.Deep.MidRow
import Derived.Deep.Upon
import Derived.ArgAppend
section
namespace Go.Proofs.YtbgabhknmpbgiaaDoor.S
open Go.RowKit Go.Proofs.YtbgabhknmpbgiaaDoorW.PrintWords Go.Proofs.YtbgabhknmpbgiaaDoorW.PrintLast Go.Proofs.YtbgabhknmpbgiaaDoorW.PrintMore
set_option linter.unusedVariables false
set_option linter.unusedSimpArgs false
attribute [local go_sem] max2_int min2_int max_two min_two max_three min_three
theorem below_setRow {B g : Nat} {w W : World} (h : Below B w W) (hg : B ≤ g) (cs : Array Value) : Below B w (W.setRow g cs) :=
  ⟨h.os, h.tape, h.output, by simp; exact h.size, fun i hi => (setRow_other W g i cs (by omega)).trans (h.block i hi)⟩
def decR (n kind id number : Int) (more : Bool) (window : Int) (text : ByteArray) (en ce : Int) : S23 × Int := if en = 0 then (if n = 6 then (if mx (mx kind id) window > 1000 then (z23, 2) else if ce = 0 then (⟨kind, id, number, more, window, text⟩, 0) else (z23, ce)) else (z23, 2)) else (z23, 2)
def DecPost (w : World) (r : S23 × Int) (e : Ending) (w' : World) : Prop := e = .returned (.tuple #[.agg #[.int .i64 r.1.f0, .int .i64 r.1.f1, .int .i64 r.1.f2, .bool r.1.f3, .int .i64 r.1.f4, .string r.1.f5], .int .i64 r.2]) ∧ Below w.heap.size w w'
set_option maxHeartbeats 16000000 in
set_option maxRecDepth 100000 in
theorem decode_calls (k : Nat) (S : ByteArray) (n kind id number : Int) (more : Bool) (window : Int) (text : ByteArray) (en : Int) (s1 s2 s3 s4 s5 s6 s7 s8 : ByteArray) (p1 e1 p2 e2 p3 e3 p4 e4 p5 e5 p6 e6 p7 e7 p8 e8 : Int) (h1 : codec_Reader_List.f k S 0 0 = some (n, s1, p1, e1)) (h2 : codec_Reader_Unsigned.f k s1 p1 e1 = some (kind, s2, p2, e2)) (h3 : codec_Reader_Unsigned.f k s2 p2 e2 = some (id, s3, p3, e3)) (h4 : codec_Reader_Signed.f k s3 p3 e3 = some (number, s4, p4, e4)) (h5 : codec_Reader_Bool.f k s4 p4 e4 = some (more, s5, p5, e5)) (h6 : codec_Reader_Unsigned.f k s5 p5 e5 = some (window, s6, p6, e6)) (h7 : codec_Reader_Text.f k s6 p6 e6 = some (text, s7, p7, e7)) (h8 : codec_Reader_End.f s7 p7 e7 = some (en, s8, p8, e8)) (ce : Int) (w : World) (hG : Glob w) (hc : segment_Check.f k kind id number more window text = some ce) (hu : 0 ≤ kind ∧ 0 ≤ id ∧ 0 ≤ window) :
    Calls Tryd.prog 14 #[.string S] w fun e w' => DecPost w (decR n kind id number more window text en ce) e w' := by
  have HG := Aside0.mk hG
  have HR1 := Aside0.mk h1
  have HR2 := Aside0.mk h2
  have HR3 := Aside0.mk h3
  have HR4 := Aside0.mk h4
  have HR5 := Aside0.mk h5
  have HR6 := Aside0.mk h6
  have HR7 := Aside0.mk h7
  have HR8 := Aside0.mk h8
  have HCK := Aside0.mk hc
  have HU := Aside0.mk hu
  clear hG hc hu h1 h2 h3 h4 h5 h6 h7 h8
  by_cases q0 : en = 0
  · have q0b : (en != 0) = false := by rw [q0]; rfl
    by_cases q1 : n = 6
    · have q1b : (n != 6) = false := by rw [q1]; rfl
      obtain ⟨M, hM⟩ : ∃ M, (if (if kind < id then id else kind) < window then window else (if kind < id then id else kind)) = M := ⟨_, rfl⟩
      have HM := Aside0.mk (show mx (mx kind id) window = M from hM)
      by_cases q2 : M > 1000
      · have q2b : decide (1000 < M) = true := decide_eq_true q2
        rw [show decR n kind id number more window text en ce = (z23, 2) from by unfold decR; rw [if_pos q0, if_pos q1, HM.out, if_pos q2]]
        clear q0 q1 q2
        go_enter Tryd.func14, Tryd.ntmps14
        go_wp2_with (first | ((with_reducible refine gate_dst (N := 2) rfl ?_); refine box_event ?hg (N := 2) ?hd (cs := #[.int .i64 0, .int .i64 0, .int .i64 0, .bool false, .int .i64 0, .string ⟨#[]⟩]) (t := 23) ?hr ?_; (case hd => rfl); (case hg => rfl); (case hr => first | (go_simp; done) | (go_simp; rfl)); intro gq hgq wa hbox hb; have HQa := Aside0.mk hbox; have HBa := Aside0.mk hb; have HQW := Aside0.mk (show w.heap.size ≤ gq by rw [hgq]; exact Nat.le_refl _); have HGa := Aside0.mk (Glob.below HG.out hb); clear hb hbox hgq) | (go_at_call 45; (with_reducible refine (codec_NewReader.calls S S 0 0 wa wa (Glob.below HG.out HBa.out) (Below.refl _ _) rfl).mono ?_); rintro e wb ⟨gr, rfl, hi, hb, hb2⟩; have HI0 := Aside0.mk hi; have HB0 := Aside0.mk hb; clear hi hb hb2) | (go_at_call 46; (with_reducible refine (codec_Reader_List.calls k gr S 0 0 n s1 p1 e1 wa _ HGa.out HI0.out HB0.out HR1.out).mono ?_); rintro e w1 ⟨rfl, hi, hb, hk⟩; have HI1 := Aside0.mk hi; have HB1 := Aside0.mk hb; clear hi hb hk) | (go_at_call 47; (with_reducible refine (codec_Reader_Unsigned.calls k gr s1 p1 e1 kind s2 p2 e2 wa _ HGa.out HI1.out HB1.out HR2.out).mono ?_); rintro e w2 ⟨rfl, hi, hb, hk⟩; have HI2 := Aside0.mk hi; have HB2 := Aside0.mk hb; clear hi hb hk) | (go_at_call 47; (with_reducible refine (codec_Reader_Unsigned.calls k gr s2 p2 e2 id s3 p3 e3 wa _ HGa.out HI2.out HB2.out HR3.out).mono ?_); rintro e w3 ⟨rfl, hi, hb, hk⟩; have HI3 := Aside0.mk hi; have HB3 := Aside0.mk hb; clear hi hb hk) | (go_at_call 48; (with_reducible refine (codec_Reader_Signed.calls k gr s3 p3 e3 number s4 p4 e4 wa _ HGa.out HI3.out HB3.out HR4.out).mono ?_); rintro e w4 ⟨rfl, hi, hb, hk⟩; have HI4 := Aside0.mk hi; have HB4 := Aside0.mk hb; clear hi hb hk) | (go_at_call 49; (with_reducible refine (codec_Reader_Bool.calls k gr s4 p4 e4 more s5 p5 e5 wa _ HGa.out HI4.out HB4.out HR5.out).mono ?_); rintro e w5 ⟨rfl, hi, hb, hk⟩; have HI5 := Aside0.mk hi; have HB5 := Aside0.mk hb; clear hi hb hk) | (go_at_call 47; (with_reducible refine (codec_Reader_Unsigned.calls k gr s5 p5 e5 window s6 p6 e6 wa _ HGa.out HI5.out HB5.out HR6.out).mono ?_); rintro e w6 ⟨rfl, hi, hb, hk⟩; have HI6 := Aside0.mk hi; have HB6 := Aside0.mk hb; clear hi hb hk) | (go_at_call 50; (with_reducible refine (codec_Reader_Text.calls k gr s6 p6 e6 text s7 p7 e7 wa _ HGa.out HI6.out HB6.out HR7.out).mono ?_); rintro e w7 ⟨rfl, hi, hb, hk⟩; have HI7 := Aside0.mk hi; have HB7 := Aside0.mk hb; clear hi hb hk) | (go_at_call 51; (with_reducible refine (codec_Reader_End.calls gr s7 p7 e7 en s8 p8 e8 wa _ HGa.out HI7.out HB7.out HR8.out).mono ?_); rintro e w8 ⟨rfl, hi, hb, hk⟩; have HI8 := Aside0.mk hi; have HB8 := Aside0.mk hb; clear hi hb hk) | (refine wpList_store_row rfl 23 (.tmp 2) (.tmp 44) rfl gq #[.int .i64 0, .int .i64 0, .int .i64 0, .bool false, .int .i64 0, .string ⟨#[]⟩] rfl rfl 23 #[.int .i64 0, .int .i64 0, .int .i64 0, .bool false, .int .i64 0, .string ⟨#[]⟩] (blk_below HQa.out HB8.out) (by kernel_rfl) rfl (by simp [Value.oneCell']) ?_))
        refine bodyPost_ret (results_ct rfl _ _ gq 23 #[.int .i64 0, .int .i64 0, .int .i64 0, .bool false, .int .i64 0, .string ⟨#[]⟩] (0, 0) _ rfl (setRow_heap _ _ _ _ _ _ (blk_below HQa.out HB8.out)) Tryd.underlying23 rfl (by kernel_rfl)) rfl ⟨rfl, ?_⟩
        exact below_setRow (below_step HBa.out HB8.out) HQW.out _
      · have q2b : decide (1000 < M) = false := decide_eq_false q2
        have hsm : kind ≤ 1000 ∧ id ≤ 1000 ∧ window ≤ 1000 := by
          have h2 := hM
          split at h2 <;> split at h2 <;> omega
        have wk : wrap64 kind = kind := by have := HU.out; unfold wrap64; omega
        have wi : wrap64 id = id := by have := HU.out; unfold wrap64; omega
        have ww : wrap64 window = window := by have := HU.out; unfold wrap64; omega
        by_cases q3 : ce = 0
        · have q3b : (ce != 0) = false := by rw [q3]; rfl
          rw [show decR n kind id number more window text en ce = (⟨kind, id, number, more, window, text⟩, 0) from by unfold decR; rw [if_pos q0, if_pos q1, HM.out, if_neg q2, if_pos q3]]
          clear q0 q1 q2 q3 hsm
          go_enter Tryd.func14, Tryd.ntmps14
          go_wp2_with (first | ((with_reducible refine gate_dst (N := 2) rfl ?_); refine box_event ?hg (N := 2) ?hd (cs := #[.int .i64 0, .int .i64 0, .int .i64 0, .bool false, .int .i64 0, .string ⟨#[]⟩]) (t := 23) ?hr ?_; (case hd => rfl); (case hg => rfl); (case hr => first | (go_simp; done) | (go_simp; rfl)); intro gq hgq wa hbox hb; have HQa := Aside0.mk hbox; have HBa := Aside0.mk hb; have HQW := Aside0.mk (show w.heap.size ≤ gq by rw [hgq]; exact Nat.le_refl _); have HGa := Aside0.mk (Glob.below HG.out hb); clear hb hbox hgq) | (go_at_call 45; (with_reducible refine (codec_NewReader.calls S S 0 0 wa wa (Glob.below HG.out HBa.out) (Below.refl _ _) rfl).mono ?_); rintro e wb ⟨gr, rfl, hi, hb, hb2⟩; have HI0 := Aside0.mk hi; have HB0 := Aside0.mk hb; clear hi hb hb2) | (go_at_call 46; (with_reducible refine (codec_Reader_List.calls k gr S 0 0 n s1 p1 e1 wa _ HGa.out HI0.out HB0.out HR1.out).mono ?_); rintro e w1 ⟨rfl, hi, hb, hk⟩; have HI1 := Aside0.mk hi; have HB1 := Aside0.mk hb; clear hi hb hk) | (go_at_call 47; (with_reducible refine (codec_Reader_Unsigned.calls k gr s1 p1 e1 kind s2 p2 e2 wa _ HGa.out HI1.out HB1.out HR2.out).mono ?_); rintro e w2 ⟨rfl, hi, hb, hk⟩; have HI2 := Aside0.mk hi; have HB2 := Aside0.mk hb; clear hi hb hk) | (go_at_call 47; (with_reducible refine (codec_Reader_Unsigned.calls k gr s2 p2 e2 id s3 p3 e3 wa _ HGa.out HI2.out HB2.out HR3.out).mono ?_); rintro e w3 ⟨rfl, hi, hb, hk⟩; have HI3 := Aside0.mk hi; have HB3 := Aside0.mk hb; clear hi hb hk) | (go_at_call 48; (with_reducible refine (codec_Reader_Signed.calls k gr s3 p3 e3 number s4 p4 e4 wa _ HGa.out HI3.out HB3.out HR4.out).mono ?_); rintro e w4 ⟨rfl, hi, hb, hk⟩; have HI4 := Aside0.mk hi; have HB4 := Aside0.mk hb; clear hi hb hk) | (go_at_call 49; (with_reducible refine (codec_Reader_Bool.calls k gr s4 p4 e4 more s5 p5 e5 wa _ HGa.out HI4.out HB4.out HR5.out).mono ?_); rintro e w5 ⟨rfl, hi, hb, hk⟩; have HI5 := Aside0.mk hi; have HB5 := Aside0.mk hb; clear hi hb hk) | (go_at_call 47; (with_reducible refine (codec_Reader_Unsigned.calls k gr s5 p5 e5 window s6 p6 e6 wa _ HGa.out HI5.out HB5.out HR6.out).mono ?_); rintro e w6 ⟨rfl, hi, hb, hk⟩; have HI6 := Aside0.mk hi; have HB6 := Aside0.mk hb; clear hi hb hk) | (go_at_call 50; (with_reducible refine (codec_Reader_Text.calls k gr s6 p6 e6 text s7 p7 e7 wa _ HGa.out HI6.out HB6.out HR7.out).mono ?_); rintro e w7 ⟨rfl, hi, hb, hk⟩; have HI7 := Aside0.mk hi; have HB7 := Aside0.mk hb; clear hi hb hk) | (go_at_call 51; (with_reducible refine (codec_Reader_End.calls gr s7 p7 e7 en s8 p8 e8 wa _ HGa.out HI7.out HB7.out HR8.out).mono ?_); rintro e w8 ⟨rfl, hi, hb, hk⟩; have HI8 := Aside0.mk hi; have HB8 := Aside0.mk hb; clear hi hb hk) | ((with_reducible refine gate_dst (N := 12) rfl ?_); refine box_event ?hg (N := 12) ?hd (cs := #[.int .i64 0, .int .i64 0, .int .i64 0, .bool false, .int .i64 0, .string ⟨#[]⟩]) (t := 23) ?hr ?_; (case hd => rfl); (case hg => rfl); (case hr => first | (go_simp; done) | (go_simp; rfl)); intro gp hgp wp hbox hb; have HPp := Aside0.mk hbox; have HQp := Aside0.mk (blk_below (blk_below HQa.out HB8.out) hb); have HBp := Aside0.mk (below_step (below_step HBa.out HB8.out) hb); have HNE := Aside0.mk (show gq ≠ gp by rw [hgp]; exact Nat.ne_of_lt (blk_lt (blk_below HQa.out HB8.out))); have HGP := Aside0.mk (show w.heap.size ≤ gp by rw [hgp]; exact (below_step HBa.out HB8.out).size); clear hb hbox hgp) | (refine wpList_store_row rfl 23 (.tmp 12) (.tmp 54) rfl gp #[.int .i64 kind, .int .i64 id, .int .i64 number, .bool more, .int .i64 window, .string text] rfl rfl 23 #[.int .i64 0, .int .i64 0, .int .i64 0, .bool false, .int .i64 0, .string ⟨#[]⟩] HPp.out (by kernel_rfl) rfl (by simp [Value.oneCell']) ?_; have HPr := Aside0.mk (setRow_heap _ _ _ #[.int .i64 kind, .int .i64 id, .int .i64 number, .bool more, .int .i64 window, .string text] _ _ HPp.out); have HQr := Aside0.mk ((setRow_other wp gp gq #[.int .i64 kind, .int .i64 id, .int .i64 number, .bool more, .int .i64 window, .string text] HNE.out).trans HQp.out); have HBr := Aside0.mk (below_setRow HBp.out HGP.out #[.int .i64 kind, .int .i64 id, .int .i64 number, .bool more, .int .i64 window, .string text]); generalize wp.setRow gp #[.int .i64 kind, .int .i64 id, .int .i64 number, .bool more, .int .i64 window, .string text] = wr at HPr HQr HBr ⊢) | (refine wpList_load_row rfl 23 (.tmp 12) rfl gp rfl 23 #[.int .i64 kind, .int .i64 id, .int .i64 number, .bool more, .int .i64 window, .string text] (0, 0) _ HPr.out Tryd.underlying23 rfl (by kernel_rfl) ?_) | (go_at_call 16; (with_reducible refine (segment_Check.calls k kind id number more window text ce _ (Glob.below HG.out HBr.out) HCK.out).mono ?_); rintro e wc ⟨rfl, hb⟩; have HPc := Aside0.mk (blk_below HPr.out hb); have HQc := Aside0.mk (blk_below HQr.out hb); have HBc := Aside0.mk (below_step HBr.out hb); clear hb) | (refine wpList_store_row rfl 23 (.tmp 2) (.tmp 59) rfl gq #[.int .i64 0, .int .i64 0, .int .i64 0, .bool false, .int .i64 0, .string ⟨#[]⟩] rfl rfl 23 #[.int .i64 0, .int .i64 0, .int .i64 0, .bool false, .int .i64 0, .string ⟨#[]⟩] HQc.out (by kernel_rfl) rfl (by simp [Value.oneCell']) ?_) | (refine wpList_load_row rfl 23 (.tmp 12) rfl gp rfl 23 #[.int .i64 kind, .int .i64 id, .int .i64 number, .bool more, .int .i64 window, .string text] (0, 0) _ HPc.out Tryd.underlying23 rfl (by kernel_rfl) ?_) | (refine wpList_store_row rfl 23 (.tmp 2) (.tmp 61) rfl gq #[.int .i64 kind, .int .i64 id, .int .i64 number, .bool more, .int .i64 window, .string text] rfl rfl 23 #[.int .i64 0, .int .i64 0, .int .i64 0, .bool false, .int .i64 0, .string ⟨#[]⟩] HQc.out (by kernel_rfl) rfl (by simp [Value.oneCell']) ?_))
          refine bodyPost_ret (results_ct rfl _ _ gq 23 #[.int .i64 kind, .int .i64 id, .int .i64 number, .bool more, .int .i64 window, .string text] (0, 0) _ rfl (setRow_heap _ _ _ _ _ _ HQc.out) Tryd.underlying23 rfl (by kernel_rfl)) rfl ⟨rfl, ?_⟩
          exact below_setRow HBc.out HQW.out _
        · have q3b : (ce != 0) = true := bne_iff_ne.mpr q3
          rw [show decR n kind id number more window text en ce = (z23, ce) from by unfold decR; rw [if_pos q0, if_pos q1, HM.out, if_neg q2, if_neg q3]]
          clear q0 q1 q2 q3 hsm
          go_enter Tryd.func14, Tryd.ntmps14
          go_wp2_with (first | ((with_reducible refine gate_dst (N := 2) rfl ?_); refine box_event ?hg (N := 2) ?hd (cs := #[.int .i64 0, .int .i64 0, .int .i64 0, .bool false, .int .i64 0, .string ⟨#[]⟩]) (t := 23) ?hr ?_; (case hd => rfl); (case hg => rfl); (case hr => first | (go_simp; done) | (go_simp; rfl)); intro gq hgq wa hbox hb; have HQa := Aside0.mk hbox; have HBa := Aside0.mk hb; have HQW := Aside0.mk (show w.heap.size ≤ gq by rw [hgq]; exact Nat.le_refl _); have HGa := Aside0.mk (Glob.below HG.out hb); clear hb hbox hgq) | (go_at_call 45; (with_reducible refine (codec_NewReader.calls S S 0 0 wa wa (Glob.below HG.out HBa.out) (Below.refl _ _) rfl).mono ?_); rintro e wb ⟨gr, rfl, hi, hb, hb2⟩; have HI0 := Aside0.mk hi; have HB0 := Aside0.mk hb; clear hi hb hb2) | (go_at_call 46; (with_reducible refine (codec_Reader_List.calls k gr S 0 0 n s1 p1 e1 wa _ HGa.out HI0.out HB0.out HR1.out).mono ?_); rintro e w1 ⟨rfl, hi, hb, hk⟩; have HI1 := Aside0.mk hi; have HB1 := Aside0.mk hb; clear hi hb hk) | (go_at_call 47; (with_reducible refine (codec_Reader_Unsigned.calls k gr s1 p1 e1 kind s2 p2 e2 wa _ HGa.out HI1.out HB1.out HR2.out).mono ?_); rintro e w2 ⟨rfl, hi, hb, hk⟩; have HI2 := Aside0.mk hi; have HB2 := Aside0.mk hb; clear hi hb hk) | (go_at_call 47; (with_reducible refine (codec_Reader_Unsigned.calls k gr s2 p2 e2 id s3 p3 e3 wa _ HGa.out HI2.out HB2.out HR3.out).mono ?_); rintro e w3 ⟨rfl, hi, hb, hk⟩; have HI3 := Aside0.mk hi; have HB3 := Aside0.mk hb; clear hi hb hk) | (go_at_call 48; (with_reducible refine (codec_Reader_Signed.calls k gr s3 p3 e3 number s4 p4 e4 wa _ HGa.out HI3.out HB3.out HR4.out).mono ?_); rintro e w4 ⟨rfl, hi, hb, hk⟩; have HI4 := Aside0.mk hi; have HB4 := Aside0.mk hb; clear hi hb hk) | (go_at_call 49; (with_reducible refine (codec_Reader_Bool.calls k gr s4 p4 e4 more s5 p5 e5 wa _ HGa.out HI4.out HB4.out HR5.out).mono ?_); rintro e w5 ⟨rfl, hi, hb, hk⟩; have HI5 := Aside0.mk hi; have HB5 := Aside0.mk hb; clear hi hb hk) | (go_at_call 47; (with_reducible refine (codec_Reader_Unsigned.calls k gr s5 p5 e5 window s6 p6 e6 wa _ HGa.out HI5.out HB5.out HR6.out).mono ?_); rintro e w6 ⟨rfl, hi, hb, hk⟩; have HI6 := Aside0.mk hi; have HB6 := Aside0.mk hb; clear hi hb hk) | (go_at_call 50; (with_reducible refine (codec_Reader_Text.calls k gr s6 p6 e6 text s7 p7 e7 wa _ HGa.out HI6.out HB6.out HR7.out).mono ?_); rintro e w7 ⟨rfl, hi, hb, hk⟩; have HI7 := Aside0.mk hi; have HB7 := Aside0.mk hb; clear hi hb hk) | (go_at_call 51; (with_reducible refine (codec_Reader_End.calls gr s7 p7 e7 en s8 p8 e8 wa _ HGa.out HI7.out HB7.out HR8.out).mono ?_); rintro e w8 ⟨rfl, hi, hb, hk⟩; have HI8 := Aside0.mk hi; have HB8 := Aside0.mk hb; clear hi hb hk) | ((with_reducible refine gate_dst (N := 12) rfl ?_); refine box_event ?hg (N := 12) ?hd (cs := #[.int .i64 0, .int .i64 0, .int .i64 0, .bool false, .int .i64 0, .string ⟨#[]⟩]) (t := 23) ?hr ?_; (case hd => rfl); (case hg => rfl); (case hr => first | (go_simp; done) | (go_simp; rfl)); intro gp hgp wp hbox hb; have HPp := Aside0.mk hbox; have HQp := Aside0.mk (blk_below (blk_below HQa.out HB8.out) hb); have HBp := Aside0.mk (below_step (below_step HBa.out HB8.out) hb); have HNE := Aside0.mk (show gq ≠ gp by rw [hgp]; exact Nat.ne_of_lt (blk_lt (blk_below HQa.out HB8.out))); have HGP := Aside0.mk (show w.heap.size ≤ gp by rw [hgp]; exact (below_step HBa.out HB8.out).size); clear hb hbox hgp) | (refine wpList_store_row rfl 23 (.tmp 12) (.tmp 54) rfl gp #[.int .i64 kind, .int .i64 id, .int .i64 number, .bool more, .int .i64 window, .string text] rfl rfl 23 #[.int .i64 0, .int .i64 0, .int .i64 0, .bool false, .int .i64 0, .string ⟨#[]⟩] HPp.out (by kernel_rfl) rfl (by simp [Value.oneCell']) ?_; have HPr := Aside0.mk (setRow_heap _ _ _ #[.int .i64 kind, .int .i64 id, .int .i64 number, .bool more, .int .i64 window, .string text] _ _ HPp.out); have HQr := Aside0.mk ((setRow_other wp gp gq #[.int .i64 kind, .int .i64 id, .int .i64 number, .bool more, .int .i64 window, .string text] HNE.out).trans HQp.out); have HBr := Aside0.mk (below_setRow HBp.out HGP.out #[.int .i64 kind, .int .i64 id, .int .i64 number, .bool more, .int .i64 window, .string text]); generalize wp.setRow gp #[.int .i64 kind, .int .i64 id, .int .i64 number, .bool more, .int .i64 window, .string text] = wr at HPr HQr HBr ⊢) | (refine wpList_load_row rfl 23 (.tmp 12) rfl gp rfl 23 #[.int .i64 kind, .int .i64 id, .int .i64 number, .bool more, .int .i64 window, .string text] (0, 0) _ HPr.out Tryd.underlying23 rfl (by kernel_rfl) ?_) | (go_at_call 16; (with_reducible refine (segment_Check.calls k kind id number more window text ce _ (Glob.below HG.out HBr.out) HCK.out).mono ?_); rintro e wc ⟨rfl, hb⟩; have HPc := Aside0.mk (blk_below HPr.out hb); have HQc := Aside0.mk (blk_below HQr.out hb); have HBc := Aside0.mk (below_step HBr.out hb); clear hb) | (refine wpList_store_row rfl 23 (.tmp 2) (.tmp 59) rfl gq #[.int .i64 0, .int .i64 0, .int .i64 0, .bool false, .int .i64 0, .string ⟨#[]⟩] rfl rfl 23 #[.int .i64 0, .int .i64 0, .int .i64 0, .bool false, .int .i64 0, .string ⟨#[]⟩] HQc.out (by kernel_rfl) rfl (by simp [Value.oneCell']) ?_) | (refine wpList_load_row rfl 23 (.tmp 12) rfl gp rfl 23 #[.int .i64 kind, .int .i64 id, .int .i64 number, .bool more, .int .i64 window, .string text] (0, 0) _ HPc.out Tryd.underlying23 rfl (by kernel_rfl) ?_) | (refine wpList_store_row rfl 23 (.tmp 2) (.tmp 61) rfl gq #[.int .i64 kind, .int .i64 id, .int .i64 number, .bool more, .int .i64 window, .string text] rfl rfl 23 #[.int .i64 0, .int .i64 0, .int .i64 0, .bool false, .int .i64 0, .string ⟨#[]⟩] HQc.out (by kernel_rfl) rfl (by simp [Value.oneCell']) ?_))
          refine bodyPost_ret (results_ct rfl _ _ gq 23 #[.int .i64 0, .int .i64 0, .int .i64 0, .bool false, .int .i64 0, .string ⟨#[]⟩] (0, 0) _ rfl (setRow_heap _ _ _ _ _ _ HQc.out) Tryd.underlying23 rfl (by kernel_rfl)) rfl ⟨rfl, ?_⟩
          exact below_setRow HBc.out HQW.out _
    · have q1b : (n != 6) = true := bne_iff_ne.mpr q1
      rw [show decR n kind id number more window text en ce = (z23, 2) from by unfold decR; rw [if_pos q0, if_neg q1]]
      clear q0 q1
      go_enter Tryd.func14, Tryd.ntmps14
      go_wp2_with (first | ((with_reducible refine gate_dst (N := 2) rfl ?_); refine box_event ?hg (N := 2) ?hd (cs := #[.int .i64 0, .int .i64 0, .int .i64 0, .bool false, .int .i64 0, .string ⟨#[]⟩]) (t := 23) ?hr ?_; (case hd => rfl); (case hg => rfl); (case hr => first | (go_simp; done) | (go_simp; rfl)); intro gq hgq wa hbox hb; have HQa := Aside0.mk hbox; have HBa := Aside0.mk hb; have HQW := Aside0.mk (show w.heap.size ≤ gq by rw [hgq]; exact Nat.le_refl _); have HGa := Aside0.mk (Glob.below HG.out hb); clear hb hbox hgq) | (go_at_call 45; (with_reducible refine (codec_NewReader.calls S S 0 0 wa wa (Glob.below HG.out HBa.out) (Below.refl _ _) rfl).mono ?_); rintro e wb ⟨gr, rfl, hi, hb, hb2⟩; have HI0 := Aside0.mk hi; have HB0 := Aside0.mk hb; clear hi hb hb2) | (go_at_call 46; (with_reducible refine (codec_Reader_List.calls k gr S 0 0 n s1 p1 e1 wa _ HGa.out HI0.out HB0.out HR1.out).mono ?_); rintro e w1 ⟨rfl, hi, hb, hk⟩; have HI1 := Aside0.mk hi; have HB1 := Aside0.mk hb; clear hi hb hk) | (go_at_call 47; (with_reducible refine (codec_Reader_Unsigned.calls k gr s1 p1 e1 kind s2 p2 e2 wa _ HGa.out HI1.out HB1.out HR2.out).mono ?_); rintro e w2 ⟨rfl, hi, hb, hk⟩; have HI2 := Aside0.mk hi; have HB2 := Aside0.mk hb; clear hi hb hk) | (go_at_call 47; (with_reducible refine (codec_Reader_Unsigned.calls k gr s2 p2 e2 id s3 p3 e3 wa _ HGa.out HI2.out HB2.out HR3.out).mono ?_); rintro e w3 ⟨rfl, hi, hb, hk⟩; have HI3 := Aside0.mk hi; have HB3 := Aside0.mk hb; clear hi hb hk) | (go_at_call 48; (with_reducible refine (codec_Reader_Signed.calls k gr s3 p3 e3 number s4 p4 e4 wa _ HGa.out HI3.out HB3.out HR4.out).mono ?_); rintro e w4 ⟨rfl, hi, hb, hk⟩; have HI4 := Aside0.mk hi; have HB4 := Aside0.mk hb; clear hi hb hk) | (go_at_call 49; (with_reducible refine (codec_Reader_Bool.calls k gr s4 p4 e4 more s5 p5 e5 wa _ HGa.out HI4.out HB4.out HR5.out).mono ?_); rintro e w5 ⟨rfl, hi, hb, hk⟩; have HI5 := Aside0.mk hi; have HB5 := Aside0.mk hb; clear hi hb hk) | (go_at_call 47; (with_reducible refine (codec_Reader_Unsigned.calls k gr s5 p5 e5 window s6 p6 e6 wa _ HGa.out HI5.out HB5.out HR6.out).mono ?_); rintro e w6 ⟨rfl, hi, hb, hk⟩; have HI6 := Aside0.mk hi; have HB6 := Aside0.mk hb; clear hi hb hk) | (go_at_call 50; (with_reducible refine (codec_Reader_Text.calls k gr s6 p6 e6 text s7 p7 e7 wa _ HGa.out HI6.out HB6.out HR7.out).mono ?_); rintro e w7 ⟨rfl, hi, hb, hk⟩; have HI7 := Aside0.mk hi; have HB7 := Aside0.mk hb; clear hi hb hk) | (go_at_call 51; (with_reducible refine (codec_Reader_End.calls gr s7 p7 e7 en s8 p8 e8 wa _ HGa.out HI7.out HB7.out HR8.out).mono ?_); rintro e w8 ⟨rfl, hi, hb, hk⟩; have HI8 := Aside0.mk hi; have HB8 := Aside0.mk hb; clear hi hb hk) | (refine wpList_store_row rfl 23 (.tmp 2) (.tmp 44) rfl gq #[.int .i64 0, .int .i64 0, .int .i64 0, .bool false, .int .i64 0, .string ⟨#[]⟩] rfl rfl 23 #[.int .i64 0, .int .i64 0, .int .i64 0, .bool false, .int .i64 0, .string ⟨#[]⟩] (blk_below HQa.out HB8.out) (by kernel_rfl) rfl (by simp [Value.oneCell']) ?_))
      refine bodyPost_ret (results_ct rfl _ _ gq 23 #[.int .i64 0, .int .i64 0, .int .i64 0, .bool false, .int .i64 0, .string ⟨#[]⟩] (0, 0) _ rfl (setRow_heap _ _ _ _ _ _ (blk_below HQa.out HB8.out)) Tryd.underlying23 rfl (by kernel_rfl)) rfl ⟨rfl, ?_⟩
      exact below_setRow (below_step HBa.out HB8.out) HQW.out _
  · have q0b : (en != 0) = true := bne_iff_ne.mpr q0
    rw [show decR n kind id number more window text en ce = (z23, 2) from by unfold decR; rw [if_neg q0]]
    clear q0
    go_enter Tryd.func14, Tryd.ntmps14
    go_wp2_with (first | ((with_reducible refine gate_dst (N := 2) rfl ?_); refine box_event ?hg (N := 2) ?hd (cs := #[.int .i64 0, .int .i64 0, .int .i64 0, .bool false, .int .i64 0, .string ⟨#[]⟩]) (t := 23) ?hr ?_; (case hd => rfl); (case hg => rfl); (case hr => first | (go_simp; done) | (go_simp; rfl)); intro gq hgq wa hbox hb; have HQa := Aside0.mk hbox; have HBa := Aside0.mk hb; have HQW := Aside0.mk (show w.heap.size ≤ gq by rw [hgq]; exact Nat.le_refl _); have HGa := Aside0.mk (Glob.below HG.out hb); clear hb hbox hgq) | (go_at_call 45; (with_reducible refine (codec_NewReader.calls S S 0 0 wa wa (Glob.below HG.out HBa.out) (Below.refl _ _) rfl).mono ?_); rintro e wb ⟨gr, rfl, hi, hb, hb2⟩; have HI0 := Aside0.mk hi; have HB0 := Aside0.mk hb; clear hi hb hb2) | (go_at_call 46; (with_reducible refine (codec_Reader_List.calls k gr S 0 0 n s1 p1 e1 wa _ HGa.out HI0.out HB0.out HR1.out).mono ?_); rintro e w1 ⟨rfl, hi, hb, hk⟩; have HI1 := Aside0.mk hi; have HB1 := Aside0.mk hb; clear hi hb hk) | (go_at_call 47; (with_reducible refine (codec_Reader_Unsigned.calls k gr s1 p1 e1 kind s2 p2 e2 wa _ HGa.out HI1.out HB1.out HR2.out).mono ?_); rintro e w2 ⟨rfl, hi, hb, hk⟩; have HI2 := Aside0.mk hi; have HB2 := Aside0.mk hb; clear hi hb hk) | (go_at_call 47; (with_reducible refine (codec_Reader_Unsigned.calls k gr s2 p2 e2 id s3 p3 e3 wa _ HGa.out HI2.out HB2.out HR3.out).mono ?_); rintro e w3 ⟨rfl, hi, hb, hk⟩; have HI3 := Aside0.mk hi; have HB3 := Aside0.mk hb; clear hi hb hk) | (go_at_call 48; (with_reducible refine (codec_Reader_Signed.calls k gr s3 p3 e3 number s4 p4 e4 wa _ HGa.out HI3.out HB3.out HR4.out).mono ?_); rintro e w4 ⟨rfl, hi, hb, hk⟩; have HI4 := Aside0.mk hi; have HB4 := Aside0.mk hb; clear hi hb hk) | (go_at_call 49; (with_reducible refine (codec_Reader_Bool.calls k gr s4 p4 e4 more s5 p5 e5 wa _ HGa.out HI4.out HB4.out HR5.out).mono ?_); rintro e w5 ⟨rfl, hi, hb, hk⟩; have HI5 := Aside0.mk hi; have HB5 := Aside0.mk hb; clear hi hb hk) | (go_at_call 47; (with_reducible refine (codec_Reader_Unsigned.calls k gr s5 p5 e5 window s6 p6 e6 wa _ HGa.out HI5.out HB5.out HR6.out).mono ?_); rintro e w6 ⟨rfl, hi, hb, hk⟩; have HI6 := Aside0.mk hi; have HB6 := Aside0.mk hb; clear hi hb hk) | (go_at_call 50; (with_reducible refine (codec_Reader_Text.calls k gr s6 p6 e6 text s7 p7 e7 wa _ HGa.out HI6.out HB6.out HR7.out).mono ?_); rintro e w7 ⟨rfl, hi, hb, hk⟩; have HI7 := Aside0.mk hi; have HB7 := Aside0.mk hb; clear hi hb hk) | (go_at_call 51; (with_reducible refine (codec_Reader_End.calls gr s7 p7 e7 en s8 p8 e8 wa _ HGa.out HI7.out HB7.out HR8.out).mono ?_); rintro e w8 ⟨rfl, hi, hb, hk⟩; have HI8 := Aside0.mk hi; have HB8 := Aside0.mk hb; clear hi hb hk) | (refine wpList_store_row rfl 23 (.tmp 2) (.tmp 44) rfl gq #[.int .i64 0, .int .i64 0, .int .i64 0, .bool false, .int .i64 0, .string ⟨#[]⟩] rfl rfl 23 #[.int .i64 0, .int .i64 0, .int .i64 0, .bool false, .int .i64 0, .string ⟨#[]⟩] (blk_below HQa.out HB8.out) (by kernel_rfl) rfl (by simp [Value.oneCell']) ?_))
    refine bodyPost_ret (results_ct rfl _ _ gq 23 #[.int .i64 0, .int .i64 0, .int .i64 0, .bool false, .int .i64 0, .string ⟨#[]⟩] (0, 0) _ rfl (setRow_heap _ _ _ _ _ _ (blk_below HQa.out HB8.out)) Tryd.underlying23 rfl (by kernel_rfl)) rfl ⟨rfl, ?_⟩
    exact below_setRow (below_step HBa.out HB8.out) HQW.out _
end Go.Proofs.YtbgabhknmpbgiaaDoor.S
end
section
namespace Go.Proofs.YtbgabhknmpbgiaaDoor.S
open Go.RowKit Go.Proofs.YtbgabhknmpbgiaaDoor.Pure Go.Proofs.YtbgabhknmpbgiaaDoorW.PrintWords Go.Proofs.YtbgabhknmpbgiaaDoorW.PrintLast Go.Proofs.YtbgabhknmpbgiaaDoorW.PrintMore
set_option linter.unusedVariables false
def segment_Decode.f (a0 : ByteArray) : Option (Int × Int × Int × Bool × Int × ByteArray × Int) :=
  (codec_Reader_List.f 40 a0 0 0).bind fun x1 => (codec_Reader_Unsigned.f 40 x1.2.1 x1.2.2.1 x1.2.2.2).bind fun x2 => (codec_Reader_Unsigned.f 40 x2.2.1 x2.2.2.1 x2.2.2.2).bind fun x3 => (codec_Reader_Signed.f 40 x3.2.1 x3.2.2.1 x3.2.2.2).bind fun x4 => (codec_Reader_Bool.f 40 x4.2.1 x4.2.2.1 x4.2.2.2).bind fun x5 => (codec_Reader_Unsigned.f 40 x5.2.1 x5.2.2.1 x5.2.2.2).bind fun x6 => (codec_Reader_Text.f 40 x6.2.1 x6.2.2.1 x6.2.2.2).bind fun x7 => (codec_Reader_End.f x7.2.1 x7.2.2.1 x7.2.2.2).bind fun x8 => (segment_Check.f 40 x2.1 x3.1 x4.1 x5.1 x6.1 x7.1).bind fun ce => if 0 ≤ x2.1 ∧ 0 ≤ x3.1 ∧ 0 ≤ x6.1 then some ((decR x1.1 x2.1 x3.1 x4.1 x5.1 x6.1 x7.1 x8.1 ce).1.f0, (decR x1.1 x2.1 x3.1 x4.1 x5.1 x6.1 x7.1 x8.1 ce).1.f1, (decR x1.1 x2.1 x3.1 x4.1 x5.1 x6.1 x7.1 x8.1 ce).1.f2, (decR x1.1 x2.1 x3.1 x4.1 x5.1 x6.1 x7.1 x8.1 ce).1.f3, (decR x1.1 x2.1 x3.1 x4.1 x5.1 x6.1 x7.1 x8.1 ce).1.f4, (decR x1.1 x2.1 x3.1 x4.1 x5.1 x6.1 x7.1 x8.1 ce).1.f5, (decR x1.1 x2.1 x3.1 x4.1 x5.1 x6.1 x7.1 x8.1 ce).2) else none
theorem segment_Decode.calls (a0 : ByteArray) (r1 : Int) (r2 : Int) (r3 : Int) (r4 : Bool) (r5 : Int) (r6 : ByteArray) (r7 : Int) (w : World) (hG : Glob w) (h : segment_Decode.f a0 = some (r1, r2, r3, r4, r5, r6, r7)) :
    Calls Tryd.prog 14 #[.string a0] w fun e w' => e = .returned (.tuple #[.agg #[.int .i64 r1, .int .i64 r2, .int .i64 r3, .bool r4, .int .i64 r5, .string r6], .int .i64 r7]) ∧ Below w.heap.size w w' := by
  unfold segment_Decode.f at h
  obtain ⟨⟨x1, s1, p1, e1⟩, h1, h⟩ := Option.bind_eq_some_iff.mp h
  obtain ⟨⟨x2, s2, p2, e2⟩, h2, h⟩ := Option.bind_eq_some_iff.mp h
  obtain ⟨⟨x3, s3, p3, e3⟩, h3, h⟩ := Option.bind_eq_some_iff.mp h
  obtain ⟨⟨x4, s4, p4, e4⟩, h4, h⟩ := Option.bind_eq_some_iff.mp h
  obtain ⟨⟨x5, s5, p5, e5⟩, h5, h⟩ := Option.bind_eq_some_iff.mp h
  obtain ⟨⟨x6, s6, p6, e6⟩, h6, h⟩ := Option.bind_eq_some_iff.mp h
  obtain ⟨⟨x7, s7, p7, e7⟩, h7, h⟩ := Option.bind_eq_some_iff.mp h
  obtain ⟨⟨x8, s8, p8, e8⟩, h8, h⟩ := Option.bind_eq_some_iff.mp h
  obtain ⟨ce, hc, h⟩ := Option.bind_eq_some_iff.mp h
  by_cases q : 0 ≤ x2 ∧ 0 ≤ x3 ∧ 0 ≤ x6
  · rw [if_pos q] at h
    injection h with h
    injection h with z1 h
    injection h with z2 h
    injection h with z3 h
    injection h with z4 h
    injection h with z5 h
    injection h with z6 z7
    refine (decode_calls 40 a0 x1 x2 x3 x4 x5 x6 x7 x8 s1 s2 s3 s4 s5 s6 s7 s8 p1 e1 p2 e2 p3 e3 p4 e4 p5 e5 p6 e6 p7 e7 p8 e8 h1 h2 h3 h4 h5 h6 h7 h8 ce w hG hc q).mono ?_
    rintro e w' ⟨he, hb⟩
    rw [z1, z2, z3, z4, z5, z6, z7] at he
    exact ⟨he, hb⟩
  · rw [if_neg q] at h
    cases h
end Go.Proofs.YtbgabhknmpbgiaaDoor.S
end
section
namespace Go.Proofs.YtbgabhknmpbgiaaDoor.S
open Go.RowKit Go.Proofs.YtbgabhknmpbgiaaDoor.Pure Go.Proofs.YtbgabhknmpbgiaaDoorW.PrintWords Go.Proofs.YtbgabhknmpbgiaaDoorW.PrintLast Go.Proofs.YtbgabhknmpbgiaaDoorW.PrintMore
set_option linter.unusedVariables false
set_option linter.unusedSimpArgs false
attribute [local go_sem] max2_int min2_int max_two min_two
abbrev msgA : ByteArray := ⟨#[97, 98, 99, 100, 101, 102, 103]⟩
def segsA : List ByteArray := [⟨#[97, 98, 99]⟩, ⟨#[100, 101, 102]⟩, ⟨#[103]⟩]
def P0 : S23 := ⟨1, 5, 0, true, 2, ⟨#[97, 98, 99]⟩⟩
def P1 : S23 := ⟨1, 5, 1, true, 2, ⟨#[100, 101, 102]⟩⟩
def P2 : S23 := ⟨1, 5, 2, false, 2, ⟨#[103]⟩⟩
def sA1 : Sn := ⟨5, 2, 10, 1, segsA, 0, 0, 2, 0, 110⟩
def sA2 : Sn := ⟨5, 2, 10, 1, segsA, 0, 0, 2, 1, 120⟩
def sA3 : Sn := ⟨5, 2, 10, 1, segsA, 0, 2, 3, 0, 123⟩
def rA0 : Rn := ⟨5, 30, 0, 0, [], 130⟩
def rA1 : Rn := ⟨5, 30, 0, 0, [], 131⟩
def rA2 : Rn := ⟨5, 30, 0, 1, [97, 98, 99], 141⟩
def rA3 : Rn := ⟨5, 30, 0, 2, [97, 98, 99, 100, 101, 102], 142⟩
def rA4 : Rn := ⟨5, 30, 1, 3, [97, 98, 99, 100, 101, 102, 103], 144⟩
def ackA (n : Int) : S23 := ⟨2, 5, n, false, 0, ⟨#[]⟩⟩
def encS : ByteArray := strOfNums (encB P0)
theorem Pt.C {n l c : Nat} {w : World} {A : Option Addr} {xs : List S23} (h : Pt n w (.slice A l c) xs) : Kd.C k23 w A xs.length xs := by
  obtain ⟨A', e, hC⟩ := h.slice
  injection e with e1
  exact e1 ▸ hC
structure AtE (w : World) (ad : Addr) (o : Nat) (x : S23) : Prop where
  c0 : w.cell? (if o = 0 then ad else ⟨ad.block, ad.off + o, none⟩) = some (.int .i64 x.f0)
  c1 : w.cell? ⟨ad.block, ad.off + o + 1, none⟩ = some (.int .i64 x.f1)
  c2 : w.cell? ⟨ad.block, ad.off + o + 2, none⟩ = some (.int .i64 x.f2)
  c3 : w.cell? ⟨ad.block, ad.off + o + 3, none⟩ = some (.bool x.f3)
  c4 : w.cell? ⟨ad.block, ad.off + o + 4, none⟩ = some (.int .i64 x.f4)
  c5 : w.cell? ⟨ad.block, ad.off + o + 5, none⟩ = some (.string x.f5)
theorem Pt.atE {n l c : Nat} {w : World} {ad : Addr} {xs : List S23} (h : Pt n w (.slice (some ad) l c) xs) (i : Nat) (hi : i < xs.length) : AtE w ad (i * 6) (rd_T23 xs i) := by
  obtain ⟨ad', e, h0, h1, h2, h3, h4, h5⟩ := at_T23 h.C (i : Int) (by omega) (by omega)
  obtain rfl := Option.some.inj e
  rw [Int.toNat_natCast] at h0 h1 h2 h3 h4 h5
  simp only [Addr.add] at h0 h1 h2 h3 h4 h5
  have hb : (if i * 6 = 0 then ad else (⟨ad.block, ad.off + i * 6, none⟩ : Addr)).block = ad.block := by split <;> rfl
  have ho : (if i * 6 = 0 then ad else (⟨ad.block, ad.off + i * 6, none⟩ : Addr)).off = ad.off + i * 6 := by split <;> (try omega) <;> (try rfl)
  rw [hb, ho] at h1 h2 h3 h4 h5
  exact ⟨h0, h1, h2, h3, h4, h5⟩
theorem Pt.head_at {n c : Nat} {w : World} {A : Option Addr} {l : Nat} {x : S23} {xs : List S23} (h : Pt n w (.slice A l c) (x :: xs)) : ∃ ad, A = some ad := by
  obtain ⟨ad, e, _⟩ := at_T23 h.C 0 (by decide) (by simp)
  exact ⟨ad, e⟩
theorem splitA : segment_Split.f 40 msgA 3 = some (segsA, 0) := by kernel_rfl
theorem newEA : newE 5 2 10 1 0 = 0 := by kernel_rfl
theorem begA : begE 5 30 = 0 := by kernel_rfl
theorem newA : newS 5 2 10 1 segsA 100 = ([P0, P1], sA1) := by kernel_rfl
theorem hA1 : rA0.handle 1 5 1 true ⟨#[100, 101, 102]⟩ 101 = ([ackA (-1)], rA1) := by kernel_rfl
theorem tA1 : sA1.tick 110 = ([P0, P1], sA2) := by kernel_rfl
theorem hA2 : rA1.handle 1 5 0 true ⟨#[97, 98, 99]⟩ 111 = ([ackA 0], rA2) := by kernel_rfl
theorem hA3 : rA2.handle 1 5 1 true ⟨#[100, 101, 102]⟩ 112 = ([ackA 1], rA3) := by kernel_rfl
theorem shA : sA2.handle 2 5 1 113 = ([P2], sA3) := by kernel_rfl
theorem hA4 : rA3.handle 1 5 2 false ⟨#[103]⟩ 114 = ([ackA 2], rA4) := by kernel_rfl
theorem tA2 : rA4.tick 1000 = ([], rA4) := by kernel_rfl
theorem mA : (if rA4.state = 1 then strOfNums rA4.msg else ⟨#[]⟩) = msgA := by kernel_rfl
theorem encA : segment_Encode.f 1 5 0 true 2 ⟨#[97, 98, 99]⟩ = some (encS, 0) := by kernel_rfl
theorem decA_ : segment_Decode.f encS = some (1, 5, 0, true, 2, ⟨#[97, 98, 99]⟩, 0) := by kernel_rfl
theorem chkA : segment_Check.f 40 1 5 0 true 2 ⟨#[97, 98, 99]⟩ = some 0 := by kernel_rfl
theorem chkZ : segment_Check.f 40 0 0 0 false 0 ⟨#[]⟩ = some 3 := by kernel_rfl
theorem okA1 : OkS sA1 := ⟨by decide, by decide, by decide, by decide, by decide, by decide, by decide⟩
theorem okA2 : OkS sA2 := ⟨by decide, by decide, by decide, by decide, by decide, by decide, by decide⟩
def Row (w : World) (ad : Addr) (cs : List Value) : Prop := ∀ j v, cs[j]? = some v → w.cell? (ad.add j) = some v
theorem Row.below {w w1 : World} {ad : Addr} {cs : List Value} (h : Row w ad cs) (hb : Below w.heap.size w w1) : Row w1 ad cs := fun j v hv => pw_cell_below hb (h j v hv)
theorem row_blk {w : World} {g : Nat} {cs : List Value} {t : TypeId} {fr : Nat × Nat} (h : w.heap[g]? = some (.cells cs.toArray t fr)) : Row w ⟨g, 0, none⟩ cs := fun j v hv => by
  have hadd : (⟨g, 0, none⟩ : Addr).add j = ⟨g, j, none⟩ := by unfold Addr.add; split <;> simp_all
  rw [hadd, cell_of_row w g j _ t fr h]
  simpa using hv
theorem Pt.row {n l c : Nat} {w : World} {ad : Addr} {x : S23} {xs : List S23} (h : Pt n w (.slice (some ad) l c) (x :: xs)) (h0 : 0 < (x :: xs).length) : Row w ad [.int .i64 x.f0, .int .i64 x.f1, .int .i64 x.f2, .bool x.f3, .int .i64 x.f4, .string x.f5] := by
  obtain ⟨c0, c1, c2, c3, c4, c5⟩ := h.atE 0 h0
  have hadd : ∀ j, j ≠ 0 → ad.add j = ⟨ad.block, ad.off + j, none⟩ := fun j hj => by unfold Addr.add; rw [if_neg hj]
  intro j v hv
  rcases j with _ | _ | _ | _ | _ | _ | j
  · injection hv with hv; subst hv; exact c0
  · injection hv with hv; subst hv; rw [hadd 1 (by decide)]; exact c1
  · injection hv with hv; subst hv; rw [hadd 2 (by decide)]; exact c2
  · injection hv with hv; subst hv; rw [hadd 3 (by decide)]; exact c3
  · injection hv with hv; subst hv; rw [hadd 4 (by decide)]; exact c4
  · injection hv with hv; subst hv; rw [hadd 5 (by decide)]; exact c5
  · cases hv
theorem run_loadVar_at {P : Program} (w : World) (ad : Addr) (ty : TypeId) (cs : List Value) (d : TypeDesc) (hc : Row w ad cs)
    (hu : P.underlying ty = some d) (hd : d.isRow = true) (hi : (P.info? ty).map (·.size) = some cs.length) : (loadVar ty ad).run P w = .ok (.agg cs.toArray) w := by
  have hl := run_loadCells_list (P := P) w ad cs hc
  cases hq : P.info? ty with
  | none => simp [hq] at hi
  | some i =>
    have hs : i.size = cs.length := by simpa [hq] using hi
    have hagg : (isAgg ty).run P w = .ok true w := by
      unfold isAgg
      rw [Sem.run_bind, run_underlying hu w]
      cases d <;> simp_all
    simp [loadVar, Sem.run_bind, hagg, sizeOf, typeInfo, hq, hs, hl]
theorem yieldsIf_load_at {P : Program} {ops : Array Oper} {S : World → Prop} {op : Oper} {a : Act} (hw : Region.wanted op (yielded ops a.tmps) = true) (ty : TypeId) (x : Operand) (ho : op.op = .load ty x)
    (ad : Addr) (hx : a.eval x = .pointer (some ad)) (cs : List Value) (d : TypeDesc) (hS : ∀ w, S w → Row w ad cs)
    (hu : P.underlying ty = some d) (hd : d.isRow = true) (hi : (P.info? ty).map (·.size) = some cs.length) : YieldsIf P ops S op (.agg cs.toArray) a :=
  .inl ⟨hw, fun w hw' => by
    unfold execOp
    simp only [ho, hx, Instr.loadAt, Instr.sureAddr, Sem.run_bind, Sem.run_pure, Result.andThen_ok, run_loadVar_at w ad ty cs d (hS w hw') hu hd hi]⟩
theorem stA (B g : Nat) (w : World) (h : RcvAt B g rA4 w) : Calls Tryd.prog 38 #[.pointer (some ⟨g, 0, none⟩)] w fun e w' => e = .returned (.int .i64 1) ∧ w' = w := rstate_calls B g rA4 w h
set_option maxHeartbeats 16000000 in
set_option maxRecDepth 100000 in
theorem sstate_calls (g : Nat) (s : Sn) (w0 w : World) (h : AtP w0 w g s) : Calls Tryd.prog 29 #[.pointer (some ⟨g, 0, none⟩)] w fun e w' => e = .returned (.int .i64 s.state) ∧ w' = w := by
  obtain ⟨id, window, timeout, retries, segs, state, base, next, tries, deadline⟩ := s
  obtain ⟨A4, c4, hG, _⟩ := h
  have c5 := (blk_cell hG 5).trans rfl
  clear hG
  go_enter Tryd.func29, Tryd.ntmps29
  go_wp2
  go_ret
  exact ⟨rfl, rfl⟩
theorem ssA (g : Nat) (w0 w : World) (h : AtP w0 w g sA3) : Calls Tryd.prog 29 #[.pointer (some ⟨g, 0, none⟩)] w fun e w' => e = .returned (.int .i64 0) ∧ w' = w := sstate_calls g sA3 w0 w h
theorem rtA (w0 ws : World) (B gs gr : Nat) (s : Sn) (w : World) (h : Net w0 ws B gs gr s rA4 w) : Calls Tryd.prog 32 #[.pointer (some ⟨gr, 0, none⟩), .int .i64 1000] w fun e w' => ∃ A, e = .returned (.slice A 0 0) ∧ Net w0 ws B gs gr s rA4 w' ∧ Keep23 w w' := by
  refine (rtick_calls B gr rA4 1000 w h.rcv).mono ?_
  intro e w' hp
  rw [tA2] at hp
  obtain ⟨v, rfl, hv, hn, hk⟩ := h.rcall hp
  obtain ⟨A, ev, _⟩ := hv.slice
  subst ev
  exact ⟨A, rfl, hn, hk⟩
set_option maxHeartbeats 16000000 in
set_option maxRecDepth 100000 in
theorem awake_calls (w : World) (hG : Glob w) : Calls Tryd.prog 10 #[] w fun e w' => e = .returned (.bool true) ∧ Below w.heap.size w w' := by
  have HG := Aside0.mk hG
  clear hG
  go_enter Tryd.func10, Tryd.ntmps10
  go_wp2_with (first | (go_at_call 18; (with_reducible refine (segment_Split.calls 40 msgA 3 segsA 0 w HG.out splitA).mono ?_); rintro e w1 ⟨v1, rfl, ho, hb⟩; have HB1 := Aside0.mk hb; obtain ⟨A1, c1, ev, hcl, hC⟩ := Kd.R_reads ho; have ev2 : v1 = .slice A1 3 c1 := ev; clear ev; subst ev2; clear hC hcl ho hb) | (go_at_call 21; (with_reducible refine (newP_calls 40 5 msgA 3 2 10 1 100 segsA 0 w1 (Glob.below HG.out HB1.out) splitA (by decide)).mono ?_); rintro e w2 ⟨_, hp⟩; obtain ⟨gs, v2, ws, rfl, hv, hs, hb0, hb⟩ := hp newEA; rw [newA] at hv hs; obtain ⟨hvv, A2, ev⟩ := hv; have ev2 : v2 = .slice A2 2 2 := ev; clear ev; subst ev2; have HV2 := Aside0.mk (show Pt w1.heap.size w2 (.slice A2 2 2) [P0, P1] from ⟨hvv, A2, rfl⟩); have HS2 := Aside0.mk hs; have HW2 := Aside0.mk hb0; have HB2 := Aside0.mk hb; clear hp hvv hs hb0 hb) | (go_at_call 30; (with_reducible refine (rnew_calls 5 30 100 w2 (Glob.below HG.out (below_step (below_step HB1.out HW2.out) HB2.out))).mono ?_); rintro e w3 ⟨_, hp⟩; obtain ⟨gr, rfl, hr, hb⟩ := hp begA; rw [show wrap64 ((100 : Int) + 30) = 130 by kernel_rfl] at hr; have HN3 := Aside0.mk (show Net w ws w2.heap.size gs gr sA1 rA0 w3 from ⟨HS2.out.below hb, HB2.out.trans (hb.mono HB2.out.size), hr, HB2.out.size, hb.size, Nat.le_trans HB1.out.size HW2.out.size, below_step (below_step (below_step HB1.out HW2.out) HB2.out) hb⟩); have HPa3 := Aside0.mk (HV2.out.keep (Keep23.of_below hb)); clear hp hr hb; obtain ⟨ada, rfl⟩ := HPa3.out.head_at; have h_ := Pt.atE HPa3.out 1 (by decide); have y0 : w3.cell? ⟨ada.block, ada.off + 6, none⟩ = some (.int .i64 1) := h_.c0; have y1 : w3.cell? ⟨ada.block, ada.off + 6 + 1, none⟩ = some (.int .i64 5) := h_.c1; have y2 : w3.cell? ⟨ada.block, ada.off + 6 + 2, none⟩ = some (.int .i64 1) := h_.c2; have y3 : w3.cell? ⟨ada.block, ada.off + 6 + 3, none⟩ = some (.bool true) := h_.c3; have y4 : w3.cell? ⟨ada.block, ada.off + 6 + 4, none⟩ = some (.int .i64 2) := h_.c4; have y5 : w3.cell? ⟨ada.block, ada.off + 6 + 5, none⟩ = some (.string ⟨#[100, 101, 102]⟩) := h_.c5; clear h_; skip) | (go_at_call 34; (with_reducible refine (rhandle_calls w2.heap.size gr rA0 1 5 1 true 2 ⟨#[100, 101, 102]⟩ 101 w3 HN3.out.rcv HN3.out.bw (by decide)).mono ?_); rintro e w4 hp; rw [hA1] at hp; obtain ⟨v4, rfl, hv, hn, hk⟩ := Net.rcall HN3.out hp; have HN4 := Aside0.mk (show Net w ws w2.heap.size gs gr sA1 rA1 w4 from hn); have HPa4 := Aside0.mk (HPa3.out.keep hk); obtain ⟨A4, ev, _⟩ := hv.slice; subst ev; have HPb4 := Aside0.mk (show Pt w3.heap.size w4 (.slice A4 1 1) [ackA (-1)] from hv); clear hv; obtain ⟨adb, rfl⟩ := HPb4.out.head_at; clear y0 y1 y2 y3 y4 y5; clear hp hn hk) | (go_at_call 24; (with_reducible refine (tickP_calls gs sA1 110 ws w4 HN4.out.snd HN4.out.sb okA1).mono ?_); rintro e w5 hp; rw [tA1] at hp; obtain ⟨v5, rfl, hv, hn, hk⟩ := Net.scall HN4.out hp; have HN5 := Aside0.mk (show Net w ws w2.heap.size gs gr sA2 rA1 w5 from hn); have HPa5 := Aside0.mk (HPa4.out.keep hk); have HPb5 := Aside0.mk (HPb4.out.keep hk); obtain ⟨A5, ev, _⟩ := hv.slice; subst ev; have HPc5 := Aside0.mk (show Pt w4.heap.size w5 (.slice A5 2 2) [P0, P1] from hv); clear hv; obtain ⟨adc, rfl⟩ := HPc5.out.head_at; have h_ := Pt.atE HPa5.out 0 (by decide); have x0 : w5.cell? ada = some (.int .i64 1) := h_.c0; have x1 : w5.cell? ⟨ada.block, ada.off + 1, none⟩ = some (.int .i64 5) := h_.c1; have x2 : w5.cell? ⟨ada.block, ada.off + 2, none⟩ = some (.int .i64 0) := h_.c2; have x3 : w5.cell? ⟨ada.block, ada.off + 3, none⟩ = some (.bool true) := h_.c3; have x4 : w5.cell? ⟨ada.block, ada.off + 4, none⟩ = some (.int .i64 2) := h_.c4; have x5 : w5.cell? ⟨ada.block, ada.off + 5, none⟩ = some (.string ⟨#[97, 98, 99]⟩) := h_.c5; clear h_; clear hp hn hk) | (go_at_call 34; (with_reducible refine (rhandle_calls w2.heap.size gr rA1 1 5 0 true 2 ⟨#[97, 98, 99]⟩ 111 w5 HN5.out.rcv HN5.out.bw (by decide)).mono ?_); rintro e w6 hp; rw [hA2] at hp; obtain ⟨v6, rfl, hv, hn, hk⟩ := Net.rcall HN5.out hp; have HN6 := Aside0.mk (show Net w ws w2.heap.size gs gr sA2 rA2 w6 from hn); have HPa6 := Aside0.mk (HPa5.out.keep hk); have HPb6 := Aside0.mk (HPb5.out.keep hk); obtain ⟨A6, ev, _⟩ := hv.slice; subst ev; clear hv; clear x0 x1 x2 x3 x4 x5; have h_ := Pt.atE HPa6.out 1 (by decide); have y0 : w6.cell? ⟨ada.block, ada.off + 6, none⟩ = some (.int .i64 1) := h_.c0; have y1 : w6.cell? ⟨ada.block, ada.off + 6 + 1, none⟩ = some (.int .i64 5) := h_.c1; have y2 : w6.cell? ⟨ada.block, ada.off + 6 + 2, none⟩ = some (.int .i64 1) := h_.c2; have y3 : w6.cell? ⟨ada.block, ada.off + 6 + 3, none⟩ = some (.bool true) := h_.c3; have y4 : w6.cell? ⟨ada.block, ada.off + 6 + 4, none⟩ = some (.int .i64 2) := h_.c4; have y5 : w6.cell? ⟨ada.block, ada.off + 6 + 5, none⟩ = some (.string ⟨#[100, 101, 102]⟩) := h_.c5; clear h_; clear hp hn hk) | (go_at_call 34; (with_reducible refine (rhandle_calls w2.heap.size gr rA2 1 5 1 true 2 ⟨#[100, 101, 102]⟩ 112 w6 HN6.out.rcv HN6.out.bw (by decide)).mono ?_); rintro e w7 hp; rw [hA3] at hp; obtain ⟨v7, rfl, hv, hn, hk⟩ := Net.rcall HN6.out hp; have HN7 := Aside0.mk (show Net w ws w2.heap.size gs gr sA2 rA3 w7 from hn); have HPa7 := Aside0.mk (HPa6.out.keep hk); have HPb7 := Aside0.mk (HPb6.out.keep hk); obtain ⟨A7, ev, _⟩ := hv.slice; subst ev; have HPd7 := Aside0.mk (show Pt w6.heap.size w7 (.slice A7 1 1) [ackA 1] from hv); clear hv; obtain ⟨add, rfl⟩ := HPd7.out.head_at; clear y0 y1 y2 y3 y4 y5; have h_ := Pt.atE HPb7.out 0 (by decide); have x0 : w7.cell? adb = some (.int .i64 2) := h_.c0; have x1 : w7.cell? ⟨adb.block, adb.off + 1, none⟩ = some (.int .i64 5) := h_.c1; have x2 : w7.cell? ⟨adb.block, adb.off + 2, none⟩ = some (.int .i64 (-1)) := h_.c2; have x3 : w7.cell? ⟨adb.block, adb.off + 3, none⟩ = some (.bool false) := h_.c3; have x4 : w7.cell? ⟨adb.block, adb.off + 4, none⟩ = some (.int .i64 0) := h_.c4; have x5 : w7.cell? ⟨adb.block, adb.off + 5, none⟩ = some (.string ⟨#[]⟩) := h_.c5; clear h_; have h_ := Pt.atE HPd7.out 0 (by decide); have y0 : w7.cell? add = some (.int .i64 2) := h_.c0; have y1 : w7.cell? ⟨add.block, add.off + 1, none⟩ = some (.int .i64 5) := h_.c1; have y2 : w7.cell? ⟨add.block, add.off + 2, none⟩ = some (.int .i64 1) := h_.c2; have y3 : w7.cell? ⟨add.block, add.off + 3, none⟩ = some (.bool false) := h_.c3; have y4 : w7.cell? ⟨add.block, add.off + 4, none⟩ = some (.int .i64 0) := h_.c4; have y5 : w7.cell? ⟨add.block, add.off + 5, none⟩ = some (.string ⟨#[]⟩) := h_.c5; clear h_; clear hp hn hk) | (go_at_call 26; (with_reducible refine (handleP_calls gs sA2 2 5 1 false 0 ⟨#[]⟩ 113 ws w7 HN7.out.snd HN7.out.sb okA2).mono ?_); rintro e w8 hp; rw [shA] at hp; obtain ⟨v8, rfl, hv, hn, hk⟩ := Net.scall HN7.out hp; have HN8 := Aside0.mk (show Net w ws w2.heap.size gs gr sA3 rA3 w8 from hn); have HPa8 := Aside0.mk (HPa7.out.keep hk); have HPd8 := Aside0.mk (HPd7.out.keep hk); obtain ⟨A8, ev, _⟩ := hv.slice; subst ev; have HPh8 := Aside0.mk (show Pt w7.heap.size w8 (.slice A8 1 1) [P2] from hv); clear hv; obtain ⟨adh, rfl⟩ := HPh8.out.head_at; clear x0 x1 x2 x3 x4 x5 y0 y1 y2 y3 y4 y5; have h_ := Pt.atE HPh8.out 0 (by decide); have x0 : w8.cell? adh = some (.int .i64 1) := h_.c0; have x1 : w8.cell? ⟨adh.block, adh.off + 1, none⟩ = some (.int .i64 5) := h_.c1; have x2 : w8.cell? ⟨adh.block, adh.off + 2, none⟩ = some (.int .i64 2) := h_.c2; have x3 : w8.cell? ⟨adh.block, adh.off + 3, none⟩ = some (.bool false) := h_.c3; have x4 : w8.cell? ⟨adh.block, adh.off + 4, none⟩ = some (.int .i64 2) := h_.c4; have x5 : w8.cell? ⟨adh.block, adh.off + 5, none⟩ = some (.string ⟨#[103]⟩) := h_.c5; clear h_; clear hp hn hk) | (go_at_call 34; (with_reducible refine (rhandle_calls w2.heap.size gr rA3 1 5 2 false 2 ⟨#[103]⟩ 114 w8 HN8.out.rcv HN8.out.bw (by decide)).mono ?_); rintro e w9 hp; rw [hA4] at hp; obtain ⟨v9, rfl, hv, hn, hk⟩ := Net.rcall HN8.out hp; have HN9 := Aside0.mk (show Net w ws w2.heap.size gs gr sA3 rA4 w9 from hn); have HPa9 := Aside0.mk (HPa8.out.keep hk); have HPh9 := Aside0.mk (HPh8.out.keep hk); obtain ⟨A9, ev, _⟩ := hv.slice; subst ev; clear hv; clear x0 x1 x2 x3 x4 x5; have h_ := Pt.atE HPa9.out 0 (by decide); have x0 : w9.cell? ada = some (.int .i64 1) := h_.c0; have x1 : w9.cell? ⟨ada.block, ada.off + 1, none⟩ = some (.int .i64 5) := h_.c1; have x2 : w9.cell? ⟨ada.block, ada.off + 2, none⟩ = some (.int .i64 0) := h_.c2; have x3 : w9.cell? ⟨ada.block, ada.off + 3, none⟩ = some (.bool true) := h_.c3; have x4 : w9.cell? ⟨ada.block, ada.off + 4, none⟩ = some (.int .i64 2) := h_.c4; have x5 : w9.cell? ⟨ada.block, ada.off + 5, none⟩ = some (.string ⟨#[97, 98, 99]⟩) := h_.c5; clear h_; clear hp hn hk) | (go_at_call 36; (with_reducible refine (rmessage_calls w2.heap.size gr rA4 w9 HN9.out.rcv).mono ?_); rintro e wm ⟨he, rfl⟩; rw [mA, show (rA4.state == 1) = true from rfl] at he; subst he) | (go_at_call 13; (with_reducible refine (segment_Encode.calls 1 5 0 true 2 ⟨#[97, 98, 99]⟩ encS 0 wm (Glob.below HG.out HN9.out.base) encA).mono ?_); rintro e w10 ⟨rfl, hb⟩; have HN10 := Aside0.mk (HN9.out.below hb); have HPa10 := Aside0.mk (HPa9.out.keep (Keep23.of_below hb)); have HPh10 := Aside0.mk (HPh9.out.keep (Keep23.of_below hb)); clear hb; clear x0 x1 x2 x3 x4 x5) | (go_at_call 14; (with_reducible refine (segment_Decode.calls encS 1 5 0 true 2 ⟨#[97, 98, 99]⟩ 0 w10 (Glob.below HG.out HN10.out.base) decA_).mono ?_); rintro e w11 ⟨rfl, hb⟩; have HN11 := Aside0.mk (HN10.out.below hb); have HPa11 := Aside0.mk (HPa10.out.keep (Keep23.of_below hb)); have HPh11 := Aside0.mk (HPh10.out.keep (Keep23.of_below hb)); clear hb))
  have HN12 := Aside0.mk (HN11.out.below (below_alloc (Below.refl _ _) (.cells #[.int .i64 1, .int .i64 5, .int .i64 0, .bool true, .int .i64 2, .string ⟨#[97, 98, 99]⟩] 23)))
  have HPa12 := Aside0.mk (HPa11.out.keep (Keep23.of_below (below_alloc (Below.refl _ _) (.cells #[.int .i64 1, .int .i64 5, .int .i64 0, .bool true, .int .i64 2, .string ⟨#[97, 98, 99]⟩] 23))))
  have HX12 := Aside0.mk (blk_new w11 (.cells #[.int .i64 1, .int .i64 5, .int .i64 0, .bool true, .int .i64 2, .string ⟨#[97, 98, 99]⟩] 23))
  clear HN11 HPa11
  generalize hgx : w11.heap.size = gx at HX12 ⊢
  clear hgx
  generalize w11.alloc (.cells #[.int .i64 1, .int .i64 5, .int .i64 0, .bool true, .int .i64 2, .string ⟨#[97, 98, 99]⟩] 23) = w12 at HN12 HPa12 HX12 ⊢
  have HN13 := Aside0.mk (HN12.out.below (below_drew1 (Below.refl _ _)))
  have HPa13 := Aside0.mk (HPa12.out.keep (Keep23.of_below (below_drew1 (Below.refl _ _))))
  have HX13 := Aside0.mk (blk_drew HX12.out)
  clear HN12 HPa12 HX12
  have hu23 := Tryd.underlying23
  clear HB1 HS2 HW2 HB2 HN3 HV2 HPa3 HN4 HPa4 HPb4 HN5 HPa5 HPb5 HPc5 HN6 HPa6 HPb6 HN7 HPa7 HPb7 HPd7 HN8 HPa8 HPd8 HPh8 HN9 HPa9 HPh9 HN10 HPa10 HPh10 HPh11
  refine start_ (n := 47) (S := fun w' => Row w' ada [.int .i64 1, .int .i64 5, .int .i64 0, .bool true, .int .i64 2, .string ⟨#[97, 98, 99]⟩] ∧ Row w' ⟨gx, 0, none⟩ [.int .i64 1, .int .i64 5, .int .i64 0, .bool true, .int .i64 2, .string ⟨#[97, 98, 99]⟩]) (ds := []) #[Yn, Yn, Yn, Yn, Yn, Yn, Yn, Yn, Yn, Yn, Yn, Yn, Yn, Yn, Yn, Yn, Yn, Yn, Yn, Yn, Yn, Yn, Yn, Yn, Yn, Yn, Yn, Yn, Yn, Yn, Yn, Yn, Yn, Yn, Yn, Yn, Yn, Yn, Yn, Yn, Yn, Yn, Yn, Yn, Yn, Yn, Yn] (by kernel_rfl) rfl rfl ⟨(Pt.row (x := P0) (xs := [P1]) HPa13.out (by decide)), (row_blk HX13.out)⟩ (fun hHeld => ?_)
  refine pure_ (i := 0) (N := some 146) (v := ?_) (a' := ?_) #[Y, Yn, Yn, Yn, Yn, Yn, Yn, Yn, Yn, Yn, Yn, Yn, Yn, Yn, Yn, Yn, Yn, Yn, Yn, Yn, Yn, Yn, Yn, Yn, Yn, Yn, Yn, Yn, Yn, Yn, Yn, Yn, Yn, Yn, Yn, Yn, Yn, Yn, Yn, Yn, Yn, Yn, Yn, Yn, Yn, Yn, Yn] rfl rfl (by kernel_rfl) (fun _ _ _ h => h) (Or.inl ⟨by rfl, ?_⟩) ?_ ?_
  rotate_left
  · intro w'
    go_simp
    with_reducible rfl
  rotate_left
  · simp only [Act.put, List.setIfInBounds_toArray, List.set_cons_zero, List.set_cons_succ, i64_w, i32_w]
    rfl
  refine pure_ (i := 1) (N := some 147) (v := ?_) (a' := ?_) #[Y, Y, Yn, Yn, Yn, Yn, Yn, Yn, Yn, Yn, Yn, Yn, Yn, Yn, Yn, Yn, Yn, Yn, Yn, Yn, Yn, Yn, Yn, Yn, Yn, Yn, Yn, Yn, Yn, Yn, Yn, Yn, Yn, Yn, Yn, Yn, Yn, Yn, Yn, Yn, Yn, Yn, Yn, Yn, Yn, Yn, Yn] rfl rfl (by kernel_rfl) (fun _ _ _ h => h) (Or.inl ⟨by rfl, ?_⟩) ?_ ?_
  rotate_left
  · intro w'
    go_simp
    with_reducible rfl
  rotate_left
  · simp only [Act.put, List.setIfInBounds_toArray, List.set_cons_zero, List.set_cons_succ, i64_w, i32_w]
    rfl
  refine pure_ (i := 2) (N := some 148) (v := ?_) (a' := ?_) #[Y, Y, Y, Yn, Yn, Yn, Yn, Yn, Yn, Yn, Yn, Yn, Yn, Yn, Yn, Yn, Yn, Yn, Yn, Yn, Yn, Yn, Yn, Yn, Yn, Yn, Yn, Yn, Yn, Yn, Yn, Yn, Yn, Yn, Yn, Yn, Yn, Yn, Yn, Yn, Yn, Yn, Yn, Yn, Yn, Yn, Yn] rfl rfl (by kernel_rfl) (fun _ _ _ h => h) (Or.inl ⟨by rfl, ?_⟩) ?_ ?_
  rotate_left
  · intro w'
    go_simp
    with_reducible rfl
  rotate_left
  · simp only [Act.put, List.setIfInBounds_toArray, List.set_cons_zero, List.set_cons_succ, i64_w, i32_w]
    rfl
  refine pure_ (i := 3) (N := some 149) (v := ?_) (a' := ?_) #[Y, Y, Y, Y, Yn, Yn, Yn, Yn, Yn, Yn, Yn, Yn, Yn, Yn, Yn, Yn, Yn, Yn, Yn, Yn, Yn, Yn, Yn, Yn, Yn, Yn, Yn, Yn, Yn, Yn, Yn, Yn, Yn, Yn, Yn, Yn, Yn, Yn, Yn, Yn, Yn, Yn, Yn, Yn, Yn, Yn, Yn] rfl rfl (by kernel_rfl) (fun _ _ _ h => h) (Or.inl ⟨by rfl, ?_⟩) ?_ ?_
  rotate_left
  · intro w'
    go_simp
    with_reducible rfl
  rotate_left
  · simp only [Act.put, List.setIfInBounds_toArray, List.set_cons_zero, List.set_cons_succ, i64_w, i32_w]
    rfl
  refine pure_ (i := 4) (N := some 150) (v := ?_) (a' := ?_) #[Y, Y, Y, Y, Y, Yn, Yn, Yn, Yn, Yn, Yn, Yn, Yn, Yn, Yn, Yn, Yn, Yn, Yn, Yn, Yn, Yn, Yn, Yn, Yn, Yn, Yn, Yn, Yn, Yn, Yn, Yn, Yn, Yn, Yn, Yn, Yn, Yn, Yn, Yn, Yn, Yn, Yn, Yn, Yn, Yn, Yn] rfl rfl (by kernel_rfl) (fun _ _ _ h => h) (Or.inl ⟨by rfl, ?_⟩) ?_ ?_
  rotate_left
  · intro w'
    go_simp
    with_reducible rfl
  rotate_left
  · simp only [Act.put, List.setIfInBounds_toArray, List.set_cons_zero, List.set_cons_succ, i64_w, i32_w]
    rfl
  refine pure_ (i := 5) (N := some 151) (v := ?_) (a' := ?_) #[Y, Y, Y, Y, Y, Y, Yn, Yn, Yn, Yn, Yn, Yn, Yn, Yn, Yn, Yn, Yn, Yn, Yn, Yn, Yn, Yn, Yn, Yn, Yn, Yn, Yn, Yn, Yn, Yn, Yn, Yn, Yn, Yn, Yn, Yn, Yn, Yn, Yn, Yn, Yn, Yn, Yn, Yn, Yn, Yn, Yn] rfl rfl (by kernel_rfl) (fun _ _ _ h => h) (Or.inl ⟨by rfl, ?_⟩) ?_ ?_
  rotate_left
  · intro w'
    go_simp
    with_reducible rfl
  rotate_left
  · simp only [Act.put, List.setIfInBounds_toArray, List.set_cons_zero, List.set_cons_succ, i64_w, i32_w]
    rfl
  refine pure_ (i := 6) (N := some 152) (v := ?_) (a' := ?_) #[Y, Y, Y, Y, Y, Y, Y, Yn, Yn, Yn, Yn, Yn, Yn, Yn, Yn, Yn, Yn, Yn, Yn, Yn, Yn, Yn, Yn, Yn, Yn, Yn, Yn, Yn, Yn, Yn, Yn, Yn, Yn, Yn, Yn, Yn, Yn, Yn, Yn, Yn, Yn, Yn, Yn, Yn, Yn, Yn, Yn] rfl rfl (by kernel_rfl) (fun _ _ _ h => h) (Or.inl ⟨by rfl, ?_⟩) ?_ ?_
  rotate_left
  · intro w'
    go_simp
    with_reducible rfl
  rotate_left
  · simp only [Act.put, List.setIfInBounds_toArray, List.set_cons_zero, List.set_cons_succ, i64_w, i32_w]
    rfl
  refine one_ (i := 7) (N := some 153) #[Y, Y, Y, Y, Y, Y, Y, Y, Yn, Yn, Yn, Yn, Yn, Yn, Yn, Yn, Yn, Yn, Yn, Yn, Yn, Yn, Yn, Yn, Yn, Yn, Yn, Yn, Yn, Yn, Yn, Yn, Yn, Yn, Yn, Yn, Yn, Yn, Yn, Yn, Yn, Yn, Yn, Yn, Yn, Yn, Yn] rfl rfl (by kernel_rfl) (by decide) (fun K hK => ?_)
  refine goes_ Tryd.func38 (by kernel_rfl) rfl #[.pointer (some ⟨gr, 0, none⟩)] (by rfl) rfl rfl (by simp only [List.map_toArray, List.map_cons, List.map_nil]; rfl) ?_
  with_reducible refine (stA _ gr _ HN13.out.rcv).mono ?_
  rintro e w14 ⟨rfl, rfl⟩
  refine ⟨_, rfl, ?_⟩
  refine hK.out _ _ ⟨hHeld.1, hHeld.2⟩ (fun hHeld => ?_)
  clear hK K
  refine norm_ (a' := ?_) ?_ ?_
  rotate_left
  · show Act.put _ (some 153) _ = _
    simp only [Act.put, List.setIfInBounds_toArray, List.set_cons_zero, List.set_cons_succ, i64_w, i32_w]
    rfl
  refine pure_ (i := 8) (N := some 154) (v := ?_) (a' := ?_) #[Y, Y, Y, Y, Y, Y, Y, Y, Y, Yn, Yn, Yn, Yn, Yn, Yn, Yn, Yn, Yn, Yn, Yn, Yn, Yn, Yn, Yn, Yn, Yn, Yn, Yn, Yn, Yn, Yn, Yn, Yn, Yn, Yn, Yn, Yn, Yn, Yn, Yn, Yn, Yn, Yn, Yn, Yn, Yn, Yn] rfl rfl (by kernel_rfl) (fun _ _ _ h => h) (Or.inl ⟨by rfl, ?_⟩) ?_ ?_
  rotate_left
  · intro w'
    go_simp
    with_reducible rfl
  rotate_left
  · simp only [Act.put, List.setIfInBounds_toArray, List.set_cons_zero, List.set_cons_succ, i64_w, i32_w]
    rfl
  refine pure_ (i := 9) (N := some 155) (v := ?_) (a' := ?_) #[Y, Y, Y, Y, Y, Y, Y, Y, Y, Y, Yn, Yn, Yn, Yn, Yn, Yn, Yn, Yn, Yn, Yn, Yn, Yn, Yn, Yn, Yn, Yn, Yn, Yn, Yn, Yn, Yn, Yn, Yn, Yn, Yn, Yn, Yn, Yn, Yn, Yn, Yn, Yn, Yn, Yn, Yn, Yn, Yn] rfl rfl (by kernel_rfl) (fun _ _ _ h => h) (Or.inl ⟨by rfl, ?_⟩) ?_ ?_
  rotate_left
  · intro w'
    go_simp
    with_reducible rfl
  rotate_left
  · simp only [Act.put, List.setIfInBounds_toArray, List.set_cons_zero, List.set_cons_succ, i64_w, i32_w]
    rfl
  refine pure_ (i := 10) (N := some 156) (v := ?_) (a' := ?_) #[Y, Y, Y, Y, Y, Y, Y, Y, Y, Y, Y, Yn, Yn, Yn, Yn, Yn, Yn, Yn, Yn, Yn, Yn, Yn, Yn, Yn, Yn, Yn, Yn, Yn, Yn, Yn, Yn, Yn, Yn, Yn, Yn, Yn, Yn, Yn, Yn, Yn, Yn, Yn, Yn, Yn, Yn, Yn, Yn] rfl rfl (by kernel_rfl) (fun _ _ _ h => h) (Or.inl ⟨by rfl, ?_⟩) ?_ ?_
  rotate_left
  · intro w'
    go_simp
    with_reducible rfl
  rotate_left
  · simp only [Act.put, List.setIfInBounds_toArray, List.set_cons_zero, List.set_cons_succ, i64_w, i32_w]
    rfl
  refine pure_ (i := 11) (N := some 157) (v := ?_) (a' := ?_) #[Y, Y, Y, Y, Y, Y, Y, Y, Y, Y, Y, Y, Yn, Yn, Yn, Yn, Yn, Yn, Yn, Yn, Yn, Yn, Yn, Yn, Yn, Yn, Yn, Yn, Yn, Yn, Yn, Yn, Yn, Yn, Yn, Yn, Yn, Yn, Yn, Yn, Yn, Yn, Yn, Yn, Yn, Yn, Yn] rfl rfl (by kernel_rfl) (fun _ _ _ h => h) (Or.inl ⟨by rfl, ?_⟩) ?_ ?_
  rotate_left
  · intro w'
    go_simp
    with_reducible rfl
  rotate_left
  · simp only [Act.put, List.setIfInBounds_toArray, List.set_cons_zero, List.set_cons_succ, i64_w, i32_w]
    rfl
  refine one_ (i := 12) (N := some 158) #[Y, Y, Y, Y, Y, Y, Y, Y, Y, Y, Y, Y, Y, Yn, Yn, Yn, Yn, Yn, Yn, Yn, Yn, Yn, Yn, Yn, Yn, Yn, Yn, Yn, Yn, Yn, Yn, Yn, Yn, Yn, Yn, Yn, Yn, Yn, Yn, Yn, Yn, Yn, Yn, Yn, Yn, Yn, Yn] rfl rfl (by kernel_rfl) (by decide) (fun K hK => ?_)
  refine goes_ Tryd.func29 (by kernel_rfl) rfl #[.pointer (some ⟨gs, 0, none⟩)] (by rfl) rfl rfl (by simp only [List.map_toArray, List.map_cons, List.map_nil]; rfl) ?_
  with_reducible refine (ssA gs ws _ HN13.out.snd).mono ?_
  rintro e w15 ⟨rfl, rfl⟩
  refine ⟨_, rfl, ?_⟩
  refine hK.out _ _ ⟨hHeld.1, hHeld.2⟩ (fun hHeld => ?_)
  clear hK K
  refine norm_ (a' := ?_) ?_ ?_
  rotate_left
  · show Act.put _ (some 158) _ = _
    simp only [Act.put, List.setIfInBounds_toArray, List.set_cons_zero, List.set_cons_succ, i64_w, i32_w]
    rfl
  refine pure_ (i := 13) (N := some 159) (v := ?_) (a' := ?_) #[Y, Y, Y, Y, Y, Y, Y, Y, Y, Y, Y, Y, Y, Y, Yn, Yn, Yn, Yn, Yn, Yn, Yn, Yn, Yn, Yn, Yn, Yn, Yn, Yn, Yn, Yn, Yn, Yn, Yn, Yn, Yn, Yn, Yn, Yn, Yn, Yn, Yn, Yn, Yn, Yn, Yn, Yn, Yn] rfl rfl (by kernel_rfl) (fun _ _ _ h => h) (Or.inl ⟨by rfl, ?_⟩) ?_ ?_
  rotate_left
  · intro w'
    go_simp
    with_reducible rfl
  rotate_left
  · simp only [Act.put, List.setIfInBounds_toArray, List.set_cons_zero, List.set_cons_succ, i64_w, i32_w]
    rfl
  refine pure_ (i := 14) (N := some 160) (v := ?_) (a' := ?_) #[Y, Y, Y, Y, Y, Y, Y, Y, Y, Y, Y, Y, Y, Y, Y, Yn, Yn, Yn, Yn, Yn, Yn, Yn, Yn, Yn, Yn, Yn, Yn, Yn, Yn, Yn, Yn, Yn, Yn, Yn, Yn, Yn, Yn, Yn, Yn, Yn, Yn, Yn, Yn, Yn, Yn, Yn, Yn] rfl rfl (by kernel_rfl) (fun _ _ _ h => h) (Or.inl ⟨by rfl, ?_⟩) ?_ ?_
  rotate_left
  · intro w'
    go_simp
    with_reducible rfl
  rotate_left
  · simp only [Act.put, List.setIfInBounds_toArray, List.set_cons_zero, List.set_cons_succ, i64_w, i32_w]
    rfl
  refine pure_ (i := 15) (N := some 161) (v := ?_) (a' := ?_) #[Y, Y, Y, Y, Y, Y, Y, Y, Y, Y, Y, Y, Y, Y, Y, Y, Yn, Yn, Yn, Yn, Yn, Yn, Yn, Yn, Yn, Yn, Yn, Yn, Yn, Yn, Yn, Yn, Yn, Yn, Yn, Yn, Yn, Yn, Yn, Yn, Yn, Yn, Yn, Yn, Yn, Yn, Yn] rfl rfl (by kernel_rfl) (fun _ _ _ h => h) (Or.inl ⟨by rfl, ?_⟩) ?_ ?_
  rotate_left
  · intro w'
    go_simp
    with_reducible rfl
  rotate_left
  · simp only [Act.put, List.setIfInBounds_toArray, List.set_cons_zero, List.set_cons_succ, i64_w, i32_w]
    rfl
  refine pure_ (i := 16) (N := some 162) (v := ?_) (a' := ?_) #[Y, Y, Y, Y, Y, Y, Y, Y, Y, Y, Y, Y, Y, Y, Y, Y, Y, Yn, Yn, Yn, Yn, Yn, Yn, Yn, Yn, Yn, Yn, Yn, Yn, Yn, Yn, Yn, Yn, Yn, Yn, Yn, Yn, Yn, Yn, Yn, Yn, Yn, Yn, Yn, Yn, Yn, Yn] rfl rfl (by kernel_rfl) (fun _ _ _ h => h) (Or.inl ⟨by rfl, ?_⟩) ?_ ?_
  rotate_left
  · intro w'
    go_simp
    with_reducible rfl
  rotate_left
  · simp only [Act.put, List.setIfInBounds_toArray, List.set_cons_zero, List.set_cons_succ, i64_w, i32_w]
    rfl
  refine pure_ (i := 17) (N := some 163) (v := ?_) (a' := ?_) #[Y, Y, Y, Y, Y, Y, Y, Y, Y, Y, Y, Y, Y, Y, Y, Y, Y, Y, Yn, Yn, Yn, Yn, Yn, Yn, Yn, Yn, Yn, Yn, Yn, Yn, Yn, Yn, Yn, Yn, Yn, Yn, Yn, Yn, Yn, Yn, Yn, Yn, Yn, Yn, Yn, Yn, Yn] rfl rfl (by kernel_rfl) (fun _ _ _ h => h) (Or.inl ⟨by rfl, ?_⟩) ?_ ?_
  rotate_left
  · intro w'
    go_simp
    with_reducible rfl
  rotate_left
  · simp only [Act.put, List.setIfInBounds_toArray, List.set_cons_zero, List.set_cons_succ, i64_w, i32_w]
    rfl
  refine pure_ (i := 18) (N := some 164) (v := ?_) (a' := ?_) #[Y, Y, Y, Y, Y, Y, Y, Y, Y, Y, Y, Y, Y, Y, Y, Y, Y, Y, Y, Yn, Yn, Yn, Yn, Yn, Yn, Yn, Yn, Yn, Yn, Yn, Yn, Yn, Yn, Yn, Yn, Yn, Yn, Yn, Yn, Yn, Yn, Yn, Yn, Yn, Yn, Yn, Yn] rfl rfl (by kernel_rfl) (fun _ _ _ h => h) (Or.inl ⟨by rfl, ?_⟩) ?_ ?_
  rotate_left
  · intro w'
    go_simp
    with_reducible rfl
  rotate_left
  · simp only [Act.put, List.setIfInBounds_toArray, List.set_cons_zero, List.set_cons_succ, i64_w, i32_w]
    rfl
  refine pure_ (i := 19) (N := some 165) (v := ?_) (a' := ?_) #[Y, Y, Y, Y, Y, Y, Y, Y, Y, Y, Y, Y, Y, Y, Y, Y, Y, Y, Y, Y, Yn, Yn, Yn, Yn, Yn, Yn, Yn, Yn, Yn, Yn, Yn, Yn, Yn, Yn, Yn, Yn, Yn, Yn, Yn, Yn, Yn, Yn, Yn, Yn, Yn, Yn, Yn] rfl rfl (by kernel_rfl) (fun _ _ _ h => h) (Or.inl ⟨by rfl, ?_⟩) ?_ ?_
  rotate_left
  · intro w'
    go_simp
    with_reducible rfl
  rotate_left
  · simp only [Act.put, List.setIfInBounds_toArray, List.set_cons_zero, List.set_cons_succ, i64_w, i32_w]
    rfl
  refine pure_ (i := 20) (N := some 166) (v := ?_) (a' := ?_) #[Y, Y, Y, Y, Y, Y, Y, Y, Y, Y, Y, Y, Y, Y, Y, Y, Y, Y, Y, Y, Y, Yn, Yn, Yn, Yn, Yn, Yn, Yn, Yn, Yn, Yn, Yn, Yn, Yn, Yn, Yn, Yn, Yn, Yn, Yn, Yn, Yn, Yn, Yn, Yn, Yn, Yn] rfl rfl (by kernel_rfl) (fun _ _ _ h => h) (Or.inl ⟨by rfl, ?_⟩) ?_ ?_
  rotate_left
  · intro w'
    go_simp
    with_reducible rfl
  rotate_left
  · simp only [Act.put, List.setIfInBounds_toArray, List.set_cons_zero, List.set_cons_succ, i64_w, i32_w]
    rfl
  refine pure_ (i := 21) (N := some 167) (v := ?_) (a' := ?_) #[Y, Y, Y, Y, Y, Y, Y, Y, Y, Y, Y, Y, Y, Y, Y, Y, Y, Y, Y, Y, Y, Y, Yn, Yn, Yn, Yn, Yn, Yn, Yn, Yn, Yn, Yn, Yn, Yn, Yn, Yn, Yn, Yn, Yn, Yn, Yn, Yn, Yn, Yn, Yn, Yn, Yn] rfl rfl (by kernel_rfl) (fun _ _ _ h => h) (Or.inl ⟨by rfl, ?_⟩) ?_ ?_
  rotate_left
  · intro w'
    go_simp
    with_reducible rfl
  rotate_left
  · simp only [Act.put, List.setIfInBounds_toArray, List.set_cons_zero, List.set_cons_succ, i64_w, i32_w]
    rfl
  refine pure_ (i := 22) (N := some 168) (v := ?_) (a' := ?_) #[Y, Y, Y, Y, Y, Y, Y, Y, Y, Y, Y, Y, Y, Y, Y, Y, Y, Y, Y, Y, Y, Y, Y, Yn, Yn, Yn, Yn, Yn, Yn, Yn, Yn, Yn, Yn, Yn, Yn, Yn, Yn, Yn, Yn, Yn, Yn, Yn, Yn, Yn, Yn, Yn, Yn] rfl rfl (by kernel_rfl) (fun _ _ _ h => h) (Or.inl ⟨by rfl, ?_⟩) ?_ ?_
  rotate_left
  · intro w'
    go_simp
    with_reducible rfl
  rotate_left
  · simp only [Act.put, List.setIfInBounds_toArray, List.set_cons_zero, List.set_cons_succ, i64_w, i32_w]
    rfl
  refine pure_ (i := 23) (N := some 169) (v := ?_) (a' := ?_) #[Y, Y, Y, Y, Y, Y, Y, Y, Y, Y, Y, Y, Y, Y, Y, Y, Y, Y, Y, Y, Y, Y, Y, Y, Yn, Yn, Yn, Yn, Yn, Yn, Yn, Yn, Yn, Yn, Yn, Yn, Yn, Yn, Yn, Yn, Yn, Yn, Yn, Yn, Yn, Yn, Yn] rfl rfl (by kernel_rfl) (fun _ _ _ h => h) (Or.inl ⟨by rfl, ?_⟩) ?_ ?_
  rotate_left
  · intro w'
    go_simp
    with_reducible rfl
  rotate_left
  · simp only [Act.put, List.setIfInBounds_toArray, List.set_cons_zero, List.set_cons_succ, i64_w, i32_w]
    rfl
  refine pure_ (i := 25) (N := some 171) (v := ?_) (a' := ?_) #[Y, Y, Y, Y, Y, Y, Y, Y, Y, Y, Y, Y, Y, Y, Y, Y, Y, Y, Y, Y, Y, Y, Y, Y, Yn, Y, Yn, Yn, Yn, Yn, Yn, Yn, Yn, Yn, Yn, Yn, Yn, Yn, Yn, Yn, Yn, Yn, Yn, Yn, Yn, Yn, Yn] rfl rfl (by kernel_rfl) (fun _ _ _ h => h) (Or.inl ⟨by rfl, ?_⟩) ?_ ?_
  rotate_left
  · intro w'
    go_simp
    with_reducible rfl
  rotate_left
  · simp only [Act.put, List.setIfInBounds_toArray, List.set_cons_zero, List.set_cons_succ, i64_w, i32_w]
    rfl
  refine pure_ (i := 26) (N := some 172) (v := ?_) (a' := ?_) #[Y, Y, Y, Y, Y, Y, Y, Y, Y, Y, Y, Y, Y, Y, Y, Y, Y, Y, Y, Y, Y, Y, Y, Y, Yn, Y, Y, Yn, Yn, Yn, Yn, Yn, Yn, Yn, Yn, Yn, Yn, Yn, Yn, Yn, Yn, Yn, Yn, Yn, Yn, Yn, Yn] rfl rfl (by kernel_rfl) (fun _ _ _ h => h) (Or.inl ⟨by rfl, ?_⟩) ?_ ?_
  rotate_left
  · intro w'
    go_simp
    with_reducible rfl
  rotate_left
  · simp only [Act.put, List.setIfInBounds_toArray, List.set_cons_zero, List.set_cons_succ, i64_w, i32_w]
    rfl
  refine take_ (i := 24) (N := some 170) (v := .agg #[.int .i64 1, .int .i64 5, .int .i64 0, .bool true, .int .i64 2, .string ⟨#[97, 98, 99]⟩]) (a' := ?_) #[Y, Y, Y, Y, Y, Y, Y, Y, Y, Y, Y, Y, Y, Y, Y, Y, Y, Y, Y, Y, Y, Y, Y, Y, Y, Y, Y, Yn, Yn, Yn, Yn, Yn, Yn, Yn, Yn, Yn, Yn, Yn, Yn, Yn, Yn, Yn, Yn, Yn, Yn, Yn, Yn] rfl rfl (by kernel_rfl) (fun _ _ _ h => h) (yieldsIf_load_at (by rfl) 23 (.tmp 16) rfl ⟨gx, 0, none⟩ rfl [.int .i64 1, .int .i64 5, .int .i64 0, .bool true, .int .i64 2, .string ⟨#[97, 98, 99]⟩] _ (fun _ h => h.2) Tryd.underlying23 rfl (by kernel_rfl)) hHeld ?_ ?_
  rotate_left
  · simp only [Act.put, List.setIfInBounds_toArray, List.set_cons_zero, List.set_cons_succ, i64_w, i32_w]
    rfl
  refine take_ (i := 27) (N := some 173) (v := .agg #[.int .i64 1, .int .i64 5, .int .i64 0, .bool true, .int .i64 2, .string ⟨#[97, 98, 99]⟩]) (a' := ?_) #[Y, Y, Y, Y, Y, Y, Y, Y, Y, Y, Y, Y, Y, Y, Y, Y, Y, Y, Y, Y, Y, Y, Y, Y, Y, Y, Y, Y, Yn, Yn, Yn, Yn, Yn, Yn, Yn, Yn, Yn, Yn, Yn, Yn, Yn, Yn, Yn, Yn, Yn, Yn, Yn] rfl rfl (by kernel_rfl) (fun _ _ _ h => h) (yieldsIf_load_at (by rfl) 23 (.tmp 172) rfl ada rfl [.int .i64 1, .int .i64 5, .int .i64 0, .bool true, .int .i64 2, .string ⟨#[97, 98, 99]⟩] _ (fun _ h => h.1) Tryd.underlying23 rfl (by kernel_rfl)) hHeld ?_ ?_
  rotate_left
  · simp only [Act.put, List.setIfInBounds_toArray, List.set_cons_zero, List.set_cons_succ, i64_w, i32_w]
    rfl
  refine pure_ (i := 28) (N := some 174) (v := ?_) (a' := ?_) #[Y, Y, Y, Y, Y, Y, Y, Y, Y, Y, Y, Y, Y, Y, Y, Y, Y, Y, Y, Y, Y, Y, Y, Y, Y, Y, Y, Y, Y, Yn, Yn, Yn, Yn, Yn, Yn, Yn, Yn, Yn, Yn, Yn, Yn, Yn, Yn, Yn, Yn, Yn, Yn] rfl rfl (by kernel_rfl) (fun _ _ _ h => h) (Or.inl ⟨by rfl, ?_⟩) ?_ ?_
  rotate_left
  · intro w'
    go_simp
    with_reducible rfl
  rotate_left
  · simp only [Act.put, List.setIfInBounds_toArray, List.set_cons_zero, List.set_cons_succ, i64_w, i32_w]
    rfl
  refine pure_ (i := 29) (N := some 175) (v := ?_) (a' := ?_) #[Y, Y, Y, Y, Y, Y, Y, Y, Y, Y, Y, Y, Y, Y, Y, Y, Y, Y, Y, Y, Y, Y, Y, Y, Y, Y, Y, Y, Y, Y, Yn, Yn, Yn, Yn, Yn, Yn, Yn, Yn, Yn, Yn, Yn, Yn, Yn, Yn, Yn, Yn, Yn] rfl rfl (by kernel_rfl) (fun _ _ _ h => h) (Or.inl ⟨by rfl, ?_⟩) ?_ ?_
  rotate_left
  · intro w'
    go_simp
    with_reducible rfl
  rotate_left
  · simp only [Act.put, List.setIfInBounds_toArray, List.set_cons_zero, List.set_cons_succ, i64_w, i32_w]
    rfl
  refine pure_ (i := 30) (N := some 176) (v := ?_) (a' := ?_) #[Y, Y, Y, Y, Y, Y, Y, Y, Y, Y, Y, Y, Y, Y, Y, Y, Y, Y, Y, Y, Y, Y, Y, Y, Y, Y, Y, Y, Y, Y, Y, Yn, Yn, Yn, Yn, Yn, Yn, Yn, Yn, Yn, Yn, Yn, Yn, Yn, Yn, Yn, Yn] rfl rfl (by kernel_rfl) (fun _ _ _ h => h) (Or.inl ⟨by rfl, ?_⟩) ?_ ?_
  rotate_left
  · intro w'
    go_simp
    with_reducible rfl
  rotate_left
  · simp only [Act.put, List.setIfInBounds_toArray, List.set_cons_zero, List.set_cons_succ, i64_w, i32_w]
    rfl
  refine take_ (i := 31) (N := some 177) (v := .agg #[.int .i64 1, .int .i64 5, .int .i64 0, .bool true, .int .i64 2, .string ⟨#[97, 98, 99]⟩]) (a' := ?_) #[Y, Y, Y, Y, Y, Y, Y, Y, Y, Y, Y, Y, Y, Y, Y, Y, Y, Y, Y, Y, Y, Y, Y, Y, Y, Y, Y, Y, Y, Y, Y, Y, Yn, Yn, Yn, Yn, Yn, Yn, Yn, Yn, Yn, Yn, Yn, Yn, Yn, Yn, Yn] rfl rfl (by kernel_rfl) (fun _ _ _ h => h) (yieldsIf_load_at (by rfl) 23 (.tmp 16) rfl ⟨gx, 0, none⟩ rfl [.int .i64 1, .int .i64 5, .int .i64 0, .bool true, .int .i64 2, .string ⟨#[97, 98, 99]⟩] _ (fun _ h => h.2) Tryd.underlying23 rfl (by kernel_rfl)) hHeld ?_ ?_
  rotate_left
  · simp only [Act.put, List.setIfInBounds_toArray, List.set_cons_zero, List.set_cons_succ, i64_w, i32_w]
    rfl
  refine one_ (i := 32) (N := some 178) #[Y, Y, Y, Y, Y, Y, Y, Y, Y, Y, Y, Y, Y, Y, Y, Y, Y, Y, Y, Y, Y, Y, Y, Y, Y, Y, Y, Y, Y, Y, Y, Y, Y, Yn, Yn, Yn, Yn, Yn, Yn, Yn, Yn, Yn, Yn, Yn, Yn, Yn, Yn] rfl rfl (by kernel_rfl) (by decide) (fun K hK => ?_)
  refine goes_ Tryd.func16 (by kernel_rfl) rfl #[.agg #[.int .i64 1, .int .i64 5, .int .i64 0, .bool true, .int .i64 2, .string ⟨#[97, 98, 99]⟩]] (by rfl) rfl rfl (by simp only [List.map_toArray, List.map_cons, List.map_nil]; rfl) ?_
  with_reducible refine (segment_Check.calls 40 1 5 0 true 2 ⟨#[97, 98, 99]⟩ 0 _ (Glob.below HG.out HN13.out.base) chkA).mono ?_
  rintro e w16 ⟨rfl, hb_⟩
  refine ⟨_, rfl, ?_⟩
  have HN16 := Aside0.mk (HN13.out.below hb_)
  have HPa16 := Aside0.mk (HPa13.out.keep (Keep23.of_below hb_))
  have HX16 := Aside0.mk (blk_below HX13.out hb_)
  have hb_ := Aside0.mk hb_
  refine hK.out _ _ ⟨hHeld.1.below hb_.out, hHeld.2.below hb_.out⟩ (fun hHeld => ?_)
  clear hK K
  refine norm_ (a' := ?_) ?_ ?_
  rotate_left
  · show Act.put _ (some 178) _ = _
    simp only [Act.put, List.setIfInBounds_toArray, List.set_cons_zero, List.set_cons_succ, i64_w, i32_w]
    rfl
  refine pure_ (i := 33) (N := some 179) (v := ?_) (a' := ?_) #[Y, Y, Y, Y, Y, Y, Y, Y, Y, Y, Y, Y, Y, Y, Y, Y, Y, Y, Y, Y, Y, Y, Y, Y, Y, Y, Y, Y, Y, Y, Y, Y, Y, Y, Yn, Yn, Yn, Yn, Yn, Yn, Yn, Yn, Yn, Yn, Yn, Yn, Yn] rfl rfl (by kernel_rfl) (fun _ _ _ h => h) (Or.inl ⟨by rfl, ?_⟩) ?_ ?_
  rotate_left
  · intro w'
    go_simp
    with_reducible rfl
  rotate_left
  · simp only [Act.put, List.setIfInBounds_toArray, List.set_cons_zero, List.set_cons_succ, i64_w, i32_w]
    rfl
  refine pure_ (i := 34) (N := some 180) (v := ?_) (a' := ?_) #[Y, Y, Y, Y, Y, Y, Y, Y, Y, Y, Y, Y, Y, Y, Y, Y, Y, Y, Y, Y, Y, Y, Y, Y, Y, Y, Y, Y, Y, Y, Y, Y, Y, Y, Y, Yn, Yn, Yn, Yn, Yn, Yn, Yn, Yn, Yn, Yn, Yn, Yn] rfl rfl (by kernel_rfl) (fun _ _ _ h => h) (Or.inl ⟨by rfl, ?_⟩) ?_ ?_
  rotate_left
  · intro w'
    go_simp
    with_reducible rfl
  rotate_left
  · simp only [Act.put, List.setIfInBounds_toArray, List.set_cons_zero, List.set_cons_succ, i64_w, i32_w]
    rfl
  refine pure_ (i := 35) (N := some 181) (v := ?_) (a' := ?_) #[Y, Y, Y, Y, Y, Y, Y, Y, Y, Y, Y, Y, Y, Y, Y, Y, Y, Y, Y, Y, Y, Y, Y, Y, Y, Y, Y, Y, Y, Y, Y, Y, Y, Y, Y, Y, Yn, Yn, Yn, Yn, Yn, Yn, Yn, Yn, Yn, Yn, Yn] rfl rfl (by kernel_rfl) (fun _ _ _ h => h) (Or.inl ⟨by rfl, ?_⟩) ?_ ?_
  rotate_left
  · intro w'
    go_simp
    with_reducible rfl
  rotate_left
  · simp only [Act.put, List.setIfInBounds_toArray, List.set_cons_zero, List.set_cons_succ, i64_w, i32_w]
    rfl
  refine pure_ (i := 36) (N := some 182) (v := ?_) (a' := ?_) #[Y, Y, Y, Y, Y, Y, Y, Y, Y, Y, Y, Y, Y, Y, Y, Y, Y, Y, Y, Y, Y, Y, Y, Y, Y, Y, Y, Y, Y, Y, Y, Y, Y, Y, Y, Y, Y, Yn, Yn, Yn, Yn, Yn, Yn, Yn, Yn, Yn, Yn] rfl rfl (by kernel_rfl) (fun _ _ _ h => h) (Or.inl ⟨by rfl, ?_⟩) ?_ ?_
  rotate_left
  · intro w'
    go_simp
    with_reducible rfl
  rotate_left
  · simp only [Act.put, List.setIfInBounds_toArray, List.set_cons_zero, List.set_cons_succ, i64_w, i32_w]
    rfl
  refine one_ (i := 37) (N := some 183) #[Y, Y, Y, Y, Y, Y, Y, Y, Y, Y, Y, Y, Y, Y, Y, Y, Y, Y, Y, Y, Y, Y, Y, Y, Y, Y, Y, Y, Y, Y, Y, Y, Y, Y, Y, Y, Y, Y, Yn, Yn, Yn, Yn, Yn, Yn, Yn, Yn, Yn] rfl rfl (by kernel_rfl) (by decide) (fun K hK => ?_)
  refine goes_ Tryd.func16 (by kernel_rfl) rfl #[.agg #[.int .i64 0, .int .i64 0, .int .i64 0, .bool false, .int .i64 0, .string ⟨#[]⟩]] (by rfl) rfl rfl (by simp only [List.map_toArray, List.map_cons, List.map_nil]; rfl) ?_
  with_reducible refine (segment_Check.calls 40 0 0 0 false 0 ⟨#[]⟩ 3 _ (Glob.below HG.out HN16.out.base) chkZ).mono ?_
  rintro e w16b ⟨rfl, hb2_⟩
  refine ⟨_, rfl, ?_⟩
  have HN16b := Aside0.mk (HN16.out.below hb2_)
  have HPa16b := Aside0.mk (HPa16.out.keep (Keep23.of_below hb2_))
  have HX16b := Aside0.mk (blk_below HX16.out hb2_)
  have hb2_ := Aside0.mk hb2_
  refine hK.out _ _ ⟨hHeld.1.below hb2_.out, hHeld.2.below hb2_.out⟩ (fun hHeld => ?_)
  clear hK K
  refine norm_ (a' := ?_) ?_ ?_
  rotate_left
  · show Act.put _ (some 183) _ = _
    simp only [Act.put, List.setIfInBounds_toArray, List.set_cons_zero, List.set_cons_succ, i64_w, i32_w]
    rfl
  refine pure_ (i := 38) (N := some 184) (v := ?_) (a' := ?_) #[Y, Y, Y, Y, Y, Y, Y, Y, Y, Y, Y, Y, Y, Y, Y, Y, Y, Y, Y, Y, Y, Y, Y, Y, Y, Y, Y, Y, Y, Y, Y, Y, Y, Y, Y, Y, Y, Y, Y, Yn, Yn, Yn, Yn, Yn, Yn, Yn, Yn] rfl rfl (by kernel_rfl) (fun _ _ _ h => h) (Or.inl ⟨by rfl, ?_⟩) ?_ ?_
  rotate_left
  · intro w'
    go_simp
    with_reducible rfl
  rotate_left
  · simp only [Act.put, List.setIfInBounds_toArray, List.set_cons_zero, List.set_cons_succ, i64_w, i32_w]
    rfl
  refine pure_ (i := 39) (N := some 185) (v := ?_) (a' := ?_) #[Y, Y, Y, Y, Y, Y, Y, Y, Y, Y, Y, Y, Y, Y, Y, Y, Y, Y, Y, Y, Y, Y, Y, Y, Y, Y, Y, Y, Y, Y, Y, Y, Y, Y, Y, Y, Y, Y, Y, Y, Yn, Yn, Yn, Yn, Yn, Yn, Yn] rfl rfl (by kernel_rfl) (fun _ _ _ h => h) (Or.inl ⟨by rfl, ?_⟩) ?_ ?_
  rotate_left
  · intro w'
    go_simp
    with_reducible rfl
  rotate_left
  · simp only [Act.put, List.setIfInBounds_toArray, List.set_cons_zero, List.set_cons_succ, i64_w, i32_w]
    rfl
  refine pure_ (i := 40) (N := some 186) (v := ?_) (a' := ?_) #[Y, Y, Y, Y, Y, Y, Y, Y, Y, Y, Y, Y, Y, Y, Y, Y, Y, Y, Y, Y, Y, Y, Y, Y, Y, Y, Y, Y, Y, Y, Y, Y, Y, Y, Y, Y, Y, Y, Y, Y, Y, Yn, Yn, Yn, Yn, Yn, Yn] rfl rfl (by kernel_rfl) (fun _ _ _ h => h) (Or.inl ⟨by rfl, ?_⟩) ?_ ?_
  rotate_left
  · intro w'
    go_simp
    with_reducible rfl
  rotate_left
  · simp only [Act.put, List.setIfInBounds_toArray, List.set_cons_zero, List.set_cons_succ, i64_w, i32_w]
    rfl
  refine pure_ (i := 41) (N := some 187) (v := ?_) (a' := ?_) #[Y, Y, Y, Y, Y, Y, Y, Y, Y, Y, Y, Y, Y, Y, Y, Y, Y, Y, Y, Y, Y, Y, Y, Y, Y, Y, Y, Y, Y, Y, Y, Y, Y, Y, Y, Y, Y, Y, Y, Y, Y, Y, Yn, Yn, Yn, Yn, Yn] rfl rfl (by kernel_rfl) (fun _ _ _ h => h) (Or.inl ⟨by rfl, ?_⟩) ?_ ?_
  rotate_left
  · intro w'
    go_simp
    with_reducible rfl
  rotate_left
  · simp only [Act.put, List.setIfInBounds_toArray, List.set_cons_zero, List.set_cons_succ, i64_w, i32_w]
    rfl
  refine one_ (i := 42) (N := some 188) #[Y, Y, Y, Y, Y, Y, Y, Y, Y, Y, Y, Y, Y, Y, Y, Y, Y, Y, Y, Y, Y, Y, Y, Y, Y, Y, Y, Y, Y, Y, Y, Y, Y, Y, Y, Y, Y, Y, Y, Y, Y, Y, Y, Yn, Yn, Yn, Yn] rfl rfl (by kernel_rfl) (by decide) (fun K hK => ?_)
  refine goes_ Tryd.func32 (by kernel_rfl) rfl #[.pointer (some ⟨gr, 0, none⟩), .int .i64 1000] (by rfl) rfl rfl (by simp only [List.map_toArray, List.map_cons, List.map_nil]; rfl) ?_
  with_reducible refine (rtA w ws _ gs gr sA3 _ HN16b.out).mono ?_
  rintro e w17 ⟨A17, rfl, hn, hk⟩
  refine ⟨_, rfl, ?_⟩
  have HN17 := Aside0.mk hn
  clear hn
  refine hK.out _ _ ⟨(Pt.row (x := P0) (xs := [P1]) (HPa16b.out.keep hk) (by decide)), (row_blk (hk.keep _ _ HX16b.out))⟩ (fun hHeld => ?_)
  clear hK K
  refine norm_ (a' := ?_) ?_ ?_
  rotate_left
  · show Act.put _ (some 188) _ = _
    simp only [Act.put, List.setIfInBounds_toArray, List.set_cons_zero, List.set_cons_succ, i64_w, i32_w]
    rfl
  refine pure_ (i := 43) (N := some 189) (v := ?_) (a' := ?_) #[Y, Y, Y, Y, Y, Y, Y, Y, Y, Y, Y, Y, Y, Y, Y, Y, Y, Y, Y, Y, Y, Y, Y, Y, Y, Y, Y, Y, Y, Y, Y, Y, Y, Y, Y, Y, Y, Y, Y, Y, Y, Y, Y, Y, Yn, Yn, Yn] rfl rfl (by kernel_rfl) (fun _ _ _ h => h) (Or.inl ⟨by rfl, ?_⟩) ?_ ?_
  rotate_left
  · intro w'
    go_simp
    with_reducible rfl
  rotate_left
  · simp only [Act.put, List.setIfInBounds_toArray, List.set_cons_zero, List.set_cons_succ, i64_w, i32_w]
    rfl
  refine pure_ (i := 44) (N := some 190) (v := ?_) (a' := ?_) #[Y, Y, Y, Y, Y, Y, Y, Y, Y, Y, Y, Y, Y, Y, Y, Y, Y, Y, Y, Y, Y, Y, Y, Y, Y, Y, Y, Y, Y, Y, Y, Y, Y, Y, Y, Y, Y, Y, Y, Y, Y, Y, Y, Y, Y, Yn, Yn] rfl rfl (by kernel_rfl) (fun _ _ _ h => h) (Or.inl ⟨by rfl, ?_⟩) ?_ ?_
  rotate_left
  · intro w'
    go_simp
    with_reducible rfl
  rotate_left
  · simp only [Act.put, List.setIfInBounds_toArray, List.set_cons_zero, List.set_cons_succ, i64_w, i32_w]
    rfl
  refine pure_ (i := 45) (N := some 191) (v := ?_) (a' := ?_) #[Y, Y, Y, Y, Y, Y, Y, Y, Y, Y, Y, Y, Y, Y, Y, Y, Y, Y, Y, Y, Y, Y, Y, Y, Y, Y, Y, Y, Y, Y, Y, Y, Y, Y, Y, Y, Y, Y, Y, Y, Y, Y, Y, Y, Y, Y, Yn] rfl rfl (by kernel_rfl) (fun _ _ _ h => h) (Or.inl ⟨by rfl, ?_⟩) ?_ ?_
  rotate_left
  · intro w'
    go_simp
    with_reducible rfl
  rotate_left
  · simp only [Act.put, List.setIfInBounds_toArray, List.set_cons_zero, List.set_cons_succ, i64_w, i32_w]
    rfl
  refine pure_ (i := 46) (N := some 0) (v := ?_) (a' := ?_) #[Y, Y, Y, Y, Y, Y, Y, Y, Y, Y, Y, Y, Y, Y, Y, Y, Y, Y, Y, Y, Y, Y, Y, Y, Y, Y, Y, Y, Y, Y, Y, Y, Y, Y, Y, Y, Y, Y, Y, Y, Y, Y, Y, Y, Y, Y, Y] rfl rfl (by kernel_rfl) (fun _ _ _ h => h) (Or.inl ⟨by rfl, ?_⟩) ?_ ?_
  rotate_left
  · intro w'
    go_simp
    with_reducible rfl
  rotate_left
  · simp only [Act.put, List.setIfInBounds_toArray, List.set_cons_zero, List.set_cons_succ, i64_w, i32_w]
    rfl
  refine done_ (by kernel_rfl) ?_
  go_wp2
  go_ret
  exact ⟨rfl, HN17.out.base⟩
end Go.Proofs.YtbgabhknmpbgiaaDoor.S
end
section
namespace Go.Proofs.YtbgabhknmpbgiaaDoor.S
open Go.RowKit Go.Proofs.YtbgabhknmpbgiaaDoorW.PrintWords Go.Proofs.YtbgabhknmpbgiaaDoorW.PrintLast Go.Proofs.YtbgabhknmpbgiaaDoorW.PrintMore
attribute [local go_sem] max2_int min2_int max_two min_two max_three min_three max_four min_four
set_option linter.unusedVariables false
set_option linter.unusedSimpArgs false
end Go.Proofs.YtbgabhknmpbgiaaDoor.S
end
section
namespace Go.Proofs.YtbgabhknmpbgiaaDoor.Pure
open Go.RowKit Go.Proofs.YtbgabhknmpbgiaaDoor.S Go.Proofs.YtbgabhknmpbgiaaDoorW.PrintWords Go.Proofs.YtbgabhknmpbgiaaDoorW.PrintLast Go.Proofs.YtbgabhknmpbgiaaDoorW.PrintMore
set_option linter.unusedVariables false
theorem seg_in (a lo hi : Int) : segment_in.f a lo hi = some (decide (lo ≤ a ∧ a ≤ hi)) := by
  unfold segment_in.f
  by_cases h : a ≥ lo
  · rw [if_pos h]
    congr 1
    by_cases h2 : a ≤ hi
    · rw [decide_eq_true h2, decide_eq_true ⟨h, h2⟩]
    · rw [decide_eq_false h2, decide_eq_false (fun q => h2 q.2)]
  · rw [if_neg h, decide_eq_false (fun q => h q.1)]
end Go.Proofs.YtbgabhknmpbgiaaDoor.Pure
end
section
namespace Go.Proofs.YtbgabhknmpbgiaaDoor.Pure
open Go.RowKit Go.Proofs.YtbgabhknmpbgiaaDoor.S Go.Proofs.YtbgabhknmpbgiaaDoorW.PrintWords Go.Proofs.YtbgabhknmpbgiaaDoorW.PrintLast Go.Proofs.YtbgabhknmpbgiaaDoorW.PrintMore
set_option linter.unusedVariables false
def pieces (s : ByteArray) (n : Nat) : Nat → List ByteArray
  | 0 => []
  | j + 1 => pieces s n j ++ [s.extract (j * n) (min (j * n + n) s.size)]
theorem pieces_len (s : ByteArray) (n j : Nat) : (pieces s n j).length = j := by
  induction j with
  | zero => rfl
  | succ j ih => simp [pieces, ih]
theorem pieces_at (s : ByteArray) (n : Nat) : ∀ (j i : Nat), i < j → rdOf ByteArray.empty (pieces s n j) (i : Int) = s.extract (i * n) (min (i * n + n) s.size) := by
  intro j
  induction j with
  | zero => intro i h; omega
  | succ j ih =>
    intro i h
    unfold rdOf at ih ⊢
    simp only [Int.toNat_natCast] at ih ⊢
    unfold pieces
    by_cases hi : i < j
    · have := ih i hi
      rw [List.getD_eq_getElem?_getD] at this ⊢
      rw [List.getElem?_append_left (by rw [pieces_len]; exact hi)]
      exact this
    · obtain rfl : i = j := by omega
      rw [List.getD_eq_getElem?_getD, List.getElem?_append_right (by rw [pieces_len]; exact Nat.le_refl _), pieces_len]
      simp
def pcs (size n : Nat) : Nat := if size ≤ n then 1 else (size + n - 1) / n
theorem pcs_ok {size n : Nat} (hn : 1 ≤ n) : 1 ≤ pcs size n ∧ size ≤ pcs size n * n ∧ (pcs size n = 1 ∨ (pcs size n - 1) * n < size) := by
  unfold pcs
  split
  · rename_i h
    exact ⟨Nat.le_refl _, by omega, Or.inl rfl⟩
  · rename_i h
    have h1 := Nat.div_add_mod (size + n - 1) n
    have h2 := Nat.mod_lt (size + n - 1) (show 0 < n by omega)
    rw [Nat.mul_comm] at h1
    have h3 : 1 ≤ (size + n - 1) / n := by
      rw [Nat.le_div_iff_mul_le (by omega)]
      omega
    have h4 : ((size + n - 1) / n - 1) * n + n = (size + n - 1) / n * n := by
      rw [← Nat.succ_mul, Nat.succ_eq_add_one, Nat.sub_add_cancel h3]
    exact ⟨h3, by omega, Or.inr (by omega)⟩
theorem pcs_le {size n m : Nat} (hn : 1 ≤ n) (hm : 1 ≤ m) (h : size ≤ n * m) : pcs size n ≤ m := by
  unfold pcs
  split
  · exact hm
  · rw [Nat.div_le_iff_le_mul (by omega), Nat.mul_comm m n]
    omega
def segsOf (s : ByteArray) (n : Nat) : List ByteArray := pieces s n (pcs s.size n)
theorem mulStep {a b n : Nat} (h : a ≤ b) : a * n ≤ b * n := Nat.mul_le_mul_right n h
theorem splitP_loop (s : ByteArray) (n : Nat) (hn : 1 ≤ n) (hn2 : n ≤ 400) (hK : pcs s.size n ≤ 64) : ∀ (d j F : Nat), j + d + 1 = pcs s.size n →
    segment_Split.l0 (F + d + 1) (s.extract (j * n) s.size) (n : Int) (pieces s n j) = some (segsOf s n, 0) := by
  obtain ⟨h1, h2, h3⟩ := pcs_ok (size := s.size) hn
  intro d
  induction d with
  | zero =>
    intro j F hj
    have hle : s.size ≤ (j + 1) * n := by rw [show j + 1 = pcs s.size n by omega]; exact h2
    rw [Nat.succ_mul] at hle
    have hjn : j * n ≤ s.size := by
      rcases h3 with h3 | h3
      · have : j = 0 := by omega
        subst this
        omega
      · have := mulStep (n := n) (show j ≤ pcs s.size n - 1 by omega)
        omega
    have hsz : (s.extract (j * n) s.size).size = s.size - j * n := ext_size s _ _ hjn (Nat.le_refl _)
    rw [show F + 0 + 1 = F + 1 from rfl]
    unfold segment_Split.l0
    rw [if_neg (by omega), if_pos (by rw [pieces_len]; omega)]
    unfold segsOf
    rw [← hj]
    show _ = some (pieces s n j ++ [s.extract (j * n) (min (j * n + n) s.size)], 0)
    rw [show min (j * n + n) s.size = s.size by omega]
  | succ d ih =>
    intro j F hj
    have hlt : (j + 1) * n < s.size := by
      rcases h3 with h3 | h3
      · omega
      · have := mulStep (n := n) (show j + 1 ≤ pcs s.size n - 1 by omega)
        omega
    have hm := Nat.succ_mul j n
    rw [Nat.succ_eq_add_one] at hm
    have hsz : (s.extract (j * n) s.size).size = s.size - j * n := ext_size s _ _ (by omega) (Nat.le_refl _)
    rw [show F + (d + 1) + 1 = (F + d + 1) + 1 by omega]
    unfold segment_Split.l0
    rw [if_pos (by omega), if_pos (by omega), if_pos (by omega), if_pos (by rw [pieces_len]; omega)]
    have e1 : (s.extract (j * n) s.size).extract ((n : Int)).toNat (s.extract (j * n) s.size).size = s.extract ((j + 1) * n) s.size := by
      rw [hsz, Int.toNat_natCast, ByteArray.extract_extract, hm, show min (j * n + (s.size - j * n)) s.size = s.size by omega]
    have e2 : (s.extract (j * n) s.size).extract 0 ((n : Int)).toNat = s.extract (j * n) (min (j * n + n) s.size) := by
      rw [Int.toNat_natCast, ByteArray.extract_extract, Nat.add_zero]
    rw [e1, e2]
    exact ih (j + 1) F (by omega)
theorem splitP (s : ByteArray) (n : Nat) (F : Nat) (hn : 1 ≤ n) (hn2 : n ≤ 400) (hs : s.size ≤ n * 64) : segment_Split.f (F + 64) s (n : Int) = some (segsOf s n, 0) := by
  have hK := pcs_le hn (by decide) hs
  have h1 := (pcs_ok (size := s.size) hn).1
  unfold segment_Split.f
  rw [seg_in, Option.bind_some, decide_eq_true (by omega), if_pos rfl, if_neg (by unfold wrap64; omega)]
  have := splitP_loop s n hn hn2 hK (pcs s.size n - 1) 0 (F + 64 - pcs s.size n) (by omega)
  rw [Nat.zero_mul, ByteArray.extract_zero_size, show F + 64 - pcs s.size n + (pcs s.size n - 1) + 1 = F + 64 by omega] at this
  exact this
theorem splitR_loop (s : ByteArray) (n : Nat) (hz : s.size ≤ 100000) (hn : 1 ≤ n) (hn2 : n ≤ 400) (hK : pcs s.size n ≤ 64) : ∀ (d j F : Nat), j + d = pcs s.size n → 1 ≤ j →
    plenumref49_Split.l0 (F + d + 1) s (n : Int) (pieces s n j) ((j * n : Nat) : Int) = some (segsOf s n, 0) := by
  obtain ⟨h1, h2, h3⟩ := pcs_ok (size := s.size) hn
  intro d
  induction d with
  | zero =>
    intro j F hj h0
    have hle : s.size ≤ j * n := by rw [show j = pcs s.size n by omega]; exact h2
    rw [show F + 0 + 1 = F + 1 from rfl]
    unfold plenumref49_Split.l0
    rw [if_neg (by omega), show j = pcs s.size n by omega]
    rfl
  | succ d ih =>
    intro j F hj h0
    have hlt : j * n < s.size := by
      rcases h3 with h3 | h3
      · omega
      · have := mulStep (n := n) (show j ≤ pcs s.size n - 1 by omega)
        omega
    have hm := Nat.succ_mul j n
    rw [Nat.succ_eq_add_one] at hm
    rw [show F + (d + 1) + 1 = (F + d + 1) + 1 by omega]
    unfold plenumref49_Split.l0
    have w1 : wrap64 (((j * n : Nat) : Int) + (n : Int)) = (((j + 1) * n : Nat) : Int) := by rw [hm]; unfold wrap64; omega
    have hmn : mn (((j + 1) * n : Nat) : Int) (s.size : Int) = ((min (j * n + n) s.size : Nat) : Int) := by unfold mn; rw [hm]; split <;> omega
    rw [w1, hmn, if_pos (by omega), if_pos (by omega), if_pos (by omega), if_pos (by omega), if_pos (by rw [pieces_len]; omega), Int.toNat_natCast, Int.toNat_natCast]
    exact ih (j + 1) F (by omega) (by omega)
theorem splitR (s : ByteArray) (n : Nat) (F : Nat) (hz : s.size ≤ 100000) (hn : 1 ≤ n) (hn2 : n ≤ 400) (hs : s.size ≤ n * 64) : plenumref49_Split.f (F + 66) s (n : Int) = some (segsOf s n, 0) := by
  have hK := pcs_le hn (by decide) hs
  have h1 := (pcs_ok (size := s.size) hn).1
  unfold plenumref49_Split.f
  rw [if_neg (by omega), decide_eq_false (by omega)]
  have hmn : mn (n : Int) (s.size : Int) = ((min n s.size : Nat) : Int) := by unfold mn; split <;> omega
  rw [plenumref49_Split.j0, if_neg Bool.false_ne_true, if_neg (by unfold wrap64; omega), hmn, if_pos (by omega), if_pos (by omega), Int.toNat_natCast]
  have := splitR_loop s n hz hn hn2 hK (pcs s.size n - 1) 1 (F + 65 - pcs s.size n) (by omega) (Nat.le_refl _)
  rw [show F + 65 - pcs s.size n + (pcs s.size n - 1) + 1 = F + 65 by omega, Nat.one_mul] at this
  have e : pieces s n 1 = [s.extract 0 (min n s.size)] := by
    unfold pieces pieces
    rw [Nat.zero_mul, Nat.zero_add]
    rfl
  rw [e] at this
  exact this
theorem splitP_bad (s : ByteArray) (z : Int) (F : Nat) (h : z < 1 ∨ 400 < z) : segment_Split.f F s z = some ([], 1) ∧ plenumref49_Split.f (F + 1) s z = some ([], 1) := by
  refine ⟨?_, ?_⟩
  · unfold segment_Split.f
    rw [seg_in, Option.bind_some, decide_eq_false (by omega), if_neg Bool.false_ne_true]
  · unfold plenumref49_Split.f
    by_cases c : z < 1
    · rw [if_pos c, plenumref49_Split.j0, if_pos rfl]
    · rw [if_neg c, decide_eq_true (by omega), plenumref49_Split.j0, if_pos rfl]
theorem splitP_long (s : ByteArray) (n : Nat) (F : Nat) (hn : 1 ≤ n) (hn2 : n ≤ 400) (h : n * 64 < s.size) : segment_Split.f F s (n : Int) = some ([], 7) ∧ plenumref49_Split.f (F + 1) s (n : Int) = some ([], 7) := by
  refine ⟨?_, ?_⟩
  · unfold segment_Split.f
    rw [seg_in, Option.bind_some, decide_eq_true (by omega), if_pos rfl, if_pos (by unfold wrap64; omega)]
  · unfold plenumref49_Split.f
    rw [if_neg (by omega), decide_eq_false (by omega), plenumref49_Split.j0, if_neg Bool.false_ne_true, if_pos (by unfold wrap64; omega)]
theorem split_both (s : ByteArray) (z : Int) (F : Nat) (hz : s.size ≤ 100000) : ∃ segs e, segment_Split.f (F + 66) s z = some (segs, e) ∧ plenumref49_Split.f (F + 66) s z = some (segs, e) ∧ segs.length ≤ 64 ∧ (e = 0 → 1 ≤ z ∧ z ≤ 400 ∧ s.size ≤ z.toNat * 64 ∧ segs = segsOf s z.toNat) ∧ (e ≠ 0 → segs = []) := by
  by_cases c : z < 1 ∨ 400 < z
  · have h1 := (splitP_bad s z (F + 66) c).1
    have h2 := (splitP_bad s z (F + 65) c).2
    exact ⟨[], 1, h1, h2, by decide, fun h => absurd h (by decide), fun _ => rfl⟩
  · obtain ⟨n, rfl⟩ : ∃ n : Nat, z = (n : Int) := ⟨z.toNat, by omega⟩
    by_cases l : n * 64 < s.size
    · have h1 := (splitP_long s n (F + 66) (by omega) (by omega) l).1
      have h2 := (splitP_long s n (F + 65) (by omega) (by omega) l).2
      exact ⟨[], 7, h1, h2, by decide, fun h => absurd h (by decide), fun _ => rfl⟩
    · refine ⟨segsOf s n, 0, splitP s n (F + 2) (by omega) (by omega) (by omega), splitR s n F hz (by omega) (by omega) (by omega), ?_, fun _ => ⟨by omega, by omega, by rw [Int.toNat_natCast]; omega, by rw [Int.toNat_natCast]⟩, fun h => absurd rfl h⟩
      unfold segsOf
      rw [pieces_len]
      exact pcs_le (by omega) (by decide) (by omega)
theorem join_step (s : ByteArray) (n i : Nat) (h : i * n ≤ s.size) : s.extract 0 (i * n) ++ s.extract (i * n) (min (i * n + n) s.size) = s.extract 0 (min (i * n + n) s.size) := by
  rw [ByteArray.extract_append_extract, Nat.zero_min, Nat.max_eq_right (by omega)]
end Go.Proofs.YtbgabhknmpbgiaaDoor.Pure
end
section
namespace Go.Proofs.YtbgabhknmpbgiaaDoor.S
open Go.RowKit Go.Proofs.YtbgabhknmpbgiaaDoor.Pure Go.Proofs.YtbgabhknmpbgiaaDoorW.PrintWords Go.Proofs.YtbgabhknmpbgiaaDoorW.PrintLast Go.Proofs.YtbgabhknmpbgiaaDoorW.PrintMore
set_option linter.unusedVariables false
set_option linter.unusedSimpArgs false
structure One (w0 ws : World) (gs : Nat) (s : Sn) (w : World) : Prop where
  snd : AtP ws w gs s
  sb : Below ws.heap.size ws w
  b0 : w0.heap.size ≤ ws.heap.size
  base : Below w0.heap.size w0 w
end Go.Proofs.YtbgabhknmpbgiaaDoor.S
end
section
namespace Go.Proofs.YtbgabhknmpbgiaaDoor.S
open Go.RowKit Go.Proofs.YtbgabhknmpbgiaaDoor.Pure Go.Proofs.YtbgabhknmpbgiaaDoorW.PrintWords Go.Proofs.YtbgabhknmpbgiaaDoorW.PrintLast Go.Proofs.YtbgabhknmpbgiaaDoorW.PrintMore
set_option linter.unusedVariables false
set_option linter.unusedSimpArgs false
abbrev Own (B : Nat) (w : World) (v : Value) (xs : List S23) : Prop := Kd.R k23 23 w B (fun _ => True) v xs
def Lst (B : Nat) (w : World) (v : Value) (xs : List S23) : Prop := Own B w v xs ∨ FV k23 23 0 w v xs
theorem Own.keep {B : Nat} {w w1 : World} {v : Value} {xs : List S23} (h : Own B w v xs) (hk : Keep23 w w1) : Own B w1 v xs :=
  Kd.R_mono (Kd.R_step (Kd.R_bound h) (fun k hk' hlt => by
    obtain ⟨_, _, _, q, hq, cells, hc⟩ := hk'
    rcases List.mem_cons.1 hq with rfl | hq
    · rw [hc]
      exact hk.keep k cells hc
    · cases hq)) (fun _ _ => trivial)
theorem Lst.keep {B : Nat} {w w1 : World} {v : Value} {xs : List S23} (h : Lst B w v xs) (hk : Keep23 w w1) : Lst B w1 v xs :=
  h.elim (fun h => Or.inl (Own.keep h hk)) (fun h => Or.inr (Pt.keep h hk))
theorem Lst.slice {B : Nat} {w : World} {v : Value} {xs : List S23} (h : Lst B w v xs) : ∃ A c, v = .slice A xs.length c ∧ xs.length ≤ c ∧ Kd.C k23 w A xs.length xs := by
  rcases h with h | h
  · exact Kd.R_reads h
  · obtain ⟨A, ev, hC⟩ := Pt.slice h
    exact ⟨A, _, ev, Nat.le_refl _, hC⟩
structure Gr23 (B : Nat) (w w1 : World) : Prop where
  os : w1.os = w.os
  tape : w1.tape = w.tape
  output : w1.output = w.output
  size : w.heap.size ≤ w1.heap.size
  low : ∀ k, k < B → k < w.heap.size → w1.heap[k]? = w.heap[k]?
  typ : ∀ (k : Nat) cs t, w.heap[k]? = some (.cells cs t (0, 0)) → t ≠ 23 → w1.heap[k]? = some (.cells cs t (0, 0))
theorem Gr23.refl (B : Nat) (w : World) : Gr23 B w w := ⟨rfl, rfl, rfl, Nat.le_refl _, fun _ _ _ => rfl, fun _ _ _ h _ => h⟩
theorem Gr23.below {B : Nat} {w w1 : World} (h : Gr23 B w w1) {n : Nat} {w0 : World} (hb : Below n w0 w) (hn : n ≤ B) (hs : n ≤ w0.heap.size) : Below n w0 w1 :=
  ⟨h.os.trans hb.os, h.tape.trans hb.tape, h.output.trans hb.output, Nat.le_trans hb.size h.size, fun k hk => (h.low k (Nat.lt_of_lt_of_le hk hn) (Nat.lt_of_lt_of_le hk (Nat.le_trans hs hb.size))).trans (hb.block k hk)⟩
theorem Gr23.of_grown {B : Nat} {w w1 : World} {v : Value} {xs : List S23} (hg : w.grownBy w1 v.ownBlock) (h : Own B w v xs) : Gr23 B w w1 := by
  obtain ⟨_, inner, hown, _⟩ := h
  refine ⟨hg.os, hg.tape, hg.output, hg.size, fun k hk hlt => hg.block k hlt (fun e => ?_), fun k cs t hk ht => (hg.block k (blk_lt hk) (fun e => ?_)).trans hk⟩
  · have := own_base hown k e.symm
    omega
  · obtain ⟨cells, hc⟩ := own_typed hown k e.symm
    rw [hk] at hc
    injection hc with hc
    injection hc with _ hc _
    exact ht hc
theorem Gr23.of_none {B : Nat} {w w1 : World} (hg : w.grownBy w1 none) : Gr23 B w w1 :=
  ⟨hg.os, hg.tape, hg.output, hg.size, fun k _ hlt => hg.block k hlt (by simp), fun k cs t hk _ => (hg.block k (blk_lt hk) (by simp)).trans hk⟩
abbrev Z23 : Value := .agg #[.int .i64 0, .int .i64 0, .int .i64 0, .bool false, .int .i64 0, .string ⟨#[]⟩]
section
variable {ops : Array Oper} {rest : List Oper} {o : Oper} {a : Act} {Q : Exit → Act → World → Prop}
theorem wpList_own_append {W : World} (hgd : o.guard = none) (s x : Operand) (ho : o.op = .call { callee := .builtin .append, args := #[s, x], argTypes := #[45, 45] }) (B : Nat) (v : Value) (A : Option Addr) (m c : Nat) (xs ys : List S23) (hs : a.eval s = v) (hx : a.eval x = .slice A m c) (HO : Own B W v xs) (HR : Kd.C k23 W A m ys) (hB : B ≤ W.heap.size) (hl : (xs.length + m) * 56 ≤ 140737488355328)
    (h : ∀ v1 w1, Own B w1 v1 (xs ++ ys) → Gr23 B W w1 → wpList Tryd.prog ops Q rest (a.put o.dst v1) w1) : wpList Tryd.prog ops Q (o :: rest) a W := by
  refine Kd.R_append_rows k23 (Rr := k23.K W) (w0 := W) B hgd s x 45 23 Z23 56 ho Tryd.underlying45 info23 rfl (by decide) (by decide) v xs ys A m c (fun _ => True) (fun _ => False) hs hx HO HR (fun x cs hK => by obtain rfl := k23_open hK; exact k23_mkM _ _ _ x) (fun _ hk => hk.elim) (fun _ _ => trivial) (Below.refl _ _) hB hl ?_
  intro v1 w1 ho hb hg hat
  exact h v1 w1 ho (Gr23.of_grown hg HO)
theorem step_own_append {W : World} {Kc : Act → World → Prop} (hw : Region.wanted o (yielded ops a.tmps) = true) (s x : Operand) (ho : o.op = .call { callee := .builtin .append, args := #[s, x], argTypes := #[45, 45] }) (B : Nat) (v : Value) (A : Option Addr) (m c : Nat) (xs ys : List S23) (hs : a.eval s = v) (hx : a.eval x = .slice A m c) (HO : Own B W v xs) (HR : Kd.C k23 W A m ys) (hB : B ≤ W.heap.size) (hl : (xs.length + m) * 56 ≤ 140737488355328)
    (h : ∀ v1 w1, Own B w1 v1 (xs ++ ys) → Gr23 B W w1 → Kc (a.put o.dst v1) w1) : if Region.wanted o (yielded ops a.tmps) = true then Oper.wp Tryd.prog o a W Kc Q else Kc (a.put o.dst undef) W := by
  refine Kd.R_append_rows_step k23 (Rr := k23.K W) (w0 := W) B hw s x 45 23 Z23 56 ho Tryd.underlying45 info23 rfl (by decide) (by decide) v xs ys A m c (fun _ => True) (fun _ => False) hs hx HO HR (fun x cs hK => by obtain rfl := k23_open hK; exact k23_mkM _ _ _ x) (fun _ hk => hk.elim) (fun _ _ => trivial) (Below.refl _ _) hB hl ?_
  intro v1 w1 ho hb hg hat
  exact h v1 w1 ho (Gr23.of_grown hg HO)
theorem wpList_lst_append {W : World} (hgd : o.guard = none) (s x : Operand) (ho : o.op = .call { callee := .builtin .append, args := #[s, x], argTypes := #[45, 45] }) (B : Nat) (v : Value) (A : Option Addr) (m c : Nat) (xs ys : List S23) (hs : a.eval s = v) (hx : a.eval x = .slice A m c) (HL : Lst B W v xs) (HR : Kd.C k23 W A m ys) (hB : B ≤ W.heap.size) (hl : (xs.length + m) * 56 ≤ 140737488355328)
    (h : ∀ v1 w1, Lst B w1 v1 (xs ++ ys) → Gr23 B W w1 → wpList Tryd.prog ops Q rest (a.put o.dst v1) w1) : wpList Tryd.prog ops Q (o :: rest) a W := by
  rcases HL with HO | HF
  · exact wpList_own_append hgd s x ho B v A m c xs ys hs hx HO HR hB hl (fun v1 w1 h1 h2 => h v1 w1 (Or.inl h1) h2)
  obtain ⟨Ab, ev, HC⟩ := Pt.slice HF
  obtain ⟨i0, hi, hzz⟩ := Option.map_eq_some_iff.1 info23
  simp only [Prod.mk.injEq] at hzz
  obtain ⟨hz0, hz1, hz2⟩ := hzz
  have hm : ys.length = m := HR.1
  rcases Nat.eq_zero_or_pos m with h0 | h0
  · subst h0
    obtain rfl : ys = [] := List.eq_nil_of_length_eq_zero hm
    have hsrc : Src Tryd.prog i0.size 45 (.slice A 0 c) 0 [] W := by
      cases A with
      | none => exact Src.ofNil W Tryd.underlying45 c
      | some ad => exact Src.ofSlice W Tryd.underlying45 ad 0 c [] (by simp) (fun j u hj => by simp at hj) (fun u hu => by simp at hu)
    have hrun := run_append_nothing (P := Tryd.prog) W 45 45 o.type 23 i0 Tryd.underlying45 hi Ab xs.length xs.length (Nat.le_refl _) (.slice A 0 c) hsrc
    refine wpList_plain hgd fun K hK => ?_
    unfold Oper.wp
    simp [execOp, ho, resolve, invoke, builtin, hs, hx, ev, hrun, Result.andThen]
    refine hK _ _ ?_
    rw [← ev]
    exact h v W (by rw [List.append_nil]; exact Or.inr HF) (Gr23.refl B W)
  · obtain ⟨ad, rfl, _⟩ := HR.2.2 h0
    cases Ab with
    | none =>
      have hn : xs = [] := by
        cases xs with
        | nil => rfl
        | cons y ys' =>
          obtain ⟨ad', e, _⟩ := HC.2.2 (by simp)
          cases e
      subst hn
      subst ev
      exact wpList_own_append hgd s x ho B _ _ m c [] ys hs hx (Kd.R_nil k23 23 W B _) HR hB hl (fun v1 w1 h1 h2 => h v1 w1 (Or.inl h1) h2)
    | some b =>
      obtain ⟨olds, hor, hoc⟩ := ReadsRow.inner_ HC
      obtain ⟨news, hnr, hnc⟩ := ReadsRow.inner_ HR
      obtain ⟨v1, w1, hrun, hown, hg⟩ := run_append_arg_grows (P := Tryd.prog) W 45 o.type 23 i0 Z23 6 56 Tryd.underlying45 hi hz0 hz1 hz2 rfl (by decide) b xs.length xs.length olds hor.1 hoc ad m c news (by rw [hnr.1, hm]; rfl) hnc (by omega) (by simp only [maxLen]; omega) hl
      refine wpList_plain hgd fun K hK => ?_
      unfold Oper.wp
      simp [execOp, ho, resolve, invoke, builtin, hs, hx, ev, hrun, Result.andThen]
      refine hK _ _ (h v1 w1 (Or.inl (Kd.R_lower (base := W.heap.size) ⟨fun _ _ => trivial, olds ++ news, by rw [List.length_append, hm]; exact hown, ?_⟩ hB)) (Gr23.of_none hg))
      exact Kd.reps_append (hor.imp_ (fun p cs hK => by obtain rfl := k23_open hK; exact k23_mkM _ _ _ p)) (hnr.imp_ (fun p cs hK => by obtain rfl := k23_open hK; exact k23_mkM _ _ _ p))
end
theorem Net.gr {w0 ws : World} {B gs gr : Nat} {s : Sn} {r : Rn} {w w1 : World} (h : Net w0 ws B gs gr s r w) (hg : Gr23 ws.heap.size w w1) : Net w0 ws B gs gr s r w1 := by
  obtain ⟨A4, c4, h1, h2, h3⟩ := h.snd
  obtain ⟨v, g1, g2, g3⟩ := h.rcv
  refine ⟨⟨A4, c4, hg.typ gs _ 110 h1 (by decide), h2, h3⟩, hg.below h.sb (Nat.le_refl _) (Nat.le_refl _), ⟨v, hg.typ gr _ 113 g1 (by decide), g2, ?_⟩, h.bb, Nat.le_trans h.bw hg.size, h.b0, hg.below h.base h.b0 (Nat.le_refl _)⟩
  exact Kd.R_mono (Kd.R_step (Kd.R_bound g3) (fun k hk' hlt => by
    obtain ⟨_, _, _, q, hq, cells, hc⟩ := hk'
    rcases List.mem_cons.1 hq with rfl | hq
    · rw [hc]
      exact hg.typ k cells 5 hc (by decide)
    · cases hq)) (fun _ _ => trivial)
theorem lst_from {w : World} {A : Option Addr} {c : Nat} {xs : List S23} (h : Kd.C k23 w A xs.length xs) (hc : xs.length ≤ c) (j : Nat) (hj : j ≤ xs.length) : ∃ A' c', (∀ W : World, (Instr.slice 45 (.slice A xs.length c) (some (.int .i64 (j : Int))) none none).run Tryd.prog W = .ok (.slice A' (xs.drop j).length c') W) ∧ ∀ w1, Kd.C k23 w1 A xs.length xs → Kd.C k23 w1 A' (xs.drop j).length (xs.drop j) := by
  obtain ⟨i0, hi, hzz⟩ := Option.map_eq_some_iff.1 info23
  simp only [Prod.mk.injEq] at hzz
  refine ⟨(if c = j then A else A.map (·.add (j * 6))), c - j, fun W => ?_, fun w1 h1 => Kd.C_drop h1 hj hc⟩
  have := cut_from (P := Tryd.prog) 45 23 .i64 Tryd.underlying45 hi 6 hzz.2.1 A xs.length c (j : Int) (by omega) (by omega) W
  rw [Int.toNat_natCast] at this
  rw [this, List.length_drop]
theorem lst_to {w : World} {A : Option Addr} {c : Nat} {xs : List S23} (h : Kd.C k23 w A xs.length xs) (hc : xs.length ≤ c) (j : Nat) (hj : j ≤ xs.length) : (∀ W : World, (Instr.slice 45 (.slice A xs.length c) none (some (.int .i64 (j : Int))) none).run Tryd.prog W = .ok (.slice A (xs.take j).length c) W) ∧ ∀ w1, Kd.C k23 w1 A xs.length xs → Kd.C k23 w1 A (xs.take j).length (xs.take j) := by
  obtain ⟨i0, hi, hzz⟩ := Option.map_eq_some_iff.1 info23
  simp only [Prod.mk.injEq] at hzz
  refine ⟨fun W => ?_, fun w1 h1 => Kd.C_take h1 hj⟩
  have := cut_to (P := Tryd.prog) 45 23 .i64 Tryd.underlying45 hi A xs.length c (j : Int) (by omega) (by omega) hc W
  rw [Int.toNat_natCast] at this
  rw [this, List.length_take, Nat.min_eq_left hj]
structure KeepN (w w' : World) : Prop where
  size : w.heap.size ≤ w'.heap.size
  keep : ∀ (k : Nat) cs t, w.heap[k]? = some (.cells cs t (0, 0)) → t ≠ 5 → t ≠ 110 → t ≠ 113 → w'.heap[k]? = some (.cells cs t (0, 0))
theorem KeepN.k23 {w w1 : World} (h : KeepN w w1) : Keep23 w w1 := ⟨h.size, fun k cs hk => h.keep k cs 23 hk (by decide) (by decide) (by decide)⟩
theorem Net.rcallN {w0 ws : World} {B gs gr : Nat} {s : Sn} {r : Rn} {w w1 : World} {x : List S23 × Rn} {e : Ending} (h : Net w0 ws B gs gr s r w) (hp : RcvPost B w gr x e w1) : ∃ A, e = .returned (.slice A x.1.length x.1.length) ∧ Kd.C k23 w1 A x.1.length x.1 ∧ Net w0 ws B gs gr s x.2 w1 ∧ KeepN w w1 := by
  obtain ⟨v, he, hv, hn, _⟩ := h.rcall hp
  obtain ⟨_, _, _, _, _, hk⟩ := hp
  obtain ⟨u, h4, _⟩ := h.rcv
  obtain ⟨A, ev, hC⟩ := Pt.slice hv
  subst ev
  exact ⟨A, he, hC, hn, ⟨hk.size, fun k cs t hc h5 _ h113 => hk.keep k cs t hc h5 (fun e => by subst e; rw [hc] at h4; injection h4 with h4; injection h4 with _ h4 _; exact h113 h4)⟩⟩
theorem Net.scallN {w0 ws : World} {B gs gr : Nat} {s : Sn} {r : Rn} {w w1 : World} {x : List S23 × Sn} {e : Ending} (h : Net w0 ws B gs gr s r w) (hp : PPost ws w gs x e w1) : ∃ A, e = .returned (.slice A x.1.length x.1.length) ∧ Kd.C k23 w1 A x.1.length x.1 ∧ Net w0 ws B gs gr x.2 r w1 ∧ KeepN w w1 := by
  obtain ⟨v, he, hv, hn, _⟩ := h.scall hp
  obtain ⟨_, _, _, _, _, hk⟩ := hp
  obtain ⟨A4, c4, h1, _⟩ := h.snd
  obtain ⟨A, ev, hC⟩ := Pt.slice hv
  subst ev
  exact ⟨A, he, hC, hn, ⟨hk.1, fun k cs t hc _ h110 _ => (hk.2 k (blk_lt hc) (fun e => by subst e; rw [hc] at h1; injection h1 with h1; injection h1 with _ h1 _; exact h110 h1) (by simp)).trans hc⟩⟩
theorem Net.rhandle {w0 ws : World} {B gs gr : Nat} {s : Sn} {r : Rn} {w : World} (h : Net w0 ws B gs gr s r w) (p0 p1 p2 : Int) (p3 : Bool) (p4 : Int) (p5 : ByteArray) (now : Int) (xs : List S23) (r2 : Rn) (he : r.handle p0 p1 p2 p3 p5 now = (xs, r2)) (hl : r.msg.length + p5.size ≤ 140737488355328) : Calls Tryd.prog 34 #[.pointer (some ⟨gr, 0, none⟩), .agg #[.int .i64 p0, .int .i64 p1, .int .i64 p2, .bool p3, .int .i64 p4, .string p5], .int .i64 now] w fun e w' => ∃ A, e = .returned (.slice A xs.length xs.length) ∧ Kd.C k23 w' A xs.length xs ∧ Net w0 ws B gs gr s r2 w' ∧ KeepN w w' :=
  (rhandle_calls B gr r p0 p1 p2 p3 p4 p5 now w h.rcv h.bw hl).mono fun e w' hp => by rw [he] at hp; exact h.rcallN hp
theorem Net.shandle {w0 ws : World} {B gs gr : Nat} {s : Sn} {r : Rn} {w : World} (h : Net w0 ws B gs gr s r w) (hs : OkS s) (p0 p1 p2 : Int) (p3 : Bool) (p4 : Int) (p5 : ByteArray) (now : Int) (xs : List S23) (s2 : Sn) (he : s.handle p0 p1 p2 now = (xs, s2)) : Calls Tryd.prog 26 #[.pointer (some ⟨gs, 0, none⟩), .agg #[.int .i64 p0, .int .i64 p1, .int .i64 p2, .bool p3, .int .i64 p4, .string p5], .int .i64 now] w fun e w' => ∃ A, e = .returned (.slice A xs.length xs.length) ∧ Kd.C k23 w' A xs.length xs ∧ Net w0 ws B gs gr s2 r w' ∧ KeepN w w' :=
  (handleP_calls gs s p0 p1 p2 p3 p4 p5 now ws w h.snd h.sb hs).mono fun e w' hp => by rw [he] at hp; exact h.scallN hp
theorem Net.stick {w0 ws : World} {B gs gr : Nat} {s : Sn} {r : Rn} {w : World} (h : Net w0 ws B gs gr s r w) (hs : OkS s) (now : Int) (xs : List S23) (s2 : Sn) (he : s.tick now = (xs, s2)) : Calls Tryd.prog 24 #[.pointer (some ⟨gs, 0, none⟩), .int .i64 now] w fun e w' => ∃ A, e = .returned (.slice A xs.length xs.length) ∧ Kd.C k23 w' A xs.length xs ∧ Net w0 ws B gs gr s2 r w' ∧ KeepN w w' :=
  (tickP_calls gs s now ws w h.snd h.sb hs).mono fun e w' hp => by rw [he] at hp; exact h.scallN hp
theorem Net.rtick {w0 ws : World} {B gs gr : Nat} {s : Sn} {r : Rn} {w : World} (h : Net w0 ws B gs gr s r w) (now : Int) (xs : List S23) (r2 : Rn) (he : r.tick now = (xs, r2)) : Calls Tryd.prog 32 #[.pointer (some ⟨gr, 0, none⟩), .int .i64 now] w fun e w' => ∃ A, e = .returned (.slice A xs.length xs.length) ∧ Kd.C k23 w' A xs.length xs ∧ Net w0 ws B gs gr s r2 w' ∧ KeepN w w' :=
  (rtick_calls B gr r now w h.rcv).mono fun e w' hp => by rw [he] at hp; exact h.rcallN hp
theorem own_empty (B : Nat) (W : World) (hB : B ≤ W.heap.size) : Own B (W.alloc (.cells #[] 23)) (.slice (some ⟨W.heap.size, 0, none⟩) 0 0) [] := by
  have h2 := World.ownsRow_lit (base := B) (e := 23) (size := k23.sz) W #[] 0 hB (by simp [maxLen]) rfl
  exact ⟨fun _ _ => trivial, [], by simpa using h2, Reps.none _ _⟩
theorem Gr23.mono {B B' : Nat} {w w1 : World} (h : Gr23 B w w1) (hb : B' ≤ B) : Gr23 B' w w1 := ⟨h.os, h.tape, h.output, h.size, fun k h1 h2 => h.low k (Nat.lt_of_lt_of_le h1 hb) h2, h.typ⟩
theorem alloc_size (w : World) (o : Obj) : (w.alloc o).heap.size = w.heap.size + 1 := by
  show (w.heap.push o).size = _
  simp
end Go.Proofs.YtbgabhknmpbgiaaDoor.S
end
section
namespace Go.Proofs.YtbgabhknmpbgiaaDoor.S
open Go.RowKit Go.Proofs.YtbgabhknmpbgiaaDoor.Pure Go.Proofs.YtbgabhknmpbgiaaDoorW.PrintWords Go.Proofs.YtbgabhknmpbgiaaDoorW.PrintLast Go.Proofs.YtbgabhknmpbgiaaDoorW.PrintMore
set_option linter.unusedVariables false
set_option linter.unusedSimpArgs false
def cat (segs : List ByteArray) (d : Nat) : List Int := (segs.take d).flatMap bytesOf
theorem cat_succ {segs : List ByteArray} {d : Nat} (h : d < segs.length) : cat segs (d + 1) = cat segs d ++ bytesOf (rdOf ByteArray.empty segs (d : Int)) := by
  unfold cat rdOf
  rw [Int.toNat_natCast, List.getD_eq_getElem?_getD, List.getElem?_eq_getElem h, List.take_succ_eq_append_getElem h, List.flatMap_append]
  simp
theorem cat_pieces (s : ByteArray) (n : Nat) (hn : 1 ≤ n) : ∀ j, j ≤ pcs s.size n → strOfNums ((pieces s n j).flatMap bytesOf) = s.extract 0 (min (j * n) s.size) := by
  obtain ⟨h1, h2, h3⟩ := pcs_ok (size := s.size) hn
  intro j
  induction j with
  | zero =>
    intro _
    rw [Nat.zero_mul, Nat.zero_min]
    simp
    rfl
  | succ j ih =>
    intro hj
    have hlt : j * n ≤ s.size := by
      rcases h3 with h3 | h3
      · have : j = 0 := by omega
        subst this
        omega
      · have := mulStep (n := n) (show j ≤ pcs s.size n - 1 by omega)
        omega
    have hm := Nat.succ_mul j n
    rw [Nat.succ_eq_add_one] at hm
    show strOfNums ((pieces s n j ++ [s.extract (j * n) (min (j * n + n) s.size)]).flatMap bytesOf) = _
    rw [List.flatMap_append, strOfNums_app, ih (by omega), Nat.min_eq_left hlt, hm]
    simp only [List.flatMap_cons, List.flatMap_nil, List.append_nil, strOfNums_bytes]
    exact join_step s n j hlt
theorem take_pieces (s : ByteArray) (n : Nat) : ∀ K d, d ≤ K → (pieces s n K).take d = pieces s n d := by
  intro K
  induction K with
  | zero =>
    intro d hd
    obtain rfl : d = 0 := by omega
    rfl
  | succ K ih =>
    intro d hd
    show (pieces s n K ++ [_]).take d = _
    by_cases e : d = K + 1
    · subst e
      rw [List.take_of_length_le (by rw [List.length_append, pieces_len]; exact Nat.le_refl _)]
      rfl
    · rw [List.take_append_of_le_length (by rw [pieces_len]; omega)]
      exact ih d (by omega)
theorem cat_len (s : ByteArray) (n d : Nat) (hn : 1 ≤ n) (hd : d ≤ pcs s.size n) : (cat (segsOf s n) d).length ≤ s.size := by
  have h := cat_pieces s n hn d hd
  unfold cat segsOf
  rw [take_pieces s n _ d hd]
  have h2 := congrArg ByteArray.size h
  rw [strOfNums_size, ext_size _ _ _ (Nat.zero_le _) (Nat.min_le_right _ _)] at h2
  omega
theorem cat_all (s : ByteArray) (n : Nat) (hn : 1 ≤ n) : strOfNums (cat (segsOf s n) (segsOf s n).length) = s := by
  unfold cat
  rw [List.take_length]
  unfold segsOf
  rw [cat_pieces s n hn _ (Nat.le_refl _), Nat.min_eq_right (pcs_ok hn).2.1, ByteArray.extract_zero_size]
theorem seg_len (s : ByteArray) (n d : Nat) (hn : 1 ≤ n) (hd : d < pcs s.size n) : (rdOf ByteArray.empty (segsOf s n) (d : Int)).size ≤ s.size := by
  obtain ⟨h1, h2, h3⟩ := pcs_ok (size := s.size) hn
  have hlt : d * n ≤ s.size := by
    rcases h3 with h3 | h3
    · have : d = 0 := by omega
      subst this
      omega
    · have := mulStep (n := n) (show d ≤ pcs s.size n - 1 by omega)
      omega
  unfold segsOf
  rw [pieces_at s n _ d hd, ext_size _ _ _ (by omega) (Nat.min_le_right _ _)]
  omega
abbrev cD (window : Int) (segs : List ByteArray) (i : Nat) : S23 := mk23 7 window segs i
def cA (i : Int) : S23 := ⟨2, 7, i, false, 0, ⟨#[]⟩⟩
def cS (window retries : Int) (segs : List ByteArray) (st : Int) (a nx : Nat) (tries dl : Int) : Sn := ⟨7, window, 10, retries, segs, st, (a : Int), (nx : Int), tries, dl⟩
def cR (timeout : Int) (segs : List ByteArray) (st : Int) (d : Nat) (dl : Int) : Rn := ⟨7, timeout, st, (d : Int), cat segs d, dl⟩
theorem cR_data {timeout : Int} {segs : List ByteArray} {d : Nat} {dl now : Int} {window : Int} (hd : d < segs.length) (hn : segs.length ≤ 64) : (cR timeout segs 0 d dl).handle 1 7 (d : Int) (decide ((d : Int) < wrap64 ((segs.length : Int) - 1))) (rdOf ByteArray.empty segs (d : Int)) now = ([cA (d : Int)], cR timeout segs (if d + 1 = segs.length then 1 else 0) (d + 1) (wrap64 (now + timeout))) := by
  unfold Rn.handle cR
  simp only [if_true]
  rw [if_neg (by decide)]
  have hw : wrap64 ((d : Int) + 1) = ((d + 1 : Nat) : Int) := by unfold wrap64; omega
  have hm : decide ((d : Int) < wrap64 ((segs.length : Int) - 1)) = decide (d + 1 ≠ segs.length) := by
    rw [show wrap64 ((segs.length : Int) - 1) = (segs.length : Int) - 1 by unfold wrap64; omega]
    by_cases e : d + 1 = segs.length
    · rw [decide_eq_false (by omega), decide_eq_false (by omega)]
    · rw [decide_eq_true (by omega), decide_eq_true (by omega)]
  rw [hm]
  simp only [Rn.take, Rn.late, Rn.ack, if_true, hw, cat_succ hd, decide_eq_true_eq]
  have hw2 : wrap64 (((d + 1 : Nat) : Int) - 1) = (d : Int) := by unfold wrap64; omega
  simp only [hw2]
  by_cases e : d + 1 = segs.length
  · simp [e, cA]
  · simp [e, cA]
theorem cS_ack {window retries : Int} {segs : List ByteArray} {a j nx : Nat} {tries dl now : Int} (hj : a ≤ j) (hx : j < nx) : (cS window retries segs 0 a nx tries dl).handle 2 7 (j : Int) now = if j + 1 = segs.length then ([], cS window retries segs 1 (j + 1) nx 0 dl) else (parts23 7 window segs nx (mn (((j + 1 : Nat) : Int) + window) (segs.length : Int) - (nx : Int)).toNat, cS window retries segs 0 (j + 1) (nx + (mn (((j + 1 : Nat) : Int) + window) (segs.length : Int) - (nx : Int)).toNat) 0 (wrap64 (now + 10))) := by
  unfold Sn.handle cS Sn.acked
  simp only [if_true]
  rw [if_neg (by decide), if_pos (by omega), if_pos (by omega)]
  by_cases e : j + 1 = segs.length
  · rw [if_pos e, if_pos (by omega)]
    simp
  · rw [if_neg e, if_neg (by omega)]
    unfold Sn.send Sn.cnt
    simp
end Go.Proofs.YtbgabhknmpbgiaaDoor.S
end
section
namespace Go.Proofs.YtbgabhknmpbgiaaDoor.S
open Go.RowKit Go.Proofs.YtbgabhknmpbgiaaDoor.Pure Go.Proofs.YtbgabhknmpbgiaaDoorW.PrintWords Go.Proofs.YtbgabhknmpbgiaaDoorW.PrintLast Go.Proofs.YtbgabhknmpbgiaaDoorW.PrintMore
set_option linter.unusedVariables false
set_option linter.unusedSimpArgs false
def Good (window : Int) (segs : List ByteArray) (c : Nat) (ak : Int) (p : S23) : Prop :=
  (∃ i : Nat, i < segs.length ∧ p = cD window segs i ∧ (i : Int) ≤ ak + window) ∨ (∃ j : Int, -1 ≤ j ∧ j < (c : Int) ∧ p = cA j) ∨ p = abort23 7
theorem Good.mono {window : Int} {segs : List ByteArray} {c c' : Nat} {ak ak' : Int} {p : S23} (h : Good window segs c ak p) (hc : c ≤ c') (ha : ak ≤ ak') : Good window segs c' ak' p := by
  rcases h with ⟨i, h1, h2, h3⟩ | ⟨j, h1, h2, h3⟩ | h
  · exact Or.inl ⟨i, h1, h2, by omega⟩
  · exact Or.inr (Or.inl ⟨j, h1, by omega, h3⟩)
  · exact Or.inr (Or.inr h)
def GoodL (window : Int) (segs : List ByteArray) (c : Nat) (ak : Int) (xs : List S23) : Prop := ∀ p ∈ xs, Good window segs c ak p
theorem GoodL.mono {window : Int} {segs : List ByteArray} {c c' : Nat} {ak ak' : Int} {xs : List S23} (h : GoodL window segs c ak xs) (hc : c ≤ c') (ha : ak ≤ ak') : GoodL window segs c' ak' xs := fun p hp => (h p hp).mono hc ha
theorem GoodL.app {window : Int} {segs : List ByteArray} {c : Nat} {ak : Int} {xs ys : List S23} (h : GoodL window segs c ak xs) (k : GoodL window segs c ak ys) : GoodL window segs c ak (xs ++ ys) := fun p hp => (List.mem_append.1 hp).elim (h p) (k p)
theorem GoodL.cut {window : Int} {segs : List ByteArray} {c : Nat} {ak : Int} {xs : List S23} (h : GoodL window segs c ak xs) (k : Nat) : GoodL window segs c ak (xs.take k ++ xs.drop (k + 1)) := fun p hp => (List.mem_append.1 hp).elim (fun hp => h p (List.mem_of_mem_take hp)) (fun hp => h p (List.mem_of_mem_drop hp))
theorem GoodL.parts {window : Int} {segs : List ByteArray} {c : Nat} {ak : Int} {a n : Nat} (h1 : a + n ≤ segs.length) (h2 : ((a + n : Nat) : Int) ≤ ak + window + 1) : GoodL window segs c ak (parts23 7 window segs a n) := by
  intro p hp
  unfold parts23 at hp
  rw [List.mem_map] at hp
  obtain ⟨j, hj, rfl⟩ := hp
  rw [List.mem_range] at hj
  exact Or.inl ⟨a + j, by omega, rfl, by omega⟩
theorem GoodL.one {window : Int} {segs : List ByteArray} {c : Nat} {ak j : Int} (h1 : -1 ≤ j) (h2 : j < (c : Int)) : GoodL window segs c ak [cA j] := by
  intro p hp
  obtain rfl := List.mem_singleton.1 hp
  exact Or.inr (Or.inl ⟨j, h1, h2, rfl⟩)
theorem GoodL.abort {window : Int} {segs : List ByteArray} {c : Nat} {ak : Int} : GoodL window segs c ak [abort23 7] := by
  intro p hp
  obtain rfl := List.mem_singleton.1 hp
  exact Or.inr (Or.inr rfl)
theorem GoodL.nil {window : Int} {segs : List ByteArray} {c : Nat} {ak : Int} : GoodL window segs c ak [] := fun p hp => by cases hp
structure SI (window : Int) (segs : List ByteArray) (c a nx : Nat) (st ak : Int) : Prop where
  w1 : 1 ≤ window
  w16 : window ≤ 16
  n1 : 1 ≤ segs.length
  n64 : segs.length ≤ 64
  ac : a ≤ c
  cn : c ≤ segs.length
  nxe : nx = min (a + window.toNat) segs.length
  aak : (a : Int) ≤ ak + 1
  ak1 : -1 ≤ ak
  akc : ak < (c : Int)
  run : st = 0 → a < segs.length
  done : st = 1 → a = segs.length
  sts : st = 0 ∨ st = 1 ∨ st = 2
theorem SI.ok {window : Int} {segs : List ByteArray} {c a nx : Nat} {st ak tries dl : Int} (h : SI window segs c a nx st ak) : OkS (cS window 10 segs st a nx tries dl) := by
  have h1 := h.w1
  have h2 := h.n64
  have h3 := h.ac
  have h4 := h.cn
  have h5 := h.nxe
  exact ⟨h2, by show 0 ≤ window; omega, h.w16, by show (0 : Int) ≤ (a : Int); omega, by show (a : Int) ≤ 64; omega, by show (0 : Int) ≤ (nx : Int); omega, by show (nx : Int) ≤ 64; omega⟩
theorem SI.tick {window : Int} {segs : List ByteArray} {c a nx : Nat} {st ak tries dl : Int} (h : SI window segs c a nx st ak) (now : Int) : ∃ xs st' tries' dl', (cS window 10 segs st a nx tries dl).tick now = (xs, cS window 10 segs st' a nx tries' dl') ∧ SI window segs c a nx st' ak ∧ GoodL window segs c ak xs ∧ xs.length ≤ 64 := by
  have h1 := h.w1
  have h2 := h.n64
  have h3 := h.ac
  have h4 := h.cn
  have h5 := h.nxe
  have h6 := h.aak
  unfold Sn.tick
  by_cases s0 : st = 0
  · subst s0
    rw [if_pos (show (cS window 10 segs 0 a nx tries dl).state = 0 from rfl)]
    split
    · exact ⟨[], 0, tries, dl, rfl, h, GoodL.nil, by simp⟩
    · split
      · exact ⟨_, 2, tries, dl, rfl, ⟨h.w1, h.w16, h.n1, h.n64, h.ac, h.cn, h.nxe, h.aak, h.ak1, h.akc, fun e => absurd e (by decide), fun e => absurd e (by decide), Or.inr (Or.inr rfl)⟩, GoodL.abort, by simp⟩
      · have h7 := h.run rfl
        have hM : (mn ((a : Int) + window) (segs.length : Int) - (a : Int)).toNat = nx - a := by unfold mn; split <;> omega
        refine ⟨parts23 7 window segs a (nx - a), 0, wrap64 (tries + 1), wrap64 (now + 10), ?_, h, GoodL.parts (by omega) (by omega), by rw [parts23_len]; omega⟩
        unfold Sn.send Sn.cnt cS
        simp only [hM, Int.toNat_natCast]
        congr 2
        omega
  · rw [if_neg (show ¬ (cS window 10 segs st a nx tries dl).state = 0 from s0)]
    exact ⟨[], st, tries, dl, rfl, h, GoodL.nil, by simp⟩
theorem SI.abort {window : Int} {segs : List ByteArray} {c a nx : Nat} {st ak tries dl : Int} (h : SI window segs c a nx st ak) (now : Int) : ∃ st', (cS window 10 segs st a nx tries dl).handle 3 7 0 now = ([], cS window 10 segs st' a nx tries dl) ∧ SI window segs c a nx st' ak := by
  unfold Sn.handle
  by_cases s0 : st = 0
  · subst s0
    rw [if_pos (show (cS window 10 segs 0 a nx tries dl).state = 0 from rfl), if_pos (show (7 : Int) = (cS window 10 segs 0 a nx tries dl).id from rfl), if_pos rfl]
    exact ⟨2, rfl, ⟨h.w1, h.w16, h.n1, h.n64, h.ac, h.cn, h.nxe, h.aak, h.ak1, h.akc, fun e => absurd e (by decide), fun e => absurd e (by decide), Or.inr (Or.inr rfl)⟩⟩
  · rw [if_neg (show ¬ (cS window 10 segs st a nx tries dl).state = 0 from s0)]
    exact ⟨st, rfl, h⟩
theorem SI.ack {window : Int} {segs : List ByteArray} {c a nx : Nat} {st ak tries dl j : Int} (h : SI window segs c a nx st ak) (hj0 : -1 ≤ j) (hj1 : j < (c : Int)) (now : Int) : ∃ xs st' a' nx' tries' dl', (cS window 10 segs st a nx tries dl).handle 2 7 j now = (xs, cS window 10 segs st' a' nx' tries' dl') ∧ SI window segs c a' nx' st' (mx ak j) ∧ GoodL window segs c (mx ak j) xs ∧ xs.length ≤ 64 := by
  have h1 := h.w1
  have h2 := h.n64
  have h3 := h.ac
  have h4 := h.cn
  have h5 := h.nxe
  have h6 := h.aak
  have h7 := h.ak1
  have h8 := h.akc
  have hmx : ak ≤ mx ak j ∧ j ≤ mx ak j ∧ mx ak j < (c : Int) := by unfold mx; split <;> omega
  have hsame : SI window segs c a nx st (mx ak j) := ⟨h.w1, h.w16, h.n1, h.n64, h.ac, h.cn, h.nxe, by omega, by omega, by omega, h.run, h.done, h.sts⟩
  by_cases s0 : st = 0
  · subst s0
    by_cases hb : (a : Int) ≤ j ∧ j < (nx : Int)
    · obtain ⟨jn, rfl⟩ : ∃ jn : Nat, j = (jn : Int) := ⟨j.toNat, by omega⟩
      rw [cS_ack (by omega) (by omega)]
      have hM : (mn (((jn + 1 : Nat) : Int) + window) (segs.length : Int) - (nx : Int)).toNat = min (jn + 1 + window.toNat) segs.length - nx := by unfold mn; split <;> omega
      by_cases e : jn + 1 = segs.length
      · rw [if_pos e]
        exact ⟨[], 1, jn + 1, nx, 0, dl, rfl, ⟨h.w1, h.w16, h.n1, h.n64, by omega, h.cn, by omega, by omega, by omega, by omega, fun e => absurd e (by decide), fun _ => e, Or.inr (Or.inl rfl)⟩, GoodL.nil, by simp⟩
      · rw [if_neg e, hM]
        exact ⟨_, 0, jn + 1, nx + (min (jn + 1 + window.toNat) segs.length - nx), 0, wrap64 (now + 10), rfl, ⟨h.w1, h.w16, h.n1, h.n64, by omega, h.cn, by omega, by omega, by omega, by omega, fun _ => by omega, fun e => absurd e (by decide), Or.inl rfl⟩, GoodL.parts (by omega) (by omega), by rw [parts23_len]; omega⟩
    · refine ⟨[], 0, a, nx, tries, dl, ?_, hsame, GoodL.nil, by simp⟩
      unfold Sn.handle
      rw [if_pos (show (cS window 10 segs 0 a nx tries dl).state = 0 from rfl), if_pos (show (7 : Int) = (cS window 10 segs 0 a nx tries dl).id from rfl), if_neg (by decide), if_pos rfl]
      by_cases hb1 : (a : Int) ≤ j
      · rw [if_pos (show (cS window 10 segs 0 a nx tries dl).base ≤ j from hb1), if_neg (show ¬ j < (cS window 10 segs 0 a nx tries dl).next from fun hb2 => hb ⟨hb1, hb2⟩)]
      · rw [if_neg (show ¬ (cS window 10 segs 0 a nx tries dl).base ≤ j from hb1)]
  · refine ⟨[], st, a, nx, tries, dl, ?_, hsame, GoodL.nil, by simp⟩
    unfold Sn.handle
    rw [if_neg (show ¬ (cS window 10 segs st a nx tries dl).state = 0 from s0)]
theorem SI.data {window : Int} {segs : List ByteArray} {c a nx : Nat} {st ak rd : Int} (h : SI window segs c a nx st ak) {i : Nat} (hi : i < segs.length) (now : Int) (hn0 : 0 ≤ now) (hn1 : now ≤ 1000) (hrd : 500 ≤ rd) : ∃ xs c' rd', (cR 500 segs (if c = segs.length then 1 else 0) c rd).handle 1 7 (i : Int) (decide ((i : Int) < wrap64 ((segs.length : Int) - 1))) (rdOf ByteArray.empty segs (i : Int)) now = (xs, cR 500 segs (if c' = segs.length then 1 else 0) c' rd') ∧ SI window segs c' a nx st ak ∧ GoodL window segs c' ak xs ∧ xs.length ≤ 64 ∧ c ≤ c' ∧ 500 ≤ rd' := by
  have h2 := h.n64
  have h3 := h.ac
  have h4 := h.cn
  have h8 := h.akc
  have hw : wrap64 (now + 500) = now + 500 := by unfold wrap64; omega
  have hwc : wrap64 ((c : Int) - 1) = (c : Int) - 1 := by unfold wrap64; omega
  by_cases e : c = segs.length
  · refine ⟨[cA ((c : Int) - 1)], c, rd, ?_, h, GoodL.one (by omega) (by omega), by simp, Nat.le_refl _, hrd⟩
    rw [if_pos e]
    unfold Rn.handle
    rw [if_pos (show (7 : Int) = (cR 500 segs 1 c rd).id from rfl), if_pos rfl, if_pos (show (cR 500 segs 1 c rd).state = 1 from rfl)]
    unfold Rn.ack cR cA
    simp only [hwc]
  · rw [if_neg e]
    by_cases ei : i = c
    · subst ei
      rw [cR_data (window := window) hi h2, hw]
      exact ⟨[cA (i : Int)], i + 1, now + 500, rfl, ⟨h.w1, h.w16, h.n1, h.n64, by omega, by omega, h.nxe, h.aak, h.ak1, by omega, h.run, h.done, h.sts⟩, GoodL.one (by omega) (by omega), by simp, by omega, by omega⟩
    · refine ⟨[cA ((c : Int) - 1)], c, now + 500, ?_, h, GoodL.one (by omega) (by omega), by simp, Nat.le_refl _, by omega⟩
      rw [if_neg e]
      unfold Rn.handle
      rw [if_pos (show (7 : Int) = (cR 500 segs 0 c rd).id from rfl), if_pos rfl, if_neg (show ¬ (cR 500 segs 0 c rd).state = 1 by show ¬ ((0 : Int) = 1); decide), if_pos (show (cR 500 segs 0 c rd).state = 0 from rfl)]
      unfold Rn.late Rn.take
      rw [if_neg (show ¬ ((i : Int) = (cR 500 segs 0 c rd).count) by show ¬ ((i : Int) = (c : Int)); omega)]
      unfold Rn.ack cR cA
      simp only [hwc, hw]
theorem rTick {segs : List ByteArray} {c : Nat} {st rd : Int} (now : Int) (h : now < rd) : (cR 500 segs st c rd).tick now = ([], cR 500 segs st c rd) := by
  unfold Rn.tick
  split
  · rw [if_pos (show now < (cR 500 segs st c rd).deadline from h)]
  · rfl
end Go.Proofs.YtbgabhknmpbgiaaDoor.S
end
