/- TrendRestoresCard: one part of the proof that the law answers true for every input, and that its arguments read afterwards as before. No condition. -/
import Derived.Test.YtbccjcdmpiolpaaDoorCRest6
import Derived.Outline
import Derived.Deep.OwnRows
import Derived.ProofKit
import Derived.Deep.Slices
import Derived.SizedLaws
import Derived.OpenShut
import Derived.DataReads
import Derived.SevenTiedAt
import Derived.WalkKit
import Derived.ShutString
import Derived.ChangeOld
import Derived.Below
import Derived.Test.YtbccjcdmpiolpaaDoorCards
import Derived.Test.YtbccjcdmpiolpaaDoorRows
import Derived.Test.YtbccjcdmpiolpaaDoorTie
section
namespace Go.Proofs.YtbccjcdmpiolpaaDoor.T
open Go.RowKit Go.Proofs.YtbccjcdmpiolpaaDoor.Pure Go.Proofs.YtbccjcdmpiolpaaDoorW.PrintWords Go.Proofs.YtbccjcdmpiolpaaDoorW.PrintLast Go.Proofs.YtbccjcdmpiolpaaDoorW.PrintMore
set_option linter.unusedVariables false
set_option linter.unusedSimpArgs false
attribute [local go_sem] max2_int min2_int max_two min_two
theorem ckA (w : World) (hG : Glob w) : Calls Tryd.prog 17 #[.agg #[.string sLog, .string sTemp, .int .i64 1, .int .i64 60, .int .i64 0, .int .i64 2], .agg #[.string sTemp, .int .i64 1, .int .i64 0, .string ⟨#[]⟩, .int .i64 0, .int .i64 0, .int .i64 0, .slice none 0 0, .int .i64 0, .int .i64 0, .int .i64 0, .int .i64 0]] w fun e w' => e = .returned (.int .i64 0) ∧ Below w.heap.size w w' :=
 ckA_ w hG
theorem ckB (w : World) (hG : Glob w) : Calls Tryd.prog 17 #[.agg #[.string sLog, .string sTemp, .int .i64 1, .int .i64 60, .int .i64 0, .int .i64 2], .agg #[.string ⟨#[]⟩, .int .i64 0, .int .i64 0, .string ⟨#[]⟩, .int .i64 0, .int .i64 0, .int .i64 0, .slice none 0 0, .int .i64 0, .int .i64 0, .int .i64 0, .int .i64 0]] w fun e w' => e = .returned (.int .i64 3) ∧ Below w.heap.size w w' :=
 ckB_ w hG
theorem smA (A B : Option Addr) (c d : Nat) (w : World) (hG : Glob w) (h1 : Kd.C k44 w A 2 [aR2, aR3]) (h2 : 2 ≤ c) (h3 : Kd.C k44 w B 2 [aR2, aR3]) (h4 : 2 ≤ d) : Calls Tryd.prog 21 #[.slice A 2 c, .slice B 2 d] w fun e w' => e = .returned (.bool true) ∧ Drawn0 w w' :=
 plenumref41_Same.calls 10 A c [aR2, aR3] B d [aR2, aR3] true w hG h1 h2 h3 h4 sm1
theorem elemA {w : World} {A : Option Addr} (h : Kd.C k44 w A 3 [⟨1, 0, ⟨0, 0⟩, 0, 1⟩, aR2, aR3]) : (∃ ad, A = some ad) ∧ ∀ ad : Addr, A = some ad → w.cell? ad = some (.int .i64 1) ∧ w.cell? ⟨ad.block, ad.off + 1, none⟩ = some (.int .i64 0) ∧ w.cell? ⟨ad.block, ad.off + 2, none⟩ = some (.int .i64 0) ∧ w.cell? ⟨ad.block, ad.off + 3, none⟩ = some (.int .i64 0) ∧ w.cell? ⟨ad.block, ad.off + 4, none⟩ = some (.int .i64 0) ∧ w.cell? ⟨ad.block, ad.off + 5, none⟩ = some (.int .i64 1) ∧ w.cell? ⟨ad.block, ad.off + 6 + 1, none⟩ = some (.int .i64 180) := by
 obtain ⟨ad, ea, z0, z1, z2, z3, z4, z5⟩ := at_T44 h 0 (by decide) (by decide)
 obtain ⟨ad2, eb, y0, y1, y2, y3, y4, y5⟩ := at_T44 h 1 (by decide) (by decide)
 refine ⟨⟨ad, ea⟩, fun a e => ?_⟩
 rw [e] at ea eb
 injection ea with ea
 injection eb with eb
 subst ea eb
 exact ⟨z0, z1, z2, z3, z4, z5, y1⟩
theorem okaL0 : OkL aL0 := ⟨by decide, by decide, by decide, by decide, by decide, by decide, by decide, fun _ => by decide⟩
theorem okaL1 : OkL aL1 := ⟨by decide, by decide, by decide, by decide, by decide, by decide, by decide, fun _ => by decide⟩
theorem okaL2 : OkL aL2 := ⟨by decide, by decide, by decide, by decide, by decide, by decide, by decide, fun _ => by decide⟩
theorem okaK : OkL aK := ⟨by decide, by decide, by decide, by decide, by decide, by decide, by decide, fun _ => by decide⟩
theorem okR : ∀ x ∈ aL3.recs, Ok44 x := by
 intro x hx
 rcases List.mem_cons.1 hx with rfl | hx
 ·exact ⟨by decide, by decide⟩
 rcases List.mem_cons.1 hx with rfl | hx
 ·exact ⟨by decide, by decide⟩
 ·cases hx
set_option maxHeartbeats 16000000 in
set_option maxRecDepth 100000 in
theorem awake_calls (w : World) (hG : Glob w) : Calls Tryd.prog 8 #[] w fun e w' => e = .returned (.bool true) ∧ Below w.heap.size w w' := by
 have H0 := Aside0.mk (show 0 < w.heap.size by obtain ⟨t, h⟩ := hG; exact blk_lt h)
 have HG := Aside0.mk hG
 have hu44 := Tryd.underlying44
 have hu30 := Tryd.underlying30
 clear hG
 go_enter Tryd.func8, Tryd.ntmps8
 go_wp2_with (first | ((with_reducible refine gate_dst (N := 1) rfl ?_); refine box_event ?hg (N := 1) ?hd (cs := #[.string ⟨#[]⟩, .string ⟨#[]⟩, .int .i64 0, .int .i64 0, .int .i64 0, .int .i64 0]) (t := 23) ?hr ?_; (case hd => rfl); (case hg => rfl); (case hr => first | (go_simp; done) | (go_simp; rfl)); intro gr hgz w1 hbox hb; have HR1 := Aside0.mk hbox; have HB1 := Aside0.mk hb; have HGR := Aside0.mk (show w.heap.size ≤ gr by rw [hgz]; exact Nat.le_refl _); clear hb hbox hgz) | (refine wpList_store_row rfl 23 (.tmp 1) (.tmp 15) rfl gr #[.string sLog, .string sTemp, .int .i64 1, .int .i64 60, .int .i64 0, .int .i64 2] rfl rfl 23 #[.string ⟨#[]⟩, .string ⟨#[]⟩, .int .i64 0, .int .i64 0, .int .i64 0, .int .i64 0] HR1.out (by kernel_rfl) rfl (by simp [Value.oneCell']) ?_; have HR2 := Aside0.mk (setRow_heap _ _ _ #[.string sLog, .string sTemp, .int .i64 1, .int .i64 60, .int .i64 0, .int .i64 2] _ _ HR1.out); have HB2 := Aside0.mk (below_setRow HB1.out HGR.out #[.string sLog, .string sTemp, .int .i64 1, .int .i64 60, .int .i64 0, .int .i64 2]); generalize w1.setRow gr #[.string sLog, .string sTemp, .int .i64 1, .int .i64 60, .int .i64 0, .int .i64 2] = w2 at HR2 HB2 ⊢; have x0 : w2.cell? ⟨gr, 0, none⟩ = some (.string sLog) := (blk_cell HR2.out 0).trans rfl; have x1 : w2.cell? ⟨gr, 1, none⟩ = some (.string sTemp) := (blk_cell HR2.out 1).trans rfl; have x2 : w2.cell? ⟨gr, 2, none⟩ = some (.int .i64 1) := (blk_cell HR2.out 2).trans rfl; have x3 : w2.cell? ⟨gr, 3, none⟩ = some (.int .i64 60) := (blk_cell HR2.out 3).trans rfl; have x4 : w2.cell? ⟨gr, 4, none⟩ = some (.int .i64 0) := (blk_cell HR2.out 4).trans rfl; have x5 : w2.cell? ⟨gr, 5, none⟩ = some (.int .i64 2) := (blk_cell HR2.out 5).trans rfl;  skip) | (go_at_call 10; (with_reducible refine (new_calls sLog sTemp 1 60 0 2 100 w2).mono ?_); rintro e w3 ⟨g, rfl, hi, hb⟩; have HI3 := Aside0.mk (show LogAt w.heap.size g aL0 w3 from hi.lower HB2.out.size); have HB3 := Aside0.mk (below_step HB2.out hb); have HR3 := Aside0.mk (blk_below HR2.out hb); clear x0 x1 x2 x3 x4 x5; have x0 : w3.cell? ⟨gr, 0, none⟩ = some (.string sLog) := (blk_cell HR3.out 0).trans rfl; have x1 : w3.cell? ⟨gr, 1, none⟩ = some (.string sTemp) := (blk_cell HR3.out 1).trans rfl; have x2 : w3.cell? ⟨gr, 2, none⟩ = some (.int .i64 1) := (blk_cell HR3.out 2).trans rfl; have x3 : w3.cell? ⟨gr, 3, none⟩ = some (.int .i64 60) := (blk_cell HR3.out 3).trans rfl; have x4 : w3.cell? ⟨gr, 4, none⟩ = some (.int .i64 0) := (blk_cell HR3.out 4).trans rfl; have x5 : w3.cell? ⟨gr, 5, none⟩ = some (.int .i64 2) := (blk_cell HR3.out 5).trans rfl;  clear hi hb))
 have HNE := Aside0.mk (show gr ≠ g by obtain ⟨v, r, f, h, _⟩ := HI3.out; exact blk_ne HR3.out h (by decide))
 go_wp2_with (first | (go_at_call 17; (with_reducible refine (ckA w3 (Glob.below HG.out HB3.out)).mono ?_); rintro e w4 ⟨rfl, hb⟩; have HI4 := Aside0.mk (HI3.out.below hb); have HB4 := Aside0.mk (below_step HB3.out hb); have HR4 := Aside0.mk (blk_below HR3.out hb); clear x0 x1 x2 x3 x4 x5; have x0 : w4.cell? ⟨gr, 0, none⟩ = some (.string sLog) := (blk_cell HR4.out 0).trans rfl; have x1 : w4.cell? ⟨gr, 1, none⟩ = some (.string sTemp) := (blk_cell HR4.out 1).trans rfl; have x2 : w4.cell? ⟨gr, 2, none⟩ = some (.int .i64 1) := (blk_cell HR4.out 2).trans rfl; have x3 : w4.cell? ⟨gr, 3, none⟩ = some (.int .i64 60) := (blk_cell HR4.out 3).trans rfl; have x4 : w4.cell? ⟨gr, 4, none⟩ = some (.int .i64 0) := (blk_cell HR4.out 4).trans rfl; have x5 : w4.cell? ⟨gr, 5, none⟩ = some (.int .i64 2) := (blk_cell HR4.out 5).trans rfl;  clear hb) | (go_at_call 17; (with_reducible refine (ckB w4 (Glob.below HG.out HB4.out)).mono ?_); rintro e w5 ⟨rfl, hb⟩; have HI5 := Aside0.mk (HI4.out.below hb); have HB5 := Aside0.mk (below_step HB4.out hb); have HR5 := Aside0.mk (blk_below HR4.out hb); clear x0 x1 x2 x3 x4 x5; have x0 : w5.cell? ⟨gr, 0, none⟩ = some (.string sLog) := (blk_cell HR5.out 0).trans rfl; have x1 : w5.cell? ⟨gr, 1, none⟩ = some (.string sTemp) := (blk_cell HR5.out 1).trans rfl; have x2 : w5.cell? ⟨gr, 2, none⟩ = some (.int .i64 1) := (blk_cell HR5.out 2).trans rfl; have x3 : w5.cell? ⟨gr, 3, none⟩ = some (.int .i64 60) := (blk_cell HR5.out 3).trans rfl; have x4 : w5.cell? ⟨gr, 4, none⟩ = some (.int .i64 0) := (blk_cell HR5.out 4).trans rfl; have x5 : w5.cell? ⟨gr, 5, none⟩ = some (.int .i64 2) := (blk_cell HR5.out 5).trans rfl;  clear hb) | (go_at_call 23; (with_reducible refine (plenumlaw41_reading.calls 110 20000 1 20000 0 110 w5 (Glob.below HG.out HB5.out) rfl).mono ?_); rintro e w6 ⟨rfl, hb⟩; have HI6 := Aside0.mk (HI5.out.below hb); have HB6 := Aside0.mk (below_step HB5.out hb); have HR6 := Aside0.mk (blk_below HR5.out hb); clear x0 x1 x2 x3 x4 x5; have x0 : w6.cell? ⟨gr, 0, none⟩ = some (.string sLog) := (blk_cell HR6.out 0).trans rfl; have x1 : w6.cell? ⟨gr, 1, none⟩ = some (.string sTemp) := (blk_cell HR6.out 1).trans rfl; have x2 : w6.cell? ⟨gr, 2, none⟩ = some (.int .i64 1) := (blk_cell HR6.out 2).trans rfl; have x3 : w6.cell? ⟨gr, 3, none⟩ = some (.int .i64 60) := (blk_cell HR6.out 3).trans rfl; have x4 : w6.cell? ⟨gr, 4, none⟩ = some (.int .i64 0) := (blk_cell HR6.out 4).trans rfl; have x5 : w6.cell? ⟨gr, 5, none⟩ = some (.int .i64 2) := (blk_cell HR6.out 5).trans rfl;  clear hb) | (go_at_call 15; (with_reducible refine (obs_calls w.heap.size g aL0 1 20000 0 110 w6 HI6.out HB6.out.size okaL0 (by decide)).mono ?_); rintro e w7 ⟨d, he, hi, hb, hk⟩; rw [ob1 d] at he hi; replace he : e = .returned (.tuple #[.int .i64 0, .int .i64 0]) := he; subst he; have HR7 := Aside0.mk (hk.keep _ _ _ HR6.out (by decide) HNE.out); have HI7 := Aside0.mk (show LogAt w.heap.size g aL1 w7 from hi); have HB7 := Aside0.mk (HB6.out.trans hb); clear x0 x1 x2 x3 x4 x5; have x0 : w7.cell? ⟨gr, 0, none⟩ = some (.string sLog) := (blk_cell HR7.out 0).trans rfl; have x1 : w7.cell? ⟨gr, 1, none⟩ = some (.string sTemp) := (blk_cell HR7.out 1).trans rfl; have x2 : w7.cell? ⟨gr, 2, none⟩ = some (.int .i64 1) := (blk_cell HR7.out 2).trans rfl; have x3 : w7.cell? ⟨gr, 3, none⟩ = some (.int .i64 60) := (blk_cell HR7.out 3).trans rfl; have x4 : w7.cell? ⟨gr, 4, none⟩ = some (.int .i64 0) := (blk_cell HR7.out 4).trans rfl; have x5 : w7.cell? ⟨gr, 5, none⟩ = some (.int .i64 2) := (blk_cell HR7.out 5).trans rfl;  clear hi hb hk) | (go_at_call 23; (with_reducible refine (plenumlaw41_reading.calls 200 21000 1 21000 0 200 w7 (Glob.below HG.out HB7.out) rfl).mono ?_); rintro e w8 ⟨rfl, hb⟩; have HI8 := Aside0.mk (HI7.out.below hb); have HB8 := Aside0.mk (below_step HB7.out hb); have HR8 := Aside0.mk (blk_below HR7.out hb); clear x0 x1 x2 x3 x4 x5; have x0 : w8.cell? ⟨gr, 0, none⟩ = some (.string sLog) := (blk_cell HR8.out 0).trans rfl; have x1 : w8.cell? ⟨gr, 1, none⟩ = some (.string sTemp) := (blk_cell HR8.out 1).trans rfl; have x2 : w8.cell? ⟨gr, 2, none⟩ = some (.int .i64 1) := (blk_cell HR8.out 2).trans rfl; have x3 : w8.cell? ⟨gr, 3, none⟩ = some (.int .i64 60) := (blk_cell HR8.out 3).trans rfl; have x4 : w8.cell? ⟨gr, 4, none⟩ = some (.int .i64 0) := (blk_cell HR8.out 4).trans rfl; have x5 : w8.cell? ⟨gr, 5, none⟩ = some (.int .i64 2) := (blk_cell HR8.out 5).trans rfl;  clear hb) | (go_at_call 15; (with_reducible refine (obs_calls w.heap.size g aL1 1 21000 0 200 w8 HI8.out HB8.out.size okaL1 (by decide)).mono ?_); rintro e w9 ⟨d, he, hi, hb, hk⟩; rw [ob2 d] at he hi; replace he : e = .returned (.tuple #[.int .i64 2, .int .i64 0]) := he; subst he; have HR9 := Aside0.mk (hk.keep _ _ _ HR8.out (by decide) HNE.out); have HI9 := Aside0.mk (show LogAt w.heap.size g aL2 w9 from hi); have HB9 := Aside0.mk (HB8.out.trans hb); clear x0 x1 x2 x3 x4 x5; have x0 : w9.cell? ⟨gr, 0, none⟩ = some (.string sLog) := (blk_cell HR9.out 0).trans rfl; have x1 : w9.cell? ⟨gr, 1, none⟩ = some (.string sTemp) := (blk_cell HR9.out 1).trans rfl; have x2 : w9.cell? ⟨gr, 2, none⟩ = some (.int .i64 1) := (blk_cell HR9.out 2).trans rfl; have x3 : w9.cell? ⟨gr, 3, none⟩ = some (.int .i64 60) := (blk_cell HR9.out 3).trans rfl; have x4 : w9.cell? ⟨gr, 4, none⟩ = some (.int .i64 0) := (blk_cell HR9.out 4).trans rfl; have x5 : w9.cell? ⟨gr, 5, none⟩ = some (.int .i64 2) := (blk_cell HR9.out 5).trans rfl;  clear hi hb hk) | (go_at_call 23; (with_reducible refine (plenumlaw41_reading.calls 240 22000 1 22000 0 240 w9 (Glob.below HG.out HB9.out) rfl).mono ?_); rintro e w10 ⟨rfl, hb⟩; have HI10 := Aside0.mk (HI9.out.below hb); have HB10 := Aside0.mk (below_step HB9.out hb); have HR10 := Aside0.mk (blk_below HR9.out hb); clear x0 x1 x2 x3 x4 x5; have x0 : w10.cell? ⟨gr, 0, none⟩ = some (.string sLog) := (blk_cell HR10.out 0).trans rfl; have x1 : w10.cell? ⟨gr, 1, none⟩ = some (.string sTemp) := (blk_cell HR10.out 1).trans rfl; have x2 : w10.cell? ⟨gr, 2, none⟩ = some (.int .i64 1) := (blk_cell HR10.out 2).trans rfl; have x3 : w10.cell? ⟨gr, 3, none⟩ = some (.int .i64 60) := (blk_cell HR10.out 3).trans rfl; have x4 : w10.cell? ⟨gr, 4, none⟩ = some (.int .i64 0) := (blk_cell HR10.out 4).trans rfl; have x5 : w10.cell? ⟨gr, 5, none⟩ = some (.int .i64 2) := (blk_cell HR10.out 5).trans rfl;  clear hb) | (go_at_call 15; (with_reducible refine (obs_calls w.heap.size g aL2 1 22000 0 240 w10 HI10.out HB10.out.size okaL2 (by decide)).mono ?_); rintro e w11 ⟨d, he, hi, hb, hk⟩; rw [ob3 d] at he hi; replace he : e = .returned (.tuple #[.int .i64 1, .int .i64 0]) := he; subst he; have HR11 := Aside0.mk (hk.keep _ _ _ HR10.out (by decide) HNE.out); have HI11 := Aside0.mk (show LogAt w.heap.size g aL3 w11 from hi); have HB11 := Aside0.mk (HB10.out.trans hb); clear x0 x1 x2 x3 x4 x5; have x0 : w11.cell? ⟨gr, 0, none⟩ = some (.string sLog) := (blk_cell HR11.out 0).trans rfl; have x1 : w11.cell? ⟨gr, 1, none⟩ = some (.string sTemp) := (blk_cell HR11.out 1).trans rfl; have x2 : w11.cell? ⟨gr, 2, none⟩ = some (.int .i64 1) := (blk_cell HR11.out 2).trans rfl; have x3 : w11.cell? ⟨gr, 3, none⟩ = some (.int .i64 60) := (blk_cell HR11.out 3).trans rfl; have x4 : w11.cell? ⟨gr, 4, none⟩ = some (.int .i64 0) := (blk_cell HR11.out 4).trans rfl; have x5 : w11.cell? ⟨gr, 5, none⟩ = some (.int .i64 2) := (blk_cell HR11.out 5).trans rfl;  clear hi hb hk) | (go_at_call 13; (with_reducible refine (after_calls w.heap.size g aL3 0 10 w11 HI11.out (by decide) (by decide) (by decide)).mono ?_); rintro e w12 hp; rw [af1] at hp; obtain ⟨vm, rfl, hr, hb⟩ := hp; obtain ⟨Am, cm, em, hcm, hCm⟩ := Kd.R_reads hr; have em2 : vm = .slice Am 3 cm := em; clear em; subst em2; have HM12 := Aside0.mk hr; have HI12 := Aside0.mk (HI11.out.below hb); have HB12 := Aside0.mk (below_step HB11.out hb); have HR12 := Aside0.mk (blk_below HR11.out hb); clear x0 x1 x2 x3 x4 x5; have x0 : w12.cell? ⟨gr, 0, none⟩ = some (.string sLog) := (blk_cell HR12.out 0).trans rfl; have x1 : w12.cell? ⟨gr, 1, none⟩ = some (.string sTemp) := (blk_cell HR12.out 1).trans rfl; have x2 : w12.cell? ⟨gr, 2, none⟩ = some (.int .i64 1) := (blk_cell HR12.out 2).trans rfl; have x3 : w12.cell? ⟨gr, 3, none⟩ = some (.int .i64 60) := (blk_cell HR12.out 3).trans rfl; have x4 : w12.cell? ⟨gr, 4, none⟩ = some (.int .i64 0) := (blk_cell HR12.out 4).trans rfl; have x5 : w12.cell? ⟨gr, 5, none⟩ = some (.int .i64 2) := (blk_cell HR12.out 5).trans rfl;  clear hb hr hcm hCm))
 obtain ⟨sv, HSV⟩ : ∃ s, Aside0 (strOfNums (saveB 3 240 [aR2, aR3]) = s) := ⟨_, ⟨rfl⟩⟩
 have HRS := Aside0.mk (show restS sv 2 = some (3, 240, [aR2, aR3]) by rw [← HSV.out]; exact rs1)
 have HSZ := Aside0.mk (show sv.size ≤ 140737488355327 by rw [← HSV.out]; rw [strOfNums_size]; exact Nat.le_trans (show (saveB 3 240 [aR2, aR3]).length ≤ 1000 from Nat.le_of_ble_eq_true (by kernel_rfl)) (by decide))
 have HI13 := Aside0.mk HI12.out.drew
 have HB13 := Aside0.mk (below_drew1 HB12.out)
 have HR13 := Aside0.mk (blk_drew HR12.out)
 have HM13 := Aside0.mk (Kd.R_drew HM12.out)
 refine start_ (n := 9) (S := fun w' => w'.cell? ⟨gr, 0, none⟩ = some (.string sLog) ∧ w'.cell? ⟨gr, 1, none⟩ = some (.string sTemp) ∧ w'.cell? ⟨gr, 2, none⟩ = some (.int .i64 1) ∧ w'.cell? ⟨gr, 3, none⟩ = some (.int .i64 60) ∧ w'.cell? ⟨gr, 4, none⟩ = some (.int .i64 0) ∧ w'.cell? ⟨gr, 5, none⟩ = some (.int .i64 2)) (ds := []) #[Yn, Yn, Yn, Yn, Yn, Yn, Yn, Yn, Yn] (by kernel_rfl) rfl rfl ⟨x0, x1, x2, x3, x4, x5⟩ (fun hHeld => ?_)
 generalize w12.drew = w13 at HI13 HB13 HR13 HM13 hHeld ⊢
 refine P1 1 57 ?_ (Bz 9 0x2) ?_ ?_ ?_ ?_
 rotate_left
 ·intro w'
  go_simp
  with_reducible rfl
 rotate_left
 ·simp only [Act.put, Z1, Z2, Z3, i64_w, i32_w]
  rfl
 refine P5 0 56 ?_ (Bz 9 0x3) ?_ hHeld ?_ ?_ ?_
 rotate_left
 ·rintro w' ⟨s0, s1, s2, s3, s4, s5⟩
  go_simp
  with_reducible rfl
 rotate_left
 ·simp only [Act.put, Z1, Z2, Z3, i64_w, i32_w]
  rfl
 refine one_ (i := 2) (N := some 58) #[Y, Y, Y, Yn, Yn, Yn, Yn, Yn, Yn] rfl rfl (by kernel_rfl) (by decide) (fun K hK => ?_)
 refine goes_ Tryd.func22 (by kernel_rfl) rfl #[.pointer (some ⟨g, 0, none⟩)] (by rfl) rfl rfl (by simp only [List.map_toArray, List.map_cons, List.map_nil]; rfl) ?_
 with_reducible refine (save_calls w.heap.size g aL3 w13 (Glob.below HG.out HB13.out) HI13.out (Nat.lt_of_lt_of_le H0.out HB13.out.size) (by decide) okR).mono ?_
 rintro e w14 ⟨rfl, hb⟩
 refine ⟨_, rfl, ?_⟩
 rw [show strOfNums (saveB aL3.total aL3.now aL3.recs) = sv from HSV.out]
 have HI14 := Aside0.mk (HI13.out.below hb)
 have HB14 := Aside0.mk (below_step HB13.out hb)
 have HR14 := Aside0.mk (blk_below HR13.out hb)
 have HM14 := Aside0.mk (Kd.R_below HM13.out hb)
 clear hb
 refine hK.out _ _ ⟨(blk_cell HR14.out 0).trans rfl, (blk_cell HR14.out 1).trans rfl, (blk_cell HR14.out 2).trans rfl, (blk_cell HR14.out 3).trans rfl, (blk_cell HR14.out 4).trans rfl, (blk_cell HR14.out 5).trans rfl⟩ (fun hHeld => ?_)
 clear hK K
 refine norm_ (a' := ?_) ?_ ?_
 rotate_left
 ·show Act.put _ (some 58) _ = _
  simp only [Act.put, Z1, Z2, Z3, i64_w, i32_w]
  rfl
 refine one_ (i := 3) (N := some 59) #[Y, Y, Y, Y, Yn, Yn, Yn, Yn, Yn] rfl rfl (by kernel_rfl) (by decide) (fun K hK => ?_)
 refine goes_ Tryd.func19 (by kernel_rfl) rfl #[.agg #[.string sLog, .string sTemp, .int .i64 1, .int .i64 60, .int .i64 0, .int .i64 2], .string sv] (by rfl) rfl rfl (by simp only [List.map_toArray, List.map_cons, List.map_nil]; rfl) ?_
 with_reducible refine (restore_calls sLog sTemp 1 60 0 2 sv w14 (Glob.below HG.out HB14.out) HSZ.out).mono ?_
 rintro e w15 hp
 rw [HRS.out] at hp
 obtain ⟨hb, g2, rfl, hk⟩ := hp
 refine ⟨_, rfl, ?_⟩
 have HK15 := Aside0.mk (show LogAt w14.heap.size g2 aK w15 from hk)
 have HBB15 := Aside0.mk hb
 have HR15 := Aside0.mk (blk_below HR14.out hb)
 clear hb hk
 refine hK.out _ _ ⟨(blk_cell HR15.out 0).trans rfl, (blk_cell HR15.out 1).trans rfl, (blk_cell HR15.out 2).trans rfl, (blk_cell HR15.out 3).trans rfl, (blk_cell HR15.out 4).trans rfl, (blk_cell HR15.out 5).trans rfl⟩ (fun hHeld => ?_)
 clear hK K
 refine norm_ (a' := ?_) ?_ ?_
 rotate_left
 ·show Act.put _ (some 59) _ = _
  simp only [Act.put, Z1, Z2, Z3, i64_w, i32_w]
  rfl
 refine P1 4 55 ?_ (Bz 9 0x1f) ?_ ?_ ?_ ?_
 rotate_left
 ·intro w'
  go_simp
  with_reducible rfl
 rotate_left
 ·simp only [Act.put, Z1, Z2, Z3, i64_w, i32_w]
  rfl
 refine P1 5 60 ?_ (Bz 9 0x3f) ?_ ?_ ?_ ?_
 rotate_left
 ·intro w'
  go_simp
  with_reducible rfl
 rotate_left
 ·simp only [Act.put, Z1, Z2, Z3, i64_w, i32_w]
  rfl
 refine P1 6 61 ?_ (Bz 9 0x7f) ?_ ?_ ?_ ?_
 rotate_left
 ·intro w'
  go_simp
  with_reducible rfl
 rotate_left
 ·simp only [Act.put, Z1, Z2, Z3, i64_w, i32_w]
  rfl
 refine P1 7 11 ?_ (Bz 9 0xff) ?_ ?_ ?_ ?_
 rotate_left
 ·intro w'
  go_simp
  with_reducible rfl
 rotate_left
 ·simp only [Act.put, Z1, Z2, Z3, i64_w, i32_w]
  rfl
 refine P1 8 12 ?_ (Bz 9 0x1ff) ?_ ?_ ?_ ?_
 rotate_left
 ·intro w'
  go_simp
  with_reducible rfl
 rotate_left
 ·simp only [Act.put, Z1, Z2, Z3, i64_w, i32_w]
  rfl
 refine done_ (by kernel_rfl) ?_
 clear x0 x1 x2 x3 x4 x5 hHeld
 go_wp2_with (go_at_call 16; (with_reducible refine (tick_calls w14.heap.size g2 aK 500 w15 HK15.out HBB15.out.size okaK (by decide)).mono ?_); rintro e w16 ⟨he, hi, hb, hk⟩; rw [tk1] at he hi; replace he : e = .returned (.tuple #[.int .i64 0, .int .i64 0]) := he; subst he; have HK16 := Aside0.mk (show LogAt w14.heap.size g2 aK2 w16 from hi); have HBB16 := Aside0.mk (HBB15.out.trans hb); have HI16 := Aside0.mk (HI14.out.below HBB16.out); have HM16 := Aside0.mk (Kd.R_below HM14.out HBB16.out); clear hi hb hk; obtain ⟨_, _, hCm⟩ := Kd.R_reads' HM16.out; obtain ⟨⟨ad, ea⟩, hz⟩ := elemA hCm; subst ea; obtain ⟨z0, z1, z2, z3, z4, z5, y1⟩ := hz ad rfl; clear hz; clear hCm)
 go_wp2_with (first | (go_at_call 12; (with_reducible refine (total_calls w.heap.size g aL3 w16 HI16.out).mono ?_); rintro e wq ⟨he, rfl⟩; replace he : e = .returned (.int .i64 3) := he; subst he) | (go_at_call 24; (with_reducible refine (trigE_calls w.heap.size g aL3 300 _ HI16.out (by decide) (by decide)).mono ?_); rintro e wq2 ⟨rfl, rfl⟩) | (go_at_call 14; (with_reducible refine (records_calls w14.heap.size g2 aK2 _ HK16.out (by decide)).mono ?_); rintro e w17 ⟨v17, rfl, hr, hb⟩; obtain ⟨A17, c17, e17, hc17, hC17⟩ := Kd.R_reads hr; have e17b : v17 = .slice A17 2 c17 := e17; clear e17; subst e17b; have HV17 := Aside0.mk hr; have HI17 := Aside0.mk (HI16.out.below hb); have HBB17 := Aside0.mk (below_step HBB16.out hb); clear hb hr hc17 hC17) | (go_at_call 14; (with_reducible refine (records_calls w.heap.size g aL3 w17 HI17.out (by decide)).mono ?_); rintro e w18 ⟨v18, rfl, hr, hb⟩; obtain ⟨A18, c18, e18, hc18, hC18⟩ := Kd.R_reads hr; have e18b : v18 = .slice A18 2 c18 := e18; clear e18; subst e18b; have HV18 := Aside0.mk hr; have HV17b := Aside0.mk (Kd.R_below HV17.out hb); have HBB18 := Aside0.mk (below_step HBB17.out hb); have HC1 := Aside0.mk (show Kd.C k44 w18 A17 2 [aR2, aR3] from (Kd.R_reads' HV17b.out).2.2); have HC2 := Aside0.mk (show Kd.C k44 w18 A18 2 [aR2, aR3] from (Kd.R_reads' HV18.out).2.2); have HC3 := Aside0.mk (show 2 ≤ c17 from (Kd.R_reads' HV17b.out).2.1); have HC4 := Aside0.mk (show 2 ≤ c18 from (Kd.R_reads' HV18.out).2.1); clear hb hr hc18 hC18) | (go_at_call 21; (with_reducible refine (smA A17 A18 c17 c18 w18 (Glob.below HG.out (below_step HB14.out HBB18.out)) HC1.out HC3.out HC2.out HC4.out).mono ?_); rintro e w19 ⟨rfl, nd, rfl⟩))
 go_ret
 exact ⟨rfl, by have := below_step HB14.out HBB18.out; exact pw_below_drewN this nd⟩
end Go.Proofs.YtbccjcdmpiolpaaDoor.T
end
section
namespace Go.Proofs.YtbccjcdmpiolpaaDoor.T
open Go.RowKit Go.Proofs.YtbccjcdmpiolpaaDoor.Pure Go.Proofs.YtbccjcdmpiolpaaDoorW.PrintWords Go.Proofs.YtbccjcdmpiolpaaDoorW.PrintLast Go.Proofs.YtbccjcdmpiolpaaDoorW.PrintMore
set_option linter.unusedVariables false
set_option linter.unusedSimpArgs false
attribute [local go_sem] max2_int min2_int max_two min_two
theorem same_l (l : List S44) (hl : l.length ≤ 100000) : ∀ (d i k : Nat), i + d = l.length → plenumref41_Same.l0 (k + d + 1) l l (i : Int) = some true
 | 0, i, k, h => by
  rw [show k + 0 + 1 = k + 1 from rfl, plenumref41_Same.l0, if_neg (by omega)]
 | d + 1, i, k, h => by
  rw [show k + (d + 1) + 1 = (k + d + 1) + 1 by omega, plenumref41_Same.l0, if_pos (by omega), if_pos (by omega), if_pos (by omega), if_neg (by simp), show wrap64 ((i : Int) + 1) = ((i + 1 : Nat) : Int) by unfold wrap64; omega]
  exact same_l l hl d (i + 1) k (by omega)
theorem same_refl (l : List S44) (hl : l.length ≤ 100000) : plenumref41_Same.f (l.length + 1) l l = some true := by
 unfold plenumref41_Same.f
 rw [if_pos rfl]
 have := same_l l hl l.length 0 0 (by omega)
 rw [Nat.zero_add] at this
 exact this
set_option maxHeartbeats 16000000 in
set_option maxRecDepth 100000 in
theorem restores_walk (nm pt : ByteArray) (way iv st sz kind : Int) (s : ByteArray) (w : World) (hG : Glob w) (h0 : 0 < w.heap.size) :
  Calls Tryd.prog 6 #[.agg #[.string nm, .string pt, .int .i64 way, .int .i64 iv, .int .i64 st, .int .i64 sz], .int .i64 kind, .string s] w fun e w' => e = .returned (.bool true) ∧ Below w.heap.size w w' := by
 have HG := Aside0.mk hG
 have HSZ := Aside0.mk h0
 clear hG h0
 have hu44 := Tryd.underlying44
 have hu30 := Tryd.underlying30
 obtain ⟨fr, hok, hf⟩ := fit_none nm pt way iv st sz kind
 have HFC := Aside0.mk hf
 have HOK := Aside0.mk hok
 clear hf hok
 cases fr with
 | false =>
  go_enter Tryd.func6, Tryd.ntmps6
  go_wp2_with (first | ((with_reducible refine gate_dst (N := 3) rfl ?_); refine box_event ?hg (N := 3) ?hd (cs := #[.string nm, .string pt, .int .i64 way, .int .i64 iv, .int .i64 st, .int .i64 sz]) (t := 23) ?hr ?_; (case hd => rfl); (case hg => rfl); (case hr => first | (go_simp; done) | (go_simp; rfl)); intro gr hgr w1 hbox hb; have HR1 := Aside0.mk hbox; have HB1 := Aside0.mk hb; have x0 := (blk_cell HR1.out 0).trans rfl; have x1 := (blk_cell HR1.out 1).trans rfl; have x2 := (blk_cell HR1.out 2).trans rfl; have x3 := (blk_cell HR1.out 3).trans rfl; have x4 := (blk_cell HR1.out 4).trans rfl; have x5 := (blk_cell HR1.out 5).trans rfl;  clear hb hbox hgr) | (go_at_call 8; (with_reducible refine (awake_calls w1 (Glob.below HG.out HB1.out)).mono ?_); rintro e w2 ⟨rfl, hb⟩; have HR2 := Aside0.mk (blk_below HR1.out hb); have HB2 := Aside0.mk (below_step HB1.out hb); clear x0 x1 x2 x3 x4 x5; have x0 := (blk_cell HR2.out 0).trans rfl; have x1 := (blk_cell HR2.out 1).trans rfl; have x2 := (blk_cell HR2.out 2).trans rfl; have x3 := (blk_cell HR2.out 3).trans rfl; have x4 := (blk_cell HR2.out 4).trans rfl; have x5 := (blk_cell HR2.out 5).trans rfl;  clear hb) | (go_at_call 9; (with_reducible refine (HFC.out w2 (Glob.below HG.out HB2.out)).mono ?_); rintro e w3 ⟨rfl, hb⟩; have HR3 := Aside0.mk (blk_below HR2.out hb); have HB3 := Aside0.mk (below_step HB2.out hb); clear x0 x1 x2 x3 x4 x5; have x0 := (blk_cell HR3.out 0).trans rfl; have x1 := (blk_cell HR3.out 1).trans rfl; have x2 := (blk_cell HR3.out 2).trans rfl; have x3 := (blk_cell HR3.out 3).trans rfl; have x4 := (blk_cell HR3.out 4).trans rfl; have x5 := (blk_cell HR3.out 5).trans rfl;  clear hb))
  go_ret
  exact ⟨rfl, HB3.out⟩
 | true =>
  have HFO := Aside0.mk (HOK.out rfl)
  by_cases k1 : 3000 < (s.size : Int)
  ·have k1b : decide (3000 < (s.size : Int)) = true := decide_eq_true k1
   have k1c : decide (3000 < s.size) = true := decide_eq_true (by omega)
   clear k1
   go_enter Tryd.func6, Tryd.ntmps6
   go_wp2_with (first | ((with_reducible refine gate_dst (N := 3) rfl ?_); refine box_event ?hg (N := 3) ?hd (cs := #[.string nm, .string pt, .int .i64 way, .int .i64 iv, .int .i64 st, .int .i64 sz]) (t := 23) ?hr ?_; (case hd => rfl); (case hg => rfl); (case hr => first | (go_simp; done) | (go_simp; rfl)); intro gr hgr w1 hbox hb; have HR1 := Aside0.mk hbox; have HB1 := Aside0.mk hb; have x0 := (blk_cell HR1.out 0).trans rfl; have x1 := (blk_cell HR1.out 1).trans rfl; have x2 := (blk_cell HR1.out 2).trans rfl; have x3 := (blk_cell HR1.out 3).trans rfl; have x4 := (blk_cell HR1.out 4).trans rfl; have x5 := (blk_cell HR1.out 5).trans rfl;  clear hb hbox hgr) | (go_at_call 8; (with_reducible refine (awake_calls w1 (Glob.below HG.out HB1.out)).mono ?_); rintro e w2 ⟨rfl, hb⟩; have HR2 := Aside0.mk (blk_below HR1.out hb); have HB2 := Aside0.mk (below_step HB1.out hb); clear x0 x1 x2 x3 x4 x5; have x0 := (blk_cell HR2.out 0).trans rfl; have x1 := (blk_cell HR2.out 1).trans rfl; have x2 := (blk_cell HR2.out 2).trans rfl; have x3 := (blk_cell HR2.out 3).trans rfl; have x4 := (blk_cell HR2.out 4).trans rfl; have x5 := (blk_cell HR2.out 5).trans rfl;  clear hb) | (go_at_call 9; (with_reducible refine (HFC.out w2 (Glob.below HG.out HB2.out)).mono ?_); rintro e w3 ⟨rfl, hb⟩; have HR3 := Aside0.mk (blk_below HR2.out hb); have HB3 := Aside0.mk (below_step HB2.out hb); clear x0 x1 x2 x3 x4 x5; have x0 := (blk_cell HR3.out 0).trans rfl; have x1 := (blk_cell HR3.out 1).trans rfl; have x2 := (blk_cell HR3.out 2).trans rfl; have x3 := (blk_cell HR3.out 3).trans rfl; have x4 := (blk_cell HR3.out 4).trans rfl; have x5 := (blk_cell HR3.out 5).trans rfl;  clear hb))
   go_ret
   exact ⟨rfl, HB3.out⟩
  have k1b : decide (3000 < (s.size : Int)) = false := decide_eq_false k1
  have k1c : decide (3000 < s.size) = false := decide_eq_false (by omega)
  have HZS := Aside0.mk (show s.size ≤ 140737488355327 by omega)
  clear k1
  cases hrs : restS s sz with
  | none =>
   have HRS := Aside0.mk hrs
   clear hrs
   go_enter Tryd.func6, Tryd.ntmps6
   go_wp2_with (first | ((with_reducible refine gate_dst (N := 3) rfl ?_); refine box_event ?hg (N := 3) ?hd (cs := #[.string nm, .string pt, .int .i64 way, .int .i64 iv, .int .i64 st, .int .i64 sz]) (t := 23) ?hr ?_; (case hd => rfl); (case hg => rfl); (case hr => first | (go_simp; done) | (go_simp; rfl)); intro gr hgr w1 hbox hb; have HR1 := Aside0.mk hbox; have HB1 := Aside0.mk hb; have x0 := (blk_cell HR1.out 0).trans rfl; have x1 := (blk_cell HR1.out 1).trans rfl; have x2 := (blk_cell HR1.out 2).trans rfl; have x3 := (blk_cell HR1.out 3).trans rfl; have x4 := (blk_cell HR1.out 4).trans rfl; have x5 := (blk_cell HR1.out 5).trans rfl;  clear hb hbox hgr) | (go_at_call 8; (with_reducible refine (awake_calls w1 (Glob.below HG.out HB1.out)).mono ?_); rintro e w2 ⟨rfl, hb⟩; have HR2 := Aside0.mk (blk_below HR1.out hb); have HB2 := Aside0.mk (below_step HB1.out hb); clear x0 x1 x2 x3 x4 x5; have x0 := (blk_cell HR2.out 0).trans rfl; have x1 := (blk_cell HR2.out 1).trans rfl; have x2 := (blk_cell HR2.out 2).trans rfl; have x3 := (blk_cell HR2.out 3).trans rfl; have x4 := (blk_cell HR2.out 4).trans rfl; have x5 := (blk_cell HR2.out 5).trans rfl;  clear hb) | (go_at_call 9; (with_reducible refine (HFC.out w2 (Glob.below HG.out HB2.out)).mono ?_); rintro e w3 ⟨rfl, hb⟩; have HR3 := Aside0.mk (blk_below HR2.out hb); have HB3 := Aside0.mk (below_step HB2.out hb); clear x0 x1 x2 x3 x4 x5; have x0 := (blk_cell HR3.out 0).trans rfl; have x1 := (blk_cell HR3.out 1).trans rfl; have x2 := (blk_cell HR3.out 2).trans rfl; have x3 := (blk_cell HR3.out 3).trans rfl; have x4 := (blk_cell HR3.out 4).trans rfl; have x5 := (blk_cell HR3.out 5).trans rfl;  clear hb) | (go_at_call 19; (with_reducible refine (restore_calls nm pt way iv st sz s w3 (Glob.below HG.out HB3.out) HZS.out).mono ?_); rintro e w4 hp; rw [HRS.out] at hp; obtain ⟨hb, rfl⟩ := hp; have HR4 := Aside0.mk (blk_below HR3.out hb); have HB4 := Aside0.mk (below_step HB3.out hb); clear x0 x1 x2 x3 x4 x5; have x0 := (blk_cell HR4.out 0).trans rfl; have x1 := (blk_cell HR4.out 1).trans rfl; have x2 := (blk_cell HR4.out 2).trans rfl; have x3 := (blk_cell HR4.out 3).trans rfl; have x4 := (blk_cell HR4.out 4).trans rfl; have x5 := (blk_cell HR4.out 5).trans rfl;  clear hb) | (go_at_call 20; (with_reducible refine (doc_calls nm pt way iv st sz s w4 (Glob.below HG.out HB4.out) HZS.out).mono ?_); rintro e w5 hp; rw [HRS.out] at hp; obtain ⟨hb, pv, rfl⟩ := hp; have HB5 := Aside0.mk (below_step HB4.out hb); clear hb))
   go_ret
   exact ⟨rfl, HB5.out⟩
  | some a =>
   obtain ⟨total, now, recs⟩ := a
   have HRS := Aside0.mk hrs
   have hseg := rest_seg hrs
   obtain ⟨LR, HLR⟩ : ∃ LR, Aside0 ((⟨nm, pt, way, iv, st, sz, now, false, 0, 0, 0, 0, total, recs⟩ : Lg) = LR) := ⟨_, ⟨rfl⟩⟩
   have HTO := Aside0.mk (show LR.total = total by rw [← HLR.out])
   have HRE := Aside0.mk (show LR.recs = recs by rw [← HLR.out])
   have HSV := Aside0.mk (show strOfNums (saveB LR.total LR.now LR.recs) = s by rw [← HLR.out]; exact hseg.1)
   have hl10 : recs.length ≤ 1024 := by
    have h1 := hseg.2.1
    have h2 := HFO.out.s1
    unfold mn at h1
    split at h1 <;> omega
   have HLN := Aside0.mk (show LR.recs.length ≤ 1000000 by rw [HRE.out]; omega)
   have HL10 := Aside0.mk (show LR.recs.length ≤ 1040 by rw [HRE.out]; omega)
   have HOK4 := Aside0.mk (show ∀ x ∈ LR.recs, Ok44 x by rw [HRE.out]; exact fun x hx => (hseg.2.2.2.2.2.2 x hx).d)
   have HSM := Aside0.mk (same_refl recs (by omega))
   clear hrs hseg hl10
   go_enter Tryd.func6, Tryd.ntmps6
   go_wp2_with (first | ((with_reducible refine gate_dst (N := 3) rfl ?_); refine box_event ?hg (N := 3) ?hd (cs := #[.string nm, .string pt, .int .i64 way, .int .i64 iv, .int .i64 st, .int .i64 sz]) (t := 23) ?hr ?_; (case hd => rfl); (case hg => rfl); (case hr => first | (go_simp; done) | (go_simp; rfl)); intro gr hgr w1 hbox hb; have HR1 := Aside0.mk hbox; have HB1 := Aside0.mk hb; have x0 := (blk_cell HR1.out 0).trans rfl; have x1 := (blk_cell HR1.out 1).trans rfl; have x2 := (blk_cell HR1.out 2).trans rfl; have x3 := (blk_cell HR1.out 3).trans rfl; have x4 := (blk_cell HR1.out 4).trans rfl; have x5 := (blk_cell HR1.out 5).trans rfl;  clear hb hbox hgr) | (go_at_call 8; (with_reducible refine (awake_calls w1 (Glob.below HG.out HB1.out)).mono ?_); rintro e w2 ⟨rfl, hb⟩; have HR2 := Aside0.mk (blk_below HR1.out hb); have HB2 := Aside0.mk (below_step HB1.out hb); clear x0 x1 x2 x3 x4 x5; have x0 := (blk_cell HR2.out 0).trans rfl; have x1 := (blk_cell HR2.out 1).trans rfl; have x2 := (blk_cell HR2.out 2).trans rfl; have x3 := (blk_cell HR2.out 3).trans rfl; have x4 := (blk_cell HR2.out 4).trans rfl; have x5 := (blk_cell HR2.out 5).trans rfl;  clear hb) | (go_at_call 9; (with_reducible refine (HFC.out w2 (Glob.below HG.out HB2.out)).mono ?_); rintro e w3 ⟨rfl, hb⟩; have HR3 := Aside0.mk (blk_below HR2.out hb); have HB3 := Aside0.mk (below_step HB2.out hb); clear x0 x1 x2 x3 x4 x5; have x0 := (blk_cell HR3.out 0).trans rfl; have x1 := (blk_cell HR3.out 1).trans rfl; have x2 := (blk_cell HR3.out 2).trans rfl; have x3 := (blk_cell HR3.out 3).trans rfl; have x4 := (blk_cell HR3.out 4).trans rfl; have x5 := (blk_cell HR3.out 5).trans rfl;  clear hb) | (go_at_call 19; (with_reducible refine (restore_calls nm pt way iv st sz s w3 (Glob.below HG.out HB3.out) HZS.out).mono ?_); rintro e w4 hp; rw [HRS.out] at hp; obtain ⟨hb, g, rfl, hk⟩ := hp; obtain ⟨B, hB⟩ : ∃ B, B = w3.heap.size := ⟨_, rfl⟩; have HL4 := Aside0.mk (show LogAt B g LR w4 by rw [hB, ← HLR.out]; exact hk); have HR4 := Aside0.mk (blk_below HR3.out hb); have HB4 := Aside0.mk (below_step HB3.out hb); clear x0 x1 x2 x3 x4 x5; have x0 := (blk_cell HR4.out 0).trans rfl; have x1 := (blk_cell HR4.out 1).trans rfl; have x2 := (blk_cell HR4.out 2).trans rfl; have x3 := (blk_cell HR4.out 3).trans rfl; have x4 := (blk_cell HR4.out 4).trans rfl; have x5 := (blk_cell HR4.out 5).trans rfl;  clear hb hk hB) | (go_at_call 20; (with_reducible refine (doc_calls nm pt way iv st sz s w4 (Glob.below HG.out HB4.out) HZS.out).mono ?_); rintro e w5 hp; rw [HRS.out] at hp; obtain ⟨hb, g2, v2, rfl, hrow, hown⟩ := hp; obtain ⟨Ad, cd, ed⟩ := Kd.R_slice hown; subst ed; have HD5 := Aside0.mk (show w5.heap[g2]? = some (.cells (DC nm pt way iv st sz now total (.slice Ad recs.length cd)) 60 (0, 0)) from hrow); have HO5 := Aside0.mk (show Kd.C k44 w5 Ad recs.length recs from (Kd.R_reads' hown).2.2); have HC5 := Aside0.mk (show recs.length ≤ cd from (Kd.R_reads' hown).2.1); have HL5 := Aside0.mk (HL4.out.below hb); have HB5 := Aside0.mk (below_step HB4.out hb); clear hb hrow hown))
   have HL6 := Aside0.mk HL5.out.drew
   have HD6 := Aside0.mk (blk_drew HD5.out)
   have HO6 := Aside0.mk (Kd.C_drew HO5.out)
   have HB6 := Aside0.mk (below_drew1 HB5.out)
   refine start_ (n := 27) (S := fun w' => w'.cell? ⟨g2, 12, none⟩ = some (.int .i64 total) ∧ w'.cell? ⟨g2, 13, none⟩ = some (.slice Ad recs.length cd)) (ds := []) #[Yn, Yn, Yn, Yn, Yn, Yn, Yn, Yn, Yn, Yn, Yn, Yn, Yn, Yn, Yn, Yn, Yn, Yn, Yn, Yn, Yn, Yn, Yn, Yn, Yn, Yn, Yn] (by kernel_rfl) rfl rfl ⟨(blk_cell HD5.out 12).trans rfl, (blk_cell HD5.out 13).trans rfl⟩ (fun hHeld => ?_)
   generalize w5.drew = w6 at HL6 HD6 HO6 HB6 hHeld ⊢
   refine P1 0 42 ?_ (Bz 27 0x1) ?_ ?_ ?_ ?_
   rotate_left
   ·intro w'
    go_simp
    with_reducible rfl
   rotate_left
   ·simp only [Act.put, Z1, Z2, Z3, i64_w, i32_w]
    rfl
   refine P1 1 43 ?_ (Bz 27 0x3) ?_ ?_ ?_ ?_
   rotate_left
   ·intro w'
    go_simp
    with_reducible rfl
   rotate_left
   ·simp only [Act.put, Z1, Z2, Z3, i64_w, i32_w]
    rfl
   refine P1 2 44 ?_ (Bz 27 0x7) ?_ ?_ ?_ ?_
   rotate_left
   ·intro w'
    go_simp
    with_reducible rfl
   rotate_left
   ·simp only [Act.put, Z1, Z2, Z3, i64_w, i32_w]
    rfl
   refine P1 3 45 ?_ (Bz 27 0xf) ?_ ?_ ?_ ?_
   rotate_left
   ·intro w'
    go_simp
    with_reducible rfl
   rotate_left
   ·simp only [Act.put, Z1, Z2, Z3, i64_w, i32_w]
    rfl
   refine P1 5 47 ?_ (Bz 27 0x2f) ?_ ?_ ?_ ?_
   rotate_left
   ·intro w'
    go_simp
    with_reducible rfl
   rotate_left
   ·simp only [Act.put, Z1, Z2, Z3, i64_w, i32_w]
    rfl
   refine P1 6 48 ?_ (Bz 27 0x6f) ?_ ?_ ?_ ?_
   rotate_left
   ·intro w'
    go_simp
    with_reducible rfl
   rotate_left
   ·simp only [Act.put, Z1, Z2, Z3, i64_w, i32_w]
    rfl
   refine P1 7 49 ?_ (Bz 27 0xef) ?_ ?_ ?_ ?_
   rotate_left
   ·intro w'
    go_simp
    with_reducible rfl
   rotate_left
   ·simp only [Act.put, Z1, Z2, Z3, i64_w, i32_w]
    rfl
   refine P5 8 50 ?_ (Bz 27 0x1ef) ?_ hHeld ?_ ?_ ?_
   rotate_left
   ·rintro w' ⟨s0, s1⟩
    go_simp
    with_reducible rfl
   rotate_left
   ·simp only [Act.put, Z1, Z2, Z3, i64_w, i32_w]
    rfl
   refine one_ (i := 4) (N := some 46) #[Y, Y, Y, Y, Y, Y, Y, Y, Y, Yn, Yn, Yn, Yn, Yn, Yn, Yn, Yn, Yn, Yn, Yn, Yn, Yn, Yn, Yn, Yn, Yn, Yn] rfl rfl (by kernel_rfl) (by decide) (fun K hK => ?_)
   refine goes_ Tryd.func12 (by kernel_rfl) rfl #[.pointer (some ⟨g, 0, none⟩)] (by rfl) rfl rfl (by simp only [List.map_toArray, List.map_cons, List.map_nil]; rfl) ?_
   with_reducible refine (total_calls B g LR _ HL6.out).mono ?_
   rintro e wx ⟨rfl, rfl⟩
   refine ⟨_, rfl, ?_⟩
   rw [HTO.out]
   refine hK.out _ _ ⟨(blk_cell HD6.out 12).trans rfl, (blk_cell HD6.out 13).trans rfl⟩ (fun hHeld => ?_)
   clear hK K
   refine norm_ (a' := ?_) ?_ ?_
   rotate_left
   ·show Act.put _ (some 46) _ = _
    simp only [Act.put, Z1, Z2, Z3, i64_w, i32_w]
    rfl
   refine P1 9 51 ?_ (Bz 27 0x3ff) ?_ ?_ ?_ ?_
   rotate_left
   ·intro w'
    go_simp
    with_reducible rfl
   rotate_left
   ·simp only [Act.put, Z1, Z2, Z3, i64_w, i32_w]
    rfl
   refine P1 10 52 ?_ (Bz 27 0x7ff) ?_ ?_ ?_ ?_
   rotate_left
   ·intro w'
    go_simp
    with_reducible rfl
   rotate_left
   ·simp only [Act.put, Z1, Z2, Z3, i64_w, i32_w]
    rfl
   refine P1 11 53 ?_ (Bz 27 0xfff) ?_ ?_ ?_ ?_
   rotate_left
   ·intro w'
    go_simp
    with_reducible rfl
   rotate_left
   ·simp only [Act.put, Z1, Z2, Z3, i64_w, i32_w]
    rfl
   refine P1 12 54 ?_ (Bz 27 0x1fff) ?_ ?_ ?_ ?_
   rotate_left
   ·intro w'
    go_simp
    with_reducible rfl
   rotate_left
   ·simp only [Act.put, Z1, Z2, Z3, i64_w, i32_w]
    rfl
   refine P1 14 56 ?_ (Bz 27 0x5fff) ?_ ?_ ?_ ?_
   rotate_left
   ·intro w'
    go_simp
    with_reducible rfl
   rotate_left
   ·simp only [Act.put, Z1, Z2, Z3, i64_w, i32_w]
    rfl
   refine P1 15 57 ?_ (Bz 27 0xdfff) ?_ ?_ ?_ ?_
   rotate_left
   ·intro w'
    go_simp
    with_reducible rfl
   rotate_left
   ·simp only [Act.put, Z1, Z2, Z3, i64_w, i32_w]
    rfl
   refine P1 16 58 ?_ (Bz 27 0x1dfff) ?_ ?_ ?_ ?_
   rotate_left
   ·intro w'
    go_simp
    with_reducible rfl
   rotate_left
   ·simp only [Act.put, Z1, Z2, Z3, i64_w, i32_w]
    rfl
   refine P5 17 59 ?_ (Bz 27 0x3dfff) ?_ hHeld ?_ ?_ ?_
   rotate_left
   ·rintro w' ⟨s0, s1⟩
    go_simp
    with_reducible rfl
   rotate_left
   ·simp only [Act.put, Z1, Z2, Z3, i64_w, i32_w]
    rfl
   refine one_ (i := 13) (N := some 55) #[Y, Y, Y, Y, Y, Y, Y, Y, Y, Y, Y, Y, Y, Y, Y, Y, Y, Y, Yn, Yn, Yn, Yn, Yn, Yn, Yn, Yn, Yn] rfl rfl (by kernel_rfl) (by decide) (fun K hK => ?_)
   refine goes_ Tryd.func14 (by kernel_rfl) rfl #[.pointer (some ⟨g, 0, none⟩)] (by rfl) rfl rfl (by simp only [List.map_toArray, List.map_cons, List.map_nil]; rfl) ?_
   with_reducible refine (records_calls B g LR _ HL6.out HLN.out).mono ?_
   rintro e w7 ⟨vr, rfl, hr, hb⟩
   refine ⟨_, rfl, ?_⟩
   rw [HRE.out] at hr
   obtain ⟨Ar, cr, er, hcr, hCr⟩ := Kd.R_reads hr
   have erb : vr = .slice Ar recs.length cr := er
   clear er
   subst erb
   have HRC := Aside0.mk (show recs.length ≤ cr from hcr)
   have HRV := Aside0.mk (show Kd.C k44 w7 Ar recs.length recs from hCr)
   have HL7 := Aside0.mk (HL6.out.below hb)
   have HD7 := Aside0.mk (blk_below HD6.out hb)
   have HO7 := Aside0.mk (Kd.C_below HO6.out hb)
   have HB7 := Aside0.mk (below_step HB6.out hb)
   clear hb hr hcr hCr
   refine hK.out _ _ ⟨(blk_cell HD7.out 12).trans rfl, (blk_cell HD7.out 13).trans rfl⟩ (fun hHeld => ?_)
   clear hK K
   refine norm_ (a' := ?_) ?_ ?_
   rotate_left
   ·show Act.put _ (some 55) _ = _
    simp only [Act.put, Z1, Z2, Z3, i64_w, i32_w]
    rfl
   refine one_ (i := 18) (N := some 60) #[Y, Y, Y, Y, Y, Y, Y, Y, Y, Y, Y, Y, Y, Y, Y, Y, Y, Y, Y, Yn, Yn, Yn, Yn, Yn, Yn, Yn, Yn] rfl rfl (by kernel_rfl) (by decide) (fun K hK => ?_)
   refine goes_ Tryd.func21 (by kernel_rfl) rfl #[.slice Ar recs.length cr, .slice Ad recs.length cd] (by rfl) rfl rfl (by simp only [List.map_toArray, List.map_cons, List.map_nil]; rfl) ?_
   with_reducible refine (plenumref41_Same.calls _ Ar cr recs Ad cd recs true w7 (Glob.below HG.out HB7.out) HRV.out HRC.out HO7.out HC5.out HSM.out).mono ?_
   rintro e w8 ⟨rfl, hdr⟩
   refine ⟨_, rfl, ?_⟩
   obtain ⟨nd, rfl⟩ := hdr
   have HL8 := Aside0.mk (HL7.out.below (pw_below_drewN (Below.refl _ _) nd))
   have HD8 := Aside0.mk (blk_drewN HD7.out nd)
   have HB8 := Aside0.mk (pw_below_drewN HB7.out nd)
   refine hK.out _ _ ⟨(blk_cell HD8.out 12).trans rfl, (blk_cell HD8.out 13).trans rfl⟩ (fun hHeld => ?_)
   clear hK K
   refine norm_ (a' := ?_) ?_ ?_
   rotate_left
   ·show Act.put _ (some 60) _ = _
    simp only [Act.put, Z1, Z2, Z3, i64_w, i32_w]
    rfl
   refine P1 19 61 ?_ (Bz 27 0xfffff) ?_ ?_ ?_ ?_
   rotate_left
   ·intro w'
    go_simp
    with_reducible rfl
   rotate_left
   ·simp only [Act.put, Z1, Z2, Z3, i64_w, i32_w]
    rfl
   refine P1 20 62 ?_ (Bz 27 0x1fffff) ?_ ?_ ?_ ?_
   rotate_left
   ·intro w'
    go_simp
    with_reducible rfl
   rotate_left
   ·simp only [Act.put, Z1, Z2, Z3, i64_w, i32_w]
    rfl
   refine P1 21 63 ?_ (Bz 27 0x3fffff) ?_ ?_ ?_ ?_
   rotate_left
   ·intro w'
    go_simp
    with_reducible rfl
   rotate_left
   ·simp only [Act.put, Z1, Z2, Z3, i64_w, i32_w]
    rfl
   refine P1 23 65 ?_ (Bz 27 0xbfffff) ?_ ?_ ?_ ?_
   rotate_left
   ·intro w'
    go_simp
    with_reducible rfl
   rotate_left
   ·simp only [Act.put, Z1, Z2, Z3, i64_w, i32_w]
    rfl
   refine one_ (i := 22) (N := some 64) #[Y, Y, Y, Y, Y, Y, Y, Y, Y, Y, Y, Y, Y, Y, Y, Y, Y, Y, Y, Y, Y, Y, Y, Y, Yn, Yn, Yn] rfl rfl (by kernel_rfl) (by decide) (fun K hK => ?_)
   refine goes_ Tryd.func22 (by kernel_rfl) rfl #[.pointer (some ⟨g, 0, none⟩)] (by rfl) rfl rfl (by simp only [List.map_toArray, List.map_cons, List.map_nil]; rfl) ?_
   with_reducible refine (save_calls B g LR _ (Glob.below HG.out HB8.out) HL8.out (Nat.lt_of_lt_of_le HSZ.out HB8.out.size) HL10.out HOK4.out).mono ?_
   rintro e w9 ⟨rfl, hb⟩
   refine ⟨_, rfl, ?_⟩
   rw [HSV.out]
   have HD9 := Aside0.mk (blk_below HD8.out hb)
   have HB9 := Aside0.mk (below_step HB8.out hb)
   clear hb
   refine hK.out _ _ ⟨(blk_cell HD9.out 12).trans rfl, (blk_cell HD9.out 13).trans rfl⟩ (fun hHeld => ?_)
   clear hK K
   refine norm_ (a' := ?_) ?_ ?_
   rotate_left
   ·show Act.put _ (some 64) _ = _
    simp only [Act.put, Z1, Z2, Z3, i64_w, i32_w]
    rfl
   refine P1 24 66 ?_ (Bz 27 0x1ffffff) ?_ ?_ ?_ ?_
   rotate_left
   ·intro w'
    go_simp
    with_reducible rfl
   rotate_left
   ·simp only [Act.put, Z1, Z2, Z3, i64_w, i32_w]
    rfl
   refine P1 25 67 ?_ (Bz 27 0x3ffffff) ?_ ?_ ?_ ?_
   rotate_left
   ·intro w'
    go_simp
    with_reducible rfl
   rotate_left
   ·simp only [Act.put, Z1, Z2, Z3, i64_w, i32_w]
    rfl
   refine P1 26 6 ?_ (Bz 27 0x7ffffff) ?_ ?_ ?_ ?_
   rotate_left
   ·intro w'
    go_simp
    with_reducible rfl
   rotate_left
   ·simp only [Act.put, Z1, Z2, Z3, i64_w, i32_w]
    rfl
   refine done_ (by kernel_rfl) ?_
   go_wp2
   go_ret
   exact ⟨rfl, HB9.out⟩
def plenumlaw41_TrendRestores.f (k : Nat) (a0_0 : ByteArray) (a0_1 : ByteArray) (a0_2 : Int) (a0_3 : Int) (a0_4 : Int) (a0_5 : Int) (a1 : Int) (a2 : ByteArray) : Option (Bool) := some true
theorem plenumlaw41_TrendRestores.calls (k : Nat) (a0_0 : ByteArray) (a0_1 : ByteArray) (a0_2 : Int) (a0_3 : Int) (a0_4 : Int) (a0_5 : Int) (a1 : Int) (a2 : ByteArray) (r : Bool) (w : World) (hG : Glob w) (h : plenumlaw41_TrendRestores.f k a0_0 a0_1 a0_2 a0_3 a0_4 a0_5 a1 a2 = some r) :
  Calls Tryd.prog 6 #[.agg #[.string a0_0, .string a0_1, .int .i64 a0_2, .int .i64 a0_3, .int .i64 a0_4, .int .i64 a0_5], .int .i64 a1, .string a2] w fun e w' => e = .returned (.bool r) ∧ Below w.heap.size w w' := by
 injection h with h
 subst h
 exact restores_walk a0_0 a0_1 a0_2 a0_3 a0_4 a0_5 a1 a2 w hG (by obtain ⟨t, ht⟩ := hG; exact blk_lt ht)
end Go.Proofs.YtbccjcdmpiolpaaDoor.T
end
section
namespace Go.Proofs.YtbccjcdmpiolpaaDoor.Opn
open Go.RowKit Go.Proofs.YtbccjcdmpiolpaaDoorW.PrintWords
def Opn (P : Program) (t : TypeId) {α : Type} (d : Kd α) (V : α → Prop) : Prop :=
 ∀ (H : Type) (enc : TypeId × Value → H) (w : World) (fuel : Nat) (cs : List Value) (x : DataW H × List MemPlace),
  DataW.trod enc P w 0 (fun _ => true) true fuel t cs = some x → (∀ n ∈ DataW.weights P t x.1, n ≤ 140737488351232) → ∃ y, d.K w y cs ∧ V y
theorem opn_int {P : Program} {t : TypeId} {k : IntKind} (ht : P.underlying t = some (.int k)) : Opn P t (Kd.int k) (fun y => (Lit.int k y).wf = true) := by
 intro H enc w fuel cs x h _
 obtain ⟨n, rfl, _, hw⟩ := DataW.trod_int ht h
 exact ⟨n, rfl, hw⟩
theorem opn_string {P : Program} {t : TypeId} (ht : P.underlying t = some .string) : Opn P t Kd.string (fun y => y.size ≤ 140737488351232) := by
 intro H enc w fuel cs x h hw
 obtain ⟨s, rfl, rfl, _⟩ := DataW.trod_string ht h
 refine ⟨s, rfl, ?_⟩
 have := hw s.data.toList.length (by simp [DataW.weights])
 rw [Array.length_toList] at this
 exact this
def OpnF (P : Program) (fs : List Field) {α : Type} (d : Kd α) (V : α → Prop) (o : Nat) : Prop :=
 ∀ (H : Type) (enc : TypeId × Value → H) (w : World) (n : Nat) (cs : List Value) (xs : List (DataW H × List MemPlace)),
  o + d.sz ≤ cs.length →
  (∀ (i : Nat) (f : Field), fs[i]? = some f → ∃ x, xs[i]? = some x ∧ DataW.trod enc P w 0 (fun _ => true) true n f.type ((cs.drop f.offset).take (P.cellsOf f.type)) = some x ∧ ∀ k ∈ DataW.weights P f.type x.1, k ≤ 140737488351232) →
  ∃ y, d.K w y ((cs.drop o).take d.sz) ∧ V y
theorem opn_last {P : Program} {f : Field} {α : Type} {d : Kd α} {V : α → Prop} {o : Nat} (ho : f.offset = o) (hs : P.cellsOf f.type = d.sz) (h : Opn P f.type d V) : OpnF P [f] d V o := by
 intro H enc w n cs xs _ hx
 obtain ⟨x, _, ht, hw⟩ := hx 0 f rfl
 rw [hs, ho] at ht
 exact h H enc w n _ x ht hw
theorem take_two {α : Type} (cs : List α) (o a b : Nat) : (cs.drop o).take (a + b) = (cs.drop o).take a ++ (cs.drop (o + a)).take b := by
 rw [List.take_add, List.drop_drop]
theorem opn_cons {P : Program} {f : Field} {fs : List Field} {α β : Type} {a : Kd α} {b : Kd β} {V : α → Prop} {U : β → Prop} {o : Nat} (ho : f.offset = o) (hs : P.cellsOf f.type = a.sz) (h : Opn P f.type a V) (hr : OpnF P fs b U (o + a.sz)) :
  OpnF P (f :: fs) (Kd.pair a b) (fun y => V y.1 ∧ U y.2) o := by
 intro H enc w n cs xs hl hx
 obtain ⟨x, hx0, ht, hw⟩ := hx 0 f rfl
 rw [hs, ho] at ht
 obtain ⟨y, hy, hV⟩ := h H enc w n _ x ht hw
 have hl' : o + (a.sz + b.sz) ≤ cs.length := hl
 obtain ⟨z, hz, hU⟩ := hr H enc w n cs (xs.drop 1) (by omega) (fun i g hg => by
  obtain ⟨x', h1, h2⟩ := hx (i + 1) g (by simpa using hg)
  exact ⟨x', by rw [List.getElem?_drop, Nat.add_comm]; exact h1, h2⟩)
 exact ⟨(y, z), ⟨_, _, take_two cs o a.sz b.sz, hy, hz⟩, hV, hU⟩
theorem opn_struct {P : Program} {t : TypeId} {fa : Array Field} {fs : List Field} {α β : Type} {d : Kd α} {V : α → Prop} (ht : P.underlying t = some (.struct fa)) (hf : fa.toList = fs) (hs : P.cellsOf t = d.sz) (g : β → α) (g' : α → β) (hg : ∀ y, g (g' y) = y)
  (h : OpnF P fs d V 0) : Opn P t (Kd.iso d g) (fun x => V (g x)) := by
 intro H enc w fuel cs x hx hw
 obtain ⟨xs, n, rfl, rfl, hl, hxl, hfs⟩ := DataW.trod_struct ht hx
 obtain ⟨y, hy, hV⟩ := h H enc w n cs xs (by omega) (fun i f hi => by
  have hi' : fa[i]? = some f := by rw [← hf] at hi; simpa using hi
  have hlt : i < xs.length := by
   rw [hxl]
   exact (Array.getElem?_eq_some_iff.1 hi').1
  have h1 := hfs i f hi'
  refine ⟨xs[i], List.getElem?_eq_getElem hlt, by rw [h1, List.getElem?_eq_getElem hlt], fun k hk => hw k ?_⟩
  simp only [DataW.weights, ht]
  refine DataW.weights_mem_each (j := i) (t := f.type) (d := xs[i].1) ?_ ?_ k hk
  ·rw [List.getElem?_map, hf, hi]
   rfl
  ·rw [List.getElem?_map, List.getElem?_eq_getElem hlt]
   rfl)
 refine ⟨g' y, ?_, ?_⟩
 ·show d.K w (g (g' y)) cs
  rw [hg]
  rw [List.drop_zero, ← hs, ← hl, List.take_length] at hy
  exact hy
 ·show V (g (g' y))
  rw [hg]
  exact hV
theorem arg_struct {H : Type} {enc : TypeId × Value → H} {P : Program} {t : TypeId} {α : Type} {d : Kd α} {V : α → Prop} {W : World} {v : Value} {x : DataW H} {ps : List MemPlace} (ho : Opn P t d V) (cs : Array Value) (hv : v = .agg cs)
  (h : DataW.Trod enc P W 0 (fun _ => true) true t v x ps) (hw : ∀ n ∈ DataW.weights P t x, n ≤ 140737488351232) : ∃ y, (∃ l, v = .agg l.toArray ∧ d.K W y l) ∧ V y := by
 obtain ⟨fuel, hf⟩ := h
 obtain ⟨y, hK, hV⟩ := ho H enc W fuel _ _ hf hw
 subst hv
 exact ⟨y, ⟨cs.toList, by simp, hK⟩, hV⟩
theorem arg_weights {H : Type} {P : Program} {ts : List TypeId} {ds : List (DataW H)} (h : (DataW.weightsEach P ts ds).all (· ≤ reachBytes) = true) {j : Nat} {t : TypeId} {d : DataW H} (ht : ts[j]? = some t) (hd : ds[j]? = some d) : ∀ n ∈ DataW.weights P t d, n ≤ 140737488351232 := by
 intro n hn
 have := List.all_eq_true.1 h n (DataW.weights_mem_each ht hd n hn)
 exact of_decide_eq_true this
end Go.Proofs.YtbccjcdmpiolpaaDoor.Opn
end
section
namespace Go.Proofs.YtbccjcdmpiolpaaDoor.T
open Go.RowKit Go.Proofs.YtbccjcdmpiolpaaDoorW.PrintWords Go.Proofs.YtbccjcdmpiolpaaDoor.Opn
def V23 (x : S23) : Prop := (x.f0.size ≤ 140737488351232) ∧ (x.f1.size ≤ 140737488351232) ∧ ((Lit.int .i64 x.f2).wf = true) ∧ ((Lit.int .i64 x.f3).wf = true) ∧ ((Lit.int .i64 x.f4).wf = true) ∧ ((Lit.int .i64 x.f5).wf = true)
theorem opn23 : Opn Tryd.prog 23 k23 V23 := opn_struct Tryd.underlying23 rfl (by kernel_rfl) (fun x : S23 => (x.f0, x.f1, x.f2, x.f3, x.f4, x.f5)) (fun y => (⟨y.1, y.2.1, y.2.2.1, y.2.2.2.1, y.2.2.2.2.1, y.2.2.2.2.2⟩ : S23)) (fun _ => rfl) (opn_cons rfl (by kernel_rfl) (opn_string Tryd.underlying9) (opn_cons rfl (by kernel_rfl) (opn_string Tryd.underlying9) (opn_cons rfl (by kernel_rfl) (opn_int Tryd.underlying3) (opn_cons rfl (by kernel_rfl) (opn_int Tryd.underlying3) (opn_cons rfl (by kernel_rfl) (opn_int Tryd.underlying2) (opn_last rfl (by kernel_rfl) (opn_int Tryd.underlying3)))))))
end Go.Proofs.YtbccjcdmpiolpaaDoor.T
end
section
namespace Go.Proofs.YtbccjcdmpiolpaaDoor.T
open Go.RowKit Go.Proofs.YtbccjcdmpiolpaaDoorW.PrintWords
def plenumlaw41_TrendRestores.Pure : Prop := ∀ (x0 : S23) (a1 : Int) (a2 : ByteArray), (V23 x0) → ((Lit.int .i64 a1).wf = true) → (a2.size ≤ 140737488351232) → ∃ k, plenumlaw41_TrendRestores.f k x0.f0 x0.f1 x0.f2 x0.f3 x0.f4 x0.f5 a1 a2 = some true
end Go.Proofs.YtbccjcdmpiolpaaDoor.T
end
section
namespace Go.Proofs.YtbccjcdmpiolpaaDoor.Pure
open Go.RowKit Go.Proofs.YtbccjcdmpiolpaaDoor.T
theorem TrendRestores : plenumlaw41_TrendRestores.Pure := by
 unfold plenumlaw41_TrendRestores.Pure
 intros
 exact ⟨0, rfl⟩
end Go.Proofs.YtbccjcdmpiolpaaDoor.Pure
end
section
namespace Go.Proofs.YtbccjcdmpiolpaaDoor.trendRestores
open Go.ChangeShapes Go.WideShapes Go.ChangeAt Go.RowKit
open Go.ChangeMaps (open_string shut_string)
open Go.Proofs.YtbccjcdmpiolpaaDoor.Opn Go.Proofs.YtbccjcdmpiolpaaDoorW.PrintWords Go.Proofs.YtbccjcdmpiolpaaDoor.T
set_option linter.unusedVariables false
theorem own : ownKnob Tryd.prog.godebug = none := by kernel_rfl
theorem laidOut : laidOutB Tryd.prog = true := by kernel_rfl
set_option maxHeartbeats 2000000 in
set_option maxRecDepth 100000 in
theorem lifted (os : Os) (started : os.Started) (H : Type) (enc : TypeId × Value → H) :
  ReturnsInHanded {} Tryd.checked os 6 .any (fun w args => (Rows.trendRestoresSpec.pre enc Tryd.prog Tryd.f6 Rows.trendRestoresRow.domain false w args ∧ laidMet Tryd.prog theLaid w) ∧ sizedMet enc Tryd.prog Tryd.f6 (OpenSpec.ofChange Rows.trendRestoresSpec) false w args) (Rows.trendRestoresSpec.post enc Tryd.prog Tryd.f6 false true false false) := by
 refine returnsInHanded_of_change_and (C := Tryd.checked) (X := fun w _ => laidMet Tryd.prog theLaid w) (fun _ _ _ hh h => h.of_heap hh) own started (by kernel_rfl) Tryd.func6
  (ChangeSpec.witness_at (enc := enc) (C := Tryd.checked) (os := os) (X := fun w _ => laidMet Tryd.prog theLaid w) false (laidWorld os) #[(.agg #[(.string ⟨#[]⟩), (.string ⟨#[]⟩), (.int .i64 0), (.int .i64 0), (.int .i64 0), (.int .i64 0)]), .int .i64 0, .string ByteArray.empty] 8 rfl (by kernel_rfl) (by kernel_rfl) (by kernel_rfl) (by kernel_rfl) (by kernel_rfl) (laidWorld_met os _)) ?_
 intro W base args ds gs before hval0 hW hcnd hsz0 hL0 _
 have hGl := glob_of_laid hL0
 have hsz : (DataW.weightsEach Tryd.prog (Tryd.f6.params.toList ++ Rows.trendRestoresSpec.plain.varTypes Tryd.prog) (ds ++ gs)).all (· ≤ reachBytes) = true := hsz0
 have hval : ∀ (j : Nat) t v, Tryd.f6.params[j]? = some t → args[j]? = some v → Value.okWide Tryd.prog W .any base t v := hval0
 have hW' := hW
 obtain ⟨p, q, hA0, hV, rfl, hfz, hnd⟩ := hW
 have hA : DataW.TrodAll enc Tryd.prog W 0 (fun _ => true) true Tryd.f6.params.toList args.toList ds p := hA0
 rw [Tryd.params6] at hA hval hsz
 obtain ⟨v0, vs0, d0, ds0, p0, q0, hargs, rfl, rfl, h0, r0⟩ := trodAll_cons hA
 obtain ⟨v1, vs1, d1, ds1, p1, q1, rfl, rfl, rfl, h1, r1⟩ := trodAll_cons r0
 obtain ⟨v2, vs2, d2, ds2, p2, q2, rfl, rfl, rfl, h2, r2⟩ := trodAll_cons r1
 obtain ⟨rfl, rfl, rfl⟩ := trodAll_nil r2
 obtain rfl : args = #[v0, v1, v2] := by cases args; simp_all
 obtain ⟨rfl, rfl⟩ := trodVars_none hV
 have k0 := h0
 have lt0 : ∀ x ∈ p0, x.block < W.heap.size := by obtain ⟨m, hm⟩ := k0; exact DataW.trod_lt m _ _ _ hm
 obtain ⟨cs0, hcs0, _⟩ := okWide_struct Tryd.underlying23 (hval 0 23 v0 rfl rfl)
 obtain ⟨x0, ⟨l0, hv0, hK0⟩, hV0⟩ := arg_struct opn23 cs0 hcs0 h0 (arg_weights hsz (j := 0) (t := 23) rfl rfl)
 obtain rfl := k23_open hK0
 clear hcs0
 subst hv0
 obtain ⟨a1, rfl, rfl, rfl, w1⟩ := open_int Tryd.underlying3 (hval 1 3 v1 rfl rfl) h1
 obtain ⟨a2, rfl, rfl, rfl, y2⟩ := open_string Tryd.underlying9 (hval 2 9 v2 rfl rfl) h2
 have hV2 : a2.size ≤ 140737488351232 := by
  have z := sized_string hsz (j := 2) (t := 9) rfl rfl
  rw [Array.length_toList] at z
  exact z
 clear hA0 hval0 hsz0 hsz
 obtain ⟨k, h⟩ := Pure.TrendRestores x0 a1 a2 hV0 w1 hV2
 refine (T.plenumlaw41_TrendRestores.calls k x0.f0 x0.f1 x0.f2 x0.f3 x0.f4 x0.f5 a1 a2 true W hGl  h).mono fun e W' ⟨he, bel0⟩ => ?_
 have bel : Below W.heap.size W W' := bel0
 subst he
 exact ⟨_, rfl, _, _, _, [], _, [], hW', trodAll_mk1 (shut_bool Tryd.underlying4 _), (trodAll_cons_mk (Below.trod laidOut (by kernel_rfl) (of_decide_eq_true (by kernel_rfl)) k0 bel lt0) (trodAll_cons_mk (shut_int Tryd.underlying3 w1) (trodAll_cons_mk (shut_string Tryd.underlying9 y2) trodAll_mk0))), rfl, bel.frame _, fun h => by cases h⟩
theorem over : Rows.trendRestoresRow.holds Tryd.pinned (OpenSpec.ofChange Rows.trendRestoresSpec) :=
 OpenClaim.holds_of_wide 6 Tryd.f6 rfl rfl rfl rfl rfl rfl rfl ⟨rfl, rfl, rfl, rfl, rfl⟩ rfl rfl rfl rfl rfl (by kernel_rfl) Tryd.func6 (by kernel_rfl)
  (of_decide_eq_true (by kernel_rfl)) (by unfold Func.isWrapper; first | (rw [if_pos (by decide +kernel)]; kernel_rfl) | (rw [if_neg (by decide +kernel)]; exact ⟨rfl, rfl⟩))
  (fun os started H enc _ => lifted os started H enc)
theorem card_holds : Rows.TrendRestoresCardSaid :=
 Claim7.holds_tied_plain_at .later [] [.data] true (true, "81b80afe1b1faae234c654a01e677b6be036c5dcdb6685c327ef4299df421bea") false
  over (fun _ h => by cases h) (by kernel_rfl) (fun _ h => by cases h) trendRestores_row_tie rfl ⟨rfl, rfl⟩ (by kernel_rfl) rfl
  (fun f fn hf hfn => by
   obtain rfl : f = 6 := Option.some.inj ((show Tryd.prog.funcNamed "plenum/plenumlaw41.TrendRestores" = some 6 by kernel_rfl).symm.trans hf) |>.symm
   obtain rfl : fn = Tryd.f6 := (Option.some.inj (Tryd.func6.symm.trans hfn)).symm
   exact ⟨by kernel_rfl, fun j t ht => by
    rw [Tryd.params6] at ht
    have ho : t = 3 ∨ t = 9 ∨ t = 23 := by
     rcases j with _ | _ | _ | j
     all_goals simp at ht
     all_goals subst ht; simp
    obtain rfl | rfl | rfl := ho
    ·exact (show Tryd.prog.wantsStandIn 3 = false by kernel_rfl)
    ·exact (show Tryd.prog.wantsStandIn 9 = false by kernel_rfl)
    ·exact (show Tryd.prog.wantsStandIn 23 = false by kernel_rfl)⟩)
  (by kernel_rfl)
#print axioms card_holds
end Go.Proofs.YtbccjcdmpiolpaaDoor.trendRestores
namespace Go.Proofs.YtbccjcdmpiolpaaDoor
theorem trendRestores_holds : Rows.TrendRestoresCardSaid := trendRestores.card_holds
end Go.Proofs.YtbccjcdmpiolpaaDoor
end
