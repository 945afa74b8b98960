/- TrendRulesCard: one part of the proof that the law answers true for every input, and that its arguments read afterwards as before. No condition. -/
import Derived.Test.YtbccjcdmpiolpaaDoorCRules5
import Derived.Outline
import Derived.Deep.OwnRows
import Derived.ProofKit
import Derived.Deep.Slices
import Derived.SizedLaws
import Derived.OpenShut
import Derived.DataReads
import Derived.SevenTiedAt
import Derived.WalkKit
import Derived.ShutString
import Derived.ChangeOld
import Derived.Below
import Derived.Test.YtbccjcdmpiolpaaDoorCards
import Derived.Test.YtbccjcdmpiolpaaDoorRows
import Derived.Test.YtbccjcdmpiolpaaDoorTie
section
namespace Go.Proofs.YtbccjcdmpiolpaaDoor.T
open Go.RowKit Go.Proofs.YtbccjcdmpiolpaaDoor.Pure Go.Proofs.YtbccjcdmpiolpaaDoorW.PrintWords Go.Proofs.YtbccjcdmpiolpaaDoorW.PrintLast Go.Proofs.YtbccjcdmpiolpaaDoorW.PrintMore
set_option linter.unusedVariables false
set_option linter.unusedSimpArgs false
attribute [local go_sem] max2_int min2_int max_two min_two
theorem ckA (w : World) (hG : Glob w) : Calls Tryd.prog 17 #[.agg #[.string sLog, .string sTemp, .int .i64 1, .int .i64 60, .int .i64 0, .int .i64 2], .agg #[.string sTemp, .int .i64 1, .int .i64 0, .string ⟨#[]⟩, .int .i64 0, .int .i64 0, .int .i64 0, .slice none 0 0, .int .i64 0, .int .i64 0, .int .i64 0, .int .i64 0]] w fun e w' => e = .returned (.int .i64 0) ∧ Below w.heap.size w w' :=
  trend_Check.calls 10 sLog sTemp 1 60 0 2 sTemp 1 0 ⟨#[]⟩ 0 0 0 none 0 [] 0 0 0 0 0 w hG (Kd.C_nil _ _) (Nat.le_refl _) ck1
theorem ckB (w : World) (hG : Glob w) : Calls Tryd.prog 17 #[.agg #[.string sLog, .string sTemp, .int .i64 1, .int .i64 60, .int .i64 0, .int .i64 2], .agg #[.string ⟨#[]⟩, .int .i64 0, .int .i64 0, .string ⟨#[]⟩, .int .i64 0, .int .i64 0, .int .i64 0, .slice none 0 0, .int .i64 0, .int .i64 0, .int .i64 0, .int .i64 0]] w fun e w' => e = .returned (.int .i64 3) ∧ Below w.heap.size w w' :=
  trend_Check.calls 10 sLog sTemp 1 60 0 2 ⟨#[]⟩ 0 0 ⟨#[]⟩ 0 0 0 none 0 [] 0 0 0 0 3 w hG (Kd.C_nil _ _) (Nat.le_refl _) ck2
theorem smA (A B : Option Addr) (c d : Nat) (w : World) (hG : Glob w) (h1 : Kd.C k44 w A 2 [aR2, aR3]) (h2 : 2 ≤ c) (h3 : Kd.C k44 w B 2 [aR2, aR3]) (h4 : 2 ≤ d) : Calls Tryd.prog 21 #[.slice A 2 c, .slice B 2 d] w fun e w' => e = .returned (.bool true) ∧ Drawn0 w w' :=
  plenumref41_Same.calls 10 A c [aR2, aR3] B d [aR2, aR3] true w hG h1 h2 h3 h4 sm1
theorem elemA {w : World} {A : Option Addr} (h : Kd.C k44 w A 3 [⟨1, 0, ⟨0, 0⟩, 0, 1⟩, aR2, aR3]) : (∃ ad, A = some ad) ∧ ∀ ad : Addr, A = some ad → w.cell? ad = some (.int .i64 1) ∧ w.cell? ⟨ad.block, ad.off + 1, none⟩ = some (.int .i64 0) ∧ w.cell? ⟨ad.block, ad.off + 2, none⟩ = some (.int .i64 0) ∧ w.cell? ⟨ad.block, ad.off + 3, none⟩ = some (.int .i64 0) ∧ w.cell? ⟨ad.block, ad.off + 4, none⟩ = some (.int .i64 0) ∧ w.cell? ⟨ad.block, ad.off + 5, none⟩ = some (.int .i64 1) ∧ w.cell? ⟨ad.block, ad.off + 6 + 1, none⟩ = some (.int .i64 180) := by
  obtain ⟨ad, ea, z0, z1, z2, z3, z4, z5⟩ := at_T44 h 0 (by decide) (by decide)
  obtain ⟨ad2, eb, y0, y1, y2, y3, y4, y5⟩ := at_T44 h 1 (by decide) (by decide)
  refine ⟨⟨ad, ea⟩, fun a e => ?_⟩
  rw [e] at ea eb
  injection ea with ea
  injection eb with eb
  subst ea eb
  exact ⟨z0, z1, z2, z3, z4, z5, y1⟩
theorem okaL0 : OkL aL0 := ⟨by decide, by decide, by decide, by decide, by decide, by decide, by decide, fun _ => by decide⟩
theorem okaL1 : OkL aL1 := ⟨by decide, by decide, by decide, by decide, by decide, by decide, by decide, fun _ => by decide⟩
theorem okaL2 : OkL aL2 := ⟨by decide, by decide, by decide, by decide, by decide, by decide, by decide, fun _ => by decide⟩
theorem okaK : OkL aK := ⟨by decide, by decide, by decide, by decide, by decide, by decide, by decide, fun _ => by decide⟩
theorem okR : ∀ x ∈ aL3.recs, Ok44 x := by
  intro x hx
  rcases List.mem_cons.1 hx with rfl | hx
  · exact ⟨by decide, by decide⟩
  rcases List.mem_cons.1 hx with rfl | hx
  · exact ⟨by decide, by decide⟩
  · cases hx
set_option maxHeartbeats 16000000 in
set_option maxRecDepth 100000 in
theorem awake_calls (w : World) (hG : Glob w) : Calls Tryd.prog 8 #[] w fun e w' => e = .returned (.bool true) ∧ Below w.heap.size w w' := by
  have H0 := Aside0.mk (show 0 < w.heap.size by obtain ⟨t, h⟩ := hG; exact blk_lt h)
  have HG := Aside0.mk hG
  have hu44 := Tryd.underlying44
  have hu30 := Tryd.underlying30
  clear hG
  go_enter Tryd.func8, Tryd.ntmps8
  go_wp2_with (first | ((with_reducible refine gate_dst (N := 1) rfl ?_); refine box_event ?hg (N := 1) ?hd (cs := #[.string ⟨#[]⟩, .string ⟨#[]⟩, .int .i64 0, .int .i64 0, .int .i64 0, .int .i64 0]) (t := 23) ?hr ?_; (case hd => rfl); (case hg => rfl); (case hr => first | (go_simp; done) | (go_simp; rfl)); intro gr hgz w1 hbox hb; have HR1 := Aside0.mk hbox; have HB1 := Aside0.mk hb; have HGR := Aside0.mk (show w.heap.size ≤ gr by rw [hgz]; exact Nat.le_refl _); clear hb hbox hgz) | (refine wpList_store_row rfl 23 (.tmp 1) (.tmp 15) rfl gr #[.string sLog, .string sTemp, .int .i64 1, .int .i64 60, .int .i64 0, .int .i64 2] rfl rfl 23 #[.string ⟨#[]⟩, .string ⟨#[]⟩, .int .i64 0, .int .i64 0, .int .i64 0, .int .i64 0] HR1.out (by kernel_rfl) rfl (by simp [Value.oneCell']) ?_; have HR2 := Aside0.mk (setRow_heap _ _ _ #[.string sLog, .string sTemp, .int .i64 1, .int .i64 60, .int .i64 0, .int .i64 2] _ _ HR1.out); have HB2 := Aside0.mk (below_setRow HB1.out HGR.out #[.string sLog, .string sTemp, .int .i64 1, .int .i64 60, .int .i64 0, .int .i64 2]); generalize w1.setRow gr #[.string sLog, .string sTemp, .int .i64 1, .int .i64 60, .int .i64 0, .int .i64 2] = w2 at HR2 HB2 ⊢; have x0 : w2.cell? ⟨gr, 0, none⟩ = some (.string sLog) := (blk_cell HR2.out 0).trans rfl; have x1 : w2.cell? ⟨gr, 1, none⟩ = some (.string sTemp) := (blk_cell HR2.out 1).trans rfl; have x2 : w2.cell? ⟨gr, 2, none⟩ = some (.int .i64 1) := (blk_cell HR2.out 2).trans rfl; have x3 : w2.cell? ⟨gr, 3, none⟩ = some (.int .i64 60) := (blk_cell HR2.out 3).trans rfl; have x4 : w2.cell? ⟨gr, 4, none⟩ = some (.int .i64 0) := (blk_cell HR2.out 4).trans rfl; have x5 : w2.cell? ⟨gr, 5, none⟩ = some (.int .i64 2) := (blk_cell HR2.out 5).trans rfl;  skip) | (go_at_call 10; (with_reducible refine (new_calls sLog sTemp 1 60 0 2 100 w2).mono ?_); rintro e w3 ⟨g, rfl, hi, hb⟩; have HI3 := Aside0.mk (show LogAt w.heap.size g aL0 w3 from hi.lower HB2.out.size); have HB3 := Aside0.mk (below_step HB2.out hb); have HR3 := Aside0.mk (blk_below HR2.out hb); clear x0 x1 x2 x3 x4 x5; have x0 : w3.cell? ⟨gr, 0, none⟩ = some (.string sLog) := (blk_cell HR3.out 0).trans rfl; have x1 : w3.cell? ⟨gr, 1, none⟩ = some (.string sTemp) := (blk_cell HR3.out 1).trans rfl; have x2 : w3.cell? ⟨gr, 2, none⟩ = some (.int .i64 1) := (blk_cell HR3.out 2).trans rfl; have x3 : w3.cell? ⟨gr, 3, none⟩ = some (.int .i64 60) := (blk_cell HR3.out 3).trans rfl; have x4 : w3.cell? ⟨gr, 4, none⟩ = some (.int .i64 0) := (blk_cell HR3.out 4).trans rfl; have x5 : w3.cell? ⟨gr, 5, none⟩ = some (.int .i64 2) := (blk_cell HR3.out 5).trans rfl;  clear hi hb))
  have HNE := Aside0.mk (show gr ≠ g by obtain ⟨v, r, f, h, _⟩ := HI3.out; exact blk_ne HR3.out h (by decide))
  go_wp2_with (first | (go_at_call 17; (with_reducible refine (ckA w3 (Glob.below HG.out HB3.out)).mono ?_); rintro e w4 ⟨rfl, hb⟩; have HI4 := Aside0.mk (HI3.out.below hb); have HB4 := Aside0.mk (below_step HB3.out hb); have HR4 := Aside0.mk (blk_below HR3.out hb); clear x0 x1 x2 x3 x4 x5; have x0 : w4.cell? ⟨gr, 0, none⟩ = some (.string sLog) := (blk_cell HR4.out 0).trans rfl; have x1 : w4.cell? ⟨gr, 1, none⟩ = some (.string sTemp) := (blk_cell HR4.out 1).trans rfl; have x2 : w4.cell? ⟨gr, 2, none⟩ = some (.int .i64 1) := (blk_cell HR4.out 2).trans rfl; have x3 : w4.cell? ⟨gr, 3, none⟩ = some (.int .i64 60) := (blk_cell HR4.out 3).trans rfl; have x4 : w4.cell? ⟨gr, 4, none⟩ = some (.int .i64 0) := (blk_cell HR4.out 4).trans rfl; have x5 : w4.cell? ⟨gr, 5, none⟩ = some (.int .i64 2) := (blk_cell HR4.out 5).trans rfl;  clear hb) | (go_at_call 17; (with_reducible refine (ckB w4 (Glob.below HG.out HB4.out)).mono ?_); rintro e w5 ⟨rfl, hb⟩; have HI5 := Aside0.mk (HI4.out.below hb); have HB5 := Aside0.mk (below_step HB4.out hb); have HR5 := Aside0.mk (blk_below HR4.out hb); clear x0 x1 x2 x3 x4 x5; have x0 : w5.cell? ⟨gr, 0, none⟩ = some (.string sLog) := (blk_cell HR5.out 0).trans rfl; have x1 : w5.cell? ⟨gr, 1, none⟩ = some (.string sTemp) := (blk_cell HR5.out 1).trans rfl; have x2 : w5.cell? ⟨gr, 2, none⟩ = some (.int .i64 1) := (blk_cell HR5.out 2).trans rfl; have x3 : w5.cell? ⟨gr, 3, none⟩ = some (.int .i64 60) := (blk_cell HR5.out 3).trans rfl; have x4 : w5.cell? ⟨gr, 4, none⟩ = some (.int .i64 0) := (blk_cell HR5.out 4).trans rfl; have x5 : w5.cell? ⟨gr, 5, none⟩ = some (.int .i64 2) := (blk_cell HR5.out 5).trans rfl;  clear hb) | (go_at_call 23; (with_reducible refine (plenumlaw41_reading.calls 110 20000 1 20000 0 110 w5 (Glob.below HG.out HB5.out) rfl).mono ?_); rintro e w6 ⟨rfl, hb⟩; have HI6 := Aside0.mk (HI5.out.below hb); have HB6 := Aside0.mk (below_step HB5.out hb); have HR6 := Aside0.mk (blk_below HR5.out hb); clear x0 x1 x2 x3 x4 x5; have x0 : w6.cell? ⟨gr, 0, none⟩ = some (.string sLog) := (blk_cell HR6.out 0).trans rfl; have x1 : w6.cell? ⟨gr, 1, none⟩ = some (.string sTemp) := (blk_cell HR6.out 1).trans rfl; have x2 : w6.cell? ⟨gr, 2, none⟩ = some (.int .i64 1) := (blk_cell HR6.out 2).trans rfl; have x3 : w6.cell? ⟨gr, 3, none⟩ = some (.int .i64 60) := (blk_cell HR6.out 3).trans rfl; have x4 : w6.cell? ⟨gr, 4, none⟩ = some (.int .i64 0) := (blk_cell HR6.out 4).trans rfl; have x5 : w6.cell? ⟨gr, 5, none⟩ = some (.int .i64 2) := (blk_cell HR6.out 5).trans rfl;  clear hb) | (go_at_call 15; (with_reducible refine (obs_calls w.heap.size g aL0 1 20000 0 110 w6 HI6.out HB6.out.size okaL0 (by decide)).mono ?_); rintro e w7 ⟨d, he, hi, hb, hk⟩; rw [ob1 d] at he hi; replace he : e = .returned (.tuple #[.int .i64 0, .int .i64 0]) := he; subst he; have HR7 := Aside0.mk (hk.keep _ _ _ HR6.out (by decide) HNE.out); have HI7 := Aside0.mk (show LogAt w.heap.size g aL1 w7 from hi); have HB7 := Aside0.mk (HB6.out.trans hb); clear x0 x1 x2 x3 x4 x5; have x0 : w7.cell? ⟨gr, 0, none⟩ = some (.string sLog) := (blk_cell HR7.out 0).trans rfl; have x1 : w7.cell? ⟨gr, 1, none⟩ = some (.string sTemp) := (blk_cell HR7.out 1).trans rfl; have x2 : w7.cell? ⟨gr, 2, none⟩ = some (.int .i64 1) := (blk_cell HR7.out 2).trans rfl; have x3 : w7.cell? ⟨gr, 3, none⟩ = some (.int .i64 60) := (blk_cell HR7.out 3).trans rfl; have x4 : w7.cell? ⟨gr, 4, none⟩ = some (.int .i64 0) := (blk_cell HR7.out 4).trans rfl; have x5 : w7.cell? ⟨gr, 5, none⟩ = some (.int .i64 2) := (blk_cell HR7.out 5).trans rfl;  clear hi hb hk) | (go_at_call 23; (with_reducible refine (plenumlaw41_reading.calls 200 21000 1 21000 0 200 w7 (Glob.below HG.out HB7.out) rfl).mono ?_); rintro e w8 ⟨rfl, hb⟩; have HI8 := Aside0.mk (HI7.out.below hb); have HB8 := Aside0.mk (below_step HB7.out hb); have HR8 := Aside0.mk (blk_below HR7.out hb); clear x0 x1 x2 x3 x4 x5; have x0 : w8.cell? ⟨gr, 0, none⟩ = some (.string sLog) := (blk_cell HR8.out 0).trans rfl; have x1 : w8.cell? ⟨gr, 1, none⟩ = some (.string sTemp) := (blk_cell HR8.out 1).trans rfl; have x2 : w8.cell? ⟨gr, 2, none⟩ = some (.int .i64 1) := (blk_cell HR8.out 2).trans rfl; have x3 : w8.cell? ⟨gr, 3, none⟩ = some (.int .i64 60) := (blk_cell HR8.out 3).trans rfl; have x4 : w8.cell? ⟨gr, 4, none⟩ = some (.int .i64 0) := (blk_cell HR8.out 4).trans rfl; have x5 : w8.cell? ⟨gr, 5, none⟩ = some (.int .i64 2) := (blk_cell HR8.out 5).trans rfl;  clear hb) | (go_at_call 15; (with_reducible refine (obs_calls w.heap.size g aL1 1 21000 0 200 w8 HI8.out HB8.out.size okaL1 (by decide)).mono ?_); rintro e w9 ⟨d, he, hi, hb, hk⟩; rw [ob2 d] at he hi; replace he : e = .returned (.tuple #[.int .i64 2, .int .i64 0]) := he; subst he; have HR9 := Aside0.mk (hk.keep _ _ _ HR8.out (by decide) HNE.out); have HI9 := Aside0.mk (show LogAt w.heap.size g aL2 w9 from hi); have HB9 := Aside0.mk (HB8.out.trans hb); clear x0 x1 x2 x3 x4 x5; have x0 : w9.cell? ⟨gr, 0, none⟩ = some (.string sLog) := (blk_cell HR9.out 0).trans rfl; have x1 : w9.cell? ⟨gr, 1, none⟩ = some (.string sTemp) := (blk_cell HR9.out 1).trans rfl; have x2 : w9.cell? ⟨gr, 2, none⟩ = some (.int .i64 1) := (blk_cell HR9.out 2).trans rfl; have x3 : w9.cell? ⟨gr, 3, none⟩ = some (.int .i64 60) := (blk_cell HR9.out 3).trans rfl; have x4 : w9.cell? ⟨gr, 4, none⟩ = some (.int .i64 0) := (blk_cell HR9.out 4).trans rfl; have x5 : w9.cell? ⟨gr, 5, none⟩ = some (.int .i64 2) := (blk_cell HR9.out 5).trans rfl;  clear hi hb hk) | (go_at_call 23; (with_reducible refine (plenumlaw41_reading.calls 240 22000 1 22000 0 240 w9 (Glob.below HG.out HB9.out) rfl).mono ?_); rintro e w10 ⟨rfl, hb⟩; have HI10 := Aside0.mk (HI9.out.below hb); have HB10 := Aside0.mk (below_step HB9.out hb); have HR10 := Aside0.mk (blk_below HR9.out hb); clear x0 x1 x2 x3 x4 x5; have x0 : w10.cell? ⟨gr, 0, none⟩ = some (.string sLog) := (blk_cell HR10.out 0).trans rfl; have x1 : w10.cell? ⟨gr, 1, none⟩ = some (.string sTemp) := (blk_cell HR10.out 1).trans rfl; have x2 : w10.cell? ⟨gr, 2, none⟩ = some (.int .i64 1) := (blk_cell HR10.out 2).trans rfl; have x3 : w10.cell? ⟨gr, 3, none⟩ = some (.int .i64 60) := (blk_cell HR10.out 3).trans rfl; have x4 : w10.cell? ⟨gr, 4, none⟩ = some (.int .i64 0) := (blk_cell HR10.out 4).trans rfl; have x5 : w10.cell? ⟨gr, 5, none⟩ = some (.int .i64 2) := (blk_cell HR10.out 5).trans rfl;  clear hb) | (go_at_call 15; (with_reducible refine (obs_calls w.heap.size g aL2 1 22000 0 240 w10 HI10.out HB10.out.size okaL2 (by decide)).mono ?_); rintro e w11 ⟨d, he, hi, hb, hk⟩; rw [ob3 d] at he hi; replace he : e = .returned (.tuple #[.int .i64 1, .int .i64 0]) := he; subst he; have HR11 := Aside0.mk (hk.keep _ _ _ HR10.out (by decide) HNE.out); have HI11 := Aside0.mk (show LogAt w.heap.size g aL3 w11 from hi); have HB11 := Aside0.mk (HB10.out.trans hb); clear x0 x1 x2 x3 x4 x5; have x0 : w11.cell? ⟨gr, 0, none⟩ = some (.string sLog) := (blk_cell HR11.out 0).trans rfl; have x1 : w11.cell? ⟨gr, 1, none⟩ = some (.string sTemp) := (blk_cell HR11.out 1).trans rfl; have x2 : w11.cell? ⟨gr, 2, none⟩ = some (.int .i64 1) := (blk_cell HR11.out 2).trans rfl; have x3 : w11.cell? ⟨gr, 3, none⟩ = some (.int .i64 60) := (blk_cell HR11.out 3).trans rfl; have x4 : w11.cell? ⟨gr, 4, none⟩ = some (.int .i64 0) := (blk_cell HR11.out 4).trans rfl; have x5 : w11.cell? ⟨gr, 5, none⟩ = some (.int .i64 2) := (blk_cell HR11.out 5).trans rfl;  clear hi hb hk) | (go_at_call 13; (with_reducible refine (after_calls w.heap.size g aL3 0 10 w11 HI11.out (by decide) (by decide) (by decide)).mono ?_); rintro e w12 hp; rw [af1] at hp; obtain ⟨vm, rfl, hr, hb⟩ := hp; obtain ⟨Am, cm, em, hcm, hCm⟩ := Kd.R_reads hr; have em2 : vm = .slice Am 3 cm := em; clear em; subst em2; have HM12 := Aside0.mk hr; have HI12 := Aside0.mk (HI11.out.below hb); have HB12 := Aside0.mk (below_step HB11.out hb); have HR12 := Aside0.mk (blk_below HR11.out hb); clear x0 x1 x2 x3 x4 x5; have x0 : w12.cell? ⟨gr, 0, none⟩ = some (.string sLog) := (blk_cell HR12.out 0).trans rfl; have x1 : w12.cell? ⟨gr, 1, none⟩ = some (.string sTemp) := (blk_cell HR12.out 1).trans rfl; have x2 : w12.cell? ⟨gr, 2, none⟩ = some (.int .i64 1) := (blk_cell HR12.out 2).trans rfl; have x3 : w12.cell? ⟨gr, 3, none⟩ = some (.int .i64 60) := (blk_cell HR12.out 3).trans rfl; have x4 : w12.cell? ⟨gr, 4, none⟩ = some (.int .i64 0) := (blk_cell HR12.out 4).trans rfl; have x5 : w12.cell? ⟨gr, 5, none⟩ = some (.int .i64 2) := (blk_cell HR12.out 5).trans rfl;  clear hb hr hcm hCm))
  obtain ⟨sv, HSV⟩ : ∃ s, Aside0 (strOfNums (saveB 3 240 [aR2, aR3]) = s) := ⟨_, ⟨rfl⟩⟩
  have HRS := Aside0.mk (show restS sv 2 = some (3, 240, [aR2, aR3]) by rw [← HSV.out]; exact rs1)
  have HSZ := Aside0.mk (show sv.size ≤ 140737488355327 by rw [← HSV.out]; rw [strOfNums_size]; exact Nat.le_trans (show (saveB 3 240 [aR2, aR3]).length ≤ 1000 from Nat.le_of_ble_eq_true (by kernel_rfl)) (by decide))
  have HI13 := Aside0.mk HI12.out.drew
  have HB13 := Aside0.mk (below_drew1 HB12.out)
  have HR13 := Aside0.mk (blk_drew HR12.out)
  have HM13 := Aside0.mk (Kd.R_drew HM12.out)
  refine start_ (n := 9) (S := fun w' => w'.cell? ⟨gr, 0, none⟩ = some (.string sLog) ∧ w'.cell? ⟨gr, 1, none⟩ = some (.string sTemp) ∧ w'.cell? ⟨gr, 2, none⟩ = some (.int .i64 1) ∧ w'.cell? ⟨gr, 3, none⟩ = some (.int .i64 60) ∧ w'.cell? ⟨gr, 4, none⟩ = some (.int .i64 0) ∧ w'.cell? ⟨gr, 5, none⟩ = some (.int .i64 2)) (ds := []) #[Yn, Yn, Yn, Yn, Yn, Yn, Yn, Yn, Yn] (by kernel_rfl) rfl rfl ⟨x0, x1, x2, x3, x4, x5⟩ (fun hHeld => ?_)
  generalize w12.drew = w13 at HI13 HB13 HR13 HM13 hHeld ⊢
  refine pure_ (i := 1) (N := some 57) (v := ?_) (a' := ?_) #[Yn, Y, Yn, Yn, Yn, Yn, Yn, Yn, Yn] rfl rfl (by kernel_rfl) (fun _ _ _ h => h) (Or.inl ⟨by rfl, ?_⟩) ?_ ?_
  rotate_left
  · intro w'
    go_simp
    with_reducible rfl
  rotate_left
  · simp only [Act.put, List.setIfInBounds_toArray, List.set_cons_zero, List.set_cons_succ, i64_w, i32_w]
    rfl
  refine take_ (i := 0) (N := some 56) (v := ?_) (a' := ?_) #[Y, Y, Yn, Yn, Yn, Yn, Yn, Yn, Yn] rfl rfl (by kernel_rfl) (fun _ _ _ h => h) (Or.inl ⟨by rfl, ?_⟩) hHeld ?_ ?_
  rotate_left
  · rintro w' ⟨s0, s1, s2, s3, s4, s5⟩
    go_simp
    with_reducible rfl
  rotate_left
  · simp only [Act.put, List.setIfInBounds_toArray, List.set_cons_zero, List.set_cons_succ, i64_w, i32_w]
    rfl
  refine one_ (i := 2) (N := some 58) #[Y, Y, Y, Yn, Yn, Yn, Yn, Yn, Yn] rfl rfl (by kernel_rfl) (by decide) (fun K hK => ?_)
  refine goes_ Tryd.func22 (by kernel_rfl) rfl #[.pointer (some ⟨g, 0, none⟩)] (by rfl) rfl rfl (by simp only [List.map_toArray, List.map_cons, List.map_nil]; rfl) ?_
  with_reducible refine (save_calls w.heap.size g aL3 w13 (Glob.below HG.out HB13.out) HI13.out (Nat.lt_of_lt_of_le H0.out HB13.out.size) (by decide) okR).mono ?_
  rintro e w14 ⟨rfl, hb⟩
  refine ⟨_, rfl, ?_⟩
  rw [show strOfNums (saveB aL3.total aL3.now aL3.recs) = sv from HSV.out]
  have HI14 := Aside0.mk (HI13.out.below hb)
  have HB14 := Aside0.mk (below_step HB13.out hb)
  have HR14 := Aside0.mk (blk_below HR13.out hb)
  have HM14 := Aside0.mk (Kd.R_below HM13.out hb)
  clear hb
  refine hK.out _ _ ⟨(blk_cell HR14.out 0).trans rfl, (blk_cell HR14.out 1).trans rfl, (blk_cell HR14.out 2).trans rfl, (blk_cell HR14.out 3).trans rfl, (blk_cell HR14.out 4).trans rfl, (blk_cell HR14.out 5).trans rfl⟩ (fun hHeld => ?_)
  clear hK K
  refine norm_ (a' := ?_) ?_ ?_
  rotate_left
  · show Act.put _ (some 58) _ = _
    simp only [Act.put, List.setIfInBounds_toArray, List.set_cons_zero, List.set_cons_succ, i64_w, i32_w]
    rfl
  refine one_ (i := 3) (N := some 59) #[Y, Y, Y, Y, Yn, Yn, Yn, Yn, Yn] rfl rfl (by kernel_rfl) (by decide) (fun K hK => ?_)
  refine goes_ Tryd.func19 (by kernel_rfl) rfl #[.agg #[.string sLog, .string sTemp, .int .i64 1, .int .i64 60, .int .i64 0, .int .i64 2], .string sv] (by rfl) rfl rfl (by simp only [List.map_toArray, List.map_cons, List.map_nil]; rfl) ?_
  with_reducible refine (restore_calls sLog sTemp 1 60 0 2 sv w14 (Glob.below HG.out HB14.out) HSZ.out).mono ?_
  rintro e w15 hp
  rw [HRS.out] at hp
  obtain ⟨hb, g2, rfl, hk⟩ := hp
  refine ⟨_, rfl, ?_⟩
  have HK15 := Aside0.mk (show LogAt w14.heap.size g2 aK w15 from hk)
  have HBB15 := Aside0.mk hb
  have HR15 := Aside0.mk (blk_below HR14.out hb)
  clear hb hk
  refine hK.out _ _ ⟨(blk_cell HR15.out 0).trans rfl, (blk_cell HR15.out 1).trans rfl, (blk_cell HR15.out 2).trans rfl, (blk_cell HR15.out 3).trans rfl, (blk_cell HR15.out 4).trans rfl, (blk_cell HR15.out 5).trans rfl⟩ (fun hHeld => ?_)
  clear hK K
  refine norm_ (a' := ?_) ?_ ?_
  rotate_left
  · show Act.put _ (some 59) _ = _
    simp only [Act.put, List.setIfInBounds_toArray, List.set_cons_zero, List.set_cons_succ, i64_w, i32_w]
    rfl
  refine pure_ (i := 4) (N := some 55) (v := ?_) (a' := ?_) #[Y, Y, Y, Y, Y, Yn, Yn, Yn, Yn] rfl rfl (by kernel_rfl) (fun _ _ _ h => h) (Or.inl ⟨by rfl, ?_⟩) ?_ ?_
  rotate_left
  · intro w'
    go_simp
    with_reducible rfl
  rotate_left
  · simp only [Act.put, List.setIfInBounds_toArray, List.set_cons_zero, List.set_cons_succ, i64_w, i32_w]
    rfl
  refine pure_ (i := 5) (N := some 60) (v := ?_) (a' := ?_) #[Y, Y, Y, Y, Y, Y, Yn, Yn, Yn] rfl rfl (by kernel_rfl) (fun _ _ _ h => h) (Or.inl ⟨by rfl, ?_⟩) ?_ ?_
  rotate_left
  · intro w'
    go_simp
    with_reducible rfl
  rotate_left
  · simp only [Act.put, List.setIfInBounds_toArray, List.set_cons_zero, List.set_cons_succ, i64_w, i32_w]
    rfl
  refine pure_ (i := 6) (N := some 61) (v := ?_) (a' := ?_) #[Y, Y, Y, Y, Y, Y, Y, Yn, Yn] rfl rfl (by kernel_rfl) (fun _ _ _ h => h) (Or.inl ⟨by rfl, ?_⟩) ?_ ?_
  rotate_left
  · intro w'
    go_simp
    with_reducible rfl
  rotate_left
  · simp only [Act.put, List.setIfInBounds_toArray, List.set_cons_zero, List.set_cons_succ, i64_w, i32_w]
    rfl
  refine pure_ (i := 7) (N := some 11) (v := ?_) (a' := ?_) #[Y, Y, Y, Y, Y, Y, Y, Y, Yn] rfl rfl (by kernel_rfl) (fun _ _ _ h => h) (Or.inl ⟨by rfl, ?_⟩) ?_ ?_
  rotate_left
  · intro w'
    go_simp
    with_reducible rfl
  rotate_left
  · simp only [Act.put, List.setIfInBounds_toArray, List.set_cons_zero, List.set_cons_succ, i64_w, i32_w]
    rfl
  refine pure_ (i := 8) (N := some 12) (v := ?_) (a' := ?_) #[Y, Y, Y, Y, Y, Y, Y, Y, Y] rfl rfl (by kernel_rfl) (fun _ _ _ h => h) (Or.inl ⟨by rfl, ?_⟩) ?_ ?_
  rotate_left
  · intro w'
    go_simp
    with_reducible rfl
  rotate_left
  · simp only [Act.put, List.setIfInBounds_toArray, List.set_cons_zero, List.set_cons_succ, i64_w, i32_w]
    rfl
  refine done_ (by kernel_rfl) ?_
  clear x0 x1 x2 x3 x4 x5 hHeld
  go_wp2_with (go_at_call 16; (with_reducible refine (tick_calls w14.heap.size g2 aK 500 w15 HK15.out HBB15.out.size okaK (by decide)).mono ?_); rintro e w16 ⟨he, hi, hb, hk⟩; rw [tk1] at he hi; replace he : e = .returned (.tuple #[.int .i64 0, .int .i64 0]) := he; subst he; have HK16 := Aside0.mk (show LogAt w14.heap.size g2 aK2 w16 from hi); have HBB16 := Aside0.mk (HBB15.out.trans hb); have HI16 := Aside0.mk (HI14.out.below HBB16.out); have HM16 := Aside0.mk (Kd.R_below HM14.out HBB16.out); clear hi hb hk; obtain ⟨_, _, hCm⟩ := Kd.R_reads' HM16.out; obtain ⟨⟨ad, ea⟩, hz⟩ := elemA hCm; subst ea; obtain ⟨z0, z1, z2, z3, z4, z5, y1⟩ := hz ad rfl; clear hz; clear hCm)
  go_wp2_with (first | (go_at_call 12; (with_reducible refine (total_calls w.heap.size g aL3 w16 HI16.out).mono ?_); rintro e wq ⟨he, rfl⟩; replace he : e = .returned (.int .i64 3) := he; subst he) | (go_at_call 24; (with_reducible refine (trigE_calls w.heap.size g aL3 300 _ HI16.out (by decide) (by decide)).mono ?_); rintro e wq2 ⟨rfl, rfl⟩) | (go_at_call 14; (with_reducible refine (records_calls w14.heap.size g2 aK2 _ HK16.out (by decide)).mono ?_); rintro e w17 ⟨v17, rfl, hr, hb⟩; obtain ⟨A17, c17, e17, hc17, hC17⟩ := Kd.R_reads hr; have e17b : v17 = .slice A17 2 c17 := e17; clear e17; subst e17b; have HV17 := Aside0.mk hr; have HI17 := Aside0.mk (HI16.out.below hb); have HBB17 := Aside0.mk (below_step HBB16.out hb); clear hb hr hc17 hC17) | (go_at_call 14; (with_reducible refine (records_calls w.heap.size g aL3 w17 HI17.out (by decide)).mono ?_); rintro e w18 ⟨v18, rfl, hr, hb⟩; obtain ⟨A18, c18, e18, hc18, hC18⟩ := Kd.R_reads hr; have e18b : v18 = .slice A18 2 c18 := e18; clear e18; subst e18b; have HV18 := Aside0.mk hr; have HV17b := Aside0.mk (Kd.R_below HV17.out hb); have HBB18 := Aside0.mk (below_step HBB17.out hb); have HC1 := Aside0.mk (show Kd.C k44 w18 A17 2 [aR2, aR3] from (Kd.R_reads' HV17b.out).2.2); have HC2 := Aside0.mk (show Kd.C k44 w18 A18 2 [aR2, aR3] from (Kd.R_reads' HV18.out).2.2); have HC3 := Aside0.mk (show 2 ≤ c17 from (Kd.R_reads' HV17b.out).2.1); have HC4 := Aside0.mk (show 2 ≤ c18 from (Kd.R_reads' HV18.out).2.1); clear hb hr hc18 hC18) | (go_at_call 21; (with_reducible refine (smA A17 A18 c17 c18 w18 (Glob.below HG.out (below_step HB14.out HBB18.out)) HC1.out HC3.out HC2.out HC4.out).mono ?_); rintro e w19 ⟨rfl, nd, rfl⟩))
  go_ret
  exact ⟨rfl, by have := below_step HB14.out HBB18.out; exact pw_below_drewN this nd⟩
def plenumlaw41_awake.f : Option (Bool) := some true
theorem plenumlaw41_awake.calls (r : Bool) (w : World) (hG : Glob w) (h : plenumlaw41_awake.f = some r) :
    Calls Tryd.prog 8 #[] w fun e w' => e = .returned (.bool r) ∧ Below w.heap.size w w' := by
  injection h with h
  subst h
  exact awake_calls w hG
end Go.Proofs.YtbccjcdmpiolpaaDoor.T
end
section
namespace Go.Proofs.YtbccjcdmpiolpaaDoor.T
open Go.RowKit Go.Proofs.YtbccjcdmpiolpaaDoorW.PrintWords Go.Proofs.YtbccjcdmpiolpaaDoorW.PrintLast Go.Proofs.YtbccjcdmpiolpaaDoorW.PrintMore
attribute [local go_sem] max2_int min2_int max_two min_two max_three min_three max_four min_four
set_option linter.unusedVariables false
set_option linter.unusedSimpArgs false
def plenumlaw41_TrendRules.j0 : Nat → Bool → ByteArray → ByteArray → Int → Int → Int → Int → ByteArray → Int → Int → ByteArray → Int → Int → Int → List ByteArray → Int → Int → Int → Int → Option (Bool)
  | 0, _, _, _, _, _, _, _, _, _, _, _, _, _, _, _, _, _, _, _ => none
  | k + 1, x16, x170000, x170001, x170002, x170003, x170004, x170005, x171000, x171001, x171002, x171003, x171004, x171005, x171006, x171007, x171008, x171009, x171010, x171011 => if x16 = true then (some true) else ((trend_Check.f k x170000 x170001 x170002 x170003 x170004 x170005 x171000 x171001 x171002 x171003 x171004 x171005 x171006 x171007 x171008 x171009 x171010 x171011).bind fun t172 => ((plenumref41_Check.f k x170000 x170001 x170002 x170003 x170004 x170005 x171000 x171001 x171002 x171003 x171004 x171005 x171006 x171007 x171008 x171009 x171010 x171011).bind fun t173 => (some (t172 == t173))))
def plenumlaw41_TrendRules.f (k : Nat) (a0_0 : ByteArray) (a0_1 : ByteArray) (a0_2 : Int) (a0_3 : Int) (a0_4 : Int) (a0_5 : Int) (a1_0 : ByteArray) (a1_1 : Int) (a1_2 : Int) (a1_3 : ByteArray) (a1_4 : Int) (a1_5 : Int) (a1_6 : Int) (l1_7 : List ByteArray) (a1_8 : Int) (a1_9 : Int) (a1_10 : Int) (a1_11 : Int) : Option (Bool) := (plenumlaw41_awake.f).bind fun t171 => (if t171 = true then (if (a0_0.size : Int) > 100 then (plenumlaw41_TrendRules.j0 k true a0_0 a0_1 a0_2 a0_3 a0_4 a0_5 a1_0 a1_1 a1_2 a1_3 a1_4 a1_5 a1_6 l1_7 a1_8 a1_9 a1_10 a1_11) else (plenumlaw41_TrendRules.j0 k (decide ((a0_1.size : Int) > 100)) a0_0 a0_1 a0_2 a0_3 a0_4 a0_5 a1_0 a1_1 a1_2 a1_3 a1_4 a1_5 a1_6 l1_7 a1_8 a1_9 a1_10 a1_11)) else (none))
def plenumlaw41_TrendRules.T5 : Bool × List (List Nat × List Nat) := (true, [([], []), ([], []), ([0, 1], [0, 1]), ([], []), ([], []), ([3, 4, 2], [3, 4]), ([2, 5], [2, 5]), ([6, 5, 0, 1, 2, 3, 4, 5, 6], [6])])
def plenumlaw41_TrendRules.B5 : List Nat := [0, 0, 3, 0, 0, 31, 63, 127]
theorem plenumlaw41_TrendRules.tab5 : rtab .any (opsOf Tryd.f5 5) = plenumlaw41_TrendRules.T5 := by kernel_rfl
theorem plenumlaw41_TrendRules.bits5 : waitsOk plenumlaw41_TrendRules.T5.2 plenumlaw41_TrendRules.B5 = true := by kernel_rfl
set_option maxHeartbeats 8000000 in
set_option maxRecDepth 100000 in
theorem plenumlaw41_TrendRules.calls (k : Nat) (a0_0 : ByteArray) (a0_1 : ByteArray) (a0_2 : Int) (a0_3 : Int) (a0_4 : Int) (a0_5 : Int) (a1_0 : ByteArray) (a1_1 : Int) (a1_2 : Int) (a1_3 : ByteArray) (a1_4 : Int) (a1_5 : Int) (a1_6 : Int) (A1_7 : Option Addr) (c1_7 : Nat) (l1_7 : List ByteArray) (a1_8 : Int) (a1_9 : Int) (a1_10 : Int) (a1_11 : Int) (r : Bool) (w : World) (hG : Glob w) (hr1_7 : Kd.C Kd.string w A1_7 l1_7.length l1_7) (hc1_7 : l1_7.length ≤ c1_7) (h : plenumlaw41_TrendRules.f k a0_0 a0_1 a0_2 a0_3 a0_4 a0_5 a1_0 a1_1 a1_2 a1_3 a1_4 a1_5 a1_6 l1_7 a1_8 a1_9 a1_10 a1_11 = some r) :
    Calls Tryd.prog 5 #[.agg #[.string a0_0, .string a0_1, .int .i64 a0_2, .int .i64 a0_3, .int .i64 a0_4, .int .i64 a0_5], .agg #[.string a1_0, .int .i64 a1_1, .int .i64 a1_2, .string a1_3, .int .i64 a1_4, .int .i64 a1_5, .int .i64 a1_6, .slice A1_7 l1_7.length c1_7, .int .i64 a1_8, .int .i64 a1_9, .int .i64 a1_10, .int .i64 a1_11]] w fun e w' => e = .returned (.bool r) ∧ Below w.heap.size w w' := by
  have hu23 := Tryd.underlying23
  have hu51 := Tryd.underlying51
  have HG := Aside0.mk hG
  clear hG
  have HR1_7 := Aside0.mk hr1_7
  have HC1_7 := Aside0.mk hc1_7
  clear hr1_7 hc1_7
  have HB := Aside0.mk (Below.refl w.heap.size w)
  have H : ((plenumlaw41_awake.f).bind fun t171 => (if t171 = true then (if (a0_0.size : Int) > 100 then (plenumlaw41_TrendRules.j0 k true a0_0 a0_1 a0_2 a0_3 a0_4 a0_5 a1_0 a1_1 a1_2 a1_3 a1_4 a1_5 a1_6 l1_7 a1_8 a1_9 a1_10 a1_11) else (plenumlaw41_TrendRules.j0 k (decide ((a0_1.size : Int) > 100)) a0_0 a0_1 a0_2 a0_3 a0_4 a0_5 a1_0 a1_1 a1_2 a1_3 a1_4 a1_5 a1_6 l1_7 a1_8 a1_9 a1_10 a1_11)) else (none))) = some r := h
  clear h
  replace H := Option.bind_eq_some_iff.mp H
  obtain ⟨t171, A30, H⟩ := H
  replace H : (if t171 = true then (if (a0_0.size : Int) > 100 then (plenumlaw41_TrendRules.j0 k true a0_0 a0_1 a0_2 a0_3 a0_4 a0_5 a1_0 a1_1 a1_2 a1_3 a1_4 a1_5 a1_6 l1_7 a1_8 a1_9 a1_10 a1_11) else (plenumlaw41_TrendRules.j0 k (decide ((a0_1.size : Int) > 100)) a0_0 a0_1 a0_2 a0_3 a0_4 a0_5 a1_0 a1_1 a1_2 a1_3 a1_4 a1_5 a1_6 l1_7 a1_8 a1_9 a1_10 a1_11)) else (none)) = some r := H
  have A3 := Aside0.mk A30
  clear A30
  by_cases c4 : t171 = true
  · subst c4
    have H1 : (if (a0_0.size : Int) > 100 then (plenumlaw41_TrendRules.j0 k true a0_0 a0_1 a0_2 a0_3 a0_4 a0_5 a1_0 a1_1 a1_2 a1_3 a1_4 a1_5 a1_6 l1_7 a1_8 a1_9 a1_10 a1_11) else (plenumlaw41_TrendRules.j0 k (decide ((a0_1.size : Int) > 100)) a0_0 a0_1 a0_2 a0_3 a0_4 a0_5 a1_0 a1_1 a1_2 a1_3 a1_4 a1_5 a1_6 l1_7 a1_8 a1_9 a1_10 a1_11)) = some r := by rw [if_pos rfl] at H; exact H
    clear H
    have H := H1
    clear H1
    have HC5 := Aside0.mk H
    clear H
    go_enter Tryd.func5, Tryd.ntmps5
    go_upto_region 3 with (first | ((with_reducible refine gate_dst (N := 2) rfl ?_); (try (refine gate_guard (by rfl) ?_; dsimp only)); refine box_event ?hg (N := 2) ?hd (cs := #[.string a0_0, .string a0_1, .int .i64 a0_2, .int .i64 a0_3, .int .i64 a0_4, .int .i64 a0_5]) (t := 23) ?hr ?_; (case hd => rfl); (case hg => rfl); (case hr => first | (go_simp; done) | (go_simp; rfl)); intro gb169 hg w6 hbox hb; have n0_ := Aside0.mk (below_step (by repeat (first | (with_reducible first | exact HB.out | apply below_alloc | apply pw_below_drewN | apply below_drew1) | exact HB.out)) hb); have n1_ := Aside0.mk (hbox); have n2_ := Aside0.mk ((by rw [hg]; exact (below_size (by repeat (first | (with_reducible first | exact HB.out | apply below_alloc | apply pw_below_drewN | apply below_drew1) | exact HB.out))) : w.heap.size ≤ gb169)); have n3_ := Aside0.mk ((by rw [hg]; exact (below_size (by repeat (first | (with_reducible first | exact HB.out | apply below_alloc | apply pw_below_drewN | apply below_drew1) | exact HB.out))) : w.heap.size ≤ gb169)); clear HB; have HB := n0_; have BK169 := n1_; have GW169 := n2_; have GE169 := n3_; clear n0_ n1_ n2_ n3_; clear hb hbox hg) | ((with_reducible refine gate_dst (N := 3) rfl ?_); (try (refine gate_guard (by rfl) ?_; dsimp only)); refine box_event ?hg (N := 3) ?hd (cs := #[.string a1_0, .int .i64 a1_1, .int .i64 a1_2, .string a1_3, .int .i64 a1_4, .int .i64 a1_5, .int .i64 a1_6, .slice A1_7 l1_7.length c1_7, .int .i64 a1_8, .int .i64 a1_9, .int .i64 a1_10, .int .i64 a1_11]) (t := 51) ?hr ?_; (case hd => rfl); (case hg => rfl); (case hr => first | (go_simp; done) | (go_simp; rfl)); intro gb170 hg w7 hbox hb; have n0_ := Aside0.mk (blk_below (g := gb169) (o := .cells #[.string a0_0, .string a0_1, .int .i64 a0_2, .int .i64 a0_3, .int .i64 a0_4, .int .i64 a0_5] 23 (0, 0)) (by (with_reducible repeat (first | refine blk_drewN ?_ _ | refine blk_drew ?_ | refine blk_alloc ?_ _)); exact BK169.out) hb); have n1_ := Aside0.mk (below_step (by repeat (first | (with_reducible first | exact HB.out | apply below_alloc | apply pw_below_drewN | apply below_drew1 | refine below_set ?_ GE169.out) | exact HB.out)) hb); have n2_ := Aside0.mk (hbox); have n3_ := Aside0.mk ((by rw [hg]; exact (below_size (by repeat (first | (with_reducible first | exact HB.out | apply below_alloc | apply pw_below_drewN | apply below_drew1 | refine below_set ?_ GE169.out) | exact HB.out))) : w.heap.size ≤ gb170)); have n4_ := Aside0.mk ((by rw [hg]; exact (below_size (by repeat (first | (with_reducible first | exact HB.out | apply below_alloc | apply pw_below_drewN | apply below_drew1 | refine below_set ?_ GE169.out) | exact HB.out))) : w.heap.size ≤ gb170)); have n5_ := Aside0.mk ((by rw [hg]; exact Nat.ne_of_lt (blk_lt (g := gb169) (o := .cells #[.string a0_0, .string a0_1, .int .i64 a0_2, .int .i64 a0_3, .int .i64 a0_4, .int .i64 a0_5] 23 (0, 0)) (by (with_reducible repeat (first | refine blk_drewN ?_ _ | refine blk_drew ?_ | refine blk_alloc ?_ _)); exact BK169.out)) : gb169 ≠ gb170)); have n6_ := Aside0.mk ((by rw [hg]; exact Nat.ne_of_gt (blk_lt (g := gb169) (o := .cells #[.string a0_0, .string a0_1, .int .i64 a0_2, .int .i64 a0_3, .int .i64 a0_4, .int .i64 a0_5] 23 (0, 0)) (by (with_reducible repeat (first | refine blk_drewN ?_ _ | refine blk_drew ?_ | refine blk_alloc ?_ _)); exact BK169.out)) : gb170 ≠ gb169)); clear BK169; clear HB; have BK169 := n0_; have HB := n1_; have BK170 := n2_; have GW170 := n3_; have GE170 := n4_; have NB169_170 := n5_; have NB170_169 := n6_; clear n0_ n1_ n2_ n3_ n4_ n5_ n6_; clear hb hbox hg) | ((with_reducible refine gate_callee (f := 8) rfl ?_); refine goesL_ (some 5) rfl rfl Tryd.func8 (by kernel_rfl) rfl #[] rfl (by (try simp only [List.map_toArray, List.map_cons, List.map_nil]); first | done | rfl | (simp only [List.length_drop, List.length_take]; rfl)) ?_; (with_reducible refine (plenumlaw41_awake.calls  true _ ?side99  A3.out).mono ?_); (case side99 => first | exact HG.out | exact Glob.below HG.out (by repeat (first | (with_reducible first | exact HB.out | apply below_alloc | apply pw_below_drewN | apply below_drew1 | refine below_set ?_ GE169.out | refine below_set ?_ GE170.out) | exact HB.out))); rintro e w8 ⟨rfl, hb⟩; refine ⟨_, rfl, ?_⟩; have n0_ := Aside0.mk (blk_below (g := gb169) (o := .cells #[.string a0_0, .string a0_1, .int .i64 a0_2, .int .i64 a0_3, .int .i64 a0_4, .int .i64 a0_5] 23 (0, 0)) (by (with_reducible repeat (first | refine blk_drewN ?_ _ | refine blk_drew ?_ | refine blk_alloc ?_ _)); exact BK169.out) hb); have n1_ := Aside0.mk (blk_below (g := gb170) (o := .cells #[.string a1_0, .int .i64 a1_1, .int .i64 a1_2, .string a1_3, .int .i64 a1_4, .int .i64 a1_5, .int .i64 a1_6, .slice A1_7 l1_7.length c1_7, .int .i64 a1_8, .int .i64 a1_9, .int .i64 a1_10, .int .i64 a1_11] 51 (0, 0)) (by (with_reducible repeat (first | refine blk_drewN ?_ _ | refine blk_drew ?_ | refine blk_alloc ?_ _)); exact BK170.out) hb); have n2_ := Aside0.mk (below_step (by repeat (first | (with_reducible first | exact HB.out | apply below_alloc | apply pw_below_drewN | apply below_drew1 | refine below_set ?_ GE169.out | refine below_set ?_ GE170.out) | exact HB.out)) hb); clear BK169; clear BK170; clear HB; have BK169 := n0_; have BK170 := n1_; have HB := n2_; clear n0_ n1_ n2_; (try clear hb); (try clear hb2); (try clear hk); (try clear hi)))
    (try simp only [Act.put, List.setIfInBounds_toArray, List.set_cons_zero, List.set_cons_succ])
    go_cut [16] (fun v16 wc => ∃ (kq : Nat) (x16_4 : Bool), v16 = .bool x16_4 ∧ Aside0 (plenumlaw41_TrendRules.j0 kq x16_4 a0_0 a0_1 a0_2 a0_3 a0_4 a0_5 a1_0 a1_1 a1_2 a1_3 a1_4 a1_5 a1_6 l1_7 a1_8 a1_9 a1_10 a1_11 = some r) ∧ Aside0 (kq ≤ k) ∧ Aside0 (wc.heap[gb169]? = some (.cells #[.string a0_0, .string a0_1, .int .i64 a0_2, .int .i64 a0_3, .int .i64 a0_4, .int .i64 a0_5] 23 (0, 0))) ∧ Aside0 (wc.heap[gb170]? = some (.cells #[.string a1_0, .int .i64 a1_1, .int .i64 a1_2, .string a1_3, .int .i64 a1_4, .int .i64 a1_5, .int .i64 a1_6, (.slice A1_7 l1_7.length c1_7), .int .i64 a1_8, .int .i64 a1_9, .int .i64 a1_10, .int .i64 a1_11] 51 (0, 0))) ∧ Aside0 (Below w.heap.size w wc))
    case first =>
      have H := HC5.out
      clear HC5
      by_cases c9 : (a0_0.size : Int) > 100
      · rw [if_pos c9] at H
        have c9b0 : decide (100 < (a0_0.size : Int)) = true := decide_eq_true c9
        have c9b1 : decide (100 < a0_0.size) = true := decide_eq_true (by omega)
        clear c9
        (first | rw [c9b0] | (simp only [i64_w, i32_w]; rw [c9b0]) | skip)
        have H' := Aside0.mk H
        clear H
        have hnb10 := NB169_170.out
        have hnc10 := NB170_169.out
        have hcz11_0 : w8.cell? ⟨gb169, 0, none⟩ = some (.string a0_0) := (blk_cell BK169.out 0).trans rfl
        have hcz11_1 : w8.cell? ⟨gb169, 1, none⟩ = some (.string a0_1) := (blk_cell BK169.out 1).trans rfl
        have hcz11_2 : w8.cell? ⟨gb169, 2, none⟩ = some (.int .i64 a0_2) := (blk_cell BK169.out 2).trans rfl
        have hcz11_3 : w8.cell? ⟨gb169, 3, none⟩ = some (.int .i64 a0_3) := (blk_cell BK169.out 3).trans rfl
        have hcz11_4 : w8.cell? ⟨gb169, 4, none⟩ = some (.int .i64 a0_4) := (blk_cell BK169.out 4).trans rfl
        have hcz11_5 : w8.cell? ⟨gb169, 5, none⟩ = some (.int .i64 a0_5) := (blk_cell BK169.out 5).trans rfl
        have hfz11_0 := blk_frozen BK169.out 0
        have hfz11_1 := blk_frozen BK169.out 1
        have hfz11_2 := blk_frozen BK169.out 2
        have hfz11_3 := blk_frozen BK169.out 3
        have hfz11_4 := blk_frozen BK169.out 4
        have hfz11_5 := blk_frozen BK169.out 5
        go_wp2
        go_meet
        case rel => exact ⟨_, (true), (by first | rfl | (simp; done) | (simp [*]; done)), H', ⟨by first | omega | exact Nat.le_refl _⟩, ⟨by (with_reducible repeat (first | refine blk_drewN ?_ _ | refine blk_drew ?_ | refine blk_alloc ?_ _)); exact BK169.out⟩, ⟨by (with_reducible repeat (first | refine blk_drewN ?_ _ | refine blk_drew ?_ | refine blk_alloc ?_ _)); exact BK170.out⟩, ⟨by repeat (first | (with_reducible first | exact HB.out | apply below_alloc | apply pw_below_drewN | apply below_drew1 | refine below_set ?_ GE169.out | refine below_set ?_ GE170.out) | exact HB.out)⟩⟩
      · rw [if_neg c9] at H
        have c9b0 : decide (100 < (a0_0.size : Int)) = false := decide_eq_false c9
        have c9b1 : decide (100 < a0_0.size) = false := decide_eq_false (by omega)
        clear c9
        (first | rw [c9b0] | (simp only [i64_w, i32_w]; rw [c9b0]) | skip)
        have H' := Aside0.mk H
        clear H
        have hnb12 := NB169_170.out
        have hnc12 := NB170_169.out
        have hcz13_0 : w8.cell? ⟨gb169, 0, none⟩ = some (.string a0_0) := (blk_cell BK169.out 0).trans rfl
        have hcz13_1 : w8.cell? ⟨gb169, 1, none⟩ = some (.string a0_1) := (blk_cell BK169.out 1).trans rfl
        have hcz13_2 : w8.cell? ⟨gb169, 2, none⟩ = some (.int .i64 a0_2) := (blk_cell BK169.out 2).trans rfl
        have hcz13_3 : w8.cell? ⟨gb169, 3, none⟩ = some (.int .i64 a0_3) := (blk_cell BK169.out 3).trans rfl
        have hcz13_4 : w8.cell? ⟨gb169, 4, none⟩ = some (.int .i64 a0_4) := (blk_cell BK169.out 4).trans rfl
        have hcz13_5 : w8.cell? ⟨gb169, 5, none⟩ = some (.int .i64 a0_5) := (blk_cell BK169.out 5).trans rfl
        have hfz13_0 := blk_frozen BK169.out 0
        have hfz13_1 := blk_frozen BK169.out 1
        have hfz13_2 := blk_frozen BK169.out 2
        have hfz13_3 := blk_frozen BK169.out 3
        have hfz13_4 := blk_frozen BK169.out 4
        have hfz13_5 := blk_frozen BK169.out 5
        go_wp2
        go_meet
        case rel => exact ⟨_, (decide ((a0_1.size : Int) > 100)), (by first | rfl | (simp; done) | (simp [*]; done)), H', ⟨by first | omega | exact Nat.le_refl _⟩, ⟨by (with_reducible repeat (first | refine blk_drewN ?_ _ | refine blk_drew ?_ | refine blk_alloc ?_ _)); exact BK169.out⟩, ⟨by (with_reducible repeat (first | refine blk_drewN ?_ _ | refine blk_drew ?_ | refine blk_alloc ?_ _)); exact BK170.out⟩, ⟨by repeat (first | (with_reducible first | exact HB.out | apply below_alloc | apply pw_below_drewN | apply below_drew1 | refine below_set ?_ GE169.out | refine below_set ?_ GE170.out) | exact HB.out)⟩⟩
    case rest =>
      clear HC5
      try clear c1
      try clear p2
      try clear c4
      try clear c5
      try clear c8
      try clear c9
      try clear c9b0
      try clear c9b1
      try clear c10
      try clear c12
      try clear hcz11_0
      try clear hcz11_1
      try clear hcz11_2
      try clear hcz11_3
      try clear hcz11_4
      try clear hcz11_5
      try clear hcz13_0
      try clear hcz13_1
      try clear hcz13_2
      try clear hcz13_3
      try clear hcz13_4
      try clear hcz13_5
      try clear hfz11_0
      try clear hfz11_1
      try clear hfz11_2
      try clear hfz11_3
      try clear hfz11_4
      try clear hfz11_5
      try clear hfz13_0
      try clear hfz13_1
      try clear hfz13_2
      try clear hfz13_3
      try clear hfz13_4
      try clear hfz13_5
      obtain ⟨kq, x16_4, rfl, HA, HJ4, BK169, BK170, HB⟩ := hcut
      cases kq with
      | zero => exact absurd HA.out (by simp [plenumlaw41_TrendRules.j0])
      | succ kj4 =>
        have H := HA.out
        clear HA
        simp only [plenumlaw41_TrendRules.j0] at H
        by_cases c14 : x16_4 = true
        · subst c14
          have H1 : (some true) = some r := by rw [if_pos rfl] at H; exact H
          clear H
          have H := H1
          clear H1
          obtain rfl := Option.some.inj H
          go_wp2
          go_ret
          exact ⟨by first | rfl | (simp [errW_none, errW_some] <;> rfl) | (simp [*, errW_none, errW_some] <;> rfl), by repeat (first | (with_reducible first | exact HB.out | apply below_alloc | apply pw_below_drewN | apply below_drew1 | refine below_set ?_ GE169.out | refine below_set ?_ GE170.out) | exact HB.out)⟩
        · replace c14 := Bool.eq_false_iff.mpr c14
          subst c14
          have H1 : ((trend_Check.f kj4 a0_0 a0_1 a0_2 a0_3 a0_4 a0_5 a1_0 a1_1 a1_2 a1_3 a1_4 a1_5 a1_6 l1_7 a1_8 a1_9 a1_10 a1_11).bind fun t172 => ((plenumref41_Check.f kj4 a0_0 a0_1 a0_2 a0_3 a0_4 a0_5 a1_0 a1_1 a1_2 a1_3 a1_4 a1_5 a1_6 l1_7 a1_8 a1_9 a1_10 a1_11).bind fun t173 => (some (t172 == t173)))) = some r := by rw [if_neg (show ¬ (false = true) by decide)] at H; exact H
          clear H
          have H := H1
          clear H1
          replace H := Option.bind_eq_some_iff.mp H
          obtain ⟨t172, A150, H⟩ := H
          replace H : ((plenumref41_Check.f kj4 a0_0 a0_1 a0_2 a0_3 a0_4 a0_5 a1_0 a1_1 a1_2 a1_3 a1_4 a1_5 a1_6 l1_7 a1_8 a1_9 a1_10 a1_11).bind fun t173 => (some (t172 == t173))) = some r := H
          have A15 := Aside0.mk A150
          clear A150
          replace H := Option.bind_eq_some_iff.mp H
          obtain ⟨t173, A160, H⟩ := H
          replace H : (some (t172 == t173)) = some r := H
          have A16 := Aside0.mk A160
          clear A160
          obtain rfl := Option.some.inj H
          try go_wp2
          have n0_ := Aside0.mk (blk_drew BK169.out)
          have n1_ := Aside0.mk (blk_drew BK170.out)
          have n2_ := Aside0.mk (below_drew1 HB.out)
          clear BK169
          clear BK170
          clear HB
          have BK169 := n0_
          have BK170 := n1_
          have HB := n2_
          clear n0_ n1_ n2_
          refine start_ (n := 8) (S := fun w' => w'.cell? ⟨gb169, 0, none⟩ = some (.string a0_0) ∧ w'.cell? ⟨gb169, 1, none⟩ = some (.string a0_1) ∧ w'.cell? ⟨gb169, 2, none⟩ = some (.int .i64 a0_2) ∧ w'.cell? ⟨gb169, 3, none⟩ = some (.int .i64 a0_3) ∧ w'.cell? ⟨gb169, 4, none⟩ = some (.int .i64 a0_4) ∧ w'.cell? ⟨gb169, 5, none⟩ = some (.int .i64 a0_5) ∧ w'.cell? ⟨gb170, 0, none⟩ = some (.string a1_0) ∧ w'.cell? ⟨gb170, 1, none⟩ = some (.int .i64 a1_1) ∧ w'.cell? ⟨gb170, 2, none⟩ = some (.int .i64 a1_2) ∧ w'.cell? ⟨gb170, 3, none⟩ = some (.string a1_3) ∧ w'.cell? ⟨gb170, 4, none⟩ = some (.int .i64 a1_4) ∧ w'.cell? ⟨gb170, 5, none⟩ = some (.int .i64 a1_5) ∧ w'.cell? ⟨gb170, 6, none⟩ = some (.int .i64 a1_6) ∧ w'.cell? ⟨gb170, 7, none⟩ = some (.slice A1_7 l1_7.length c1_7) ∧ w'.cell? ⟨gb170, 8, none⟩ = some (.int .i64 a1_8) ∧ w'.cell? ⟨gb170, 9, none⟩ = some (.int .i64 a1_9) ∧ w'.cell? ⟨gb170, 10, none⟩ = some (.int .i64 a1_10) ∧ w'.cell? ⟨gb170, 11, none⟩ = some (.int .i64 a1_11)) (ds := []) #[Yn, Yn, Yn, Yn, Yn, Yn, Yn, Yn] (by kernel_rfl) rfl rfl ⟨(blk_cell BK169.out 0).trans rfl, (blk_cell BK169.out 1).trans rfl, (blk_cell BK169.out 2).trans rfl, (blk_cell BK169.out 3).trans rfl, (blk_cell BK169.out 4).trans rfl, (blk_cell BK169.out 5).trans rfl, (blk_cell BK170.out 0).trans rfl, (blk_cell BK170.out 1).trans rfl, (blk_cell BK170.out 2).trans rfl, (blk_cell BK170.out 3).trans rfl, (blk_cell BK170.out 4).trans rfl, (blk_cell BK170.out 5).trans rfl, (blk_cell BK170.out 6).trans rfl, (blk_cell BK170.out 7).trans rfl, (blk_cell BK170.out 8).trans rfl, (blk_cell BK170.out 9).trans rfl, (blk_cell BK170.out 10).trans rfl, (blk_cell BK170.out 11).trans rfl⟩ (fun hHeld => ?_); refine with_tabW plenumlaw41_TrendRules.tab5 plenumlaw41_TrendRules.bits5 (fun HT_ HW_ => ?_)
          generalize wc.drew = w17 at BK169 BK170 HB hHeld ⊢
          refine take_ (i := 0) (N := some 17) (v := ?_) (a' := ?_) #[Y, Yn, Yn, Yn, Yn, Yn, Yn, Yn] rfl rfl (take_ofW HT_.out HW_.out (by kernel_rfl)) (fun _ _ _ h => h) (Or.inl ⟨by rfl, ?_⟩) hHeld ?_ ?_
          rotate_left
          · rintro w' ⟨s0, s1, s2, s3, s4, s5, s6, s7, s8, s9, s10, s11, s12, s13, s14, s15, s16, s17⟩
            go_simp
            with_reducible rfl
          rotate_left
          · simp only [Act.put, List.setIfInBounds_toArray, List.set_cons_zero, List.set_cons_succ, i64_w, i32_w]
            rfl
          refine take_ (i := 1) (N := some 18) (v := ?_) (a' := ?_) #[Y, Y, Yn, Yn, Yn, Yn, Yn, Yn] rfl rfl (take_ofW HT_.out HW_.out (by kernel_rfl)) (fun _ _ _ h => h) (Or.inl ⟨by rfl, ?_⟩) hHeld ?_ ?_
          rotate_left
          · rintro w' ⟨s0, s1, s2, s3, s4, s5, s6, s7, s8, s9, s10, s11, s12, s13, s14, s15, s16, s17⟩
            go_simp
            with_reducible rfl
          rotate_left
          · simp only [Act.put, List.setIfInBounds_toArray, List.set_cons_zero, List.set_cons_succ, i64_w, i32_w]
            rfl
          refine take_ (i := 3) (N := some 20) (v := ?_) (a' := ?_) #[Y, Y, Yn, Y, Yn, Yn, Yn, Yn] rfl rfl (take_ofW HT_.out HW_.out (by kernel_rfl)) (fun _ _ _ h => h) (Or.inl ⟨by rfl, ?_⟩) hHeld ?_ ?_
          rotate_left
          · rintro w' ⟨s0, s1, s2, s3, s4, s5, s6, s7, s8, s9, s10, s11, s12, s13, s14, s15, s16, s17⟩
            go_simp
            with_reducible rfl
          rotate_left
          · simp only [Act.put, List.setIfInBounds_toArray, List.set_cons_zero, List.set_cons_succ, i64_w, i32_w]
            rfl
          refine take_ (i := 4) (N := some 21) (v := ?_) (a' := ?_) #[Y, Y, Yn, Y, Y, Yn, Yn, Yn] rfl rfl (take_ofW HT_.out HW_.out (by kernel_rfl)) (fun _ _ _ h => h) (Or.inl ⟨by rfl, ?_⟩) hHeld ?_ ?_
          rotate_left
          · rintro w' ⟨s0, s1, s2, s3, s4, s5, s6, s7, s8, s9, s10, s11, s12, s13, s14, s15, s16, s17⟩
            go_simp
            with_reducible rfl
          rotate_left
          · simp only [Act.put, List.setIfInBounds_toArray, List.set_cons_zero, List.set_cons_succ, i64_w, i32_w]
            rfl
          refine one_ (i := 2) (N := some 19) #[Y, Y, Y, Y, Y, Yn, Yn, Yn] rfl rfl (one_of HT_.out (by kernel_rfl)) (by decide) (fun K hK => ?_)
          refine goes_ Tryd.func17 (by kernel_rfl) rfl #[.agg #[.string a0_0, .string a0_1, .int .i64 a0_2, .int .i64 a0_3, .int .i64 a0_4, .int .i64 a0_5], .agg #[.string a1_0, .int .i64 a1_1, .int .i64 a1_2, .string a1_3, .int .i64 a1_4, .int .i64 a1_5, .int .i64 a1_6, .slice A1_7 l1_7.length c1_7, .int .i64 a1_8, .int .i64 a1_9, .int .i64 a1_10, .int .i64 a1_11]] (by rfl) rfl rfl (by (try simp only [List.map_toArray, List.map_cons, List.map_nil]); first | done | rfl | (simp only [List.length_drop, List.length_take]; rfl)) ?_
          with_reducible refine (trend_Check.calls kj4 a0_0 a0_1 a0_2 a0_3 a0_4 a0_5 a1_0 a1_1 a1_2 a1_3 a1_4 a1_5 a1_6 _ _ l1_7 a1_8 a1_9 a1_10 a1_11 t172 _ ?side99  ?side1 ?side2 A15.out).mono ?_
          (case side1 => repeat (first | exact (Kd.C_below HR1_7.out HB.out) | (with_reducible refine Kd.C_alloc ?_ _) | (with_reducible refine Kd.C_drewN ?_ _) | (with_reducible refine Kd.C_drew ?_)))
          (case side2 => exact HC1_7.out)
          (case side99 => first | exact HG.out | exact Glob.below HG.out (by repeat (first | (with_reducible first | exact HB.out | apply below_alloc | apply pw_below_drewN | apply below_drew1 | refine below_set ?_ GE169.out | refine below_set ?_ GE170.out) | exact HB.out)))
          rintro e w18 ⟨rfl, hb⟩
          refine ⟨_, rfl, ?_⟩
          have n0_ := Aside0.mk (blk_below (g := gb169) (o := .cells #[.string a0_0, .string a0_1, .int .i64 a0_2, .int .i64 a0_3, .int .i64 a0_4, .int .i64 a0_5] 23 (0, 0)) (by (with_reducible repeat (first | refine blk_drewN ?_ _ | refine blk_drew ?_ | refine blk_alloc ?_ _)); exact BK169.out) hb)
          have n1_ := Aside0.mk (blk_below (g := gb170) (o := .cells #[.string a1_0, .int .i64 a1_1, .int .i64 a1_2, .string a1_3, .int .i64 a1_4, .int .i64 a1_5, .int .i64 a1_6, .slice A1_7 l1_7.length c1_7, .int .i64 a1_8, .int .i64 a1_9, .int .i64 a1_10, .int .i64 a1_11] 51 (0, 0)) (by (with_reducible repeat (first | refine blk_drewN ?_ _ | refine blk_drew ?_ | refine blk_alloc ?_ _)); exact BK170.out) hb)
          have n2_ := Aside0.mk (below_step (by repeat (first | (with_reducible first | exact HB.out | apply below_alloc | apply pw_below_drewN | apply below_drew1 | refine below_set ?_ GE169.out | refine below_set ?_ GE170.out) | exact HB.out)) hb)
          clear BK169
          clear BK170
          clear HB
          have BK169 := n0_
          have BK170 := n1_
          have HB := n2_
          clear n0_ n1_ n2_
          (try clear hb)
          (try clear hb2)
          (try clear hk)
          (try clear hi)
          refine hK.out _ _ ⟨(blk_cell BK169.out 0).trans rfl, (blk_cell BK169.out 1).trans rfl, (blk_cell BK169.out 2).trans rfl, (blk_cell BK169.out 3).trans rfl, (blk_cell BK169.out 4).trans rfl, (blk_cell BK169.out 5).trans rfl, (blk_cell BK170.out 0).trans rfl, (blk_cell BK170.out 1).trans rfl, (blk_cell BK170.out 2).trans rfl, (blk_cell BK170.out 3).trans rfl, (blk_cell BK170.out 4).trans rfl, (blk_cell BK170.out 5).trans rfl, (blk_cell BK170.out 6).trans rfl, (blk_cell BK170.out 7).trans rfl, (blk_cell BK170.out 8).trans rfl, (blk_cell BK170.out 9).trans rfl, (blk_cell BK170.out 10).trans rfl, (blk_cell BK170.out 11).trans rfl⟩ (fun hHeld => ?_)
          clear hK K
          refine norm_ (a' := ?_) ?_ ?_
          rotate_left
          · show Act.put _ (some 19) _ = _
            simp only [Act.put, List.setIfInBounds_toArray, List.set_cons_zero, List.set_cons_succ, i64_w, i32_w]
            rfl
          refine one_ (i := 5) (N := some 22) #[Y, Y, Y, Y, Y, Y, Yn, Yn] rfl rfl (one_of HT_.out (by kernel_rfl)) (by decide) (fun K hK => ?_)
          refine goes_ Tryd.func18 (by kernel_rfl) rfl #[.agg #[.string a0_0, .string a0_1, .int .i64 a0_2, .int .i64 a0_3, .int .i64 a0_4, .int .i64 a0_5], .agg #[.string a1_0, .int .i64 a1_1, .int .i64 a1_2, .string a1_3, .int .i64 a1_4, .int .i64 a1_5, .int .i64 a1_6, .slice A1_7 l1_7.length c1_7, .int .i64 a1_8, .int .i64 a1_9, .int .i64 a1_10, .int .i64 a1_11]] (by rfl) rfl rfl (by (try simp only [List.map_toArray, List.map_cons, List.map_nil]); first | done | rfl | (simp only [List.length_drop, List.length_take]; rfl)) ?_
          with_reducible refine (plenumref41_Check.calls kj4 a0_0 a0_1 a0_2 a0_3 a0_4 a0_5 a1_0 a1_1 a1_2 a1_3 a1_4 a1_5 a1_6 _ _ l1_7 a1_8 a1_9 a1_10 a1_11 t173 _ ?side99  ?side1 ?side2 A16.out).mono ?_
          (case side1 => repeat (first | exact (Kd.C_below HR1_7.out HB.out) | (with_reducible refine Kd.C_alloc ?_ _) | (with_reducible refine Kd.C_drewN ?_ _) | (with_reducible refine Kd.C_drew ?_)))
          (case side2 => exact HC1_7.out)
          (case side99 => first | exact HG.out | exact Glob.below HG.out (by repeat (first | (with_reducible first | exact HB.out | apply below_alloc | apply pw_below_drewN | apply below_drew1 | refine below_set ?_ GE169.out | refine below_set ?_ GE170.out) | exact HB.out)))
          rintro e w19 ⟨rfl, hb⟩
          refine ⟨_, rfl, ?_⟩
          have n0_ := Aside0.mk (blk_below (g := gb169) (o := .cells #[.string a0_0, .string a0_1, .int .i64 a0_2, .int .i64 a0_3, .int .i64 a0_4, .int .i64 a0_5] 23 (0, 0)) (by (with_reducible repeat (first | refine blk_drewN ?_ _ | refine blk_drew ?_ | refine blk_alloc ?_ _)); exact BK169.out) hb)
          have n1_ := Aside0.mk (blk_below (g := gb170) (o := .cells #[.string a1_0, .int .i64 a1_1, .int .i64 a1_2, .string a1_3, .int .i64 a1_4, .int .i64 a1_5, .int .i64 a1_6, .slice A1_7 l1_7.length c1_7, .int .i64 a1_8, .int .i64 a1_9, .int .i64 a1_10, .int .i64 a1_11] 51 (0, 0)) (by (with_reducible repeat (first | refine blk_drewN ?_ _ | refine blk_drew ?_ | refine blk_alloc ?_ _)); exact BK170.out) hb)
          have n2_ := Aside0.mk (below_step (by repeat (first | (with_reducible first | exact HB.out | apply below_alloc | apply pw_below_drewN | apply below_drew1 | refine below_set ?_ GE169.out | refine below_set ?_ GE170.out) | exact HB.out)) hb)
          clear BK169
          clear BK170
          clear HB
          have BK169 := n0_
          have BK170 := n1_
          have HB := n2_
          clear n0_ n1_ n2_
          (try clear hb)
          (try clear hb2)
          (try clear hk)
          (try clear hi)
          refine hK.out _ _ ⟨(blk_cell BK169.out 0).trans rfl, (blk_cell BK169.out 1).trans rfl, (blk_cell BK169.out 2).trans rfl, (blk_cell BK169.out 3).trans rfl, (blk_cell BK169.out 4).trans rfl, (blk_cell BK169.out 5).trans rfl, (blk_cell BK170.out 0).trans rfl, (blk_cell BK170.out 1).trans rfl, (blk_cell BK170.out 2).trans rfl, (blk_cell BK170.out 3).trans rfl, (blk_cell BK170.out 4).trans rfl, (blk_cell BK170.out 5).trans rfl, (blk_cell BK170.out 6).trans rfl, (blk_cell BK170.out 7).trans rfl, (blk_cell BK170.out 8).trans rfl, (blk_cell BK170.out 9).trans rfl, (blk_cell BK170.out 10).trans rfl, (blk_cell BK170.out 11).trans rfl⟩ (fun hHeld => ?_)
          clear hK K
          refine norm_ (a' := ?_) ?_ ?_
          rotate_left
          · show Act.put _ (some 22) _ = _
            simp only [Act.put, List.setIfInBounds_toArray, List.set_cons_zero, List.set_cons_succ, i64_w, i32_w]
            rfl
          refine pure_ (i := 6) (N := some 23) (v := ?_) (a' := ?_) #[Y, Y, Y, Y, Y, Y, Y, Yn] rfl rfl (any_of HT_.out (by kernel_rfl)) (fun _ _ _ h => h) (Or.inl ⟨by rfl, ?_⟩) ?_ ?_
          rotate_left
          · intro w'
            go_simp
            with_reducible rfl
          rotate_left
          · simp only [Act.put, List.setIfInBounds_toArray, List.set_cons_zero, List.set_cons_succ, i64_w, i32_w]
            rfl
          refine pure_ (i := 7) (N := some 4) (v := ?_) (a' := ?_) #[Y, Y, Y, Y, Y, Y, Y, Y] rfl rfl (any_of HT_.out (by kernel_rfl)) (fun _ _ _ h => h) (Or.inl ⟨by rfl, ?_⟩) ?_ ?_
          rotate_left
          · intro w'
            go_simp
            with_reducible rfl
          rotate_left
          · simp only [Act.put, List.setIfInBounds_toArray, List.set_cons_zero, List.set_cons_succ, i64_w, i32_w]
            rfl
          refine done_ (done_of HT_.out (by kernel_rfl)) ?_
          try go_wp2
          go_ret
          exact ⟨by first | rfl | (simp [errW_none, errW_some] <;> rfl) | (simp [*, errW_none, errW_some] <;> rfl), by repeat (first | (with_reducible first | exact HB.out | apply below_alloc | apply pw_below_drewN | apply below_drew1 | refine below_set ?_ GE169.out | refine below_set ?_ GE170.out) | exact HB.out)⟩
  · replace c4 := Bool.eq_false_iff.mpr c4
    subst c4
    have H1 : (none) = some r := by rw [if_neg (show ¬ (false = true) by decide)] at H; exact H
    clear H
    have H := H1
    clear H1
    exact absurd H (by simp)
end Go.Proofs.YtbccjcdmpiolpaaDoor.T
end
section
namespace Go.Proofs.YtbccjcdmpiolpaaDoor.Opn
open Go.RowKit Go.Proofs.YtbccjcdmpiolpaaDoorW.PrintWords
def Opn (P : Program) (t : TypeId) {α : Type} (d : Kd α) (V : α → Prop) : Prop :=
  ∀ (H : Type) (enc : TypeId × Value → H) (w : World) (fuel : Nat) (cs : List Value) (x : DataW H × List MemPlace),
    DataW.trod enc P w 0 (fun _ => true) true fuel t cs = some x → (∀ n ∈ DataW.weights P t x.1, n ≤ 140737488351232) → ∃ y, d.K w y cs ∧ V y
theorem opn_int {P : Program} {t : TypeId} {k : IntKind} (ht : P.underlying t = some (.int k)) : Opn P t (Kd.int k) (fun y => (Lit.int k y).wf = true) := by
  intro H enc w fuel cs x h _
  obtain ⟨n, rfl, _, hw⟩ := DataW.trod_int ht h
  exact ⟨n, rfl, hw⟩
theorem opn_string {P : Program} {t : TypeId} (ht : P.underlying t = some .string) : Opn P t Kd.string (fun y => y.size ≤ 140737488351232) := by
  intro H enc w fuel cs x h hw
  obtain ⟨s, rfl, rfl, _⟩ := DataW.trod_string ht h
  refine ⟨s, rfl, ?_⟩
  have := hw s.data.toList.length (by simp [DataW.weights])
  rw [Array.length_toList] at this
  exact this
theorem weights_all {H : Type} {P : Program} {e : TypeId} {d : DataW H} {n : Nat} (hn : n ∈ DataW.weights P e d) : ∀ {l : List (DataW H)}, d ∈ l → n ∈ DataW.weightsAll P e l
  | [], h => by simp at h
  | a :: r, h => by
    simp only [DataW.weightsAll, List.mem_append]
    rcases List.mem_cons.1 h with rfl | h
    · exact .inl hn
    · exact .inr (weights_all hn h)
theorem list_of {α : Type} (Q : Nat → α → Prop) : ∀ n, (∀ i, i < n → ∃ y, Q i y) → ∃ l : List α, l.length = n ∧ ∀ i y, l[i]? = some y → Q i y
  | 0, _ => ⟨[], rfl, fun i y h => by simp at h⟩
  | n + 1, h => by
    obtain ⟨l, hl, hq⟩ := list_of Q n (fun i hi => h i (by omega))
    obtain ⟨y, hy⟩ := h n (by omega)
    refine ⟨l ++ [y], by simp [hl], fun i z hz => ?_⟩
    rcases Nat.lt_or_ge i n with hi | hi
    · rw [List.getElem?_append_left (by omega)] at hz
      exact hq i z hz
    · have : i = n := by
        have := (List.getElem?_eq_some_iff.1 hz).1
        simp [hl] at this
        omega
      subst this
      rw [List.getElem?_append_right (by omega), hl, Nat.sub_self] at hz
      simp at hz
      subst hz
      exact hy
theorem opn_slice {P : Program} {t e : TypeId} {α : Type} {d : Kd α} {V : α → Prop} {B : Nat} (ht : P.underlying t = some (.slice e)) (hs : P.cellsOf e = d.sz) (hB : P.bytesOf e = B) (he : Opn P e d V) :
    Opn P t (Kd.slice e d) (fun xs => xs.length * B ≤ 140737488351232 ∧ ∀ x ∈ xs, V x) := by
  intro H enc w fuel cs x h hw
  rcases Go.Deep.open_slice ht h with ⟨rfl, rfl⟩ | ⟨a, len, cap, m, n, D, Pl, rfl, _, hl, hm, hmm, rfl, hi⟩
  · exact ⟨[], ⟨none, 0, rfl, by simp, rfl, by simp, fun hn => absurd hn (by simp)⟩, by simp, by simp⟩
  have hmm' : m = cap := by simpa using hmm
  subst hmm'
  have hw' : (len + (m - len)) * B ≤ 140737488351232 := by
    have := hw ((len + (m - len)) * B) (by simp [DataW.weights, ht, hB])
    exact this
  obtain ⟨l, hlen, hq⟩ := list_of (fun i y => ∃ c, w.cells? 0 (a.add (i * P.cellsOf e)) (P.cellsOf e) = some c ∧ d.K w y c ∧ V y) len (fun i hil => by
    obtain ⟨c, hc, htr⟩ := hi i (by omega)
    obtain ⟨y, hy, hV⟩ := he H enc w n c _ htr (fun k hk => hw k (by
      simp only [DataW.weights, ht, List.mem_cons, List.mem_append]
      exact .inr (.inl (weights_all hk (List.mem_map.2 ⟨i, List.mem_range.2 hil, rfl⟩)))))
    exact ⟨y, c, hc, hy, hV⟩)
  refine ⟨l, ⟨some a, m, by rw [hlen], by omega, ?_⟩, ?_, ?_⟩
  · refine ⟨rfl, by simp only [maxLen] at hm; omega, fun _ => ⟨a, rfl, fun j p hj => ?_⟩⟩
    obtain ⟨c, hc, hK, _⟩ := hq j p hj
    obtain ⟨_, hcl, hat⟩ := World.cells?_some hc
    refine ⟨c, by rw [hcl, hs], hK, fun i u hu => ?_⟩
    have hil : i < P.cellsOf e := by
      have := (List.getElem?_eq_some_iff.1 hu).1
      omega
    rw [← hs, ← Go.Deep.add_add, hat i hil, hu]
  · rw [hlen]
    exact Nat.le_trans (Nat.mul_le_mul_right _ (by omega)) hw'
  · intro y hy
    obtain ⟨i, hi2⟩ := List.mem_iff_getElem?.1 hy
    exact (hq i y hi2).elim fun c h => h.2.2
def OpnF (P : Program) (fs : List Field) {α : Type} (d : Kd α) (V : α → Prop) (o : Nat) : Prop :=
  ∀ (H : Type) (enc : TypeId × Value → H) (w : World) (n : Nat) (cs : List Value) (xs : List (DataW H × List MemPlace)),
    o + d.sz ≤ cs.length →
    (∀ (i : Nat) (f : Field), fs[i]? = some f → ∃ x, xs[i]? = some x ∧ DataW.trod enc P w 0 (fun _ => true) true n f.type ((cs.drop f.offset).take (P.cellsOf f.type)) = some x ∧ ∀ k ∈ DataW.weights P f.type x.1, k ≤ 140737488351232) →
    ∃ y, d.K w y ((cs.drop o).take d.sz) ∧ V y
theorem opn_last {P : Program} {f : Field} {α : Type} {d : Kd α} {V : α → Prop} {o : Nat} (ho : f.offset = o) (hs : P.cellsOf f.type = d.sz) (h : Opn P f.type d V) : OpnF P [f] d V o := by
  intro H enc w n cs xs _ hx
  obtain ⟨x, _, ht, hw⟩ := hx 0 f rfl
  rw [hs, ho] at ht
  exact h H enc w n _ x ht hw
theorem take_two {α : Type} (cs : List α) (o a b : Nat) : (cs.drop o).take (a + b) = (cs.drop o).take a ++ (cs.drop (o + a)).take b := by
  rw [List.take_add, List.drop_drop]
theorem opn_cons {P : Program} {f : Field} {fs : List Field} {α β : Type} {a : Kd α} {b : Kd β} {V : α → Prop} {U : β → Prop} {o : Nat} (ho : f.offset = o) (hs : P.cellsOf f.type = a.sz) (h : Opn P f.type a V) (hr : OpnF P fs b U (o + a.sz)) :
    OpnF P (f :: fs) (Kd.pair a b) (fun y => V y.1 ∧ U y.2) o := by
  intro H enc w n cs xs hl hx
  obtain ⟨x, hx0, ht, hw⟩ := hx 0 f rfl
  rw [hs, ho] at ht
  obtain ⟨y, hy, hV⟩ := h H enc w n _ x ht hw
  have hl' : o + (a.sz + b.sz) ≤ cs.length := hl
  obtain ⟨z, hz, hU⟩ := hr H enc w n cs (xs.drop 1) (by omega) (fun i g hg => by
    obtain ⟨x', h1, h2⟩ := hx (i + 1) g (by simpa using hg)
    exact ⟨x', by rw [List.getElem?_drop, Nat.add_comm]; exact h1, h2⟩)
  exact ⟨(y, z), ⟨_, _, take_two cs o a.sz b.sz, hy, hz⟩, hV, hU⟩
theorem opn_struct {P : Program} {t : TypeId} {fa : Array Field} {fs : List Field} {α β : Type} {d : Kd α} {V : α → Prop} (ht : P.underlying t = some (.struct fa)) (hf : fa.toList = fs) (hs : P.cellsOf t = d.sz) (g : β → α) (g' : α → β) (hg : ∀ y, g (g' y) = y)
    (h : OpnF P fs d V 0) : Opn P t (Kd.iso d g) (fun x => V (g x)) := by
  intro H enc w fuel cs x hx hw
  obtain ⟨xs, n, rfl, rfl, hl, hxl, hfs⟩ := DataW.trod_struct ht hx
  obtain ⟨y, hy, hV⟩ := h H enc w n cs xs (by omega) (fun i f hi => by
    have hi' : fa[i]? = some f := by rw [← hf] at hi; simpa using hi
    have hlt : i < xs.length := by
      rw [hxl]
      exact (Array.getElem?_eq_some_iff.1 hi').1
    have h1 := hfs i f hi'
    refine ⟨xs[i], List.getElem?_eq_getElem hlt, by rw [h1, List.getElem?_eq_getElem hlt], fun k hk => hw k ?_⟩
    simp only [DataW.weights, ht]
    refine DataW.weights_mem_each (j := i) (t := f.type) (d := xs[i].1) ?_ ?_ k hk
    · rw [List.getElem?_map, hf, hi]
      rfl
    · rw [List.getElem?_map, List.getElem?_eq_getElem hlt]
      rfl)
  refine ⟨g' y, ?_, ?_⟩
  · show d.K w (g (g' y)) cs
    rw [hg]
    rw [List.drop_zero, ← hs, ← hl, List.take_length] at hy
    exact hy
  · show V (g (g' y))
    rw [hg]
    exact hV
theorem arg_struct {H : Type} {enc : TypeId × Value → H} {P : Program} {t : TypeId} {α : Type} {d : Kd α} {V : α → Prop} {W : World} {v : Value} {x : DataW H} {ps : List MemPlace} (ho : Opn P t d V) (cs : Array Value) (hv : v = .agg cs)
    (h : DataW.Trod enc P W 0 (fun _ => true) true t v x ps) (hw : ∀ n ∈ DataW.weights P t x, n ≤ 140737488351232) : ∃ y, (∃ l, v = .agg l.toArray ∧ d.K W y l) ∧ V y := by
  obtain ⟨fuel, hf⟩ := h
  obtain ⟨y, hK, hV⟩ := ho H enc W fuel _ _ hf hw
  subst hv
  exact ⟨y, ⟨cs.toList, by simp, hK⟩, hV⟩
theorem arg_weights {H : Type} {P : Program} {ts : List TypeId} {ds : List (DataW H)} (h : (DataW.weightsEach P ts ds).all (· ≤ reachBytes) = true) {j : Nat} {t : TypeId} {d : DataW H} (ht : ts[j]? = some t) (hd : ds[j]? = some d) : ∀ n ∈ DataW.weights P t d, n ≤ 140737488351232 := by
  intro n hn
  have := List.all_eq_true.1 h n (DataW.weights_mem_each ht hd n hn)
  exact of_decide_eq_true this
end Go.Proofs.YtbccjcdmpiolpaaDoor.Opn
end
section
namespace Go.Proofs.YtbccjcdmpiolpaaDoor.T
open Go.RowKit Go.Proofs.YtbccjcdmpiolpaaDoorW.PrintWords Go.Proofs.YtbccjcdmpiolpaaDoor.Opn
def V23 (x : S23) : Prop := (x.f0.size ≤ 140737488351232) ∧ (x.f1.size ≤ 140737488351232) ∧ ((Lit.int .i64 x.f2).wf = true) ∧ ((Lit.int .i64 x.f3).wf = true) ∧ ((Lit.int .i64 x.f4).wf = true) ∧ ((Lit.int .i64 x.f5).wf = true)
theorem opn23 : Opn Tryd.prog 23 k23 V23 := opn_struct Tryd.underlying23 rfl (by kernel_rfl) (fun x : S23 => (x.f0, x.f1, x.f2, x.f3, x.f4, x.f5)) (fun y => (⟨y.1, y.2.1, y.2.2.1, y.2.2.2.1, y.2.2.2.2.1, y.2.2.2.2.2⟩ : S23)) (fun _ => rfl) (opn_cons rfl (by kernel_rfl) (opn_string Tryd.underlying9) (opn_cons rfl (by kernel_rfl) (opn_string Tryd.underlying9) (opn_cons rfl (by kernel_rfl) (opn_int Tryd.underlying3) (opn_cons rfl (by kernel_rfl) (opn_int Tryd.underlying3) (opn_cons rfl (by kernel_rfl) (opn_int Tryd.underlying2) (opn_last rfl (by kernel_rfl) (opn_int Tryd.underlying3)))))))
def V30 (x : S30) : Prop := ((Lit.int .i64 x.f0).wf = true) ∧ ((Lit.int .i64 x.f1).wf = true)
theorem opn30 : Opn Tryd.prog 30 k30 V30 := opn_struct Tryd.underlying30 rfl (by kernel_rfl) (fun x : S30 => (x.f0, x.f1)) (fun y => (⟨y.1, y.2⟩ : S30)) (fun _ => rfl) (opn_cons rfl (by kernel_rfl) (opn_int Tryd.underlying3) (opn_last rfl (by kernel_rfl) (opn_int Tryd.underlying2)))
def V51 (x : S51) : Prop := (x.f0.size ≤ 140737488351232) ∧ ((Lit.int .i64 x.f1).wf = true) ∧ ((Lit.int .i64 x.f2).wf = true) ∧ (x.f3.size ≤ 140737488351232) ∧ ((Lit.int .i64 x.f4).wf = true) ∧ ((Lit.int .i64 x.f5).wf = true) ∧ ((Lit.int .i64 x.f6).wf = true) ∧ (x.f7.length * 16 ≤ 140737488351232 ∧ ∀ y ∈ x.f7, y.size ≤ 140737488351232) ∧ (V30 x.f8) ∧ ((Lit.int .i64 x.f9).wf = true) ∧ ((Lit.int .i64 x.f10).wf = true)
theorem opn51 : Opn Tryd.prog 51 k51 V51 := opn_struct Tryd.underlying51 rfl (by kernel_rfl) (fun x : S51 => (x.f0, x.f1, x.f2, x.f3, x.f4, x.f5, x.f6, x.f7, x.f8, x.f9, x.f10)) (fun y => (⟨y.1, y.2.1, y.2.2.1, y.2.2.2.1, y.2.2.2.2.1, y.2.2.2.2.2.1, y.2.2.2.2.2.2.1, y.2.2.2.2.2.2.2.1, y.2.2.2.2.2.2.2.2.1, y.2.2.2.2.2.2.2.2.2.1, y.2.2.2.2.2.2.2.2.2.2⟩ : S51)) (fun _ => rfl) (opn_cons rfl (by kernel_rfl) (opn_string Tryd.underlying9) (opn_cons rfl (by kernel_rfl) (opn_int Tryd.underlying3) (opn_cons rfl (by kernel_rfl) (opn_int Tryd.underlying3) (opn_cons rfl (by kernel_rfl) (opn_string Tryd.underlying9) (opn_cons rfl (by kernel_rfl) (opn_int Tryd.underlying2) (opn_cons rfl (by kernel_rfl) (opn_int Tryd.underlying2) (opn_cons rfl (by kernel_rfl) (opn_int Tryd.underlying2) (opn_cons rfl (by kernel_rfl) (opn_slice (B := 16) Tryd.underlying49 (by kernel_rfl) (by kernel_rfl) (opn_string Tryd.underlying9)) (opn_cons rfl (by kernel_rfl) opn30 (opn_cons rfl (by kernel_rfl) (opn_int Tryd.underlying3) (opn_last rfl (by kernel_rfl) (opn_int Tryd.underlying3))))))))))))
end Go.Proofs.YtbccjcdmpiolpaaDoor.T
end
section
namespace Go.Proofs.YtbccjcdmpiolpaaDoor.T
open Go.RowKit Go.Proofs.YtbccjcdmpiolpaaDoorW.PrintWords
def plenumlaw41_TrendRules.Pure : Prop := ∀ (x0 : S23) (x1 : S51), (V23 x0) → (V51 x1) → ∃ k, plenumlaw41_TrendRules.f k x0.f0 x0.f1 x0.f2 x0.f3 x0.f4 x0.f5 x1.f0 x1.f1 x1.f2 x1.f3 x1.f4 x1.f5 x1.f6 x1.f7 x1.f8.f0 x1.f8.f1 x1.f9 x1.f10 = some true
end Go.Proofs.YtbccjcdmpiolpaaDoor.T
end
section
namespace Go.Proofs.YtbccjcdmpiolpaaDoor.Pure
open Go.RowKit Go.Proofs.YtbccjcdmpiolpaaDoor.T Go.Proofs.YtbccjcdmpiolpaaDoorW.PrintWords Go.Proofs.YtbccjcdmpiolpaaDoorW.PrintLast Go.Proofs.YtbccjcdmpiolpaaDoorW.PrintMore
set_option linter.unusedVariables false
set_option linter.unusedSimpArgs false
theorem low_eq (b : Int) : plenumref07_Lower.f b = some (lowB b) := by
  unfold plenumref07_Lower.f lowB
  by_cases h : b ≥ 97
  · rw [if_pos h, decide_eq_true (show 97 ≤ b from h), Bool.true_and]
  · rw [if_neg h, decide_eq_false (show ¬ 97 ≤ b from h), Bool.false_and]
theorem dig_eq (b : Int) : plenumref07_Digit.f b = some (digB' b) := by
  unfold plenumref07_Digit.f digB'
  by_cases h : b ≥ 48
  · rw [if_pos h, decide_eq_true (show 48 ≤ b from h), Bool.true_and]
  · rw [if_neg h, decide_eq_false (show ¬ 48 ≤ b from h), Bool.false_and]
theorem name_loop (s : ByteArray) (hz : s.size ≤ 1000) : ∀ (d i k : Nat), i + d = s.size → plenumref07_Name.l0 (k + d + 1) s (i : Int) = some ((List.range d).all fun j => nmB (bt s ((i + j : Nat) : Int)))
  | 0, i, k, h => by
    rw [show k + 0 + 1 = k + 1 by omega, plenumref07_Name.l0, if_neg (by omega)]
    rfl
  | d + 1, i, k, h => by
    have hw : wrap64 ((i : Int) + 1) = ((i + 1 : Nat) : Int) := by unfold wrap64; omega
    have ih := name_loop s hz d (i + 1) k (by omega)
    have hall : ((List.range (d + 1)).all fun j => nmB (bt s ((i + j : Nat) : Int))) = (nmB (bt s (i : Int)) && (List.range d).all fun j => nmB (bt s ((i + 1 + j : Nat) : Int))) := by
      rw [List.range_succ_eq_map, List.all_cons, List.all_map]
      congr 1
      congr 1
      funext j
      show nmB (bt s ((i + (j + 1) : Nat) : Int)) = _
      rw [show i + (j + 1) = i + 1 + j by omega]
    rw [show k + (d + 1) + 1 = (k + d + 1) + 1 by omega, plenumref07_Name.l0, if_pos (by omega), if_pos (by omega), low_eq, Option.bind_some, dig_eq, Option.bind_some, hw, ih, hall]
    unfold nmB
    cases lowB (bt s (i : Int)) with
    | true => rfl
    | false =>
      rw [if_neg Bool.false_ne_true, Bool.false_or]
      cases digB' (bt s (i : Int)) with
      | true => rfl
      | false =>
        rw [if_neg Bool.false_ne_true, Bool.false_or]
        by_cases h9 : bt s (i : Int) = 95
        · rw [if_pos h9, h9]
          rfl
        · rw [if_neg h9, beq_false_of_ne h9]
          rfl
theorem nmB_low {b : Int} (h : lowB b = true) : nmB b = true := by
  unfold nmB
  rw [h]
  rfl
theorem refName (s : ByteArray) : plenumref07_Name.f 50 s = some (nameS s) := by
  unfold plenumref07_Name.f nameS
  by_cases h1 : (s.size : Int) < 1
  · rw [if_pos h1, show (50 : Nat) = 49 + 1 from rfl, plenumref07_Name.j0, if_pos rfl, decide_eq_false (show ¬ 1 ≤ s.size by omega)]
    rfl
  rw [if_neg h1, decide_eq_true (show 1 ≤ s.size by omega), Bool.true_and]
  by_cases h2 : (s.size : Int) > 24
  · rw [if_pos h2, show (50 : Nat) = 49 + 1 from rfl, plenumref07_Name.j0, if_pos rfl, decide_eq_false (show ¬ s.size ≤ 24 by omega)]
    rfl
  rw [if_neg h2, decide_eq_true (show s.size ≤ 24 by omega), Bool.true_and, if_pos (by omega), low_eq, Option.bind_some, show (50 : Nat) = 49 + 1 from rfl, plenumref07_Name.j0]
  cases hl : lowB (bt s 0) with
  | false => rfl
  | true =>
    rw [if_neg (by decide)]
    have := name_loop s (by omega) (s.size - 1) 1 (48 - (s.size - 1)) (by omega)
    rw [show 48 - (s.size - 1) + (s.size - 1) + 1 = 49 by omega] at this
    rw [show (1 : Int) = ((1 : Nat) : Int) from rfl, this, Bool.true_and]
    congr 1
    unfold allNm
    obtain ⟨d, hd⟩ : ∃ d, s.size = d + 1 := ⟨s.size - 1, by omega⟩
    rw [hd, List.range_succ_eq_map, List.all_cons, List.all_map]
    rw [show nmB (bt s ((0 : Nat) : Int)) = true from nmB_low hl, Bool.true_and, Nat.add_sub_cancel]
    congr 1
    funext j
    show nmB (bt s ((1 + j : Nat) : Int)) = nmB (bt s ((j + 1 : Nat) : Int))
    rw [Nat.add_comm]
theorem ex_of {A B : Option Int} (h1 : A = B) (h2 : A.isSome = true) : ∃ r, A = some r ∧ B = some r := by
  subst h1
  cases A with
  | none => cases h2
  | some r => exact ⟨r, rfl, rfl⟩
set_option maxHeartbeats 4000000 in
theorem rules (nm pt : ByteArray) (way iv st sz : Int) (p0 : ByteArray) (p1 p2 : Int) (p3 : ByteArray) (p4 p5 p6 : Int) (p7 : List ByteArray) (p8 p9 p10 p11 : Int) (hz : nm.size ≤ 1000) :
    ∃ r, trend_Check.f 50 nm pt way iv st sz p0 p1 p2 p3 p4 p5 p6 p7 p8 p9 p10 p11 = some r ∧ plenumref41_Check.f 50 nm pt way iv st sz p0 p1 p2 p3 p4 p5 p6 p7 p8 p9 p10 p11 = some r := by
  have hn : lexer_Name.f nm = some (nameS nm) := if_pos (by omega)
  unfold trend_Check.f plenumref41_Check.f
  rw [refName]
  simp only [show (50 : Nat) = 48 + 1 + 1 from rfl, trend_Check.j0, trend_Check.j1, plenumref41_Check.j0, plenumref41_Check.j1, hn, Option.bind_some]
  cases nameS nm with
  | false =>
    simp only [Bool.false_eq_true, if_false]
    repeat' split
    all_goals exact ⟨4, rfl, rfl⟩
  | true =>
  simp only [if_true]
  by_cases hp : pt.toList = p0.toList
  case neg =>
    simp only [if_neg hp]
    repeat' split
    all_goals exact ⟨3, rfl, rfl⟩
  simp only [if_pos hp]
  simp only [decide_eq_true_eq, beq_iff_eq, bne_iff_ne, ne_eq, Bool.false_eq_true, if_false]
  refine ex_of ?_ ?_
  · repeat' split
    all_goals first | rfl | (exfalso; omega) | (exfalso; simp_all; done) | (exfalso; simp_all; omega)
  · repeat' split
    all_goals rfl
theorem TrendRules : plenumlaw41_TrendRules.Pure := by
  intro x0 x1 h0 h1
  refine ⟨51, ?_⟩
  unfold plenumlaw41_TrendRules.f
  rw [show plenumlaw41_awake.f = some true from rfl, Option.bind_some, if_pos rfl]
  by_cases k1 : (x0.f0.size : Int) > 100
  · rw [if_pos k1, show (51 : Nat) = 50 + 1 from rfl, plenumlaw41_TrendRules.j0, if_pos rfl]
  rw [if_neg k1, show (51 : Nat) = 50 + 1 from rfl, plenumlaw41_TrendRules.j0]
  by_cases k2 : (x0.f1.size : Int) > 100
  · rw [decide_eq_true k2, if_pos rfl]
  rw [decide_eq_false k2, if_neg Bool.false_ne_true]
  obtain ⟨r, hr1, hr2⟩ := rules x0.f0 x0.f1 x0.f2 x0.f3 x0.f4 x0.f5 x1.f0 x1.f1 x1.f2 x1.f3 x1.f4 x1.f5 x1.f6 x1.f7 x1.f8.f0 x1.f8.f1 x1.f9 x1.f10 (by omega)
  rw [hr1, Option.bind_some, hr2, Option.bind_some, beq_self_eq_true]
end Go.Proofs.YtbccjcdmpiolpaaDoor.Pure
end
section
namespace Go.Proofs.YtbccjcdmpiolpaaDoor.trendRules
open Go.ChangeShapes Go.WideShapes Go.ChangeAt Go.RowKit
open Go.ChangeMaps (open_string shut_string)
open Go.Proofs.YtbccjcdmpiolpaaDoor.Opn Go.Proofs.YtbccjcdmpiolpaaDoorW.PrintWords Go.Proofs.YtbccjcdmpiolpaaDoor.T
set_option linter.unusedVariables false
theorem own : ownKnob Tryd.prog.godebug = none := by kernel_rfl
theorem laidOut : laidOutB Tryd.prog = true := by kernel_rfl
set_option maxHeartbeats 2000000 in
set_option maxRecDepth 100000 in
theorem lifted (os : Os) (started : os.Started) (H : Type) (enc : TypeId × Value → H) :
    ReturnsInHanded {} Tryd.checked os 5 .any (fun w args => (Rows.trendRulesSpec.pre enc Tryd.prog Tryd.f5 Rows.trendRulesRow.domain false w args ∧ laidMet Tryd.prog theLaid w) ∧ sizedMet enc Tryd.prog Tryd.f5 (OpenSpec.ofChange Rows.trendRulesSpec) false w args) (Rows.trendRulesSpec.post enc Tryd.prog Tryd.f5 false true false false) := by
  refine returnsInHanded_of_change_and (C := Tryd.checked) (X := fun w _ => laidMet Tryd.prog theLaid w) (fun _ _ _ hh h => h.of_heap hh) own started (by kernel_rfl) Tryd.func5
    (ChangeSpec.witness_at (enc := enc) (C := Tryd.checked) (os := os) (X := fun w _ => laidMet Tryd.prog theLaid w) false (laidWorld os) #[(.agg #[(.string ⟨#[]⟩), (.string ⟨#[]⟩), (.int .i64 0), (.int .i64 0), (.int .i64 0), (.int .i64 0)]), (.agg #[(.string ⟨#[]⟩), (.int .i64 0), (.int .i64 0), (.string ⟨#[]⟩), (.int .i64 0), (.int .i64 0), (.int .i64 0), (.slice none 0 0), (.int .i64 0), (.int .i64 0), (.int .i64 0), (.int .i64 0)])] 8 rfl (by kernel_rfl) (by kernel_rfl) (by kernel_rfl) (by kernel_rfl) (by kernel_rfl) (laidWorld_met os _)) ?_
  intro W base args ds gs before hval0 hW hcnd hsz0 hL0 _
  have hGl := glob_of_laid hL0
  have hsz : (DataW.weightsEach Tryd.prog (Tryd.f5.params.toList ++ Rows.trendRulesSpec.plain.varTypes Tryd.prog) (ds ++ gs)).all (· ≤ reachBytes) = true := hsz0
  have hval : ∀ (j : Nat) t v, Tryd.f5.params[j]? = some t → args[j]? = some v → Value.okWide Tryd.prog W .any base t v := hval0
  have hW' := hW
  obtain ⟨p, q, hA0, hV, rfl, hfz, hnd⟩ := hW
  have hA : DataW.TrodAll enc Tryd.prog W 0 (fun _ => true) true Tryd.f5.params.toList args.toList ds p := hA0
  rw [Tryd.params5] at hA hval hsz
  obtain ⟨v0, vs0, d0, ds0, p0, q0, hargs, rfl, rfl, h0, r0⟩ := trodAll_cons hA
  obtain ⟨v1, vs1, d1, ds1, p1, q1, rfl, rfl, rfl, h1, r1⟩ := trodAll_cons r0
  obtain ⟨rfl, rfl, rfl⟩ := trodAll_nil r1
  obtain rfl : args = #[v0, v1] := by cases args; simp_all
  obtain ⟨rfl, rfl⟩ := trodVars_none hV
  have k0 := h0
  have lt0 : ∀ x ∈ p0, x.block < W.heap.size := by obtain ⟨m, hm⟩ := k0; exact DataW.trod_lt m _ _ _ hm
  obtain ⟨cs0, hcs0, _⟩ := okWide_struct Tryd.underlying23 (hval 0 23 v0 rfl rfl)
  obtain ⟨x0, ⟨l0, hv0, hK0⟩, hV0⟩ := arg_struct opn23 cs0 hcs0 h0 (arg_weights hsz (j := 0) (t := 23) rfl rfl)
  obtain rfl := k23_open hK0
  clear hcs0
  subst hv0
  have k1 := h1
  have lt1 : ∀ x ∈ p1, x.block < W.heap.size := by obtain ⟨m, hm⟩ := k1; exact DataW.trod_lt m _ _ _ hm
  obtain ⟨cs1, hcs1, _⟩ := okWide_struct Tryd.underlying51 (hval 1 51 v1 rfl rfl)
  obtain ⟨x1, ⟨l1, hv1, hK1⟩, hV1⟩ := arg_struct opn51 cs1 hcs1 h1 (arg_weights hsz (j := 1) (t := 51) rfl rfl)
  obtain ⟨A1_7, c1_7, rfl, hc1_7, hr1_7⟩ := k51_open hK1
  clear hcs1
  subst hv1
  clear hA0 hval0 hsz0 hsz
  obtain ⟨k, h⟩ := Pure.TrendRules x0 x1 hV0 hV1
  refine (T.plenumlaw41_TrendRules.calls k x0.f0 x0.f1 x0.f2 x0.f3 x0.f4 x0.f5 x1.f0 x1.f1 x1.f2 x1.f3 x1.f4 x1.f5 x1.f6 A1_7 c1_7 x1.f7 x1.f8.f0 x1.f8.f1 x1.f9 x1.f10 true W hGl hr1_7 hc1_7 h).mono fun e W' ⟨he, bel0⟩ => ?_
  have bel : Below W.heap.size W W' := bel0
  subst he
  exact ⟨_, rfl, _, _, _, [], _, [], hW', trodAll_mk1 (shut_bool Tryd.underlying4 _), (trodAll_cons_mk (Below.trod laidOut (by kernel_rfl) (of_decide_eq_true (by kernel_rfl)) k0 bel lt0) (trodAll_cons_mk (Below.trod laidOut (by kernel_rfl) (of_decide_eq_true (by kernel_rfl)) k1 bel lt1) trodAll_mk0)), rfl, bel.frame _, fun h => by cases h⟩
theorem over : Rows.trendRulesRow.holds Tryd.pinned (OpenSpec.ofChange Rows.trendRulesSpec) :=
  OpenClaim.holds_of_wide 5 Tryd.f5 rfl rfl rfl rfl rfl rfl rfl ⟨rfl, rfl, rfl, rfl, rfl⟩ rfl rfl rfl rfl rfl (by kernel_rfl) Tryd.func5 (by kernel_rfl)
    (of_decide_eq_true (by kernel_rfl)) (by unfold Func.isWrapper; first | (rw [if_pos (by decide +kernel)]; kernel_rfl) | (rw [if_neg (by decide +kernel)]; exact ⟨rfl, rfl⟩))
    (fun os started H enc _ => lifted os started H enc)
theorem card_holds : Rows.TrendRulesCardSaid :=
  Claim7.holds_tied_plain_at .later [] [.data] true (true, "81b80afe1b1faae234c654a01e677b6be036c5dcdb6685c327ef4299df421bea") false
    over (fun _ h => by cases h) (by kernel_rfl) (fun _ h => by cases h) trendRules_row_tie rfl ⟨rfl, rfl⟩ (by kernel_rfl) rfl
    (fun f fn hf hfn => by
      obtain rfl : f = 5 := Option.some.inj ((show Tryd.prog.funcNamed "plenum/plenumlaw41.TrendRules" = some 5 by kernel_rfl).symm.trans hf) |>.symm
      obtain rfl : fn = Tryd.f5 := (Option.some.inj (Tryd.func5.symm.trans hfn)).symm
      exact ⟨by kernel_rfl, fun j t ht => by
        rw [Tryd.params5] at ht
        have ho : t = 23 ∨ t = 51 := by
          rcases j with _ | _ | j
          all_goals simp at ht
          all_goals subst ht; simp
        obtain rfl | rfl := ho
        · exact (show Tryd.prog.wantsStandIn 23 = false by kernel_rfl)
        · exact (show Tryd.prog.wantsStandIn 51 = false by kernel_rfl)⟩)
    (by kernel_rfl)
#print axioms card_holds
end Go.Proofs.YtbccjcdmpiolpaaDoor.trendRules
namespace Go.Proofs.YtbccjcdmpiolpaaDoor
theorem trendRules_holds : Rows.TrendRulesCardSaid := trendRules.card_holds
end Go.Proofs.YtbccjcdmpiolpaaDoor
end
