/- TrendRestoresCard: one part of the proof that the law answers true for every input, and that its arguments read afterwards as before. No condition. -/
import Derived.Test.YtbccjcdmpiolpaaDoorCRest4
import Derived.Outline
import Derived.Deep.OwnRows
import Derived.LoopTactic
section
namespace Go.Proofs.YtbccjcdmpiolpaaDoor.T
open Go.RowKit Go.Proofs.YtbccjcdmpiolpaaDoor.Pure Go.Proofs.YtbccjcdmpiolpaaDoorW.PrintWords Go.Proofs.YtbccjcdmpiolpaaDoorW.PrintLast Go.Proofs.YtbccjcdmpiolpaaDoorW.PrintMore
set_option linter.unusedVariables false
set_option linter.unusedSimpArgs false
attribute [local go_sem] max2_int min2_int max_two min_two
abbrev DC (nm pt : ByteArray) (way iv st sz now total : Int) (v : Value) : Array Value := #[.string nm, .string pt, .int .i64 way, .int .i64 iv, .int .i64 st, .int .i64 sz, .int .i64 now, .bool false, .int .i64 0, .int .i64 0, .int .i64 0, .int .i64 0, .int .i64 total, v]
def DocPost (w : World) (nm pt : ByteArray) (way iv st sz : Int) (r : Option (Int × Int × List S44)) (e : Ending) (w' : World) : Prop :=
 Below w.heap.size w w' ∧ match r with
 | none => ∃ p : Value, e = .returned (.tuple #[p, .bool false])
 | some r => ∃ g v, e = .returned (.tuple #[.pointer (some ⟨g, 0, none⟩), .bool true]) ∧ w'.heap[g]? = some (.cells (DC nm pt way iv st sz r.2.1 r.1 v) 60 (0, 0)) ∧ Kd.R k44 44 w' w.heap.size (fun _ => True) v r.2.2
theorem DocPost.no {w w' : World} {nm pt : ByteArray} {way iv st sz : Int} {r : Option (Int × Int × List S44)} {p : Value} (hr : r = none) (hb : Below w.heap.size w w') : DocPost w nm pt way iv st sz r (.returned (.tuple #[p, .bool false])) w' := by
 subst hr
 exact ⟨hb, p, rfl⟩
theorem IS.far {w0 w : World} {ga : Nat} {s : ByteArray} {o : Option Int} (h : IS w0 w ga s o) {g : Nat} {cs : Array Value} {t : TypeId} (hg : w.heap[g]? = some (.cells cs t (0, 0))) (h1 : t ≠ 86) (j : Nat) (u : Value) : IS w0 (w.setCell ⟨g, j, none⟩ u) ga s o := by
 obtain ⟨p, b, h2, h3⟩ := h
 exact ⟨p, b, h2.far (p := ⟨g, j, none⟩) (blk_ne h2.1 hg (Ne.symm h1)) u, h3⟩
theorem two_none {s : ByteArray} {sz hv : Int} (hv1 : ∀ u q, ((some 0).bind fun p => lS s p) = some (u, q) → hv = u) (h : (hv == 2) = false) : restS s sz = none := by
 have e : lstO s 2 (some 0) = none := by
  show (lS s 0).bind _ = none
  cases hl : lS s 0 with
  | none => rfl
  | some a =>
   have := hv1 a.1 a.2 hl
   rw [Option.bind_some]
   exact if_neg (fun q => by rw [this, q] at h; exact absurd h (by decide))
 unfold restS
 rw [e]
 rfl
theorem two_some {s : ByteArray} {hv : Int} (hv1 : ∀ u q, ((some 0).bind fun p => lS s p) = some (u, q) → hv = u) (h : hv = 2) : (((some 0).bind fun p => lS s p).map Prod.snd) = lstO s 2 (some 0) := by
 show (lS s 0).map Prod.snd = (lS s 0).bind _
 cases hl : lS s 0 with
 | none => rfl
 | some a =>
  have := hv1 a.1 a.2 hl
  rw [Option.bind_some, Option.map_some]
  exact (if_pos (by rw [← this, h])).symm
theorem x4_size {s xb : ByteArray} {o : Option Int} {b : Bool} (hz : s.size ≤ 140737488355327) (hn : ((o.bind fun p => tS s p).map Prod.snd) = none → b = true) (hv : ∀ u q, (o.bind fun p => tS s p) = some (u, q) → xb = u) (hb : b = false) : xb.size ≤ 140737488355327 := by
 cases h : (o.bind fun p => tS s p) with
 | none => rw [h] at hn; have := hn rfl; rw [hb] at this; cases this
 | some a =>
  have e := hv a.1 a.2 h
  subst e
  obtain ⟨p, _, hp⟩ := Option.bind_eq_some_iff.1 h
  have := tS_size (show tS s p = some (a.1, a.2) from hp)
  omega
theorem head_some {s : ByteArray} {n p hv : Int} (hv1 : ∀ u q, ((some p).bind fun p => lS s p) = some (u, q) → hv = u) (h : hv = n) : (((some p).bind fun p => lS s p).map Prod.snd) = lstO s n (some p) := by
 show (lS s p).map Prod.snd = (lS s p).bind _
 cases hl : lS s p with
 | none => rfl
 | some a =>
  have := hv1 a.1 a.2 hl
  rw [Option.bind_some, Option.map_some]
  exact (if_pos (by rw [← this, h])).symm
theorem head_none {s : ByteArray} {n p hv : Int} (hv1 : ∀ u q, ((some p).bind fun p => lS s p) = some (u, q) → hv = u) (h : hv ≠ n) : lstO s n (some p) = none := by
 show (lS s p).bind _ = none
 cases hl : lS s p with
 | none => rfl
 | some a =>
  have := hv1 a.1 a.2 hl
  rw [Option.bind_some]
  exact if_neg (fun q => h (by rw [this, q]))
theorem three_none {s : ByteArray} {sz hv : Int} (hv1 : ∀ u q, ((some 0).bind fun p => lS s p) = some (u, q) → hv = u) (h : hv ≠ 3) : bodyS s sz = none := by
 unfold bodyS
 rw [head_none hv1 h]
 rfl
def DL (B gl : Nat) (nm pt : ByteArray) (way iv st sz now total : Int) (acc : List S44) (w : World) : Prop := ∃ v, w.heap[gl]? = some (.cells (DC nm pt way iv st sz now total v) 60 (0, 0)) ∧ B ≤ gl ∧ Kd.R k44 44 w B (fun _ => True) v acc
theorem R44_keepI {B : Nat} {w w1 : World} {v : Value} {xs : List S44} (h : Kd.R k44 44 w B (fun _ => True) v xs) (hk : KeepI w w1) : Kd.R k44 44 w1 B (fun _ => True) v xs :=
 Kd.R_mono (Kd.R_step (Kd.R_bound h) (fun k hk' hlt => by
  obtain ⟨_, _, _, q, hq, cells, hc⟩ := hk'
  rcases List.mem_cons.1 hq with rfl | hq
  ·rw [hc]
   exact hk.keep k cells 44 hc (by decide)
  ·cases hq)) (fun _ _ => trivial)
theorem DL.keepI {B gl : Nat} {nm pt : ByteArray} {way iv st sz now total : Int} {acc : List S44} {w w1 : World} (h : DL B gl nm pt way iv st sz now total acc w) (hk : KeepI w w1) : DL B gl nm pt way iv st sz now total acc w1 := by
 obtain ⟨v, h1, h2, h3⟩ := h
 exact ⟨v, hk.keep _ _ _ h1 (by decide), h2, R44_keepI h3 hk⟩
theorem DL.c12 {B gl : Nat} {nm pt : ByteArray} {way iv st sz now total : Int} {acc : List S44} {w : World} (h : DL B gl nm pt way iv st sz now total acc w) : w.cell? ⟨gl, 12, none⟩ = some (.int .i64 total) := by
 obtain ⟨v, h1, _⟩ := h
 exact (blk_cell h1 12).trans rfl
theorem DL.c6 {B gl : Nat} {nm pt : ByteArray} {way iv st sz now total : Int} {acc : List S44} {w : World} (h : DL B gl nm pt way iv st sz now total acc w) : w.cell? ⟨gl, 6, none⟩ = some (.int .i64 now) := by
 obtain ⟨v, h1, _⟩ := h
 exact (blk_cell h1 6).trans rfl
theorem KeepI.setNew {w w1 : World} (h : KeepI w w1) {g : Nat} (hg : w.heap.size ≤ g) (j : Nat) (u : Value) : KeepI w (w1.setCell ⟨g, j, none⟩ u) := ⟨by simpa [World.setCell] using h.size, fun k cs t hk h1 => blk_far (h.keep k cs t hk h1) (p := ⟨g, j, none⟩) (by have := blk_lt hk; intro e; simp only [] at e; omega) u⟩
structure DI (w : World) (gb : Nat) (xb : ByteArray) (gl : Nat) (nm pt : ByteArray) (way iv st sz x1 x2 x3 p0 : Int) (n j : Nat) (bf p : Int) (acc : List S44) (wr : World) : Prop where
 ist : IS w wr gb xb (some p)
 log : DL w.heap.size gl nm pt way iv st sz x2 x1 acc wr
 bel : Below w.heap.size w wr
 spec : loopS xb x1 x2 x3 n 0 0 p0 = (loopS xb x1 x2 x3 (n - j) (j : Int) bf p).map fun r => (acc ++ r.1, r.2)
 len : acc.length = j
theorem rec_head {s : ByteArray} {o : Option Int} (h : lstO s 5 o = none) : recS s o = none := by
 unfold recS
 rw [h]
 rfl
theorem R_set60 {B g : Nat} {w : World} {cs : Array Value} {v : Value} {ring : List S44} (hv : w.heap[g]? = some (.cells cs 60 (0, 0))) (ho : Kd.R k44 44 w B (fun _ => True) v ring) (j : Nat) (u : Value) : Kd.R k44 44 (w.setCell ⟨g, j, none⟩ u) B (fun _ => True) v ring :=
 Kd.R_set ho hv (fun q hq => by
  rcases List.mem_cons.1 hq with rfl | hq
  ·decide
  ·cases hq) j u
theorem DL.drewD {B gl : Nat} {nm pt : ByteArray} {way iv st sz now total : Int} {acc : List S44} {w : World} (h : DL B gl nm pt way iv st sz now total acc w) : DL B gl nm pt way iv st sz now total acc w.drew := by
 obtain ⟨v, h1, h2, h3⟩ := h
 exact ⟨v, blk_drew h1, h2, Kd.R_drew h3⟩
theorem doc_o3 {s : ByteArray} {hv : Int} (h1 : ∀ u q, ((some 0).bind fun p => lS s p) = some (u, q) → hv = u) (h : hv = 2) :
  ((((((some 0).bind fun p => lS s p).map Prod.snd).bind fun p => tS s p).map Prod.snd).bind fun p => tS s p) = ((((lstO s 2 (some 0)).bind fun p => tS s p).map Prod.snd).bind fun p => tS s p) := by
 rw [two_some h1 h]
theorem bad_none {s : ByteArray} {sz hv p1 : Int} {b1 : Bool} (h1 : ∀ u q, ((some 0).bind fun p => lS s p) = some (u, q) → hv = u) (h : hv = 2)
  (hp : 0 ≤ p1 ∧ (∀ q, ((((((some 0).bind fun p => lS s p).map Prod.snd).bind fun p => tS s p).map Prod.snd).bind fun p => tS s p).map Prod.snd = some q → p1 = q ∧ b1 = false) ∧ (((((((some 0).bind fun p => lS s p).map Prod.snd).bind fun p => tS s p).map Prod.snd).bind fun p => tS s p).map Prod.snd = none → b1 = true)) (hb : b1 = true) : restS s sz = none := by
 rw [doc_o3 h1 h] at hp
 refine rest_none ?_
 cases hh : ((((lstO s 2 (some 0)).bind fun p => tS s p).map Prod.snd).bind fun p => tS s p).map Prod.snd with
 | none => rfl
 | some q =>
  have := (hp.2.1 q hh).2
  rw [hb] at this
  cases this
theorem good_some {s xd xb : ByteArray} {sz hv p1 : Int} {b1 : Bool} (h1 : ∀ u q, ((some 0).bind fun p => lS s p) = some (u, q) → hv = u) (h : hv = 2)
  (hp : 0 ≤ p1 ∧ (∀ q, ((((((some 0).bind fun p => lS s p).map Prod.snd).bind fun p => tS s p).map Prod.snd).bind fun p => tS s p).map Prod.snd = some q → p1 = q ∧ b1 = false) ∧ (((((((some 0).bind fun p => lS s p).map Prod.snd).bind fun p => tS s p).map Prod.snd).bind fun p => tS s p).map Prod.snd = none → b1 = true)) (hb : ¬ b1 = true)
  (hd : ∀ u q, ((((some 0).bind fun p => lS s p).map Prod.snd).bind fun p => tS s p) = some (u, q) → xd = u) (hx : ∀ u q, ((((((some 0).bind fun p => lS s p).map Prod.snd).bind fun p => tS s p).map Prod.snd).bind fun p => tS s p) = some (u, q) → xb = u) :
  restS s sz = (if p1 = (s.size : Int) ∧ xd.toList = (digB xb).toList then bodyS xb sz else none) ∧ xb.size ≤ s.size := by
 rw [doc_o3 h1 h] at hp hx
 rw [two_some h1 h] at hd
 cases hh : ((((lstO s 2 (some 0)).bind fun p => tS s p).map Prod.snd).bind fun p => tS s p).map Prod.snd with
 | none => exact absurd (hp.2.2 hh) hb
 | some q =>
  have e := (hp.2.1 q hh).1
  subst e
  have := rest_some (sz := sz) hh hd hx
  exact ⟨this.1, this.2.1⟩
set_option maxHeartbeats 16000000 in
set_option maxRecDepth 100000 in
theorem doc_calls (nm pt : ByteArray) (way iv st sz : Int) (s : ByteArray) (w : World) (hG : Glob w) (hz : s.size ≤ 140737488355327) :
  Calls Tryd.prog 20 #[.agg #[.string nm, .string pt, .int .i64 way, .int .i64 iv, .int .i64 st, .int .i64 sz], .string s] w fun e w' => DocPost w nm pt way iv st sz (restS s sz) e w' := by
 have HG := Aside0.mk hG
 have HZS := Aside0.mk hz
 clear hG hz
 have hu44 := Tryd.underlying44
 have hu30 := Tryd.underlying30
 go_enter Tryd.func20, Tryd.ntmps20
 go_wp2_with (first | ((with_reducible refine gate_dst (N := 2) rfl ?_); refine box_event ?hg (N := 2) ?hd (cs := #[.string nm, .string pt, .int .i64 way, .int .i64 iv, .int .i64 st, .int .i64 sz]) (t := 23) ?hr ?_; (case hd => rfl); (case hg => rfl); (case hr => first | (go_simp; done) | (go_simp; rfl)); intro gt hgz wz hbox hb; have HR0 := Aside0.mk hbox; have HB0 := Aside0.mk hb; skip; clear hb hbox hgz) | ((with_reducible refine gate_dst (N := 20) rfl ?_); refine box_event ?hg (N := 20) ?hd (cs := #[.string s, .int .i64 0, .bool false]) (t := 86) ?hr ?_; (case hd => rfl); (case hg => rfl); (case hr => first | (go_simp; done) | (go_simp; rfl)); intro ga hgz wz hbox hb; have HR1 := Aside0.mk (blk_below HR0.out hb); have HB1 := Aside0.mk (below_step HB0.out hb); have HA1 := Aside0.mk (show IS w wz ga s (some 0) from ⟨0, false, ⟨hbox, by rw [hgz]; exact HB0.out.size⟩, Int.le_refl 0, fun q hq => by injection hq with hq; exact ⟨hq, rfl⟩, fun hn => by cases hn⟩); clear hb hbox hgz) | (go_at_call 40; (with_reducible refine (ih_calls w ga s (some 0) _ HG.out HZS.out HA1.out HB1.out).mono ?_); rintro e w2 ⟨hv, rfl, hr⟩; have HVhv := Aside0.mk hr.val; have HB2 := Aside0.mk hr.bel; have HA2 := Aside0.mk hr.st; have HR2 := Aside0.mk (hr.keep.keep _ _ _ HR1.out (by decide));  clear hr) | (go_at_call 41; (with_reducible refine (it_calls w ga s (((some 0).bind fun p => lS s p).map Prod.snd) _ HG.out HZS.out HA2.out HB2.out).mono ?_); rintro e w3 ⟨xd, rfl, hr⟩; have HVxd := Aside0.mk hr.val; have HB3 := Aside0.mk hr.bel; have HA3 := Aside0.mk hr.st; have HR3 := Aside0.mk (hr.keep.keep _ _ _ HR2.out (by decide));  clear hr) | (go_at_call 41; (with_reducible refine (it_calls w ga s (((((some 0).bind fun p => lS s p).map Prod.snd).bind fun p => tS s p).map Prod.snd) _ HG.out HZS.out HA3.out HB3.out).mono ?_); rintro e w4 ⟨xb, rfl, hr⟩; have HVxb := Aside0.mk hr.val; have HB4 := Aside0.mk hr.bel; have HA4 := Aside0.mk hr.st; have HR4 := Aside0.mk (hr.keep.keep _ _ _ HR3.out (by decide)); obtain ⟨p1, b1, hi1, h01, hg1, hn1⟩ := hr.st; have HI4 := Aside0.mk hi1; have HP4 := Aside0.mk (And.intro h01 (And.intro hg1 hn1)); have a1 := (blk_cell hi1.1 1).trans rfl; have a2 := (blk_cell hi1.1 2).trans rfl; clear hi1 h01 hg1 hn1; clear hr) | (go_at_call 42; (with_reducible refine (id_calls xb _ (Glob.below HG.out HB4.out) (x4_size HZS.out HP4.out.2.2 HVxb.out (by first | assumption | exact Bool.eq_false_iff.mpr (by assumption)))).mono ?_); rintro e w5 ⟨rfl, hb⟩; have HB5 := Aside0.mk (below_step HB4.out hb); have HR5 := Aside0.mk (blk_below HR4.out hb); clear hb) | ((with_reducible refine gate_dst (N := 53) rfl ?_); refine box_event ?hg (N := 53) ?hd (cs := #[.string xb, .int .i64 0, .bool false]) (t := 86) ?hr ?_; (case hd => rfl); (case hg => rfl); (case hr => first | (go_simp; done) | (go_simp; rfl)); intro gb hgz wz hbox hb; have HR6 := Aside0.mk (blk_below HR5.out hb); have HB6 := Aside0.mk (below_step HB5.out hb); have HA6 := Aside0.mk (show IS w wz gb xb (some 0) from ⟨0, false, ⟨hbox, by rw [hgz]; exact HB5.out.size⟩, Int.le_refl 0, fun q hq => by injection hq with hq; exact ⟨hq, rfl⟩, fun hn => by cases hn⟩); clear hb hbox hgz))
 all_goals first
  | (go_ret2; exact DocPost.no (two_none HVhv.out (beq_false_of_ne (by assumption))) HB4.out)
  | (go_ret2; exact DocPost.no (bad_none HVhv.out (by assumption) HP4.out (by assumption)) HB4.out)
  | (go_ret2; exact DocPost.no (by rw [(good_some (sz := sz) HVhv.out (by assumption) HP4.out (by assumption) HVxd.out HVxb.out).1]; exact if_neg (fun q => absurd q.1 (by assumption))) HB4.out)
  | (go_ret2; exact DocPost.no (by
    rw [(good_some (sz := sz) HVhv.out (by assumption) HP4.out (by assumption) HVxd.out HVxb.out).1]
    refine if_neg (fun q => ?_)
    have h9 : (!(digB xb).toList == xd.toList) = true := by assumption
    rw [q.2, beq_self_eq_true] at h9
    cases h9) HB5.out)
  | skip
 have HZX := Aside0.mk (x4_size HZS.out HP4.out.2.2 HVxb.out (Bool.eq_false_iff.mpr (by assumption)))
 have HSPEC := Aside0.mk (show restS s sz = bodyS xb sz by
  rw [(good_some (sz := sz) HVhv.out (by assumption) HP4.out (by assumption) HVxd.out HVxb.out).1]
  refine if_pos ⟨by assumption, ?_⟩
  have h9 : (!(digB xb).toList == xd.toList) = false := by assumption
  rw [Bool.not_eq_false'] at h9
  exact (eq_of_beq h9).symm)
 clear a1 a2
 go_wp2_with (first | (go_at_call 40; (with_reducible refine (ih_calls w gb xb (some 0) _ HG.out HZX.out HA6.out HB6.out).mono ?_); rintro e w7 ⟨tv, rfl, hr⟩; have HVtv := Aside0.mk hr.val; have HB7 := Aside0.mk hr.bel; have HA7 := Aside0.mk hr.st; have HR7 := Aside0.mk (hr.keep.keep _ _ _ HR6.out (by decide)); have x0 := (blk_cell HR7.out 0).trans rfl; have x1 := (blk_cell HR7.out 1).trans rfl; have x2 := (blk_cell HR7.out 2).trans rfl; have x3 := (blk_cell HR7.out 3).trans rfl; have x4 := (blk_cell HR7.out 4).trans rfl; have x5 := (blk_cell HR7.out 5).trans rfl; clear hr) | ((with_reducible refine gate_dst (N := 59) rfl ?_); refine box_event ?hg (N := 59) ?hd (cs := DC nm pt way iv st sz 0 0 (.slice none 0 0)) (t := 60) ?hr ?_; (case hd => rfl); (case hg => rfl); (case hr => first | (go_simp; done) | (go_simp; rfl)); intro gl hgz wz hbox hb; have HR8 := Aside0.mk (blk_below HR7.out hb); have HB8 := Aside0.mk (below_step HB7.out hb); have HA8 := Aside0.mk (HA7.out.below hb); have HD8 := Aside0.mk (show wz.heap[gl]? = some (.cells (DC nm pt way iv st sz 0 0 (.slice none 0 0)) 60 (0, 0)) from hbox); have HGL := Aside0.mk (show w.heap.size ≤ gl by rw [hgz]; exact HB7.out.size); clear hb hbox hgz) | (go_at_call 43; (with_reducible refine (iu_calls w gb xb (((some 0).bind fun p => lS xb p).map Prod.snd) _ HG.out HZX.out HA8.out HB8.out).mono ?_); rintro e w9 ⟨x1_, rfl, hr, hn0, hn1⟩; have HVx1_ := Aside0.mk hr.val; have HB9 := Aside0.mk hr.bel; have HA9 := Aside0.mk hr.st; have HR9 := Aside0.mk (hr.keep.keep _ _ _ HR8.out (by decide)); have HX1R := Aside0.mk (And.intro hn0 hn1); have HD9 := Aside0.mk (hr.keep.keep _ _ _ HD8.out (by decide)); have f12 := blk_frozen HD9.out 12; have c12 := (blk_cell HD9.out 12).trans rfl; have f6 := blk_frozen HD9.out 6; have c6 := (blk_cell HD9.out 6).trans rfl; clear hr))
 have HD10 := Aside0.mk (show (w9.setCell ⟨gl, 12, none⟩ (.int .i64 x1_)).heap[gl]? = some (.cells (DC nm pt way iv st sz 0 x1_ (.slice none 0 0)) 60 (0, 0)) from blk_put HD9.out 12 _ rfl)
 have HA10 := Aside0.mk (IS.far HA9.out HD9.out (by decide) 12 (.int .i64 x1_))
 have HR10 := Aside0.mk (blk_far HR9.out (p := ⟨gl, 12, none⟩) (blk_ne HR9.out HD9.out (by decide)) (.int .i64 x1_))
 have HB10 := Aside0.mk (HB9.out.setCell (p := ⟨gl, 12, none⟩) HGL.out (.int .i64 x1_))
 generalize w9.setCell ⟨gl, 12, none⟩ (.int .i64 x1_) = w10 at HD10 HA10 HR10 HB10 ⊢
 clear f12 c12 f6 c6
 go_wp2_with (go_at_call 43; (with_reducible refine (iu_calls w gb xb ((numO xb MI (((some 0).bind fun p => lS xb p).map Prod.snd)).map Prod.snd) _ HG.out HZX.out HA10.out HB10.out).mono ?_); rintro e w11 ⟨x2_, rfl, hr, hn0, hn1⟩; have HVx2_ := Aside0.mk hr.val; have HB11 := Aside0.mk hr.bel; have HA11 := Aside0.mk hr.st; have HR11 := Aside0.mk (hr.keep.keep _ _ _ HR10.out (by decide)); have HX2R := Aside0.mk (And.intro hn0 hn1); have HD11 := Aside0.mk (hr.keep.keep _ _ _ HD10.out (by decide)); have f12 := blk_frozen HD11.out 12; have c12 := (blk_cell HD11.out 12).trans rfl; have f6 := blk_frozen HD11.out 6; have c6 := (blk_cell HD11.out 6).trans rfl; clear hr)
 have HD12 := Aside0.mk (show (w11.setCell ⟨gl, 6, none⟩ (.int .i64 x2_)).heap[gl]? = some (.cells (DC nm pt way iv st sz x2_ x1_ (.slice none 0 0)) 60 (0, 0)) from blk_put HD11.out 6 _ rfl)
 have HA12 := Aside0.mk (IS.far HA11.out HD11.out (by decide) 6 (.int .i64 x2_))
 have HR12 := Aside0.mk (blk_far HR11.out (p := ⟨gl, 6, none⟩) (blk_ne HR11.out HD11.out (by decide)) (.int .i64 x2_))
 have HB12 := Aside0.mk (HB11.out.setCell (p := ⟨gl, 6, none⟩) HGL.out (.int .i64 x2_))
 generalize w11.setCell ⟨gl, 6, none⟩ (.int .i64 x2_) = w12 at HD12 HA12 HR12 HB12 ⊢
 clear f12 c12 f6 c6
 go_wp2_with (go_at_call 40; (with_reducible refine (ih_calls w gb xb ((numO xb MI ((numO xb MI (((some 0).bind fun p => lS xb p).map Prod.snd)).map Prod.snd)).map Prod.snd) _ HG.out HZX.out HA12.out HB12.out).mono ?_); rintro e w13 ⟨x3_, rfl, hr⟩; have HVx3_ := Aside0.mk hr.val; have HB13 := Aside0.mk hr.bel; have HA13 := Aside0.mk hr.st; have HR13 := Aside0.mk (hr.keep.keep _ _ _ HR12.out (by decide)); have HD13 := Aside0.mk (hr.keep.keep _ _ _ HD12.out (by decide)); obtain ⟨p2, b2, hi2, h02, hg2, hn2⟩ := hr.st; have HI13 := Aside0.mk hi2; have HP13 := Aside0.mk (And.intro h02 (And.intro hg2 hn2)); clear hi2 h02 hg2 hn2; clear hr)
 have a2 := (blk_cell HI13.out.1 2).trans rfl
 have c12 := (blk_cell HD13.out 12).trans rfl
 have g5 := (blk_cell HR13.out 5).trans rfl
 by_cases k1 : tv = 3
 case neg =>
  have k1b : (tv == 3) = false := beq_false_of_ne k1
  have HNO := Aside0.mk (show restS s sz = none by rw [HSPEC.out]; exact three_none HVtv.out k1)
  clear k1
  have HI14 := Aside0.mk HI13.out.drew
  have HD14 := Aside0.mk (blk_drew HD13.out)
  have HB14 := Aside0.mk (below_drew1 HB13.out)
  refine start_ (n := 19) (S := fun w' => w'.cell? ⟨gb, 2, none⟩ = some (.bool b2) ∧ w'.cell? ⟨gl, 12, none⟩ = some (.int .i64 x1_) ∧ w'.cell? ⟨gt, 5, none⟩ = some (.int .i64 sz)) (ds := []) #[Yn, Yn, Yn, Yn, Yn, Yn, Yn, Yn, Yn, Yn, Yn, Yn, Yn, Yn, Yn, Yn, Yn, Yn, Yn] (by kernel_rfl) rfl rfl ⟨a2, c12, g5⟩ (fun hHeld => ?_)
  generalize w13.drew = w14 at HI14 HD14 HB14 hHeld ⊢
  refine P1 0 72 ?_ (Bz 19 0x1) ?_ ?_ ?_ ?_
  rotate_left
  ·intro w'
   go_simp
   with_reducible rfl
  rotate_left
  ·simp only [Act.put, Z1, Z2, Z3, i64_w, i32_w]
   rfl
  refine P1 1 73 ?_ (Bz 19 0x3) ?_ ?_ ?_ ?_
  rotate_left
  ·intro w'
   go_simp
   with_reducible rfl
  rotate_left
  ·simp only [Act.put, Z1, Z2, Z3, i64_w, i32_w]
   rfl
  refine P1 2 74 ?_ (Bz 19 0x7) ?_ ?_ ?_ ?_
  rotate_left
  ·intro w'
   go_simp
   with_reducible rfl
  rotate_left
  ·simp only [Act.put, Z1, Z2, Z3, i64_w, i32_w]
   rfl
  refine P2 3 75 (Bz 19 0xf) ?_ ?_ ?_
  rotate_left
  ·simp only [Act.put, Z1, Z2, Z3, i64_w, i32_w]
   rfl
  refine P2 4 76 (Bz 19 0x1f) ?_ ?_ ?_
  rotate_left
  ·simp only [Act.put, Z1, Z2, Z3, i64_w, i32_w]
   rfl
  refine P2 5 77 (Bz 19 0x3f) ?_ ?_ ?_
  rotate_left
  ·simp only [Act.put, Z1, Z2, Z3, i64_w, i32_w]
   rfl
  refine P2 6 78 (Bz 19 0x7f) ?_ ?_ ?_
  rotate_left
  ·simp only [Act.put, Z1, Z2, Z3, i64_w, i32_w]
   rfl
  refine P1 7 79 ?_ (Bz 19 0xff) ?_ ?_ ?_ ?_
  rotate_left
  ·intro w'
   go_simp
   with_reducible rfl
  rotate_left
  ·simp only [Act.put, Z1, Z2, Z3, i64_w, i32_w]
   rfl
  refine P1 8 80 ?_ (Bz 19 0x1ff) ?_ ?_ ?_ ?_
  rotate_left
  ·intro w'
   go_simp
   with_reducible rfl
  rotate_left
  ·simp only [Act.put, Z1, Z2, Z3, i64_w, i32_w]
   rfl
  refine P2 9 81 (Bz 19 0x3ff) ?_ ?_ ?_
  rotate_left
  ·simp only [Act.put, Z1, Z2, Z3, i64_w, i32_w]
   rfl
  refine P2 10 82 (Bz 19 0x7ff) ?_ ?_ ?_
  rotate_left
  ·simp only [Act.put, Z1, Z2, Z3, i64_w, i32_w]
   rfl
  refine P2 11 83 (Bz 19 0xfff) ?_ ?_ ?_
  rotate_left
  ·simp only [Act.put, Z1, Z2, Z3, i64_w, i32_w]
   rfl
  refine P2 12 84 (Bz 19 0x1fff) ?_ ?_ ?_
  rotate_left
  ·simp only [Act.put, Z1, Z2, Z3, i64_w, i32_w]
   rfl
  refine P2 13 85 (Bz 19 0x3fff) ?_ ?_ ?_
  rotate_left
  ·simp only [Act.put, Z1, Z2, Z3, i64_w, i32_w]
   rfl
  refine P2 14 86 (Bz 19 0x7fff) ?_ ?_ ?_
  rotate_left
  ·simp only [Act.put, Z1, Z2, Z3, i64_w, i32_w]
   rfl
  refine P2 15 87 (Bz 19 0xffff) ?_ ?_ ?_
  rotate_left
  ·simp only [Act.put, Z1, Z2, Z3, i64_w, i32_w]
   rfl
  refine P2 16 88 (Bz 19 0x1ffff) ?_ ?_ ?_
  rotate_left
  ·simp only [Act.put, Z1, Z2, Z3, i64_w, i32_w]
   rfl
  refine P2 17 89 (Bz 19 0x3ffff) ?_ ?_ ?_
  rotate_left
  ·simp only [Act.put, Z1, Z2, Z3, i64_w, i32_w]
   rfl
  refine P1 18 90 ?_ (Bz 19 0x7ffff) ?_ ?_ ?_ ?_
  rotate_left
  ·intro w'
   go_simp
   with_reducible rfl
  rotate_left
  ·simp only [Act.put, Z1, Z2, Z3, i64_w, i32_w]
   rfl
  refine done_ (by kernel_rfl) ?_
  clear a2 c12 g5 hHeld
  go_wp2
  go_ret2
  exact DocPost.no HNO.out HB14.out
 have k1b : (tv == 3) = true := by rw [k1]; rfl
 by_cases k2 : b2 = true
 case pos =>
  have HNO := Aside0.mk (show restS s sz = none by
   rw [HSPEC.out]
   refine body_none ?_
   have h := HP13.out.2.1
   rw [head_some HVtv.out k1] at h
   cases hh : ((((numO xb MI ((numO xb MI (lstO xb 3 (some 0))).map Prod.snd)).map Prod.snd).bind fun p => lS xb p).map Prod.snd) with
   | none => rfl
   | some q => have := (h q hh).2; rw [k2] at this; cases this)
  subst k2
  clear k1
  have HI14 := Aside0.mk HI13.out.drew
  have HD14 := Aside0.mk (blk_drew HD13.out)
  have HB14 := Aside0.mk (below_drew1 HB13.out)
  refine start_ (n := 19) (S := fun w' => w'.cell? ⟨gb, 2, none⟩ = some (.bool true) ∧ w'.cell? ⟨gl, 12, none⟩ = some (.int .i64 x1_) ∧ w'.cell? ⟨gt, 5, none⟩ = some (.int .i64 sz)) (ds := []) #[Yn, Yn, Yn, Yn, Yn, Yn, Yn, Yn, Yn, Yn, Yn, Yn, Yn, Yn, Yn, Yn, Yn, Yn, Yn] (by kernel_rfl) rfl rfl ⟨a2, c12, g5⟩ (fun hHeld => ?_)
  generalize w13.drew = w14 at HI14 HD14 HB14 hHeld ⊢
  refine P1 0 72 ?_ (Bz 19 0x1) ?_ ?_ ?_ ?_
  rotate_left
  ·intro w'
   go_simp
   with_reducible rfl
  rotate_left
  ·simp only [Act.put, Z1, Z2, Z3, i64_w, i32_w]
   rfl
  refine P1 1 73 ?_ (Bz 19 0x3) ?_ ?_ ?_ ?_
  rotate_left
  ·intro w'
   go_simp
   with_reducible rfl
  rotate_left
  ·simp only [Act.put, Z1, Z2, Z3, i64_w, i32_w]
   rfl
  refine P1 2 74 ?_ (Bz 19 0x7) ?_ ?_ ?_ ?_
  rotate_left
  ·intro w'
   go_simp
   with_reducible rfl
  rotate_left
  ·simp only [Act.put, Z1, Z2, Z3, i64_w, i32_w]
   rfl
  refine P1 3 75 ?_ (Bz 19 0xf) ?_ ?_ ?_ ?_
  rotate_left
  ·intro w'
   go_simp
   with_reducible rfl
  rotate_left
  ·simp only [Act.put, Z1, Z2, Z3, i64_w, i32_w]
   rfl
  refine P1 4 76 ?_ (Bz 19 0x1f) ?_ ?_ ?_ ?_
  rotate_left
  ·intro w'
   go_simp
   with_reducible rfl
  rotate_left
  ·simp only [Act.put, Z1, Z2, Z3, i64_w, i32_w]
   rfl
  refine P1 5 77 ?_ (Bz 19 0x3f) ?_ ?_ ?_ ?_
  rotate_left
  ·intro w'
   go_simp
   with_reducible rfl
  rotate_left
  ·simp only [Act.put, Z1, Z2, Z3, i64_w, i32_w]
   rfl
  refine P5 6 78 ?_ (Bz 19 0x7f) ?_ hHeld ?_ ?_ ?_
  rotate_left
  ·rintro w' ⟨s0, s1, s2⟩
   go_simp
   with_reducible rfl
  rotate_left
  ·simp only [Act.put, Z1, Z2, Z3, i64_w, i32_w]
   rfl
  refine P1 7 79 ?_ (Bz 19 0xff) ?_ ?_ ?_ ?_
  rotate_left
  ·intro w'
   go_simp
   with_reducible rfl
  rotate_left
  ·simp only [Act.put, Z1, Z2, Z3, i64_w, i32_w]
   rfl
  refine P1 8 80 ?_ (Bz 19 0x1ff) ?_ ?_ ?_ ?_
  rotate_left
  ·intro w'
   go_simp
   with_reducible rfl
  rotate_left
  ·simp only [Act.put, Z1, Z2, Z3, i64_w, i32_w]
   rfl
  refine P2 9 81 (Bz 19 0x3ff) ?_ ?_ ?_
  rotate_left
  ·simp only [Act.put, Z1, Z2, Z3, i64_w, i32_w]
   rfl
  refine P2 10 82 (Bz 19 0x7ff) ?_ ?_ ?_
  rotate_left
  ·simp only [Act.put, Z1, Z2, Z3, i64_w, i32_w]
   rfl
  refine P2 11 83 (Bz 19 0xfff) ?_ ?_ ?_
  rotate_left
  ·simp only [Act.put, Z1, Z2, Z3, i64_w, i32_w]
   rfl
  refine P2 12 84 (Bz 19 0x1fff) ?_ ?_ ?_
  rotate_left
  ·simp only [Act.put, Z1, Z2, Z3, i64_w, i32_w]
   rfl
  refine P2 13 85 (Bz 19 0x3fff) ?_ ?_ ?_
  rotate_left
  ·simp only [Act.put, Z1, Z2, Z3, i64_w, i32_w]
   rfl
  refine P2 14 86 (Bz 19 0x7fff) ?_ ?_ ?_
  rotate_left
  ·simp only [Act.put, Z1, Z2, Z3, i64_w, i32_w]
   rfl
  refine P2 15 87 (Bz 19 0xffff) ?_ ?_ ?_
  rotate_left
  ·simp only [Act.put, Z1, Z2, Z3, i64_w, i32_w]
   rfl
  refine P2 16 88 (Bz 19 0x1ffff) ?_ ?_ ?_
  rotate_left
  ·simp only [Act.put, Z1, Z2, Z3, i64_w, i32_w]
   rfl
  refine P2 17 89 (Bz 19 0x3ffff) ?_ ?_ ?_
  rotate_left
  ·simp only [Act.put, Z1, Z2, Z3, i64_w, i32_w]
   rfl
  refine P1 18 90 ?_ (Bz 19 0x7ffff) ?_ ?_ ?_ ?_
  rotate_left
  ·intro w'
   go_simp
   with_reducible rfl
  rotate_left
  ·simp only [Act.put, Z1, Z2, Z3, i64_w, i32_w]
   rfl
  refine done_ (by kernel_rfl) ?_
  clear a2 c12 g5 hHeld
  go_wp2
  go_ret2
  exact DocPost.no HNO.out HB14.out
 have k2b : b2 = false := Bool.eq_false_iff.mpr k2
 have HYES := Aside0.mk (show ((((numO xb MI ((numO xb MI (lstO xb 3 (some 0))).map Prod.snd)).map Prod.snd).bind fun p => lS xb p).map Prod.snd) = some p2 by
  have h := HP13.out
  rw [head_some HVtv.out k1] at h
  cases hh : ((((numO xb MI ((numO xb MI (lstO xb 3 (some 0))).map Prod.snd)).map Prod.snd).bind fun p => lS xb p).map Prod.snd) with
  | none => exact absurd (h.2.2 hh) k2
  | some q => rw [(h.2.1 q hh).1])
 have HSPB := Aside0.mk (body_some (sz := sz) HYES.out (by have h := HVx1_.out; rw [head_some HVtv.out k1] at h; exact h) (by have h := HVx2_.out; rw [head_some HVtv.out k1] at h; exact h) (by have h := HVx3_.out; rw [head_some HVtv.out k1] at h; exact h))
 subst k2b
 clear k1 k2
 obtain ⟨m, HMN⟩ : ∃ m, Aside0 (mn x1_ sz = m) := ⟨_, ⟨rfl⟩⟩
 have hmn : (if sz < x1_ then sz else x1_) = m := by rw [← HMN.out]; rfl
 by_cases k3 : x3_ = m
 case neg =>
  have HNO := Aside0.mk (show restS s sz = none by rw [HSPEC.out, HSPB.out.1, if_neg (by rw [HMN.out]; exact k3)])
  have k3b : (x3_ != m) = true := bne_iff_ne.mpr k3
  clear k3
  have HI14 := Aside0.mk HI13.out.drew
  have HD14 := Aside0.mk (blk_drew HD13.out)
  have HB14 := Aside0.mk (below_drew1 HB13.out)
  refine start_ (n := 19) (S := fun w' => w'.cell? ⟨gb, 2, none⟩ = some (.bool false) ∧ w'.cell? ⟨gl, 12, none⟩ = some (.int .i64 x1_) ∧ w'.cell? ⟨gt, 5, none⟩ = some (.int .i64 sz)) (ds := []) #[Yn, Yn, Yn, Yn, Yn, Yn, Yn, Yn, Yn, Yn, Yn, Yn, Yn, Yn, Yn, Yn, Yn, Yn, Yn] (by kernel_rfl) rfl rfl ⟨a2, c12, g5⟩ (fun hHeld => ?_)
  generalize w13.drew = w14 at HI14 HD14 HB14 hHeld ⊢
  refine P1 0 72 ?_ (Bz 19 0x1) ?_ ?_ ?_ ?_
  rotate_left
  ·intro w'
   go_simp
   with_reducible rfl
  rotate_left
  ·simp only [Act.put, Z1, Z2, Z3, i64_w, i32_w]
   rfl
  refine P1 1 73 ?_ (Bz 19 0x3) ?_ ?_ ?_ ?_
  rotate_left
  ·intro w'
   go_simp
   with_reducible rfl
  rotate_left
  ·simp only [Act.put, Z1, Z2, Z3, i64_w, i32_w]
   rfl
  refine P1 2 74 ?_ (Bz 19 0x7) ?_ ?_ ?_ ?_
  rotate_left
  ·intro w'
   go_simp
   with_reducible rfl
  rotate_left
  ·simp only [Act.put, Z1, Z2, Z3, i64_w, i32_w]
   rfl
  refine P1 3 75 ?_ (Bz 19 0xf) ?_ ?_ ?_ ?_
  rotate_left
  ·intro w'
   go_simp
   with_reducible rfl
  rotate_left
  ·simp only [Act.put, Z1, Z2, Z3, i64_w, i32_w]
   rfl
  refine P1 4 76 ?_ (Bz 19 0x1f) ?_ ?_ ?_ ?_
  rotate_left
  ·intro w'
   go_simp
   with_reducible rfl
  rotate_left
  ·simp only [Act.put, Z1, Z2, Z3, i64_w, i32_w]
   rfl
  refine P1 5 77 ?_ (Bz 19 0x3f) ?_ ?_ ?_ ?_
  rotate_left
  ·intro w'
   go_simp
   with_reducible rfl
  rotate_left
  ·simp only [Act.put, Z1, Z2, Z3, i64_w, i32_w]
   rfl
  refine P5 6 78 ?_ (Bz 19 0x7f) ?_ hHeld ?_ ?_ ?_
  rotate_left
  ·rintro w' ⟨s0, s1, s2⟩
   go_simp
   with_reducible rfl
  rotate_left
  ·simp only [Act.put, Z1, Z2, Z3, i64_w, i32_w]
   rfl
  refine P1 7 79 ?_ (Bz 19 0xff) ?_ ?_ ?_ ?_
  rotate_left
  ·intro w'
   go_simp
   with_reducible rfl
  rotate_left
  ·simp only [Act.put, Z1, Z2, Z3, i64_w, i32_w]
   rfl
  refine P1 8 80 ?_ (Bz 19 0x1ff) ?_ ?_ ?_ ?_
  rotate_left
  ·intro w'
   go_simp
   with_reducible rfl
  rotate_left
  ·simp only [Act.put, Z1, Z2, Z3, i64_w, i32_w]
   rfl
  refine P1 9 81 ?_ (Bz 19 0x3ff) ?_ ?_ ?_ ?_
  rotate_left
  ·intro w'
   go_simp
   with_reducible rfl
  rotate_left
  ·simp only [Act.put, Z1, Z2, Z3, i64_w, i32_w]
   rfl
  refine P1 10 82 ?_ (Bz 19 0x7ff) ?_ ?_ ?_ ?_
  rotate_left
  ·intro w'
   go_simp
   with_reducible rfl
  rotate_left
  ·simp only [Act.put, Z1, Z2, Z3, i64_w, i32_w]
   rfl
  refine P1 11 83 ?_ (Bz 19 0xfff) ?_ ?_ ?_ ?_
  rotate_left
  ·intro w'
   go_simp
   with_reducible rfl
  rotate_left
  ·simp only [Act.put, Z1, Z2, Z3, i64_w, i32_w]
   rfl
  refine P1 12 84 ?_ (Bz 19 0x1fff) ?_ ?_ ?_ ?_
  rotate_left
  ·intro w'
   go_simp
   with_reducible rfl
  rotate_left
  ·simp only [Act.put, Z1, Z2, Z3, i64_w, i32_w]
   rfl
  refine P1 14 86 ?_ (Bz 19 0x5fff) ?_ ?_ ?_ ?_
  rotate_left
  ·intro w'
   go_simp
   with_reducible rfl
  rotate_left
  ·simp only [Act.put, Z1, Z2, Z3, i64_w, i32_w]
   rfl
  refine P5 13 85 ?_ (Bz 19 0x7fff) ?_ hHeld ?_ ?_ ?_
  rotate_left
  ·rintro w' ⟨s0, s1, s2⟩
   go_simp
   with_reducible rfl
  rotate_left
  ·simp only [Act.put, Z1, Z2, Z3, i64_w, i32_w]
   rfl
  refine P5 15 87 ?_ (Bz 19 0xffff) ?_ hHeld ?_ ?_ ?_
  rotate_left
  ·rintro w' ⟨s0, s1, s2⟩
   go_simp
   with_reducible rfl
  rotate_left
  ·simp only [Act.put, Z1, Z2, Z3, i64_w, i32_w]
   rfl
  refine P1 16 88 ?_ (Bz 19 0x1ffff) ?_ ?_ ?_ ?_
  rotate_left
  ·intro w'
   go_simp
   with_reducible rfl
  rotate_left
  ·simp only [Act.put, Z1, Z2, Z3, i64_w, i32_w]
   rfl
  refine P1 17 89 ?_ (Bz 19 0x3ffff) ?_ ?_ ?_ ?_
  rotate_left
  ·intro w'
   go_simp
   with_reducible rfl
  rotate_left
  ·simp only [Act.put, Z1, Z2, Z3, i64_w, i32_w]
   rfl
  refine P1 18 90 ?_ (Bz 19 0x7ffff) ?_ ?_ ?_ ?_
  rotate_left
  ·intro w'
   go_simp
   with_reducible rfl
  rotate_left
  ·simp only [Act.put, Z1, Z2, Z3, i64_w, i32_w]
   rfl
  refine done_ (by kernel_rfl) ?_
  clear a2 c12 g5 hHeld
  go_wp2
  go_ret2
  exact DocPost.no HNO.out HB14.out
 have k3b : (x3_ != m) = false := by rw [k3]; exact bne_self_eq_false _
 have HSP3 := Aside0.mk (show restS s sz = (loopS xb x1_ x2_ x3_ x3_.toNat 0 0 p2).bind fun r => if r.2 = (xb.size : Int) then some (x1_, x2_, r.1) else none by rw [HSPEC.out, HSPB.out.1, if_pos (by rw [HMN.out]; exact k3)])
 have HX3R := Aside0.mk (show 0 ≤ x3_ ∧ x3_ ≤ 65535 from HSPB.out.2)
 clear k3
 have HI14 := Aside0.mk HI13.out.drew
 have HD14 := Aside0.mk (blk_drew HD13.out)
 have HB14 := Aside0.mk (below_drew1 HB13.out)
 refine start_ (n := 19) (S := fun w' => w'.cell? ⟨gb, 2, none⟩ = some (.bool false) ∧ w'.cell? ⟨gl, 12, none⟩ = some (.int .i64 x1_) ∧ w'.cell? ⟨gt, 5, none⟩ = some (.int .i64 sz)) (ds := []) #[Yn, Yn, Yn, Yn, Yn, Yn, Yn, Yn, Yn, Yn, Yn, Yn, Yn, Yn, Yn, Yn, Yn, Yn, Yn] (by kernel_rfl) rfl rfl ⟨a2, c12, g5⟩ (fun hHeld => ?_)
 generalize w13.drew = w14 at HI14 HD14 HB14 hHeld ⊢
 refine P1 0 72 ?_ (Bz 19 0x1) ?_ ?_ ?_ ?_
 rotate_left
 ·intro w'
  go_simp
  with_reducible rfl
 rotate_left
 ·simp only [Act.put, Z1, Z2, Z3, i64_w, i32_w]
  rfl
 refine P1 1 73 ?_ (Bz 19 0x3) ?_ ?_ ?_ ?_
 rotate_left
 ·intro w'
  go_simp
  with_reducible rfl
 rotate_left
 ·simp only [Act.put, Z1, Z2, Z3, i64_w, i32_w]
  rfl
 refine P1 2 74 ?_ (Bz 19 0x7) ?_ ?_ ?_ ?_
 rotate_left
 ·intro w'
  go_simp
  with_reducible rfl
 rotate_left
 ·simp only [Act.put, Z1, Z2, Z3, i64_w, i32_w]
  rfl
 refine P1 3 75 ?_ (Bz 19 0xf) ?_ ?_ ?_ ?_
 rotate_left
 ·intro w'
  go_simp
  with_reducible rfl
 rotate_left
 ·simp only [Act.put, Z1, Z2, Z3, i64_w, i32_w]
  rfl
 refine P1 4 76 ?_ (Bz 19 0x1f) ?_ ?_ ?_ ?_
 rotate_left
 ·intro w'
  go_simp
  with_reducible rfl
 rotate_left
 ·simp only [Act.put, Z1, Z2, Z3, i64_w, i32_w]
  rfl
 refine P1 5 77 ?_ (Bz 19 0x3f) ?_ ?_ ?_ ?_
 rotate_left
 ·intro w'
  go_simp
  with_reducible rfl
 rotate_left
 ·simp only [Act.put, Z1, Z2, Z3, i64_w, i32_w]
  rfl
 refine P5 6 78 ?_ (Bz 19 0x7f) ?_ hHeld ?_ ?_ ?_
 rotate_left
 ·rintro w' ⟨s0, s1, s2⟩
  go_simp
  with_reducible rfl
 rotate_left
 ·simp only [Act.put, Z1, Z2, Z3, i64_w, i32_w]
  rfl
 refine P1 7 79 ?_ (Bz 19 0xff) ?_ ?_ ?_ ?_
 rotate_left
 ·intro w'
  go_simp
  with_reducible rfl
 rotate_left
 ·simp only [Act.put, Z1, Z2, Z3, i64_w, i32_w]
  rfl
 refine P1 8 80 ?_ (Bz 19 0x1ff) ?_ ?_ ?_ ?_
 rotate_left
 ·intro w'
  go_simp
  with_reducible rfl
 rotate_left
 ·simp only [Act.put, Z1, Z2, Z3, i64_w, i32_w]
  rfl
 refine P1 9 81 ?_ (Bz 19 0x3ff) ?_ ?_ ?_ ?_
 rotate_left
 ·intro w'
  go_simp
  with_reducible rfl
 rotate_left
 ·simp only [Act.put, Z1, Z2, Z3, i64_w, i32_w]
  rfl
 refine P1 10 82 ?_ (Bz 19 0x7ff) ?_ ?_ ?_ ?_
 rotate_left
 ·intro w'
  go_simp
  with_reducible rfl
 rotate_left
 ·simp only [Act.put, Z1, Z2, Z3, i64_w, i32_w]
  rfl
 refine P1 11 83 ?_ (Bz 19 0xfff) ?_ ?_ ?_ ?_
 rotate_left
 ·intro w'
  go_simp
  with_reducible rfl
 rotate_left
 ·simp only [Act.put, Z1, Z2, Z3, i64_w, i32_w]
  rfl
 refine P1 12 84 ?_ (Bz 19 0x1fff) ?_ ?_ ?_ ?_
 rotate_left
 ·intro w'
  go_simp
  with_reducible rfl
 rotate_left
 ·simp only [Act.put, Z1, Z2, Z3, i64_w, i32_w]
  rfl
 refine P1 14 86 ?_ (Bz 19 0x5fff) ?_ ?_ ?_ ?_
 rotate_left
 ·intro w'
  go_simp
  with_reducible rfl
 rotate_left
 ·simp only [Act.put, Z1, Z2, Z3, i64_w, i32_w]
  rfl
 refine P5 13 85 ?_ (Bz 19 0x7fff) ?_ hHeld ?_ ?_ ?_
 rotate_left
 ·rintro w' ⟨s0, s1, s2⟩
  go_simp
  with_reducible rfl
 rotate_left
 ·simp only [Act.put, Z1, Z2, Z3, i64_w, i32_w]
  rfl
 refine P5 15 87 ?_ (Bz 19 0xffff) ?_ hHeld ?_ ?_ ?_
 rotate_left
 ·rintro w' ⟨s0, s1, s2⟩
  go_simp
  with_reducible rfl
 rotate_left
 ·simp only [Act.put, Z1, Z2, Z3, i64_w, i32_w]
  rfl
 refine P1 16 88 ?_ (Bz 19 0x1ffff) ?_ ?_ ?_ ?_
 rotate_left
 ·intro w'
  go_simp
  with_reducible rfl
 rotate_left
 ·simp only [Act.put, Z1, Z2, Z3, i64_w, i32_w]
  rfl
 refine P1 17 89 ?_ (Bz 19 0x3ffff) ?_ ?_ ?_ ?_
 rotate_left
 ·intro w'
  go_simp
  with_reducible rfl
 rotate_left
 ·simp only [Act.put, Z1, Z2, Z3, i64_w, i32_w]
  rfl
 refine P1 18 90 ?_ (Bz 19 0x7ffff) ?_ ?_ ?_ ?_
 rotate_left
 ·intro w'
  go_simp
  with_reducible rfl
 rotate_left
 ·simp only [Act.put, Z1, Z2, Z3, i64_w, i32_w]
  rfl
 refine done_ (by kernel_rfl) ?_
 clear a2 c12 g5 hHeld
 clear k3b hmn k1b
 obtain ⟨n, HN⟩ : ∃ n, Aside0 (x3_.toNat = n) := ⟨_, ⟨rfl⟩⟩
 have HNI := Aside0.mk (show (n : Int) = x3_ by have h1 := HN.out; have h2 := HX3R.out; omega)
 rw [HN.out] at HSP3
 have HAS := Aside0.mk (show IS w w14 gb xb (some p2) from ⟨p2, false, HI14.out, HP13.out.1, fun q hq => by injection hq with hq; exact ⟨hq, rfl⟩, fun hn => by cases hn⟩)
 have HDS := Aside0.mk (show DL w.heap.size gl nm pt way iv st sz x2_ x1_ [] w14 from ⟨_, HD14.out, HGL.out, Kd.R_nil _ _ _ _ _⟩)
 go_wp2
 go_loopg [14, 15] n (fun kq v14 v15 wr => ∃ (j : Nat) (bf p : Int) (acc : List S44), v14 = .int .i64 bf ∧ v15 = .int .i64 (j : Int) ∧ Aside0 (j + kq = n) ∧ Aside0 (DI w gb xb gl nm pt way iv st sz x1_ x2_ x3_ p2 n j bf p acc wr))
 case atStart => exact ⟨0, 0, p2, [], rfl, rfl, ⟨by omega⟩, ⟨HAS.out, HDS.out, HB14.out, by rw [Nat.sub_zero]; cases loopS xb x1_ x2_ x3_ n 0 0 p2 <;> rfl, rfl⟩⟩
 case round =>
  obtain ⟨j, bf, p, acc, rfl, rfl, HJN, HI⟩ := hrel
  clear HAS HDS HB14 HD14 HI14
  cases gk with
  | zero =>
   have hl1 : decide ((j : Int) < x3_) = false := decide_eq_false (by have h1 := HNI.out; have h2 := HJN.out; omega)
   obtain ⟨p4, b4, hi4, h04, hg4, hn4⟩ := HI.out.ist
   obtain ⟨rfl, rfl⟩ := hg4 p rfl
   have e1 := (blk_cell hi4.1 1).trans rfl
   have HSPE := Aside0.mk (show restS s sz = if p4 = (xb.size : Int) then some (x1_, x2_, acc) else none by
    rw [HSP3.out, HI.out.spec, show n - j = 0 by have h2 := HJN.out; omega]
    show (if p4 = (xb.size : Int) then some (x1_, x2_, acc ++ []) else none) = _
    rw [List.append_nil])
   clear hi4 h04 hg4 hn4
   go_wp2
   by_cases k : p4 = (xb.size : Int)
   ·have kb : (p4 == (xb.size : Int)) = true := by rw [k]; exact beq_self_eq_true _
    have HFIN := Aside0.mk (show restS s sz = some (x1_, x2_, acc) by rw [HSPE.out, if_pos k])
    clear k
    have HD4 := Aside0.mk (HI.out.log.drewD)
    have HB4e := Aside0.mk (below_drew1 HI.out.bel)
    refine start_ (n := 10) (S := fun w' => w'.cell? ⟨gb, 1, none⟩ = some (.int .i64 p4)) (ds := []) #[Yn, Yn, Yn, Yn, Yn, Yn, Yn, Yn, Yn, Yn] (by kernel_rfl) rfl rfl (e1) (fun hHeld => ?_)
    generalize wr.drew = we at HD4 HB4e hHeld ⊢
    refine P1 0 175 ?_ (Bz 10 0x1) ?_ ?_ ?_ ?_
    rotate_left
    ·intro w'
     go_simp
     with_reducible rfl
    rotate_left
    ·simp only [Act.put, Z1, Z2, Z3, i64_w, i32_w]
     rfl
    refine P1 1 176 ?_ (Bz 10 0x3) ?_ ?_ ?_ ?_
    rotate_left
    ·intro w'
     go_simp
     with_reducible rfl
    rotate_left
    ·simp only [Act.put, Z1, Z2, Z3, i64_w, i32_w]
     rfl
    refine P1 2 177 ?_ (Bz 10 0x7) ?_ ?_ ?_ ?_
    rotate_left
    ·intro w'
     go_simp
     with_reducible rfl
    rotate_left
    ·simp only [Act.put, Z1, Z2, Z3, i64_w, i32_w]
     rfl
    refine P1 3 178 ?_ (Bz 10 0xf) ?_ ?_ ?_ ?_
    rotate_left
    ·intro w'
     go_simp
     with_reducible rfl
    rotate_left
    ·simp only [Act.put, Z1, Z2, Z3, i64_w, i32_w]
     rfl
    refine P1 5 180 ?_ (Bz 10 0x2f) ?_ ?_ ?_ ?_
    rotate_left
    ·intro w'
     go_simp
     with_reducible rfl
    rotate_left
    ·simp only [Act.put, Z1, Z2, Z3, i64_w, i32_w]
     rfl
    refine P1 6 181 ?_ (Bz 10 0x6f) ?_ ?_ ?_ ?_
    rotate_left
    ·intro w'
     go_simp
     with_reducible rfl
    rotate_left
    ·simp only [Act.put, Z1, Z2, Z3, i64_w, i32_w]
     rfl
    refine P1 8 4 ?_ (Bz 10 0x16f) ?_ ?_ ?_ ?_
    rotate_left
    ·intro w'
     go_simp
     with_reducible rfl
    rotate_left
    ·simp only [Act.put, Z1, Z2, Z3, i64_w, i32_w]
     rfl
    refine P5 4 179 ?_ (Bz 10 0x17f) ?_ hHeld ?_ ?_ ?_
    rotate_left
    ·intro w' s0
     go_simp
     with_reducible rfl
    rotate_left
    ·simp only [Act.put, Z1, Z2, Z3, i64_w, i32_w]
     rfl
    refine P1 7 182 ?_ (Bz 10 0x1ff) ?_ ?_ ?_ ?_
    rotate_left
    ·intro w'
     go_simp
     with_reducible rfl
    rotate_left
    ·simp only [Act.put, Z1, Z2, Z3, i64_w, i32_w]
     rfl
    refine P1 9 5 ?_ (Bz 10 0x3ff) ?_ ?_ ?_ ?_
    rotate_left
    ·intro w'
     go_simp
     with_reducible rfl
    rotate_left
    ·simp only [Act.put, Z1, Z2, Z3, i64_w, i32_w]
     rfl
    refine done_ (by kernel_rfl) ?_
    clear e1 hHeld
    go_wp2
    go_ret2
    rw [HFIN.out]
    obtain ⟨v, h1, h2, h3⟩ := HD4.out
    exact ⟨HB4e.out, gl, v, rfl, h1, h3⟩
   ·have kb : (p4 == (xb.size : Int)) = false := beq_false_of_ne k
    have HNO := Aside0.mk (show restS s sz = none by rw [HSPE.out, if_neg k])
    clear k
    have HD4 := Aside0.mk (HI.out.log.drewD)
    have HB4e := Aside0.mk (below_drew1 HI.out.bel)
    refine start_ (n := 10) (S := fun w' => w'.cell? ⟨gb, 1, none⟩ = some (.int .i64 p4)) (ds := []) #[Yn, Yn, Yn, Yn, Yn, Yn, Yn, Yn, Yn, Yn] (by kernel_rfl) rfl rfl (e1) (fun hHeld => ?_)
    generalize wr.drew = we at HD4 HB4e hHeld ⊢
    refine P1 0 175 ?_ (Bz 10 0x1) ?_ ?_ ?_ ?_
    rotate_left
    ·intro w'
     go_simp
     with_reducible rfl
    rotate_left
    ·simp only [Act.put, Z1, Z2, Z3, i64_w, i32_w]
     rfl
    refine P1 1 176 ?_ (Bz 10 0x3) ?_ ?_ ?_ ?_
    rotate_left
    ·intro w'
     go_simp
     with_reducible rfl
    rotate_left
    ·simp only [Act.put, Z1, Z2, Z3, i64_w, i32_w]
     rfl
    refine P1 2 177 ?_ (Bz 10 0x7) ?_ ?_ ?_ ?_
    rotate_left
    ·intro w'
     go_simp
     with_reducible rfl
    rotate_left
    ·simp only [Act.put, Z1, Z2, Z3, i64_w, i32_w]
     rfl
    refine P1 3 178 ?_ (Bz 10 0xf) ?_ ?_ ?_ ?_
    rotate_left
    ·intro w'
     go_simp
     with_reducible rfl
    rotate_left
    ·simp only [Act.put, Z1, Z2, Z3, i64_w, i32_w]
     rfl
    refine P1 5 180 ?_ (Bz 10 0x2f) ?_ ?_ ?_ ?_
    rotate_left
    ·intro w'
     go_simp
     with_reducible rfl
    rotate_left
    ·simp only [Act.put, Z1, Z2, Z3, i64_w, i32_w]
     rfl
    refine P1 6 181 ?_ (Bz 10 0x6f) ?_ ?_ ?_ ?_
    rotate_left
    ·intro w'
     go_simp
     with_reducible rfl
    rotate_left
    ·simp only [Act.put, Z1, Z2, Z3, i64_w, i32_w]
     rfl
    refine P1 8 4 ?_ (Bz 10 0x16f) ?_ ?_ ?_ ?_
    rotate_left
    ·intro w'
     go_simp
     with_reducible rfl
    rotate_left
    ·simp only [Act.put, Z1, Z2, Z3, i64_w, i32_w]
     rfl
    refine P5 4 179 ?_ (Bz 10 0x17f) ?_ hHeld ?_ ?_ ?_
    rotate_left
    ·intro w' s0
     go_simp
     with_reducible rfl
    rotate_left
    ·simp only [Act.put, Z1, Z2, Z3, i64_w, i32_w]
     rfl
    refine P1 7 182 ?_ (Bz 10 0x1ff) ?_ ?_ ?_ ?_
    rotate_left
    ·intro w'
     go_simp
     with_reducible rfl
    rotate_left
    ·simp only [Act.put, Z1, Z2, Z3, i64_w, i32_w]
     rfl
    refine P1 9 5 ?_ (Bz 10 0x3ff) ?_ ?_ ?_ ?_
    rotate_left
    ·intro w'
     go_simp
     with_reducible rfl
    rotate_left
    ·simp only [Act.put, Z1, Z2, Z3, i64_w, i32_w]
     rfl
    refine done_ (by kernel_rfl) ?_
    clear e1 hHeld
    go_wp2
    go_ret2
    exact DocPost.no HNO.out HB4e.out
  | succ k1 =>
   have hl1 : decide ((j : Int) < x3_) = true := decide_eq_true (by have h1 := HNI.out; have h2 := HJN.out; omega)
   have HLT := Aside0.mk (show j < n by have h2 := HJN.out; omega)
   go_wp2_with (first | (go_at_call 40; (with_reducible refine (ih_calls w gb xb (some p) _ HG.out HZX.out HI.out.ist HI.out.bel).mono ?_); rintro e b1 ⟨fv, rfl, hr⟩; have HVF := Aside0.mk hr.val; have HA1 := Aside0.mk hr.st; have HB1 := Aside0.mk hr.bel; have HK1 := Aside0.mk hr.keep; clear hr) | (go_at_call 43; (with_reducible refine (iu_calls w gb xb (((some p).bind fun p => lS xb p).map Prod.snd) _ HG.out HZX.out HA1.out HB1.out).mono ?_); rintro e b2 ⟨y0_, rfl, hr, hn0, hn1⟩; have HVy0_ := Aside0.mk hr.val; have HNy0_ := Aside0.mk (And.intro hn0 hn1); have HA2 := Aside0.mk hr.st; have HB2 := Aside0.mk hr.bel; have HK2 := Aside0.mk (HK1.out.trans hr.keep); clear hr hn0 hn1) | (go_at_call 43; (with_reducible refine (iu_calls w gb xb ((numO xb MI (((some p).bind fun p => lS xb p).map Prod.snd)).map Prod.snd) _ HG.out HZX.out HA2.out HB2.out).mono ?_); rintro e b3 ⟨y1_, rfl, hr, hn0, hn1⟩; have HVy1_ := Aside0.mk hr.val; have HNy1_ := Aside0.mk (And.intro hn0 hn1); have HA3 := Aside0.mk hr.st; have HB3 := Aside0.mk hr.bel; have HL3 := Aside0.mk (HI.out.log.keepI (HK2.out.trans hr.keep)); clear hr hn0 hn1) | ((with_reducible refine gate_dst (N := 17) rfl ?_); refine box_event ?hg (N := 17) ?hd (cs := #[.int .i64 0, .int .i64 0, .int .i64 0, .int .i64 0, .int .i64 0, .int .i64 0]) (t := 44) ?hr ?_; (case hd => rfl); (case hg => rfl); (case hr => first | (go_simp; done) | (go_simp; rfl)); intro gx hgz b3a hbox hb; have HXa := Aside0.mk hbox; have HBa := Aside0.mk hb; have HG3 := Aside0.mk (show b3.heap.size ≤ gx by rw [hgz]; exact Nat.le_refl _); have HGX := Aside0.mk (Nat.le_trans HB3.out.size HG3.out); clear hb hbox hgz) | (refine wpList_store_row rfl 44 (.tmp 17) (.tmp 103) rfl gx #[.int .i64 y0_, .int .i64 y1_, .int .i64 0, .int .i64 0, .int .i64 0, .int .i64 0] rfl rfl 44 #[.int .i64 0, .int .i64 0, .int .i64 0, .int .i64 0, .int .i64 0, .int .i64 0] HXa.out (by kernel_rfl) rfl (by simp [Value.oneCell']) ?_; have HX4 := Aside0.mk (setRow_heap _ _ _ #[.int .i64 y0_, .int .i64 y1_, .int .i64 0, .int .i64 0, .int .i64 0, .int .i64 0] _ _ HXa.out); have hb4 := below_setRow HBa.out HG3.out #[.int .i64 y0_, .int .i64 y1_, .int .i64 0, .int .i64 0, .int .i64 0, .int .i64 0]; have HA4 := Aside0.mk (HA3.out.below hb4); have HB4 := Aside0.mk (below_step HB3.out hb4); have HK4 := Aside0.mk (KeepI.of_below hb4); clear hb4; generalize b3a.setRow gx #[.int .i64 y0_, .int .i64 y1_, .int .i64 0, .int .i64 0, .int .i64 0, .int .i64 0] = b4 at HX4 HA4 HB4 HK4 ⊢; skip) | (go_at_call 43; (with_reducible refine (iu_calls w gb xb ((numO xb MI ((numO xb MI (((some p).bind fun p => lS xb p).map Prod.snd)).map Prod.snd)).map Prod.snd) _ HG.out HZX.out HA4.out HB4.out).mono ?_); rintro e b5 ⟨y2_, rfl, hr, hn0, hn1⟩; have HVy2_ := Aside0.mk hr.val; have HNy2_ := Aside0.mk (And.intro hn0 hn1); have HXp5 := Aside0.mk (hr.keep.keep _ _ _ HX4.out (by decide)); have HA5 := Aside0.mk (hr.st.far HXp5.out (by decide) 2 (.int .i64 y2_)); have HB5 := Aside0.mk (hr.bel.setCell (p := ⟨gx, 2, none⟩) HGX.out (.int .i64 y2_)); have HK5 := Aside0.mk ((HK4.out.trans hr.keep).setNew HG3.out 2 (.int .i64 y2_)); have HX5 := Aside0.mk (blk_put HXp5.out 2 (.int .i64 y2_) rfl); have fx2 := blk_frozen HXp5.out 2; have cx2 := (blk_cell HXp5.out 2).trans rfl; clear hr hn0 hn1) | (go_at_call 44; (with_reducible refine (is_calls w gb xb ((numO xb MI ((numO xb MI ((numO xb MI (((some p).bind fun p => lS xb p).map Prod.snd)).map Prod.snd)).map Prod.snd)).map Prod.snd) _ HG.out HZX.out HA5.out HB5.out).mono ?_); rintro e b6 ⟨y3_, rfl, hr⟩; have HVy3_ := Aside0.mk hr.val; clear fx2 cx2; have HXp6 := Aside0.mk (hr.keep.keep _ _ _ HX5.out (by decide)); have HA6 := Aside0.mk (hr.st.far HXp6.out (by decide) 3 (.int .i64 y3_)); have HB6 := Aside0.mk (hr.bel.setCell (p := ⟨gx, 3, none⟩) HGX.out (.int .i64 y3_)); have HK6 := Aside0.mk ((HK5.out.trans hr.keep).setNew HG3.out 3 (.int .i64 y3_)); have HX6 := Aside0.mk (blk_put HXp6.out 3 (.int .i64 y3_) rfl); have fx3 := blk_frozen HXp6.out 3; have cx3 := (blk_cell HXp6.out 3).trans rfl; clear hr) | (go_at_call 43; (with_reducible refine (iu_calls w gb xb ((((numO xb MI ((numO xb MI ((numO xb MI (((some p).bind fun p => lS xb p).map Prod.snd)).map Prod.snd)).map Prod.snd)).map Prod.snd).bind fun p => sS xb p).map Prod.snd) _ HG.out HZX.out HA6.out HB6.out).mono ?_); rintro e b7 ⟨y4_, rfl, hr, hn0, hn1⟩; have HVy4_ := Aside0.mk hr.val; have HNy4_ := Aside0.mk (And.intro hn0 hn1); clear fx3 cx3; have HXp7 := Aside0.mk (hr.keep.keep _ _ _ HX6.out (by decide)); have HA7 := Aside0.mk (hr.st.far HXp7.out (by decide) 4 (.int .i64 y4_)); have HB7 := Aside0.mk (hr.bel.setCell (p := ⟨gx, 4, none⟩) HGX.out (.int .i64 y4_)); have HK7 := Aside0.mk ((HK6.out.trans hr.keep).setNew HG3.out 4 (.int .i64 y4_)); have HX7 := Aside0.mk (blk_put HXp7.out 4 (.int .i64 y4_) rfl); have fx4 := blk_frozen HXp7.out 4; have cx4 := (blk_cell HXp7.out 4).trans rfl; clear hr hn0 hn1))
   clear fx4 cx4
   have HX8 := Aside0.mk (show (b7.setCell ⟨gx, 4, none⟩ (.int .i64 y4_)).heap[gx]? = some (.cells #[.int .i64 y0_, .int .i64 y1_, .int .i64 y2_, .int .i64 y3_, .int .i64 y4_, .int .i64 0] 44 (0, 0)) from HX7.out)
   generalize b7.setCell ⟨gx, 4, none⟩ (.int .i64 y4_) = b8 at HA7 HB7 HK7 HX8 ⊢
   obtain ⟨p3, bb, hi8, h08, hg8, hn8⟩ := HA7.out
   have HI8 := Aside0.mk hi8
   have HP8 := Aside0.mk (And.intro h08 (And.intro hg8 hn8))
   have HD8 := Aside0.mk (HL3.out.keepI HK7.out)
   have HB8 := HB7
   clear hi8 h08 hg8 hn8 HA1 HA2 HA3 HA4 HA5 HA6 HA7 HB1 HB2 HB3 HB4 HB5 HB6 HB7 HK1 HK2 HK4 HK5 HK6 HK7 HX4 HX5 HX6 HX7 HXp5 HXp6 HXp7 HXa HBa HL3
   have a2 := (blk_cell HI8.out.1 2).trans rfl
   have x0 := (blk_cell HX8.out 0).trans rfl
   have x1 := (blk_cell HX8.out 1).trans rfl
   have x2 := (blk_cell HX8.out 2).trans rfl
   have x4 := (blk_cell HX8.out 4).trans rfl
   have c12 := HD8.out.c12
   have c6 := HD8.out.c6
   have HX1B := Aside0.mk (show 0 ≤ x1_ ∧ x1_ ≤ (6311433599 : Int) from HX1R.out)
   obtain ⟨num, HNUM⟩ : ∃ num, Aside0 (x1_ - x3_ + 1 + (j : Int) = num) := ⟨_, ⟨rfl⟩⟩
   have hw1 : wrap64 (x1_ - x3_) = x1_ - x3_ := wrap_id (by have := HX1B.out; have := HX3R.out; omega) (by have := HX1B.out; have := HX3R.out; omega)
   have hw2 : wrap64 (x1_ - x3_ + 1) = x1_ - x3_ + 1 := wrap_id (by have := HX1B.out; have := HX3R.out; omega) (by have := HX1B.out; have := HX3R.out; omega)
   have hw3 : wrap64 (x1_ - x3_ + 1 + (j : Int)) = num := by rw [wrap_id (by have := HX1B.out; have := HX3R.out; omega) (by have := HX1B.out; have := HX3R.out; have := HLT.out; have := HNI.out; omega), HNUM.out]
   have HSPJ := Aside0.mk (fun (h : loopS xb x1_ x2_ x3_ (n - j) (j : Int) bf p = none) => (show restS s sz = none by rw [HSP3.out, HI.out.spec, h]; rfl))
   by_cases k1 : fv = 5
   case neg =>
    have k1b : (fv == 5) = false := beq_false_of_ne k1
    have HNO := Aside0.mk (HSPJ.out (loop_none HLT.out (fun x q hr => by rw [rec_head (head_none HVF.out k1)] at hr; cases hr)))
    clear k1
    as_aux_lemma =>
     have HI9 := Aside0.mk (IsS86.drew HI8.out)
     have HX9 := Aside0.mk (blk_drew HX8.out)
     have HD9 := Aside0.mk HD8.out.drewD
     have HB9 := Aside0.mk (below_drew1 HB8.out)
     refine start_ (n := 48) (S := fun w' => w'.cell? ⟨gb, 2, none⟩ = some (.bool bb) ∧ w'.cell? ⟨gx, 0, none⟩ = some (.int .i64 y0_) ∧ w'.cell? ⟨gx, 1, none⟩ = some (.int .i64 y1_) ∧ w'.cell? ⟨gx, 2, none⟩ = some (.int .i64 y2_) ∧ w'.cell? ⟨gx, 4, none⟩ = some (.int .i64 y4_) ∧ w'.cell? ⟨gl, 12, none⟩ = some (.int .i64 x1_) ∧ w'.cell? ⟨gl, 6, none⟩ = some (.int .i64 x2_)) (ds := []) #[Yn, Yn, Yn, Yn, Yn, Yn, Yn, Yn, Yn, Yn, Yn, Yn, Yn, Yn, Yn, Yn, Yn, Yn, Yn, Yn, Yn, Yn, Yn, Yn, Yn, Yn, Yn, Yn, Yn, Yn, Yn, Yn, Yn, Yn, Yn, Yn, Yn, Yn, Yn, Yn, Yn, Yn, Yn, Yn, Yn, Yn, Yn, Yn] (by kernel_rfl) rfl rfl ⟨a2, x0, x1, x2, x4, c12, c6⟩ (fun hHeld => ?_)
     generalize b8.drew = b9 at HI9 HX9 HD9 HB9 hHeld ⊢
     refine P1 0 115 ?_ (Bz 48 0x1) ?_ ?_ ?_ ?_
     rotate_left
     ·intro w'
      go_simp
      with_reducible rfl
     rotate_left
     ·simp only [Act.put, Z1, Z2, Z3, i64_w, i32_w]
      rfl
     refine P1 1 116 ?_ (Bz 48 0x3) ?_ ?_ ?_ ?_
     rotate_left
     ·intro w'
      go_simp
      with_reducible rfl
     rotate_left
     ·simp only [Act.put, Z1, Z2, Z3, i64_w, i32_w]
      rfl
     refine P1 2 117 ?_ (Bz 48 0x7) ?_ ?_ ?_ ?_
     rotate_left
     ·intro w'
      go_simp
      with_reducible rfl
     rotate_left
     ·simp only [Act.put, Z1, Z2, Z3, i64_w, i32_w]
      rfl
     refine P2 3 118 (Bz 48 0xf) ?_ ?_ ?_
     rotate_left
     ·simp only [Act.put, Z1, Z2, Z3, i64_w, i32_w]
      rfl
     refine P2 4 119 (Bz 48 0x1f) ?_ ?_ ?_
     rotate_left
     ·simp only [Act.put, Z1, Z2, Z3, i64_w, i32_w]
      rfl
     refine P2 5 120 (Bz 48 0x3f) ?_ ?_ ?_
     rotate_left
     ·simp only [Act.put, Z1, Z2, Z3, i64_w, i32_w]
      rfl
     refine P2 6 121 (Bz 48 0x7f) ?_ ?_ ?_
     rotate_left
     ·simp only [Act.put, Z1, Z2, Z3, i64_w, i32_w]
      rfl
     refine P1 7 122 ?_ (Bz 48 0xff) ?_ ?_ ?_ ?_
     rotate_left
     ·intro w'
      go_simp
      with_reducible rfl
     rotate_left
     ·simp only [Act.put, Z1, Z2, Z3, i64_w, i32_w]
      rfl
     refine P1 8 123 ?_ (Bz 48 0x1ff) ?_ ?_ ?_ ?_
     rotate_left
     ·intro w'
      go_simp
      with_reducible rfl
     rotate_left
     ·simp only [Act.put, Z1, Z2, Z3, i64_w, i32_w]
      rfl
     refine P2 9 124 (Bz 48 0x3ff) ?_ ?_ ?_
     rotate_left
     ·simp only [Act.put, Z1, Z2, Z3, i64_w, i32_w]
      rfl
     refine P2 10 125 (Bz 48 0x7ff) ?_ ?_ ?_
     rotate_left
     ·simp only [Act.put, Z1, Z2, Z3, i64_w, i32_w]
      rfl
     refine P2 11 126 (Bz 48 0xfff) ?_ ?_ ?_
     rotate_left
     ·simp only [Act.put, Z1, Z2, Z3, i64_w, i32_w]
      rfl
     refine P2 12 127 (Bz 48 0x1fff) ?_ ?_ ?_
     rotate_left
     ·simp only [Act.put, Z1, Z2, Z3, i64_w, i32_w]
      rfl
     refine P2 13 128 (Bz 48 0x3fff) ?_ ?_ ?_
     rotate_left
     ·simp only [Act.put, Z1, Z2, Z3, i64_w, i32_w]
      rfl
     refine P2 14 129 (Bz 48 0x7fff) ?_ ?_ ?_
     rotate_left
     ·simp only [Act.put, Z1, Z2, Z3, i64_w, i32_w]
      rfl
     refine P2 15 130 (Bz 48 0xffff) ?_ ?_ ?_
     rotate_left
     ·simp only [Act.put, Z1, Z2, Z3, i64_w, i32_w]
      rfl
     refine P2 16 131 (Bz 48 0x1ffff) ?_ ?_ ?_
     rotate_left
     ·simp only [Act.put, Z1, Z2, Z3, i64_w, i32_w]
      rfl
     refine P2 17 132 (Bz 48 0x3ffff) ?_ ?_ ?_
     rotate_left
     ·simp only [Act.put, Z1, Z2, Z3, i64_w, i32_w]
      rfl
     refine P2 18 133 (Bz 48 0x7ffff) ?_ ?_ ?_
     rotate_left
     ·simp only [Act.put, Z1, Z2, Z3, i64_w, i32_w]
      rfl
     refine P2 19 134 (Bz 48 0xfffff) ?_ ?_ ?_
     rotate_left
     ·simp only [Act.put, Z1, Z2, Z3, i64_w, i32_w]
      rfl
     refine P2 20 135 (Bz 48 0x1fffff) ?_ ?_ ?_
     rotate_left
     ·simp only [Act.put, Z1, Z2, Z3, i64_w, i32_w]
      rfl
     refine P1 21 136 ?_ (Bz 48 0x3fffff) ?_ ?_ ?_ ?_
     rotate_left
     ·intro w'
      go_simp
      with_reducible rfl
     rotate_left
     ·simp only [Act.put, Z1, Z2, Z3, i64_w, i32_w]
      rfl
     refine P1 22 137 ?_ (Bz 48 0x7fffff) ?_ ?_ ?_ ?_
     rotate_left
     ·intro w'
      go_simp
      with_reducible rfl
     rotate_left
     ·simp only [Act.put, Z1, Z2, Z3, i64_w, i32_w]
      rfl
     refine P2 23 138 (Bz 48 0xffffff) ?_ ?_ ?_
     rotate_left
     ·simp only [Act.put, Z1, Z2, Z3, i64_w, i32_w]
      rfl
     refine P2 24 139 (Bz 48 0x1ffffff) ?_ ?_ ?_
     rotate_left
     ·simp only [Act.put, Z1, Z2, Z3, i64_w, i32_w]
      rfl
     refine P2 25 140 (Bz 48 0x3ffffff) ?_ ?_ ?_
     rotate_left
     ·simp only [Act.put, Z1, Z2, Z3, i64_w, i32_w]
      rfl
     refine P2 26 141 (Bz 48 0x7ffffff) ?_ ?_ ?_
     rotate_left
     ·simp only [Act.put, Z1, Z2, Z3, i64_w, i32_w]
      rfl
     refine P1 27 142 ?_ (Bz 48 0xfffffff) ?_ ?_ ?_ ?_
     rotate_left
     ·intro w'
      go_simp
      with_reducible rfl
     rotate_left
     ·simp only [Act.put, Z1, Z2, Z3, i64_w, i32_w]
      rfl
     refine P1 28 143 ?_ (Bz 48 0x1fffffff) ?_ ?_ ?_ ?_
     rotate_left
     ·intro w'
      go_simp
      with_reducible rfl
     rotate_left
     ·simp only [Act.put, Z1, Z2, Z3, i64_w, i32_w]
      rfl
     refine P2 29 144 (Bz 48 0x3fffffff) ?_ ?_ ?_
     rotate_left
     ·simp only [Act.put, Z1, Z2, Z3, i64_w, i32_w]
      rfl
     refine P2 30 145 (Bz 48 0x7fffffff) ?_ ?_ ?_
     rotate_left
     ·simp only [Act.put, Z1, Z2, Z3, i64_w, i32_w]
      rfl
     refine P2 31 146 (Bz 48 0xffffffff) ?_ ?_ ?_
     rotate_left
     ·simp only [Act.put, Z1, Z2, Z3, i64_w, i32_w]
      rfl
     refine P2 32 147 (Bz 48 0x1ffffffff) ?_ ?_ ?_
     rotate_left
     ·simp only [Act.put, Z1, Z2, Z3, i64_w, i32_w]
      rfl
     refine P2 33 148 (Bz 48 0x3ffffffff) ?_ ?_ ?_
     rotate_left
     ·simp only [Act.put, Z1, Z2, Z3, i64_w, i32_w]
      rfl
     refine P2 34 149 (Bz 48 0x7ffffffff) ?_ ?_ ?_
     rotate_left
     ·simp only [Act.put, Z1, Z2, Z3, i64_w, i32_w]
      rfl
     refine P2 35 150 (Bz 48 0xfffffffff) ?_ ?_ ?_
     rotate_left
     ·simp only [Act.put, Z1, Z2, Z3, i64_w, i32_w]
      rfl
     refine P1 36 151 ?_ (Bz 48 0x1fffffffff) ?_ ?_ ?_ ?_
     rotate_left
     ·intro w'
      go_simp
      with_reducible rfl
     rotate_left
     ·simp only [Act.put, Z1, Z2, Z3, i64_w, i32_w]
      rfl
     refine P1 37 152 ?_ (Bz 48 0x3fffffffff) ?_ ?_ ?_ ?_
     rotate_left
     ·intro w'
      go_simp
      with_reducible rfl
     rotate_left
     ·simp only [Act.put, Z1, Z2, Z3, i64_w, i32_w]
      rfl
     refine P2 38 153 (Bz 48 0x7fffffffff) ?_ ?_ ?_
     rotate_left
     ·simp only [Act.put, Z1, Z2, Z3, i64_w, i32_w]
      rfl
     refine P2 39 154 (Bz 48 0xffffffffff) ?_ ?_ ?_
     rotate_left
     ·simp only [Act.put, Z1, Z2, Z3, i64_w, i32_w]
      rfl
     refine P2 40 155 (Bz 48 0x1ffffffffff) ?_ ?_ ?_
     rotate_left
     ·simp only [Act.put, Z1, Z2, Z3, i64_w, i32_w]
      rfl
     refine P2 41 156 (Bz 48 0x3ffffffffff) ?_ ?_ ?_
     rotate_left
     ·simp only [Act.put, Z1, Z2, Z3, i64_w, i32_w]
      rfl
     refine P1 42 157 ?_ (Bz 48 0x7ffffffffff) ?_ ?_ ?_ ?_
     rotate_left
     ·intro w'
      go_simp
      with_reducible rfl
     rotate_left
     ·simp only [Act.put, Z1, Z2, Z3, i64_w, i32_w]
      rfl
     refine P1 43 158 ?_ (Bz 48 0xfffffffffff) ?_ ?_ ?_ ?_
     rotate_left
     ·intro w'
      go_simp
      with_reducible rfl
     rotate_left
     ·simp only [Act.put, Z1, Z2, Z3, i64_w, i32_w]
      rfl
     refine P2 44 159 (Bz 48 0x1fffffffffff) ?_ ?_ ?_
     rotate_left
     ·simp only [Act.put, Z1, Z2, Z3, i64_w, i32_w]
      rfl
     refine P2 45 160 (Bz 48 0x3fffffffffff) ?_ ?_ ?_
     rotate_left
     ·simp only [Act.put, Z1, Z2, Z3, i64_w, i32_w]
      rfl
     refine P2 46 161 (Bz 48 0x7fffffffffff) ?_ ?_ ?_
     rotate_left
     ·simp only [Act.put, Z1, Z2, Z3, i64_w, i32_w]
      rfl
     refine P1 47 162 ?_ (Bz 48 0xffffffffffff) ?_ ?_ ?_ ?_
     rotate_left
     ·intro w'
      go_simp
      with_reducible rfl
     rotate_left
     ·simp only [Act.put, Z1, Z2, Z3, i64_w, i32_w]
      rfl
     refine done_ (by kernel_rfl) ?_
     clear a2 x0 x1 x2 x4 c12 c6 hHeld
     go_wp2
     go_ret2
     exact DocPost.no HNO.out HB9.out
   have k1b : (fv == 5) = true := by rw [k1]; rfl
   have HREC := Aside0.mk (doc_rec (s := xb) (o := some p) _ (head_some HVF.out k1) HVy0_.out HVy1_.out HVy2_.out HVy3_.out HVy4_.out)
   clear k1
   by_cases k2 : bb = true
   case pos =>
    have HNO := Aside0.mk (HSPJ.out (loop_none HLT.out (fun x q hr => by
     have h : recS xb (some p) = none := by
      refine HREC.out.2 ?_
      generalize hF : (Option.map Prod.snd (numO xb MI _)) = F
      cases F with
      | none => rfl
      | some q9 => have := (HP8.out.2.1 q9 hF).2; rw [k2] at this; cases this
     rw [h] at hr
     cases hr)))
    subst k2
    as_aux_lemma =>
     have HI9 := Aside0.mk (IsS86.drew HI8.out)
     have HX9 := Aside0.mk (blk_drew HX8.out)
     have HD9 := Aside0.mk HD8.out.drewD
     have HB9 := Aside0.mk (below_drew1 HB8.out)
     refine start_ (n := 48) (S := fun w' => w'.cell? ⟨gb, 2, none⟩ = some (.bool true) ∧ w'.cell? ⟨gx, 0, none⟩ = some (.int .i64 y0_) ∧ w'.cell? ⟨gx, 1, none⟩ = some (.int .i64 y1_) ∧ w'.cell? ⟨gx, 2, none⟩ = some (.int .i64 y2_) ∧ w'.cell? ⟨gx, 4, none⟩ = some (.int .i64 y4_) ∧ w'.cell? ⟨gl, 12, none⟩ = some (.int .i64 x1_) ∧ w'.cell? ⟨gl, 6, none⟩ = some (.int .i64 x2_)) (ds := []) #[Yn, Yn, Yn, Yn, Yn, Yn, Yn, Yn, Yn, Yn, Yn, Yn, Yn, Yn, Yn, Yn, Yn, Yn, Yn, Yn, Yn, Yn, Yn, Yn, Yn, Yn, Yn, Yn, Yn, Yn, Yn, Yn, Yn, Yn, Yn, Yn, Yn, Yn, Yn, Yn, Yn, Yn, Yn, Yn, Yn, Yn, Yn, Yn] (by kernel_rfl) rfl rfl ⟨a2, x0, x1, x2, x4, c12, c6⟩ (fun hHeld => ?_)
     generalize b8.drew = b9 at HI9 HX9 HD9 HB9 hHeld ⊢
     refine P1 0 115 ?_ (Bz 48 0x1) ?_ ?_ ?_ ?_
     rotate_left
     ·intro w'
      go_simp
      with_reducible rfl
     rotate_left
     ·simp only [Act.put, Z1, Z2, Z3, i64_w, i32_w]
      rfl
     refine P1 1 116 ?_ (Bz 48 0x3) ?_ ?_ ?_ ?_
     rotate_left
     ·intro w'
      go_simp
      with_reducible rfl
     rotate_left
     ·simp only [Act.put, Z1, Z2, Z3, i64_w, i32_w]
      rfl
     refine P1 2 117 ?_ (Bz 48 0x7) ?_ ?_ ?_ ?_
     rotate_left
     ·intro w'
      go_simp
      with_reducible rfl
     rotate_left
     ·simp only [Act.put, Z1, Z2, Z3, i64_w, i32_w]
      rfl
     refine P1 3 118 ?_ (Bz 48 0xf) ?_ ?_ ?_ ?_
     rotate_left
     ·intro w'
      go_simp
      with_reducible rfl
     rotate_left
     ·simp only [Act.put, Z1, Z2, Z3, i64_w, i32_w]
      rfl
     refine P1 4 119 ?_ (Bz 48 0x1f) ?_ ?_ ?_ ?_
     rotate_left
     ·intro w'
      go_simp
      with_reducible rfl
     rotate_left
     ·simp only [Act.put, Z1, Z2, Z3, i64_w, i32_w]
      rfl
     refine P1 5 120 ?_ (Bz 48 0x3f) ?_ ?_ ?_ ?_
     rotate_left
     ·intro w'
      go_simp
      with_reducible rfl
     rotate_left
     ·simp only [Act.put, Z1, Z2, Z3, i64_w, i32_w]
      rfl
     refine P5 6 121 ?_ (Bz 48 0x7f) ?_ hHeld ?_ ?_ ?_
     rotate_left
     ·rintro w' ⟨s0, s1, s2, s3, s4, s5, s6⟩
      go_simp
      with_reducible rfl
     rotate_left
     ·simp only [Act.put, Z1, Z2, Z3, i64_w, i32_w]
      rfl
     refine P1 7 122 ?_ (Bz 48 0xff) ?_ ?_ ?_ ?_
     rotate_left
     ·intro w'
      go_simp
      with_reducible rfl
     rotate_left
     ·simp only [Act.put, Z1, Z2, Z3, i64_w, i32_w]
      rfl
     refine P1 8 123 ?_ (Bz 48 0x1ff) ?_ ?_ ?_ ?_
     rotate_left
     ·intro w'
      go_simp
      with_reducible rfl
     rotate_left
     ·simp only [Act.put, Z1, Z2, Z3, i64_w, i32_w]
      rfl
     refine P2 9 124 (Bz 48 0x3ff) ?_ ?_ ?_
     rotate_left
     ·simp only [Act.put, Z1, Z2, Z3, i64_w, i32_w]
      rfl
     refine P2 10 125 (Bz 48 0x7ff) ?_ ?_ ?_
     rotate_left
     ·simp only [Act.put, Z1, Z2, Z3, i64_w, i32_w]
      rfl
     refine P2 11 126 (Bz 48 0xfff) ?_ ?_ ?_
     rotate_left
     ·simp only [Act.put, Z1, Z2, Z3, i64_w, i32_w]
      rfl
     refine P2 12 127 (Bz 48 0x1fff) ?_ ?_ ?_
     rotate_left
     ·simp only [Act.put, Z1, Z2, Z3, i64_w, i32_w]
      rfl
     refine P2 13 128 (Bz 48 0x3fff) ?_ ?_ ?_
     rotate_left
     ·simp only [Act.put, Z1, Z2, Z3, i64_w, i32_w]
      rfl
     refine P2 14 129 (Bz 48 0x7fff) ?_ ?_ ?_
     rotate_left
     ·simp only [Act.put, Z1, Z2, Z3, i64_w, i32_w]
      rfl
     refine P2 15 130 (Bz 48 0xffff) ?_ ?_ ?_
     rotate_left
     ·simp only [Act.put, Z1, Z2, Z3, i64_w, i32_w]
      rfl
     refine P2 16 131 (Bz 48 0x1ffff) ?_ ?_ ?_
     rotate_left
     ·simp only [Act.put, Z1, Z2, Z3, i64_w, i32_w]
      rfl
     refine P2 17 132 (Bz 48 0x3ffff) ?_ ?_ ?_
     rotate_left
     ·simp only [Act.put, Z1, Z2, Z3, i64_w, i32_w]
      rfl
     refine P2 18 133 (Bz 48 0x7ffff) ?_ ?_ ?_
     rotate_left
     ·simp only [Act.put, Z1, Z2, Z3, i64_w, i32_w]
      rfl
     refine P2 19 134 (Bz 48 0xfffff) ?_ ?_ ?_
     rotate_left
     ·simp only [Act.put, Z1, Z2, Z3, i64_w, i32_w]
      rfl
     refine P2 20 135 (Bz 48 0x1fffff) ?_ ?_ ?_
     rotate_left
     ·simp only [Act.put, Z1, Z2, Z3, i64_w, i32_w]
      rfl
     refine P1 21 136 ?_ (Bz 48 0x3fffff) ?_ ?_ ?_ ?_
     rotate_left
     ·intro w'
      go_simp
      with_reducible rfl
     rotate_left
     ·simp only [Act.put, Z1, Z2, Z3, i64_w, i32_w]
      rfl
     refine P1 22 137 ?_ (Bz 48 0x7fffff) ?_ ?_ ?_ ?_
     rotate_left
     ·intro w'
      go_simp
      with_reducible rfl
     rotate_left
     ·simp only [Act.put, Z1, Z2, Z3, i64_w, i32_w]
      rfl
     refine P2 23 138 (Bz 48 0xffffff) ?_ ?_ ?_
     rotate_left
     ·simp only [Act.put, Z1, Z2, Z3, i64_w, i32_w]
      rfl
     refine P2 24 139 (Bz 48 0x1ffffff) ?_ ?_ ?_
     rotate_left
     ·simp only [Act.put, Z1, Z2, Z3, i64_w, i32_w]
      rfl
     refine P2 25 140 (Bz 48 0x3ffffff) ?_ ?_ ?_
     rotate_left
     ·simp only [Act.put, Z1, Z2, Z3, i64_w, i32_w]
      rfl
     refine P2 26 141 (Bz 48 0x7ffffff) ?_ ?_ ?_
     rotate_left
     ·simp only [Act.put, Z1, Z2, Z3, i64_w, i32_w]
      rfl
     refine P1 27 142 ?_ (Bz 48 0xfffffff) ?_ ?_ ?_ ?_
     rotate_left
     ·intro w'
      go_simp
      with_reducible rfl
     rotate_left
     ·simp only [Act.put, Z1, Z2, Z3, i64_w, i32_w]
      rfl
     refine P1 28 143 ?_ (Bz 48 0x1fffffff) ?_ ?_ ?_ ?_
     rotate_left
     ·intro w'
      go_simp
      with_reducible rfl
     rotate_left
     ·simp only [Act.put, Z1, Z2, Z3, i64_w, i32_w]
      rfl
     refine P2 29 144 (Bz 48 0x3fffffff) ?_ ?_ ?_
     rotate_left
     ·simp only [Act.put, Z1, Z2, Z3, i64_w, i32_w]
      rfl
     refine P2 30 145 (Bz 48 0x7fffffff) ?_ ?_ ?_
     rotate_left
     ·simp only [Act.put, Z1, Z2, Z3, i64_w, i32_w]
      rfl
     refine P2 31 146 (Bz 48 0xffffffff) ?_ ?_ ?_
     rotate_left
     ·simp only [Act.put, Z1, Z2, Z3, i64_w, i32_w]
      rfl
     refine P2 32 147 (Bz 48 0x1ffffffff) ?_ ?_ ?_
     rotate_left
     ·simp only [Act.put, Z1, Z2, Z3, i64_w, i32_w]
      rfl
     refine P2 33 148 (Bz 48 0x3ffffffff) ?_ ?_ ?_
     rotate_left
     ·simp only [Act.put, Z1, Z2, Z3, i64_w, i32_w]
      rfl
     refine P2 34 149 (Bz 48 0x7ffffffff) ?_ ?_ ?_
     rotate_left
     ·simp only [Act.put, Z1, Z2, Z3, i64_w, i32_w]
      rfl
     refine P2 35 150 (Bz 48 0xfffffffff) ?_ ?_ ?_
     rotate_left
     ·simp only [Act.put, Z1, Z2, Z3, i64_w, i32_w]
      rfl
     refine P1 36 151 ?_ (Bz 48 0x1fffffffff) ?_ ?_ ?_ ?_
     rotate_left
     ·intro w'
      go_simp
      with_reducible rfl
     rotate_left
     ·simp only [Act.put, Z1, Z2, Z3, i64_w, i32_w]
      rfl
     refine P1 37 152 ?_ (Bz 48 0x3fffffffff) ?_ ?_ ?_ ?_
     rotate_left
     ·intro w'
      go_simp
      with_reducible rfl
     rotate_left
     ·simp only [Act.put, Z1, Z2, Z3, i64_w, i32_w]
      rfl
     refine P2 38 153 (Bz 48 0x7fffffffff) ?_ ?_ ?_
     rotate_left
     ·simp only [Act.put, Z1, Z2, Z3, i64_w, i32_w]
      rfl
     refine P2 39 154 (Bz 48 0xffffffffff) ?_ ?_ ?_
     rotate_left
     ·simp only [Act.put, Z1, Z2, Z3, i64_w, i32_w]
      rfl
     refine P2 40 155 (Bz 48 0x1ffffffffff) ?_ ?_ ?_
     rotate_left
     ·simp only [Act.put, Z1, Z2, Z3, i64_w, i32_w]
      rfl
     refine P2 41 156 (Bz 48 0x3ffffffffff) ?_ ?_ ?_
     rotate_left
     ·simp only [Act.put, Z1, Z2, Z3, i64_w, i32_w]
      rfl
     refine P1 42 157 ?_ (Bz 48 0x7ffffffffff) ?_ ?_ ?_ ?_
     rotate_left
     ·intro w'
      go_simp
      with_reducible rfl
     rotate_left
     ·simp only [Act.put, Z1, Z2, Z3, i64_w, i32_w]
      rfl
     refine P1 43 158 ?_ (Bz 48 0xfffffffffff) ?_ ?_ ?_ ?_
     rotate_left
     ·intro w'
      go_simp
      with_reducible rfl
     rotate_left
     ·simp only [Act.put, Z1, Z2, Z3, i64_w, i32_w]
      rfl
     refine P2 44 159 (Bz 48 0x1fffffffffff) ?_ ?_ ?_
     rotate_left
     ·simp only [Act.put, Z1, Z2, Z3, i64_w, i32_w]
      rfl
     refine P2 45 160 (Bz 48 0x3fffffffffff) ?_ ?_ ?_
     rotate_left
     ·simp only [Act.put, Z1, Z2, Z3, i64_w, i32_w]
      rfl
     refine P2 46 161 (Bz 48 0x7fffffffffff) ?_ ?_ ?_
     rotate_left
     ·simp only [Act.put, Z1, Z2, Z3, i64_w, i32_w]
      rfl
     refine P1 47 162 ?_ (Bz 48 0xffffffffffff) ?_ ?_ ?_ ?_
     rotate_left
     ·intro w'
      go_simp
      with_reducible rfl
     rotate_left
     ·simp only [Act.put, Z1, Z2, Z3, i64_w, i32_w]
      rfl
     refine done_ (by kernel_rfl) ?_
     clear a2 x0 x1 x2 x4 c12 c6 hHeld
     go_wp2
     go_ret2
     exact DocPost.no HNO.out HB9.out
   have k2b : bb = false := Bool.eq_false_iff.mpr k2
   have HRC := Aside0.mk (show recS xb (some p) = if y2_ ≤ 3 ∧ y4_ ≤ 15 then some ((⟨y0_, y1_, ⟨y2_, y3_⟩, y4_, 0⟩ : S44), p3) else none by
    refine HREC.out.1 p3 ?_
    generalize hF : (Option.map Prod.snd (numO xb MI _)) = F
    cases F with
    | none => exact absurd (HP8.out.2.2 hF) k2
    | some q9 => rw [(HP8.out.2.1 q9 hF).1])
   subst k2b
   clear k2
   by_cases k3 : y0_ = num
   case neg =>
    have k3b : (y0_ != num) = true := bne_iff_ne.mpr k3
    as_aux_lemma =>
     have HNO := Aside0.mk (HSPJ.out (loop_none HLT.out (fun x q hr => by
      rw [HRC.out] at hr
      split at hr
      ·injection hr with hr
       injection hr with hr1 hr2
       subst hr1
       exact fun hc => k3 (by rw [← HNUM.out]; exact hc.1)
      ·cases hr)))
     clear k3
     have HI9 := Aside0.mk (IsS86.drew HI8.out)
     have HX9 := Aside0.mk (blk_drew HX8.out)
     have HD9 := Aside0.mk HD8.out.drewD
     have HB9 := Aside0.mk (below_drew1 HB8.out)
     refine start_ (n := 48) (S := fun w' => w'.cell? ⟨gb, 2, none⟩ = some (.bool false) ∧ w'.cell? ⟨gx, 0, none⟩ = some (.int .i64 y0_) ∧ w'.cell? ⟨gx, 1, none⟩ = some (.int .i64 y1_) ∧ w'.cell? ⟨gx, 2, none⟩ = some (.int .i64 y2_) ∧ w'.cell? ⟨gx, 4, none⟩ = some (.int .i64 y4_) ∧ w'.cell? ⟨gl, 12, none⟩ = some (.int .i64 x1_) ∧ w'.cell? ⟨gl, 6, none⟩ = some (.int .i64 x2_)) (ds := []) #[Yn, Yn, Yn, Yn, Yn, Yn, Yn, Yn, Yn, Yn, Yn, Yn, Yn, Yn, Yn, Yn, Yn, Yn, Yn, Yn, Yn, Yn, Yn, Yn, Yn, Yn, Yn, Yn, Yn, Yn, Yn, Yn, Yn, Yn, Yn, Yn, Yn, Yn, Yn, Yn, Yn, Yn, Yn, Yn, Yn, Yn, Yn, Yn] (by kernel_rfl) rfl rfl ⟨a2, x0, x1, x2, x4, c12, c6⟩ (fun hHeld => ?_)
     generalize b8.drew = b9 at HI9 HX9 HD9 HB9 hHeld ⊢
     refine P1 0 115 ?_ (Bz 48 0x1) ?_ ?_ ?_ ?_
     rotate_left
     ·intro w'
      go_simp
      with_reducible rfl
     rotate_left
     ·simp only [Act.put, Z1, Z2, Z3, i64_w, i32_w]
      rfl
     refine P1 1 116 ?_ (Bz 48 0x3) ?_ ?_ ?_ ?_
     rotate_left
     ·intro w'
      go_simp
      with_reducible rfl
     rotate_left
     ·simp only [Act.put, Z1, Z2, Z3, i64_w, i32_w]
      rfl
     refine P1 2 117 ?_ (Bz 48 0x7) ?_ ?_ ?_ ?_
     rotate_left
     ·intro w'
      go_simp
      with_reducible rfl
     rotate_left
     ·simp only [Act.put, Z1, Z2, Z3, i64_w, i32_w]
      rfl
     refine P1 3 118 ?_ (Bz 48 0xf) ?_ ?_ ?_ ?_
     rotate_left
     ·intro w'
      go_simp
      with_reducible rfl
     rotate_left
     ·simp only [Act.put, Z1, Z2, Z3, i64_w, i32_w]
      rfl
     refine P1 4 119 ?_ (Bz 48 0x1f) ?_ ?_ ?_ ?_
     rotate_left
     ·intro w'
      go_simp
      with_reducible rfl
     rotate_left
     ·simp only [Act.put, Z1, Z2, Z3, i64_w, i32_w]
      rfl
     refine P1 5 120 ?_ (Bz 48 0x3f) ?_ ?_ ?_ ?_
     rotate_left
     ·intro w'
      go_simp
      with_reducible rfl
     rotate_left
     ·simp only [Act.put, Z1, Z2, Z3, i64_w, i32_w]
      rfl
     refine P5 6 121 ?_ (Bz 48 0x7f) ?_ hHeld ?_ ?_ ?_
     rotate_left
     ·rintro w' ⟨s0, s1, s2, s3, s4, s5, s6⟩
      go_simp
      with_reducible rfl
     rotate_left
     ·simp only [Act.put, Z1, Z2, Z3, i64_w, i32_w]
      rfl
     refine P1 7 122 ?_ (Bz 48 0xff) ?_ ?_ ?_ ?_
     rotate_left
     ·intro w'
      go_simp
      with_reducible rfl
     rotate_left
     ·simp only [Act.put, Z1, Z2, Z3, i64_w, i32_w]
      rfl
     refine P1 8 123 ?_ (Bz 48 0x1ff) ?_ ?_ ?_ ?_
     rotate_left
     ·intro w'
      go_simp
      with_reducible rfl
     rotate_left
     ·simp only [Act.put, Z1, Z2, Z3, i64_w, i32_w]
      rfl
     refine P1 9 124 ?_ (Bz 48 0x3ff) ?_ ?_ ?_ ?_
     rotate_left
     ·intro w'
      go_simp
      with_reducible rfl
     rotate_left
     ·simp only [Act.put, Z1, Z2, Z3, i64_w, i32_w]
      rfl
     refine P1 11 126 ?_ (Bz 48 0xbff) ?_ ?_ ?_ ?_
     rotate_left
     ·intro w'
      go_simp
      with_reducible rfl
     rotate_left
     ·simp only [Act.put, Z1, Z2, Z3, i64_w, i32_w]
      rfl
     refine P1 12 127 ?_ (Bz 48 0x1bff) ?_ ?_ ?_ ?_
     rotate_left
     ·intro w'
      go_simp
      with_reducible rfl
     rotate_left
     ·simp only [Act.put, Z1, Z2, Z3, i64_w, i32_w]
      rfl
     refine P1 13 128 ?_ (Bz 48 0x3bff) ?_ ?_ ?_ ?_
     rotate_left
     ·intro w'
      go_simp
      with_reducible rfl
     rotate_left
     ·simp only [Act.put, Z1, Z2, Z3, i64_w, i32_w]
      rfl
     refine P1 15 130 ?_ (Bz 48 0xbbff) ?_ ?_ ?_ ?_
     rotate_left
     ·intro w'
      go_simp
      with_reducible rfl
     rotate_left
     ·simp only [Act.put, Z1, Z2, Z3, i64_w, i32_w]
      rfl
     refine P1 18 133 ?_ (Bz 48 0x4bbff) ?_ ?_ ?_ ?_
     rotate_left
     ·intro w'
      go_simp
      with_reducible rfl
     rotate_left
     ·simp only [Act.put, Z1, Z2, Z3, i64_w, i32_w]
      rfl
     refine P5 10 125 ?_ (Bz 48 0x4bfff) ?_ hHeld ?_ ?_ ?_
     rotate_left
     ·rintro w' ⟨s0, s1, s2, s3, s4, s5, s6⟩
      go_simp
      with_reducible rfl
     rotate_left
     ·simp only [Act.put, Z1, Z2, Z3, i64_w, i32_w]
      rfl
     refine P5 14 129 ?_ (Bz 48 0x4ffff) ?_ hHeld ?_ ?_ ?_
     rotate_left
     ·rintro w' ⟨s0, s1, s2, s3, s4, s5, s6⟩
      go_simp
      with_reducible rfl
     rotate_left
     ·simp only [Act.put, Z1, Z2, Z3, i64_w, i32_w]
      rfl
     refine P1 16 131 ?_ (Bz 48 0x5ffff) ?_ ?_ ?_ ?_
     rotate_left
     ·intro w'
      go_simp
      with_reducible rfl
     rotate_left
     ·simp only [Act.put, Z1, Z2, Z3, i64_w, i32_w]
      rfl
     refine P1 17 132 ?_ (Bz 48 0x7ffff) ?_ ?_ ?_ ?_
     rotate_left
     ·intro w'
      go_simp
      with_reducible rfl
     rotate_left
     ·simp only [Act.put, Z1, Z2, Z3, i64_w, i32_w]
      rfl
     refine P1 19 134 ?_ (Bz 48 0xfffff) ?_ ?_ ?_ ?_
     rotate_left
     ·intro w'
      go_simp
      with_reducible rfl
     rotate_left
     ·simp only [Act.put, Z1, Z2, Z3, i64_w, i32_w]
      rfl
     refine P1 20 135 ?_ (Bz 48 0x1fffff) ?_ ?_ ?_ ?_
     rotate_left
     ·intro w'
      go_simp
      with_reducible rfl
     rotate_left
     ·simp only [Act.put, Z1, Z2, Z3, i64_w, i32_w]
      rfl
     refine P1 21 136 ?_ (Bz 48 0x3fffff) ?_ ?_ ?_ ?_
     rotate_left
     ·intro w'
      go_simp
      with_reducible rfl
     rotate_left
     ·simp only [Act.put, Z1, Z2, Z3, i64_w, i32_w]
      rfl
     refine P1 22 137 ?_ (Bz 48 0x7fffff) ?_ ?_ ?_ ?_
     rotate_left
     ·intro w'
      go_simp
      with_reducible rfl
     rotate_left
     ·simp only [Act.put, Z1, Z2, Z3, i64_w, i32_w]
      rfl
     refine P2 23 138 (Bz 48 0xffffff) ?_ ?_ ?_
     rotate_left
     ·simp only [Act.put, Z1, Z2, Z3, i64_w, i32_w]
      rfl
     refine P2 24 139 (Bz 48 0x1ffffff) ?_ ?_ ?_
     rotate_left
     ·simp only [Act.put, Z1, Z2, Z3, i64_w, i32_w]
      rfl
     refine P2 25 140 (Bz 48 0x3ffffff) ?_ ?_ ?_
     rotate_left
     ·simp only [Act.put, Z1, Z2, Z3, i64_w, i32_w]
      rfl
     refine P2 26 141 (Bz 48 0x7ffffff) ?_ ?_ ?_
     rotate_left
     ·simp only [Act.put, Z1, Z2, Z3, i64_w, i32_w]
      rfl
     refine P1 27 142 ?_ (Bz 48 0xfffffff) ?_ ?_ ?_ ?_
     rotate_left
     ·intro w'
      go_simp
      with_reducible rfl
     rotate_left
     ·simp only [Act.put, Z1, Z2, Z3, i64_w, i32_w]
      rfl
     refine P1 28 143 ?_ (Bz 48 0x1fffffff) ?_ ?_ ?_ ?_
     rotate_left
     ·intro w'
      go_simp
      with_reducible rfl
     rotate_left
     ·simp only [Act.put, Z1, Z2, Z3, i64_w, i32_w]
      rfl
     refine P2 29 144 (Bz 48 0x3fffffff) ?_ ?_ ?_
     rotate_left
     ·simp only [Act.put, Z1, Z2, Z3, i64_w, i32_w]
      rfl
     refine P2 30 145 (Bz 48 0x7fffffff) ?_ ?_ ?_
     rotate_left
     ·simp only [Act.put, Z1, Z2, Z3, i64_w, i32_w]
      rfl
     refine P2 31 146 (Bz 48 0xffffffff) ?_ ?_ ?_
     rotate_left
     ·simp only [Act.put, Z1, Z2, Z3, i64_w, i32_w]
      rfl
     refine P2 32 147 (Bz 48 0x1ffffffff) ?_ ?_ ?_
     rotate_left
     ·simp only [Act.put, Z1, Z2, Z3, i64_w, i32_w]
      rfl
     refine P2 33 148 (Bz 48 0x3ffffffff) ?_ ?_ ?_
     rotate_left
     ·simp only [Act.put, Z1, Z2, Z3, i64_w, i32_w]
      rfl
     refine P2 34 149 (Bz 48 0x7ffffffff) ?_ ?_ ?_
     rotate_left
     ·simp only [Act.put, Z1, Z2, Z3, i64_w, i32_w]
      rfl
     refine P2 35 150 (Bz 48 0xfffffffff) ?_ ?_ ?_
     rotate_left
     ·simp only [Act.put, Z1, Z2, Z3, i64_w, i32_w]
      rfl
     refine P1 36 151 ?_ (Bz 48 0x1fffffffff) ?_ ?_ ?_ ?_
     rotate_left
     ·intro w'
      go_simp
      with_reducible rfl
     rotate_left
     ·simp only [Act.put, Z1, Z2, Z3, i64_w, i32_w]
      rfl
     refine P1 37 152 ?_ (Bz 48 0x3fffffffff) ?_ ?_ ?_ ?_
     rotate_left
     ·intro w'
      go_simp
      with_reducible rfl
     rotate_left
     ·simp only [Act.put, Z1, Z2, Z3, i64_w, i32_w]
      rfl
     refine P2 38 153 (Bz 48 0x7fffffffff) ?_ ?_ ?_
     rotate_left
     ·simp only [Act.put, Z1, Z2, Z3, i64_w, i32_w]
      rfl
     refine P2 39 154 (Bz 48 0xffffffffff) ?_ ?_ ?_
     rotate_left
     ·simp only [Act.put, Z1, Z2, Z3, i64_w, i32_w]
      rfl
     refine P2 40 155 (Bz 48 0x1ffffffffff) ?_ ?_ ?_
     rotate_left
     ·simp only [Act.put, Z1, Z2, Z3, i64_w, i32_w]
      rfl
     refine P2 41 156 (Bz 48 0x3ffffffffff) ?_ ?_ ?_
     rotate_left
     ·simp only [Act.put, Z1, Z2, Z3, i64_w, i32_w]
      rfl
     refine P1 42 157 ?_ (Bz 48 0x7ffffffffff) ?_ ?_ ?_ ?_
     rotate_left
     ·intro w'
      go_simp
      with_reducible rfl
     rotate_left
     ·simp only [Act.put, Z1, Z2, Z3, i64_w, i32_w]
      rfl
     refine P1 43 158 ?_ (Bz 48 0xfffffffffff) ?_ ?_ ?_ ?_
     rotate_left
     ·intro w'
      go_simp
      with_reducible rfl
     rotate_left
     ·simp only [Act.put, Z1, Z2, Z3, i64_w, i32_w]
      rfl
     refine P2 44 159 (Bz 48 0x1fffffffffff) ?_ ?_ ?_
     rotate_left
     ·simp only [Act.put, Z1, Z2, Z3, i64_w, i32_w]
      rfl
     refine P2 45 160 (Bz 48 0x3fffffffffff) ?_ ?_ ?_
     rotate_left
     ·simp only [Act.put, Z1, Z2, Z3, i64_w, i32_w]
      rfl
     refine P2 46 161 (Bz 48 0x7fffffffffff) ?_ ?_ ?_
     rotate_left
     ·simp only [Act.put, Z1, Z2, Z3, i64_w, i32_w]
      rfl
     refine P1 47 162 ?_ (Bz 48 0xffffffffffff) ?_ ?_ ?_ ?_
     rotate_left
     ·intro w'
      go_simp
      with_reducible rfl
     rotate_left
     ·simp only [Act.put, Z1, Z2, Z3, i64_w, i32_w]
      rfl
     refine done_ (by kernel_rfl) ?_
     clear a2 x0 x1 x2 x4 c12 c6 hHeld
     go_wp2
     go_ret2
     exact DocPost.no HNO.out HB9.out
   have k3b : (y0_ != num) = false := by rw [k3]; exact bne_self_eq_false _
   by_cases k4 : y1_ < bf
   case pos =>
    have k4b : decide (y1_ < bf) = true := decide_eq_true k4
    as_aux_lemma =>
     have HNO := Aside0.mk (HSPJ.out (loop_none HLT.out (fun x q hr => by
      rw [HRC.out] at hr
      split at hr
      ·injection hr with hr
       injection hr with hr1 hr2
       subst hr1
       exact fun hc => absurd hc.2.1 (by show ¬ bf ≤ y1_; omega)
      ·cases hr)))
     clear k3 k4
     have HI9 := Aside0.mk (IsS86.drew HI8.out)
     have HX9 := Aside0.mk (blk_drew HX8.out)
     have HD9 := Aside0.mk HD8.out.drewD
     have HB9 := Aside0.mk (below_drew1 HB8.out)
     refine start_ (n := 48) (S := fun w' => w'.cell? ⟨gb, 2, none⟩ = some (.bool false) ∧ w'.cell? ⟨gx, 0, none⟩ = some (.int .i64 y0_) ∧ w'.cell? ⟨gx, 1, none⟩ = some (.int .i64 y1_) ∧ w'.cell? ⟨gx, 2, none⟩ = some (.int .i64 y2_) ∧ w'.cell? ⟨gx, 4, none⟩ = some (.int .i64 y4_) ∧ w'.cell? ⟨gl, 12, none⟩ = some (.int .i64 x1_) ∧ w'.cell? ⟨gl, 6, none⟩ = some (.int .i64 x2_)) (ds := []) #[Yn, Yn, Yn, Yn, Yn, Yn, Yn, Yn, Yn, Yn, Yn, Yn, Yn, Yn, Yn, Yn, Yn, Yn, Yn, Yn, Yn, Yn, Yn, Yn, Yn, Yn, Yn, Yn, Yn, Yn, Yn, Yn, Yn, Yn, Yn, Yn, Yn, Yn, Yn, Yn, Yn, Yn, Yn, Yn, Yn, Yn, Yn, Yn] (by kernel_rfl) rfl rfl ⟨a2, x0, x1, x2, x4, c12, c6⟩ (fun hHeld => ?_)
     generalize b8.drew = b9 at HI9 HX9 HD9 HB9 hHeld ⊢
     refine P1 0 115 ?_ (Bz 48 0x1) ?_ ?_ ?_ ?_
     rotate_left
     ·intro w'
      go_simp
      with_reducible rfl
     rotate_left
     ·simp only [Act.put, Z1, Z2, Z3, i64_w, i32_w]
      rfl
     refine P1 1 116 ?_ (Bz 48 0x3) ?_ ?_ ?_ ?_
     rotate_left
     ·intro w'
      go_simp
      with_reducible rfl
     rotate_left
     ·simp only [Act.put, Z1, Z2, Z3, i64_w, i32_w]
      rfl
     refine P1 2 117 ?_ (Bz 48 0x7) ?_ ?_ ?_ ?_
     rotate_left
     ·intro w'
      go_simp
      with_reducible rfl
     rotate_left
     ·simp only [Act.put, Z1, Z2, Z3, i64_w, i32_w]
      rfl
     refine P1 3 118 ?_ (Bz 48 0xf) ?_ ?_ ?_ ?_
     rotate_left
     ·intro w'
      go_simp
      with_reducible rfl
     rotate_left
     ·simp only [Act.put, Z1, Z2, Z3, i64_w, i32_w]
      rfl
     refine P1 4 119 ?_ (Bz 48 0x1f) ?_ ?_ ?_ ?_
     rotate_left
     ·intro w'
      go_simp
      with_reducible rfl
     rotate_left
     ·simp only [Act.put, Z1, Z2, Z3, i64_w, i32_w]
      rfl
     refine P1 5 120 ?_ (Bz 48 0x3f) ?_ ?_ ?_ ?_
     rotate_left
     ·intro w'
      go_simp
      with_reducible rfl
     rotate_left
     ·simp only [Act.put, Z1, Z2, Z3, i64_w, i32_w]
      rfl
     refine P5 6 121 ?_ (Bz 48 0x7f) ?_ hHeld ?_ ?_ ?_
     rotate_left
     ·rintro w' ⟨s0, s1, s2, s3, s4, s5, s6⟩
      go_simp
      with_reducible rfl
     rotate_left
     ·simp only [Act.put, Z1, Z2, Z3, i64_w, i32_w]
      rfl
     refine P1 7 122 ?_ (Bz 48 0xff) ?_ ?_ ?_ ?_
     rotate_left
     ·intro w'
      go_simp
      with_reducible rfl
     rotate_left
     ·simp only [Act.put, Z1, Z2, Z3, i64_w, i32_w]
      rfl
     refine P1 8 123 ?_ (Bz 48 0x1ff) ?_ ?_ ?_ ?_
     rotate_left
     ·intro w'
      go_simp
      with_reducible rfl
     rotate_left
     ·simp only [Act.put, Z1, Z2, Z3, i64_w, i32_w]
      rfl
     refine P1 9 124 ?_ (Bz 48 0x3ff) ?_ ?_ ?_ ?_
     rotate_left
     ·intro w'
      go_simp
      with_reducible rfl
     rotate_left
     ·simp only [Act.put, Z1, Z2, Z3, i64_w, i32_w]
      rfl
     refine P1 11 126 ?_ (Bz 48 0xbff) ?_ ?_ ?_ ?_
     rotate_left
     ·intro w'
      go_simp
      with_reducible rfl
     rotate_left
     ·simp only [Act.put, Z1, Z2, Z3, i64_w, i32_w]
      rfl
     refine P1 12 127 ?_ (Bz 48 0x1bff) ?_ ?_ ?_ ?_
     rotate_left
     ·intro w'
      go_simp
      with_reducible rfl
     rotate_left
     ·simp only [Act.put, Z1, Z2, Z3, i64_w, i32_w]
      rfl
     refine P1 13 128 ?_ (Bz 48 0x3bff) ?_ ?_ ?_ ?_
     rotate_left
     ·intro w'
      go_simp
      with_reducible rfl
     rotate_left
     ·simp only [Act.put, Z1, Z2, Z3, i64_w, i32_w]
      rfl
     refine P1 15 130 ?_ (Bz 48 0xbbff) ?_ ?_ ?_ ?_
     rotate_left
     ·intro w'
      go_simp
      with_reducible rfl
     rotate_left
     ·simp only [Act.put, Z1, Z2, Z3, i64_w, i32_w]
      rfl
     refine P1 18 133 ?_ (Bz 48 0x4bbff) ?_ ?_ ?_ ?_
     rotate_left
     ·intro w'
      go_simp
      with_reducible rfl
     rotate_left
     ·simp only [Act.put, Z1, Z2, Z3, i64_w, i32_w]
      rfl
     refine P5 10 125 ?_ (Bz 48 0x4bfff) ?_ hHeld ?_ ?_ ?_
     rotate_left
     ·rintro w' ⟨s0, s1, s2, s3, s4, s5, s6⟩
      go_simp
      with_reducible rfl
     rotate_left
     ·simp only [Act.put, Z1, Z2, Z3, i64_w, i32_w]
      rfl
     refine P5 14 129 ?_ (Bz 48 0x4ffff) ?_ hHeld ?_ ?_ ?_
     rotate_left
     ·rintro w' ⟨s0, s1, s2, s3, s4, s5, s6⟩
      go_simp
      with_reducible rfl
     rotate_left
     ·simp only [Act.put, Z1, Z2, Z3, i64_w, i32_w]
      rfl
     refine P1 16 131 ?_ (Bz 48 0x5ffff) ?_ ?_ ?_ ?_
     rotate_left
     ·intro w'
      go_simp
      with_reducible rfl
     rotate_left
     ·simp only [Act.put, Z1, Z2, Z3, i64_w, i32_w]
      rfl
     refine P1 17 132 ?_ (Bz 48 0x7ffff) ?_ ?_ ?_ ?_
     rotate_left
     ·intro w'
      go_simp
      with_reducible rfl
     rotate_left
     ·simp only [Act.put, Z1, Z2, Z3, i64_w, i32_w]
      rfl
     refine P1 19 134 ?_ (Bz 48 0xfffff) ?_ ?_ ?_ ?_
     rotate_left
     ·intro w'
      go_simp
      with_reducible rfl
     rotate_left
     ·simp only [Act.put, Z1, Z2, Z3, i64_w, i32_w]
      rfl
     refine P1 20 135 ?_ (Bz 48 0x1fffff) ?_ ?_ ?_ ?_
     rotate_left
     ·intro w'
      go_simp
      with_reducible rfl
     rotate_left
     ·simp only [Act.put, Z1, Z2, Z3, i64_w, i32_w]
      rfl
     refine P1 21 136 ?_ (Bz 48 0x3fffff) ?_ ?_ ?_ ?_
     rotate_left
     ·intro w'
      go_simp
      with_reducible rfl
     rotate_left
     ·simp only [Act.put, Z1, Z2, Z3, i64_w, i32_w]
      rfl
     refine P1 22 137 ?_ (Bz 48 0x7fffff) ?_ ?_ ?_ ?_
     rotate_left
     ·intro w'
      go_simp
      with_reducible rfl
     rotate_left
     ·simp only [Act.put, Z1, Z2, Z3, i64_w, i32_w]
      rfl
     refine P1 23 138 ?_ (Bz 48 0xffffff) ?_ ?_ ?_ ?_
     rotate_left
     ·intro w'
      go_simp
      with_reducible rfl
     rotate_left
     ·simp only [Act.put, Z1, Z2, Z3, i64_w, i32_w]
      rfl
     refine P1 25 140 ?_ (Bz 48 0x2ffffff) ?_ ?_ ?_ ?_
     rotate_left
     ·intro w'
      go_simp
      with_reducible rfl
     rotate_left
     ·simp only [Act.put, Z1, Z2, Z3, i64_w, i32_w]
      rfl
     refine P5 24 139 ?_ (Bz 48 0x3ffffff) ?_ hHeld ?_ ?_ ?_
     rotate_left
     ·rintro w' ⟨s0, s1, s2, s3, s4, s5, s6⟩
      go_simp
      with_reducible rfl
     rotate_left
     ·simp only [Act.put, Z1, Z2, Z3, i64_w, i32_w]
      rfl
     refine P1 26 141 ?_ (Bz 48 0x7ffffff) ?_ ?_ ?_ ?_
     rotate_left
     ·intro w'
      go_simp
      with_reducible rfl
     rotate_left
     ·simp only [Act.put, Z1, Z2, Z3, i64_w, i32_w]
      rfl
     refine P1 27 142 ?_ (Bz 48 0xfffffff) ?_ ?_ ?_ ?_
     rotate_left
     ·intro w'
      go_simp
      with_reducible rfl
     rotate_left
     ·simp only [Act.put, Z1, Z2, Z3, i64_w, i32_w]
      rfl
     refine P1 28 143 ?_ (Bz 48 0x1fffffff) ?_ ?_ ?_ ?_
     rotate_left
     ·intro w'
      go_simp
      with_reducible rfl
     rotate_left
     ·simp only [Act.put, Z1, Z2, Z3, i64_w, i32_w]
      rfl
     refine P2 29 144 (Bz 48 0x3fffffff) ?_ ?_ ?_
     rotate_left
     ·simp only [Act.put, Z1, Z2, Z3, i64_w, i32_w]
      rfl
     refine P2 30 145 (Bz 48 0x7fffffff) ?_ ?_ ?_
     rotate_left
     ·simp only [Act.put, Z1, Z2, Z3, i64_w, i32_w]
      rfl
     refine P2 31 146 (Bz 48 0xffffffff) ?_ ?_ ?_
     rotate_left
     ·simp only [Act.put, Z1, Z2, Z3, i64_w, i32_w]
      rfl
     refine P2 32 147 (Bz 48 0x1ffffffff) ?_ ?_ ?_
     rotate_left
     ·simp only [Act.put, Z1, Z2, Z3, i64_w, i32_w]
      rfl
     refine P2 33 148 (Bz 48 0x3ffffffff) ?_ ?_ ?_
     rotate_left
     ·simp only [Act.put, Z1, Z2, Z3, i64_w, i32_w]
      rfl
     refine P2 34 149 (Bz 48 0x7ffffffff) ?_ ?_ ?_
     rotate_left
     ·simp only [Act.put, Z1, Z2, Z3, i64_w, i32_w]
      rfl
     refine P2 35 150 (Bz 48 0xfffffffff) ?_ ?_ ?_
     rotate_left
     ·simp only [Act.put, Z1, Z2, Z3, i64_w, i32_w]
      rfl
     refine P1 36 151 ?_ (Bz 48 0x1fffffffff) ?_ ?_ ?_ ?_
     rotate_left
     ·intro w'
      go_simp
      with_reducible rfl
     rotate_left
     ·simp only [Act.put, Z1, Z2, Z3, i64_w, i32_w]
      rfl
     refine P1 37 152 ?_ (Bz 48 0x3fffffffff) ?_ ?_ ?_ ?_
     rotate_left
     ·intro w'
      go_simp
      with_reducible rfl
     rotate_left
     ·simp only [Act.put, Z1, Z2, Z3, i64_w, i32_w]
      rfl
     refine P2 38 153 (Bz 48 0x7fffffffff) ?_ ?_ ?_
     rotate_left
     ·simp only [Act.put, Z1, Z2, Z3, i64_w, i32_w]
      rfl
     refine P2 39 154 (Bz 48 0xffffffffff) ?_ ?_ ?_
     rotate_left
     ·simp only [Act.put, Z1, Z2, Z3, i64_w, i32_w]
      rfl
     refine P2 40 155 (Bz 48 0x1ffffffffff) ?_ ?_ ?_
     rotate_left
     ·simp only [Act.put, Z1, Z2, Z3, i64_w, i32_w]
      rfl
     refine P2 41 156 (Bz 48 0x3ffffffffff) ?_ ?_ ?_
     rotate_left
     ·simp only [Act.put, Z1, Z2, Z3, i64_w, i32_w]
      rfl
     refine P1 42 157 ?_ (Bz 48 0x7ffffffffff) ?_ ?_ ?_ ?_
     rotate_left
     ·intro w'
      go_simp
      with_reducible rfl
     rotate_left
     ·simp only [Act.put, Z1, Z2, Z3, i64_w, i32_w]
      rfl
     refine P1 43 158 ?_ (Bz 48 0xfffffffffff) ?_ ?_ ?_ ?_
     rotate_left
     ·intro w'
      go_simp
      with_reducible rfl
     rotate_left
     ·simp only [Act.put, Z1, Z2, Z3, i64_w, i32_w]
      rfl
     refine P2 44 159 (Bz 48 0x1fffffffffff) ?_ ?_ ?_
     rotate_left
     ·simp only [Act.put, Z1, Z2, Z3, i64_w, i32_w]
      rfl
     refine P2 45 160 (Bz 48 0x3fffffffffff) ?_ ?_ ?_
     rotate_left
     ·simp only [Act.put, Z1, Z2, Z3, i64_w, i32_w]
      rfl
     refine P2 46 161 (Bz 48 0x7fffffffffff) ?_ ?_ ?_
     rotate_left
     ·simp only [Act.put, Z1, Z2, Z3, i64_w, i32_w]
      rfl
     refine P1 47 162 ?_ (Bz 48 0xffffffffffff) ?_ ?_ ?_ ?_
     rotate_left
     ·intro w'
      go_simp
      with_reducible rfl
     rotate_left
     ·simp only [Act.put, Z1, Z2, Z3, i64_w, i32_w]
      rfl
     refine done_ (by kernel_rfl) ?_
     clear a2 x0 x1 x2 x4 c12 c6 hHeld
     go_wp2
     go_ret2
     exact DocPost.no HNO.out HB9.out
   have k4b : decide (y1_ < bf) = false := decide_eq_false k4
   by_cases k5 : x2_ < y1_
   case pos =>
    have k5b : decide (x2_ < y1_) = true := decide_eq_true k5
    as_aux_lemma =>
     have HNO := Aside0.mk (HSPJ.out (loop_none HLT.out (fun x q hr => by
      rw [HRC.out] at hr
      split at hr
      ·injection hr with hr
       injection hr with hr1 hr2
       subst hr1
       exact fun hc => absurd hc.2.2 (by show ¬ y1_ ≤ x2_; omega)
      ·cases hr)))
     clear k3 k4 k5
     have HI9 := Aside0.mk (IsS86.drew HI8.out)
     have HX9 := Aside0.mk (blk_drew HX8.out)
     have HD9 := Aside0.mk HD8.out.drewD
     have HB9 := Aside0.mk (below_drew1 HB8.out)
     refine start_ (n := 48) (S := fun w' => w'.cell? ⟨gb, 2, none⟩ = some (.bool false) ∧ w'.cell? ⟨gx, 0, none⟩ = some (.int .i64 y0_) ∧ w'.cell? ⟨gx, 1, none⟩ = some (.int .i64 y1_) ∧ w'.cell? ⟨gx, 2, none⟩ = some (.int .i64 y2_) ∧ w'.cell? ⟨gx, 4, none⟩ = some (.int .i64 y4_) ∧ w'.cell? ⟨gl, 12, none⟩ = some (.int .i64 x1_) ∧ w'.cell? ⟨gl, 6, none⟩ = some (.int .i64 x2_)) (ds := []) #[Yn, Yn, Yn, Yn, Yn, Yn, Yn, Yn, Yn, Yn, Yn, Yn, Yn, Yn, Yn, Yn, Yn, Yn, Yn, Yn, Yn, Yn, Yn, Yn, Yn, Yn, Yn, Yn, Yn, Yn, Yn, Yn, Yn, Yn, Yn, Yn, Yn, Yn, Yn, Yn, Yn, Yn, Yn, Yn, Yn, Yn, Yn, Yn] (by kernel_rfl) rfl rfl ⟨a2, x0, x1, x2, x4, c12, c6⟩ (fun hHeld => ?_)
     generalize b8.drew = b9 at HI9 HX9 HD9 HB9 hHeld ⊢
     refine P1 0 115 ?_ (Bz 48 0x1) ?_ ?_ ?_ ?_
     rotate_left
     ·intro w'
      go_simp
      with_reducible rfl
     rotate_left
     ·simp only [Act.put, Z1, Z2, Z3, i64_w, i32_w]
      rfl
     refine P1 1 116 ?_ (Bz 48 0x3) ?_ ?_ ?_ ?_
     rotate_left
     ·intro w'
      go_simp
      with_reducible rfl
     rotate_left
     ·simp only [Act.put, Z1, Z2, Z3, i64_w, i32_w]
      rfl
     refine P1 2 117 ?_ (Bz 48 0x7) ?_ ?_ ?_ ?_
     rotate_left
     ·intro w'
      go_simp
      with_reducible rfl
     rotate_left
     ·simp only [Act.put, Z1, Z2, Z3, i64_w, i32_w]
      rfl
     refine P1 3 118 ?_ (Bz 48 0xf) ?_ ?_ ?_ ?_
     rotate_left
     ·intro w'
      go_simp
      with_reducible rfl
     rotate_left
     ·simp only [Act.put, Z1, Z2, Z3, i64_w, i32_w]
      rfl
     refine P1 4 119 ?_ (Bz 48 0x1f) ?_ ?_ ?_ ?_
     rotate_left
     ·intro w'
      go_simp
      with_reducible rfl
     rotate_left
     ·simp only [Act.put, Z1, Z2, Z3, i64_w, i32_w]
      rfl
     refine P1 5 120 ?_ (Bz 48 0x3f) ?_ ?_ ?_ ?_
     rotate_left
     ·intro w'
      go_simp
      with_reducible rfl
     rotate_left
     ·simp only [Act.put, Z1, Z2, Z3, i64_w, i32_w]
      rfl
     refine P5 6 121 ?_ (Bz 48 0x7f) ?_ hHeld ?_ ?_ ?_
     rotate_left
     ·rintro w' ⟨s0, s1, s2, s3, s4, s5, s6⟩
      go_simp
      with_reducible rfl
     rotate_left
     ·simp only [Act.put, Z1, Z2, Z3, i64_w, i32_w]
      rfl
     refine P1 7 122 ?_ (Bz 48 0xff) ?_ ?_ ?_ ?_
     rotate_left
     ·intro w'
      go_simp
      with_reducible rfl
     rotate_left
     ·simp only [Act.put, Z1, Z2, Z3, i64_w, i32_w]
      rfl
     refine P1 8 123 ?_ (Bz 48 0x1ff) ?_ ?_ ?_ ?_
     rotate_left
     ·intro w'
      go_simp
      with_reducible rfl
     rotate_left
     ·simp only [Act.put, Z1, Z2, Z3, i64_w, i32_w]
      rfl
     refine P1 9 124 ?_ (Bz 48 0x3ff) ?_ ?_ ?_ ?_
     rotate_left
     ·intro w'
      go_simp
      with_reducible rfl
     rotate_left
     ·simp only [Act.put, Z1, Z2, Z3, i64_w, i32_w]
      rfl
     refine P1 11 126 ?_ (Bz 48 0xbff) ?_ ?_ ?_ ?_
     rotate_left
     ·intro w'
      go_simp
      with_reducible rfl
     rotate_left
     ·simp only [Act.put, Z1, Z2, Z3, i64_w, i32_w]
      rfl
     refine P1 12 127 ?_ (Bz 48 0x1bff) ?_ ?_ ?_ ?_
     rotate_left
     ·intro w'
      go_simp
      with_reducible rfl
     rotate_left
     ·simp only [Act.put, Z1, Z2, Z3, i64_w, i32_w]
      rfl
     refine P1 13 128 ?_ (Bz 48 0x3bff) ?_ ?_ ?_ ?_
     rotate_left
     ·intro w'
      go_simp
      with_reducible rfl
     rotate_left
     ·simp only [Act.put, Z1, Z2, Z3, i64_w, i32_w]
      rfl
     refine P1 15 130 ?_ (Bz 48 0xbbff) ?_ ?_ ?_ ?_
     rotate_left
     ·intro w'
      go_simp
      with_reducible rfl
     rotate_left
     ·simp only [Act.put, Z1, Z2, Z3, i64_w, i32_w]
      rfl
     refine P1 18 133 ?_ (Bz 48 0x4bbff) ?_ ?_ ?_ ?_
     rotate_left
     ·intro w'
      go_simp
      with_reducible rfl
     rotate_left
     ·simp only [Act.put, Z1, Z2, Z3, i64_w, i32_w]
      rfl
     refine P5 10 125 ?_ (Bz 48 0x4bfff) ?_ hHeld ?_ ?_ ?_
     rotate_left
     ·rintro w' ⟨s0, s1, s2, s3, s4, s5, s6⟩
      go_simp
      with_reducible rfl
     rotate_left
     ·simp only [Act.put, Z1, Z2, Z3, i64_w, i32_w]
      rfl
     refine P5 14 129 ?_ (Bz 48 0x4ffff) ?_ hHeld ?_ ?_ ?_
     rotate_left
     ·rintro w' ⟨s0, s1, s2, s3, s4, s5, s6⟩
      go_simp
      with_reducible rfl
     rotate_left
     ·simp only [Act.put, Z1, Z2, Z3, i64_w, i32_w]
      rfl
     refine P1 16 131 ?_ (Bz 48 0x5ffff) ?_ ?_ ?_ ?_
     rotate_left
     ·intro w'
      go_simp
      with_reducible rfl
     rotate_left
     ·simp only [Act.put, Z1, Z2, Z3, i64_w, i32_w]
      rfl
     refine P1 17 132 ?_ (Bz 48 0x7ffff) ?_ ?_ ?_ ?_
     rotate_left
     ·intro w'
      go_simp
      with_reducible rfl
     rotate_left
     ·simp only [Act.put, Z1, Z2, Z3, i64_w, i32_w]
      rfl
     refine P1 19 134 ?_ (Bz 48 0xfffff) ?_ ?_ ?_ ?_
     rotate_left
     ·intro w'
      go_simp
      with_reducible rfl
     rotate_left
     ·simp only [Act.put, Z1, Z2, Z3, i64_w, i32_w]
      rfl
     refine P1 20 135 ?_ (Bz 48 0x1fffff) ?_ ?_ ?_ ?_
     rotate_left
     ·intro w'
      go_simp
      with_reducible rfl
     rotate_left
     ·simp only [Act.put, Z1, Z2, Z3, i64_w, i32_w]
      rfl
     refine P1 21 136 ?_ (Bz 48 0x3fffff) ?_ ?_ ?_ ?_
     rotate_left
     ·intro w'
      go_simp
      with_reducible rfl
     rotate_left
     ·simp only [Act.put, Z1, Z2, Z3, i64_w, i32_w]
      rfl
     refine P1 22 137 ?_ (Bz 48 0x7fffff) ?_ ?_ ?_ ?_
     rotate_left
     ·intro w'
      go_simp
      with_reducible rfl
     rotate_left
     ·simp only [Act.put, Z1, Z2, Z3, i64_w, i32_w]
      rfl
     refine P1 23 138 ?_ (Bz 48 0xffffff) ?_ ?_ ?_ ?_
     rotate_left
     ·intro w'
      go_simp
      with_reducible rfl
     rotate_left
     ·simp only [Act.put, Z1, Z2, Z3, i64_w, i32_w]
      rfl
     refine P1 25 140 ?_ (Bz 48 0x2ffffff) ?_ ?_ ?_ ?_
     rotate_left
     ·intro w'
      go_simp
      with_reducible rfl
     rotate_left
     ·simp only [Act.put, Z1, Z2, Z3, i64_w, i32_w]
      rfl
     refine P5 24 139 ?_ (Bz 48 0x3ffffff) ?_ hHeld ?_ ?_ ?_
     rotate_left
     ·rintro w' ⟨s0, s1, s2, s3, s4, s5, s6⟩
      go_simp
      with_reducible rfl
     rotate_left
     ·simp only [Act.put, Z1, Z2, Z3, i64_w, i32_w]
      rfl
     refine P1 26 141 ?_ (Bz 48 0x7ffffff) ?_ ?_ ?_ ?_
     rotate_left
     ·intro w'
      go_simp
      with_reducible rfl
     rotate_left
     ·simp only [Act.put, Z1, Z2, Z3, i64_w, i32_w]
      rfl
     refine P1 27 142 ?_ (Bz 48 0xfffffff) ?_ ?_ ?_ ?_
     rotate_left
     ·intro w'
      go_simp
      with_reducible rfl
     rotate_left
     ·simp only [Act.put, Z1, Z2, Z3, i64_w, i32_w]
      rfl
     refine P1 28 143 ?_ (Bz 48 0x1fffffff) ?_ ?_ ?_ ?_
     rotate_left
     ·intro w'
      go_simp
      with_reducible rfl
     rotate_left
     ·simp only [Act.put, Z1, Z2, Z3, i64_w, i32_w]
      rfl
     refine P1 29 144 ?_ (Bz 48 0x3fffffff) ?_ ?_ ?_ ?_
     rotate_left
     ·intro w'
      go_simp
      with_reducible rfl
     rotate_left
     ·simp only [Act.put, Z1, Z2, Z3, i64_w, i32_w]
      rfl
     refine P1 31 146 ?_ (Bz 48 0xbfffffff) ?_ ?_ ?_ ?_
     rotate_left
     ·intro w'
      go_simp
      with_reducible rfl
     rotate_left
     ·simp only [Act.put, Z1, Z2, Z3, i64_w, i32_w]
      rfl
     refine P1 32 147 ?_ (Bz 48 0x1bfffffff) ?_ ?_ ?_ ?_
     rotate_left
     ·intro w'
      go_simp
      with_reducible rfl
     rotate_left
     ·simp only [Act.put, Z1, Z2, Z3, i64_w, i32_w]
      rfl
     refine P1 33 148 ?_ (Bz 48 0x3bfffffff) ?_ ?_ ?_ ?_
     rotate_left
     ·intro w'
      go_simp
      with_reducible rfl
     rotate_left
     ·simp only [Act.put, Z1, Z2, Z3, i64_w, i32_w]
      rfl
     refine P5 30 145 ?_ (Bz 48 0x3ffffffff) ?_ hHeld ?_ ?_ ?_
     rotate_left
     ·rintro w' ⟨s0, s1, s2, s3, s4, s5, s6⟩
      go_simp
      with_reducible rfl
     rotate_left
     ·simp only [Act.put, Z1, Z2, Z3, i64_w, i32_w]
      rfl
     refine P5 34 149 ?_ (Bz 48 0x7ffffffff) ?_ hHeld ?_ ?_ ?_
     rotate_left
     ·rintro w' ⟨s0, s1, s2, s3, s4, s5, s6⟩
      go_simp
      with_reducible rfl
     rotate_left
     ·simp only [Act.put, Z1, Z2, Z3, i64_w, i32_w]
      rfl
     refine P1 35 150 ?_ (Bz 48 0xfffffffff) ?_ ?_ ?_ ?_
     rotate_left
     ·intro w'
      go_simp
      with_reducible rfl
     rotate_left
     ·simp only [Act.put, Z1, Z2, Z3, i64_w, i32_w]
      rfl
     refine P1 36 151 ?_ (Bz 48 0x1fffffffff) ?_ ?_ ?_ ?_
     rotate_left
     ·intro w'
      go_simp
      with_reducible rfl
     rotate_left
     ·simp only [Act.put, Z1, Z2, Z3, i64_w, i32_w]
      rfl
     refine P1 37 152 ?_ (Bz 48 0x3fffffffff) ?_ ?_ ?_ ?_
     rotate_left
     ·intro w'
      go_simp
      with_reducible rfl
     rotate_left
     ·simp only [Act.put, Z1, Z2, Z3, i64_w, i32_w]
      rfl
     refine P2 38 153 (Bz 48 0x7fffffffff) ?_ ?_ ?_
     rotate_left
     ·simp only [Act.put, Z1, Z2, Z3, i64_w, i32_w]
      rfl
     refine P2 39 154 (Bz 48 0xffffffffff) ?_ ?_ ?_
     rotate_left
     ·simp only [Act.put, Z1, Z2, Z3, i64_w, i32_w]
      rfl
     refine P2 40 155 (Bz 48 0x1ffffffffff) ?_ ?_ ?_
     rotate_left
     ·simp only [Act.put, Z1, Z2, Z3, i64_w, i32_w]
      rfl
     refine P2 41 156 (Bz 48 0x3ffffffffff) ?_ ?_ ?_
     rotate_left
     ·simp only [Act.put, Z1, Z2, Z3, i64_w, i32_w]
      rfl
     refine P1 42 157 ?_ (Bz 48 0x7ffffffffff) ?_ ?_ ?_ ?_
     rotate_left
     ·intro w'
      go_simp
      with_reducible rfl
     rotate_left
     ·simp only [Act.put, Z1, Z2, Z3, i64_w, i32_w]
      rfl
     refine P1 43 158 ?_ (Bz 48 0xfffffffffff) ?_ ?_ ?_ ?_
     rotate_left
     ·intro w'
      go_simp
      with_reducible rfl
     rotate_left
     ·simp only [Act.put, Z1, Z2, Z3, i64_w, i32_w]
      rfl
     refine P2 44 159 (Bz 48 0x1fffffffffff) ?_ ?_ ?_
     rotate_left
     ·simp only [Act.put, Z1, Z2, Z3, i64_w, i32_w]
      rfl
     refine P2 45 160 (Bz 48 0x3fffffffffff) ?_ ?_ ?_
     rotate_left
     ·simp only [Act.put, Z1, Z2, Z3, i64_w, i32_w]
      rfl
     refine P2 46 161 (Bz 48 0x7fffffffffff) ?_ ?_ ?_
     rotate_left
     ·simp only [Act.put, Z1, Z2, Z3, i64_w, i32_w]
      rfl
     refine P1 47 162 ?_ (Bz 48 0xffffffffffff) ?_ ?_ ?_ ?_
     rotate_left
     ·intro w'
      go_simp
      with_reducible rfl
     rotate_left
     ·simp only [Act.put, Z1, Z2, Z3, i64_w, i32_w]
      rfl
     refine done_ (by kernel_rfl) ?_
     clear a2 x0 x1 x2 x4 c12 c6 hHeld
     go_wp2
     go_ret2
     exact DocPost.no HNO.out HB9.out
   have k5b : decide (x2_ < y1_) = false := decide_eq_false k5
   by_cases k6 : 3 < y2_
   case pos =>
    have k6b : decide (3 < y2_) = true := decide_eq_true k6
    have HNO := Aside0.mk (HSPJ.out (loop_none HLT.out (fun x q hr => by rw [HRC.out, if_neg (fun h => by omega)] at hr; cases hr)))
    clear k3 k4 k5 k6
    as_aux_lemma =>
     have HI9 := Aside0.mk (IsS86.drew HI8.out)
     have HX9 := Aside0.mk (blk_drew HX8.out)
     have HD9 := Aside0.mk HD8.out.drewD
     have HB9 := Aside0.mk (below_drew1 HB8.out)
     refine start_ (n := 48) (S := fun w' => w'.cell? ⟨gb, 2, none⟩ = some (.bool false) ∧ w'.cell? ⟨gx, 0, none⟩ = some (.int .i64 y0_) ∧ w'.cell? ⟨gx, 1, none⟩ = some (.int .i64 y1_) ∧ w'.cell? ⟨gx, 2, none⟩ = some (.int .i64 y2_) ∧ w'.cell? ⟨gx, 4, none⟩ = some (.int .i64 y4_) ∧ w'.cell? ⟨gl, 12, none⟩ = some (.int .i64 x1_) ∧ w'.cell? ⟨gl, 6, none⟩ = some (.int .i64 x2_)) (ds := []) #[Yn, Yn, Yn, Yn, Yn, Yn, Yn, Yn, Yn, Yn, Yn, Yn, Yn, Yn, Yn, Yn, Yn, Yn, Yn, Yn, Yn, Yn, Yn, Yn, Yn, Yn, Yn, Yn, Yn, Yn, Yn, Yn, Yn, Yn, Yn, Yn, Yn, Yn, Yn, Yn, Yn, Yn, Yn, Yn, Yn, Yn, Yn, Yn] (by kernel_rfl) rfl rfl ⟨a2, x0, x1, x2, x4, c12, c6⟩ (fun hHeld => ?_)
     generalize b8.drew = b9 at HI9 HX9 HD9 HB9 hHeld ⊢
     refine P1 0 115 ?_ (Bz 48 0x1) ?_ ?_ ?_ ?_
     rotate_left
     ·intro w'
      go_simp
      with_reducible rfl
     rotate_left
     ·simp only [Act.put, Z1, Z2, Z3, i64_w, i32_w]
      rfl
     refine P1 1 116 ?_ (Bz 48 0x3) ?_ ?_ ?_ ?_
     rotate_left
     ·intro w'
      go_simp
      with_reducible rfl
     rotate_left
     ·simp only [Act.put, Z1, Z2, Z3, i64_w, i32_w]
      rfl
     refine P1 2 117 ?_ (Bz 48 0x7) ?_ ?_ ?_ ?_
     rotate_left
     ·intro w'
      go_simp
      with_reducible rfl
     rotate_left
     ·simp only [Act.put, Z1, Z2, Z3, i64_w, i32_w]
      rfl
     refine P1 3 118 ?_ (Bz 48 0xf) ?_ ?_ ?_ ?_
     rotate_left
     ·intro w'
      go_simp
      with_reducible rfl
     rotate_left
     ·simp only [Act.put, Z1, Z2, Z3, i64_w, i32_w]
      rfl
     refine P1 4 119 ?_ (Bz 48 0x1f) ?_ ?_ ?_ ?_
     rotate_left
     ·intro w'
      go_simp
      with_reducible rfl
     rotate_left
     ·simp only [Act.put, Z1, Z2, Z3, i64_w, i32_w]
      rfl
     refine P1 5 120 ?_ (Bz 48 0x3f) ?_ ?_ ?_ ?_
     rotate_left
     ·intro w'
      go_simp
      with_reducible rfl
     rotate_left
     ·simp only [Act.put, Z1, Z2, Z3, i64_w, i32_w]
      rfl
     refine P5 6 121 ?_ (Bz 48 0x7f) ?_ hHeld ?_ ?_ ?_
     rotate_left
     ·rintro w' ⟨s0, s1, s2, s3, s4, s5, s6⟩
      go_simp
      with_reducible rfl
     rotate_left
     ·simp only [Act.put, Z1, Z2, Z3, i64_w, i32_w]
      rfl
     refine P1 7 122 ?_ (Bz 48 0xff) ?_ ?_ ?_ ?_
     rotate_left
     ·intro w'
      go_simp
      with_reducible rfl
     rotate_left
     ·simp only [Act.put, Z1, Z2, Z3, i64_w, i32_w]
      rfl
     refine P1 8 123 ?_ (Bz 48 0x1ff) ?_ ?_ ?_ ?_
     rotate_left
     ·intro w'
      go_simp
      with_reducible rfl
     rotate_left
     ·simp only [Act.put, Z1, Z2, Z3, i64_w, i32_w]
      rfl
     refine P1 9 124 ?_ (Bz 48 0x3ff) ?_ ?_ ?_ ?_
     rotate_left
     ·intro w'
      go_simp
      with_reducible rfl
     rotate_left
     ·simp only [Act.put, Z1, Z2, Z3, i64_w, i32_w]
      rfl
     refine P1 11 126 ?_ (Bz 48 0xbff) ?_ ?_ ?_ ?_
     rotate_left
     ·intro w'
      go_simp
      with_reducible rfl
     rotate_left
     ·simp only [Act.put, Z1, Z2, Z3, i64_w, i32_w]
      rfl
     refine P1 12 127 ?_ (Bz 48 0x1bff) ?_ ?_ ?_ ?_
     rotate_left
     ·intro w'
      go_simp
      with_reducible rfl
     rotate_left
     ·simp only [Act.put, Z1, Z2, Z3, i64_w, i32_w]
      rfl
     refine P1 13 128 ?_ (Bz 48 0x3bff) ?_ ?_ ?_ ?_
     rotate_left
     ·intro w'
      go_simp
      with_reducible rfl
     rotate_left
     ·simp only [Act.put, Z1, Z2, Z3, i64_w, i32_w]
      rfl
     refine P1 15 130 ?_ (Bz 48 0xbbff) ?_ ?_ ?_ ?_
     rotate_left
     ·intro w'
      go_simp
      with_reducible rfl
     rotate_left
     ·simp only [Act.put, Z1, Z2, Z3, i64_w, i32_w]
      rfl
     refine P1 18 133 ?_ (Bz 48 0x4bbff) ?_ ?_ ?_ ?_
     rotate_left
     ·intro w'
      go_simp
      with_reducible rfl
     rotate_left
     ·simp only [Act.put, Z1, Z2, Z3, i64_w, i32_w]
      rfl
     refine P5 10 125 ?_ (Bz 48 0x4bfff) ?_ hHeld ?_ ?_ ?_
     rotate_left
     ·rintro w' ⟨s0, s1, s2, s3, s4, s5, s6⟩
      go_simp
      with_reducible rfl
     rotate_left
     ·simp only [Act.put, Z1, Z2, Z3, i64_w, i32_w]
      rfl
     refine P5 14 129 ?_ (Bz 48 0x4ffff) ?_ hHeld ?_ ?_ ?_
     rotate_left
     ·rintro w' ⟨s0, s1, s2, s3, s4, s5, s6⟩
      go_simp
      with_reducible rfl
     rotate_left
     ·simp only [Act.put, Z1, Z2, Z3, i64_w, i32_w]
      rfl
     refine P1 16 131 ?_ (Bz 48 0x5ffff) ?_ ?_ ?_ ?_
     rotate_left
     ·intro w'
      go_simp
      with_reducible rfl
     rotate_left
     ·simp only [Act.put, Z1, Z2, Z3, i64_w, i32_w]
      rfl
     refine P1 17 132 ?_ (Bz 48 0x7ffff) ?_ ?_ ?_ ?_
     rotate_left
     ·intro w'
      go_simp
      with_reducible rfl
     rotate_left
     ·simp only [Act.put, Z1, Z2, Z3, i64_w, i32_w]
      rfl
     refine P1 19 134 ?_ (Bz 48 0xfffff) ?_ ?_ ?_ ?_
     rotate_left
     ·intro w'
      go_simp
      with_reducible rfl
     rotate_left
     ·simp only [Act.put, Z1, Z2, Z3, i64_w, i32_w]
      rfl
     refine P1 20 135 ?_ (Bz 48 0x1fffff) ?_ ?_ ?_ ?_
     rotate_left
     ·intro w'
      go_simp
      with_reducible rfl
     rotate_left
     ·simp only [Act.put, Z1, Z2, Z3, i64_w, i32_w]
      rfl
     refine P1 21 136 ?_ (Bz 48 0x3fffff) ?_ ?_ ?_ ?_
     rotate_left
     ·intro w'
      go_simp
      with_reducible rfl
     rotate_left
     ·simp only [Act.put, Z1, Z2, Z3, i64_w, i32_w]
      rfl
     refine P1 22 137 ?_ (Bz 48 0x7fffff) ?_ ?_ ?_ ?_
     rotate_left
     ·intro w'
      go_simp
      with_reducible rfl
     rotate_left
     ·simp only [Act.put, Z1, Z2, Z3, i64_w, i32_w]
      rfl
     refine P1 23 138 ?_ (Bz 48 0xffffff) ?_ ?_ ?_ ?_
     rotate_left
     ·intro w'
      go_simp
      with_reducible rfl
     rotate_left
     ·simp only [Act.put, Z1, Z2, Z3, i64_w, i32_w]
      rfl
     refine P1 25 140 ?_ (Bz 48 0x2ffffff) ?_ ?_ ?_ ?_
     rotate_left
     ·intro w'
      go_simp
      with_reducible rfl
     rotate_left
     ·simp only [Act.put, Z1, Z2, Z3, i64_w, i32_w]
      rfl
     refine P5 24 139 ?_ (Bz 48 0x3ffffff) ?_ hHeld ?_ ?_ ?_
     rotate_left
     ·rintro w' ⟨s0, s1, s2, s3, s4, s5, s6⟩
      go_simp
      with_reducible rfl
     rotate_left
     ·simp only [Act.put, Z1, Z2, Z3, i64_w, i32_w]
      rfl
     refine P1 26 141 ?_ (Bz 48 0x7ffffff) ?_ ?_ ?_ ?_
     rotate_left
     ·intro w'
      go_simp
      with_reducible rfl
     rotate_left
     ·simp only [Act.put, Z1, Z2, Z3, i64_w, i32_w]
      rfl
     refine P1 27 142 ?_ (Bz 48 0xfffffff) ?_ ?_ ?_ ?_
     rotate_left
     ·intro w'
      go_simp
      with_reducible rfl
     rotate_left
     ·simp only [Act.put, Z1, Z2, Z3, i64_w, i32_w]
      rfl
     refine P1 28 143 ?_ (Bz 48 0x1fffffff) ?_ ?_ ?_ ?_
     rotate_left
     ·intro w'
      go_simp
      with_reducible rfl
     rotate_left
     ·simp only [Act.put, Z1, Z2, Z3, i64_w, i32_w]
      rfl
     refine P1 29 144 ?_ (Bz 48 0x3fffffff) ?_ ?_ ?_ ?_
     rotate_left
     ·intro w'
      go_simp
      with_reducible rfl
     rotate_left
     ·simp only [Act.put, Z1, Z2, Z3, i64_w, i32_w]
      rfl
     refine P1 31 146 ?_ (Bz 48 0xbfffffff) ?_ ?_ ?_ ?_
     rotate_left
     ·intro w'
      go_simp
      with_reducible rfl
     rotate_left
     ·simp only [Act.put, Z1, Z2, Z3, i64_w, i32_w]
      rfl
     refine P1 32 147 ?_ (Bz 48 0x1bfffffff) ?_ ?_ ?_ ?_
     rotate_left
     ·intro w'
      go_simp
      with_reducible rfl
     rotate_left
     ·simp only [Act.put, Z1, Z2, Z3, i64_w, i32_w]
      rfl
     refine P1 33 148 ?_ (Bz 48 0x3bfffffff) ?_ ?_ ?_ ?_
     rotate_left
     ·intro w'
      go_simp
      with_reducible rfl
     rotate_left
     ·simp only [Act.put, Z1, Z2, Z3, i64_w, i32_w]
      rfl
     refine P5 30 145 ?_ (Bz 48 0x3ffffffff) ?_ hHeld ?_ ?_ ?_
     rotate_left
     ·rintro w' ⟨s0, s1, s2, s3, s4, s5, s6⟩
      go_simp
      with_reducible rfl
     rotate_left
     ·simp only [Act.put, Z1, Z2, Z3, i64_w, i32_w]
      rfl
     refine P5 34 149 ?_ (Bz 48 0x7ffffffff) ?_ hHeld ?_ ?_ ?_
     rotate_left
     ·rintro w' ⟨s0, s1, s2, s3, s4, s5, s6⟩
      go_simp
      with_reducible rfl
     rotate_left
     ·simp only [Act.put, Z1, Z2, Z3, i64_w, i32_w]
      rfl
     refine P1 35 150 ?_ (Bz 48 0xfffffffff) ?_ ?_ ?_ ?_
     rotate_left
     ·intro w'
      go_simp
      with_reducible rfl
     rotate_left
     ·simp only [Act.put, Z1, Z2, Z3, i64_w, i32_w]
      rfl
     refine P1 36 151 ?_ (Bz 48 0x1fffffffff) ?_ ?_ ?_ ?_
     rotate_left
     ·intro w'
      go_simp
      with_reducible rfl
     rotate_left
     ·simp only [Act.put, Z1, Z2, Z3, i64_w, i32_w]
      rfl
     refine P1 37 152 ?_ (Bz 48 0x3fffffffff) ?_ ?_ ?_ ?_
     rotate_left
     ·intro w'
      go_simp
      with_reducible rfl
     rotate_left
     ·simp only [Act.put, Z1, Z2, Z3, i64_w, i32_w]
      rfl
     refine P1 38 153 ?_ (Bz 48 0x7fffffffff) ?_ ?_ ?_ ?_
     rotate_left
     ·intro w'
      go_simp
      with_reducible rfl
     rotate_left
     ·simp only [Act.put, Z1, Z2, Z3, i64_w, i32_w]
      rfl
     refine P1 39 154 ?_ (Bz 48 0xffffffffff) ?_ ?_ ?_ ?_
     rotate_left
     ·intro w'
      go_simp
      with_reducible rfl
     rotate_left
     ·simp only [Act.put, Z1, Z2, Z3, i64_w, i32_w]
      rfl
     refine P5 40 155 ?_ (Bz 48 0x1ffffffffff) ?_ hHeld ?_ ?_ ?_
     rotate_left
     ·rintro w' ⟨s0, s1, s2, s3, s4, s5, s6⟩
      go_simp
      with_reducible rfl
     rotate_left
     ·simp only [Act.put, Z1, Z2, Z3, i64_w, i32_w]
      rfl
     refine P1 41 156 ?_ (Bz 48 0x3ffffffffff) ?_ ?_ ?_ ?_
     rotate_left
     ·intro w'
      go_simp
      with_reducible rfl
     rotate_left
     ·simp only [Act.put, Z1, Z2, Z3, i64_w, i32_w]
      rfl
     refine P1 42 157 ?_ (Bz 48 0x7ffffffffff) ?_ ?_ ?_ ?_
     rotate_left
     ·intro w'
      go_simp
      with_reducible rfl
     rotate_left
     ·simp only [Act.put, Z1, Z2, Z3, i64_w, i32_w]
      rfl
     refine P1 43 158 ?_ (Bz 48 0xfffffffffff) ?_ ?_ ?_ ?_
     rotate_left
     ·intro w'
      go_simp
      with_reducible rfl
     rotate_left
     ·simp only [Act.put, Z1, Z2, Z3, i64_w, i32_w]
      rfl
     refine P2 44 159 (Bz 48 0x1fffffffffff) ?_ ?_ ?_
     rotate_left
     ·simp only [Act.put, Z1, Z2, Z3, i64_w, i32_w]
      rfl
     refine P2 45 160 (Bz 48 0x3fffffffffff) ?_ ?_ ?_
     rotate_left
     ·simp only [Act.put, Z1, Z2, Z3, i64_w, i32_w]
      rfl
     refine P2 46 161 (Bz 48 0x7fffffffffff) ?_ ?_ ?_
     rotate_left
     ·simp only [Act.put, Z1, Z2, Z3, i64_w, i32_w]
      rfl
     refine P1 47 162 ?_ (Bz 48 0xffffffffffff) ?_ ?_ ?_ ?_
     rotate_left
     ·intro w'
      go_simp
      with_reducible rfl
     rotate_left
     ·simp only [Act.put, Z1, Z2, Z3, i64_w, i32_w]
      rfl
     refine done_ (by kernel_rfl) ?_
     clear a2 x0 x1 x2 x4 c12 c6 hHeld
     go_wp2
     go_ret2
     exact DocPost.no HNO.out HB9.out
   have k6b : decide (3 < y2_) = false := decide_eq_false k6
   by_cases k7 : 15 < y4_
   case pos =>
    have k7b : decide (15 < y4_) = true := decide_eq_true k7
    have HNO := Aside0.mk (HSPJ.out (loop_none HLT.out (fun x q hr => by rw [HRC.out, if_neg (fun h => by omega)] at hr; cases hr)))
    clear k3 k4 k5 k6 k7
    as_aux_lemma =>
     have HI9 := Aside0.mk (IsS86.drew HI8.out)
     have HX9 := Aside0.mk (blk_drew HX8.out)
     have HD9 := Aside0.mk HD8.out.drewD
     have HB9 := Aside0.mk (below_drew1 HB8.out)
     refine start_ (n := 48) (S := fun w' => w'.cell? ⟨gb, 2, none⟩ = some (.bool false) ∧ w'.cell? ⟨gx, 0, none⟩ = some (.int .i64 y0_) ∧ w'.cell? ⟨gx, 1, none⟩ = some (.int .i64 y1_) ∧ w'.cell? ⟨gx, 2, none⟩ = some (.int .i64 y2_) ∧ w'.cell? ⟨gx, 4, none⟩ = some (.int .i64 y4_) ∧ w'.cell? ⟨gl, 12, none⟩ = some (.int .i64 x1_) ∧ w'.cell? ⟨gl, 6, none⟩ = some (.int .i64 x2_)) (ds := []) #[Yn, Yn, Yn, Yn, Yn, Yn, Yn, Yn, Yn, Yn, Yn, Yn, Yn, Yn, Yn, Yn, Yn, Yn, Yn, Yn, Yn, Yn, Yn, Yn, Yn, Yn, Yn, Yn, Yn, Yn, Yn, Yn, Yn, Yn, Yn, Yn, Yn, Yn, Yn, Yn, Yn, Yn, Yn, Yn, Yn, Yn, Yn, Yn] (by kernel_rfl) rfl rfl ⟨a2, x0, x1, x2, x4, c12, c6⟩ (fun hHeld => ?_)
     generalize b8.drew = b9 at HI9 HX9 HD9 HB9 hHeld ⊢
     refine P1 0 115 ?_ (Bz 48 0x1) ?_ ?_ ?_ ?_
     rotate_left
     ·intro w'
      go_simp
      with_reducible rfl
     rotate_left
     ·simp only [Act.put, Z1, Z2, Z3, i64_w, i32_w]
      rfl
     refine P1 1 116 ?_ (Bz 48 0x3) ?_ ?_ ?_ ?_
     rotate_left
     ·intro w'
      go_simp
      with_reducible rfl
     rotate_left
     ·simp only [Act.put, Z1, Z2, Z3, i64_w, i32_w]
      rfl
     refine P1 2 117 ?_ (Bz 48 0x7) ?_ ?_ ?_ ?_
     rotate_left
     ·intro w'
      go_simp
      with_reducible rfl
     rotate_left
     ·simp only [Act.put, Z1, Z2, Z3, i64_w, i32_w]
      rfl
     refine P1 3 118 ?_ (Bz 48 0xf) ?_ ?_ ?_ ?_
     rotate_left
     ·intro w'
      go_simp
      with_reducible rfl
     rotate_left
     ·simp only [Act.put, Z1, Z2, Z3, i64_w, i32_w]
      rfl
     refine P1 4 119 ?_ (Bz 48 0x1f) ?_ ?_ ?_ ?_
     rotate_left
     ·intro w'
      go_simp
      with_reducible rfl
     rotate_left
     ·simp only [Act.put, Z1, Z2, Z3, i64_w, i32_w]
      rfl
     refine P1 5 120 ?_ (Bz 48 0x3f) ?_ ?_ ?_ ?_
     rotate_left
     ·intro w'
      go_simp
      with_reducible rfl
     rotate_left
     ·simp only [Act.put, Z1, Z2, Z3, i64_w, i32_w]
      rfl
     refine P5 6 121 ?_ (Bz 48 0x7f) ?_ hHeld ?_ ?_ ?_
     rotate_left
     ·rintro w' ⟨s0, s1, s2, s3, s4, s5, s6⟩
      go_simp
      with_reducible rfl
     rotate_left
     ·simp only [Act.put, Z1, Z2, Z3, i64_w, i32_w]
      rfl
     refine P1 7 122 ?_ (Bz 48 0xff) ?_ ?_ ?_ ?_
     rotate_left
     ·intro w'
      go_simp
      with_reducible rfl
     rotate_left
     ·simp only [Act.put, Z1, Z2, Z3, i64_w, i32_w]
      rfl
     refine P1 8 123 ?_ (Bz 48 0x1ff) ?_ ?_ ?_ ?_
     rotate_left
     ·intro w'
      go_simp
      with_reducible rfl
     rotate_left
     ·simp only [Act.put, Z1, Z2, Z3, i64_w, i32_w]
      rfl
     refine P1 9 124 ?_ (Bz 48 0x3ff) ?_ ?_ ?_ ?_
     rotate_left
     ·intro w'
      go_simp
      with_reducible rfl
     rotate_left
     ·simp only [Act.put, Z1, Z2, Z3, i64_w, i32_w]
      rfl
     refine P1 11 126 ?_ (Bz 48 0xbff) ?_ ?_ ?_ ?_
     rotate_left
     ·intro w'
      go_simp
      with_reducible rfl
     rotate_left
     ·simp only [Act.put, Z1, Z2, Z3, i64_w, i32_w]
      rfl
     refine P1 12 127 ?_ (Bz 48 0x1bff) ?_ ?_ ?_ ?_
     rotate_left
     ·intro w'
      go_simp
      with_reducible rfl
     rotate_left
     ·simp only [Act.put, Z1, Z2, Z3, i64_w, i32_w]
      rfl
     refine P1 13 128 ?_ (Bz 48 0x3bff) ?_ ?_ ?_ ?_
     rotate_left
     ·intro w'
      go_simp
      with_reducible rfl
     rotate_left
     ·simp only [Act.put, Z1, Z2, Z3, i64_w, i32_w]
      rfl
     refine P1 15 130 ?_ (Bz 48 0xbbff) ?_ ?_ ?_ ?_
     rotate_left
     ·intro w'
      go_simp
      with_reducible rfl
     rotate_left
     ·simp only [Act.put, Z1, Z2, Z3, i64_w, i32_w]
      rfl
     refine P1 18 133 ?_ (Bz 48 0x4bbff) ?_ ?_ ?_ ?_
     rotate_left
     ·intro w'
      go_simp
      with_reducible rfl
     rotate_left
     ·simp only [Act.put, Z1, Z2, Z3, i64_w, i32_w]
      rfl
     refine P5 10 125 ?_ (Bz 48 0x4bfff) ?_ hHeld ?_ ?_ ?_
     rotate_left
     ·rintro w' ⟨s0, s1, s2, s3, s4, s5, s6⟩
      go_simp
      with_reducible rfl
     rotate_left
     ·simp only [Act.put, Z1, Z2, Z3, i64_w, i32_w]
      rfl
     refine P5 14 129 ?_ (Bz 48 0x4ffff) ?_ hHeld ?_ ?_ ?_
     rotate_left
     ·rintro w' ⟨s0, s1, s2, s3, s4, s5, s6⟩
      go_simp
      with_reducible rfl
     rotate_left
     ·simp only [Act.put, Z1, Z2, Z3, i64_w, i32_w]
      rfl
     refine P1 16 131 ?_ (Bz 48 0x5ffff) ?_ ?_ ?_ ?_
     rotate_left
     ·intro w'
      go_simp
      with_reducible rfl
     rotate_left
     ·simp only [Act.put, Z1, Z2, Z3, i64_w, i32_w]
      rfl
     refine P1 17 132 ?_ (Bz 48 0x7ffff) ?_ ?_ ?_ ?_
     rotate_left
     ·intro w'
      go_simp
      with_reducible rfl
     rotate_left
     ·simp only [Act.put, Z1, Z2, Z3, i64_w, i32_w]
      rfl
     refine P1 19 134 ?_ (Bz 48 0xfffff) ?_ ?_ ?_ ?_
     rotate_left
     ·intro w'
      go_simp
      with_reducible rfl
     rotate_left
     ·simp only [Act.put, Z1, Z2, Z3, i64_w, i32_w]
      rfl
     refine P1 20 135 ?_ (Bz 48 0x1fffff) ?_ ?_ ?_ ?_
     rotate_left
     ·intro w'
      go_simp
      with_reducible rfl
     rotate_left
     ·simp only [Act.put, Z1, Z2, Z3, i64_w, i32_w]
      rfl
     refine P1 21 136 ?_ (Bz 48 0x3fffff) ?_ ?_ ?_ ?_
     rotate_left
     ·intro w'
      go_simp
      with_reducible rfl
     rotate_left
     ·simp only [Act.put, Z1, Z2, Z3, i64_w, i32_w]
      rfl
     refine P1 22 137 ?_ (Bz 48 0x7fffff) ?_ ?_ ?_ ?_
     rotate_left
     ·intro w'
      go_simp
      with_reducible rfl
     rotate_left
     ·simp only [Act.put, Z1, Z2, Z3, i64_w, i32_w]
      rfl
     refine P1 23 138 ?_ (Bz 48 0xffffff) ?_ ?_ ?_ ?_
     rotate_left
     ·intro w'
      go_simp
      with_reducible rfl
     rotate_left
     ·simp only [Act.put, Z1, Z2, Z3, i64_w, i32_w]
      rfl
     refine P1 25 140 ?_ (Bz 48 0x2ffffff) ?_ ?_ ?_ ?_
     rotate_left
     ·intro w'
      go_simp
      with_reducible rfl
     rotate_left
     ·simp only [Act.put, Z1, Z2, Z3, i64_w, i32_w]
      rfl
     refine P5 24 139 ?_ (Bz 48 0x3ffffff) ?_ hHeld ?_ ?_ ?_
     rotate_left
     ·rintro w' ⟨s0, s1, s2, s3, s4, s5, s6⟩
      go_simp
      with_reducible rfl
     rotate_left
     ·simp only [Act.put, Z1, Z2, Z3, i64_w, i32_w]
      rfl
     refine P1 26 141 ?_ (Bz 48 0x7ffffff) ?_ ?_ ?_ ?_
     rotate_left
     ·intro w'
      go_simp
      with_reducible rfl
     rotate_left
     ·simp only [Act.put, Z1, Z2, Z3, i64_w, i32_w]
      rfl
     refine P1 27 142 ?_ (Bz 48 0xfffffff) ?_ ?_ ?_ ?_
     rotate_left
     ·intro w'
      go_simp
      with_reducible rfl
     rotate_left
     ·simp only [Act.put, Z1, Z2, Z3, i64_w, i32_w]
      rfl
     refine P1 28 143 ?_ (Bz 48 0x1fffffff) ?_ ?_ ?_ ?_
     rotate_left
     ·intro w'
      go_simp
      with_reducible rfl
     rotate_left
     ·simp only [Act.put, Z1, Z2, Z3, i64_w, i32_w]
      rfl
     refine P1 29 144 ?_ (Bz 48 0x3fffffff) ?_ ?_ ?_ ?_
     rotate_left
     ·intro w'
      go_simp
      with_reducible rfl
     rotate_left
     ·simp only [Act.put, Z1, Z2, Z3, i64_w, i32_w]
      rfl
     refine P1 31 146 ?_ (Bz 48 0xbfffffff) ?_ ?_ ?_ ?_
     rotate_left
     ·intro w'
      go_simp
      with_reducible rfl
     rotate_left
     ·simp only [Act.put, Z1, Z2, Z3, i64_w, i32_w]
      rfl
     refine P1 32 147 ?_ (Bz 48 0x1bfffffff) ?_ ?_ ?_ ?_
     rotate_left
     ·intro w'
      go_simp
      with_reducible rfl
     rotate_left
     ·simp only [Act.put, Z1, Z2, Z3, i64_w, i32_w]
      rfl
     refine P1 33 148 ?_ (Bz 48 0x3bfffffff) ?_ ?_ ?_ ?_
     rotate_left
     ·intro w'
      go_simp
      with_reducible rfl
     rotate_left
     ·simp only [Act.put, Z1, Z2, Z3, i64_w, i32_w]
      rfl
     refine P5 30 145 ?_ (Bz 48 0x3ffffffff) ?_ hHeld ?_ ?_ ?_
     rotate_left
     ·rintro w' ⟨s0, s1, s2, s3, s4, s5, s6⟩
      go_simp
      with_reducible rfl
     rotate_left
     ·simp only [Act.put, Z1, Z2, Z3, i64_w, i32_w]
      rfl
     refine P5 34 149 ?_ (Bz 48 0x7ffffffff) ?_ hHeld ?_ ?_ ?_
     rotate_left
     ·rintro w' ⟨s0, s1, s2, s3, s4, s5, s6⟩
      go_simp
      with_reducible rfl
     rotate_left
     ·simp only [Act.put, Z1, Z2, Z3, i64_w, i32_w]
      rfl
     refine P1 35 150 ?_ (Bz 48 0xfffffffff) ?_ ?_ ?_ ?_
     rotate_left
     ·intro w'
      go_simp
      with_reducible rfl
     rotate_left
     ·simp only [Act.put, Z1, Z2, Z3, i64_w, i32_w]
      rfl
     refine P1 36 151 ?_ (Bz 48 0x1fffffffff) ?_ ?_ ?_ ?_
     rotate_left
     ·intro w'
      go_simp
      with_reducible rfl
     rotate_left
     ·simp only [Act.put, Z1, Z2, Z3, i64_w, i32_w]
      rfl
     refine P1 37 152 ?_ (Bz 48 0x3fffffffff) ?_ ?_ ?_ ?_
     rotate_left
     ·intro w'
      go_simp
      with_reducible rfl
     rotate_left
     ·simp only [Act.put, Z1, Z2, Z3, i64_w, i32_w]
      rfl
     refine P1 38 153 ?_ (Bz 48 0x7fffffffff) ?_ ?_ ?_ ?_
     rotate_left
     ·intro w'
      go_simp
      with_reducible rfl
     rotate_left
     ·simp only [Act.put, Z1, Z2, Z3, i64_w, i32_w]
      rfl
     refine P1 39 154 ?_ (Bz 48 0xffffffffff) ?_ ?_ ?_ ?_
     rotate_left
     ·intro w'
      go_simp
      with_reducible rfl
     rotate_left
     ·simp only [Act.put, Z1, Z2, Z3, i64_w, i32_w]
      rfl
     refine P5 40 155 ?_ (Bz 48 0x1ffffffffff) ?_ hHeld ?_ ?_ ?_
     rotate_left
     ·rintro w' ⟨s0, s1, s2, s3, s4, s5, s6⟩
      go_simp
      with_reducible rfl
     rotate_left
     ·simp only [Act.put, Z1, Z2, Z3, i64_w, i32_w]
      rfl
     refine P1 41 156 ?_ (Bz 48 0x3ffffffffff) ?_ ?_ ?_ ?_
     rotate_left
     ·intro w'
      go_simp
      with_reducible rfl
     rotate_left
     ·simp only [Act.put, Z1, Z2, Z3, i64_w, i32_w]
      rfl
     refine P1 42 157 ?_ (Bz 48 0x7ffffffffff) ?_ ?_ ?_ ?_
     rotate_left
     ·intro w'
      go_simp
      with_reducible rfl
     rotate_left
     ·simp only [Act.put, Z1, Z2, Z3, i64_w, i32_w]
      rfl
     refine P1 43 158 ?_ (Bz 48 0xfffffffffff) ?_ ?_ ?_ ?_
     rotate_left
     ·intro w'
      go_simp
      with_reducible rfl
     rotate_left
     ·simp only [Act.put, Z1, Z2, Z3, i64_w, i32_w]
      rfl
     refine P1 44 159 ?_ (Bz 48 0x1fffffffffff) ?_ ?_ ?_ ?_
     rotate_left
     ·intro w'
      go_simp
      with_reducible rfl
     rotate_left
     ·simp only [Act.put, Z1, Z2, Z3, i64_w, i32_w]
      rfl
     refine P5 45 160 ?_ (Bz 48 0x3fffffffffff) ?_ hHeld ?_ ?_ ?_
     rotate_left
     ·rintro w' ⟨s0, s1, s2, s3, s4, s5, s6⟩
      go_simp
      with_reducible rfl
     rotate_left
     ·simp only [Act.put, Z1, Z2, Z3, i64_w, i32_w]
      rfl
     refine P1 46 161 ?_ (Bz 48 0x7fffffffffff) ?_ ?_ ?_ ?_
     rotate_left
     ·intro w'
      go_simp
      with_reducible rfl
     rotate_left
     ·simp only [Act.put, Z1, Z2, Z3, i64_w, i32_w]
      rfl
     refine P1 47 162 ?_ (Bz 48 0xffffffffffff) ?_ ?_ ?_ ?_
     rotate_left
     ·intro w'
      go_simp
      with_reducible rfl
     rotate_left
     ·simp only [Act.put, Z1, Z2, Z3, i64_w, i32_w]
      rfl
     refine done_ (by kernel_rfl) ?_
     clear a2 x0 x1 x2 x4 c12 c6 hHeld
     go_wp2
     go_ret2
     exact DocPost.no HNO.out HB9.out
   have k7b : decide (15 < y4_) = false := decide_eq_false k7
   have HSTEP := Aside0.mk (loop_step (t := x1_) (nw := x2_) (x3 := x3_) (n := n) (bf := bf) HLT.out (HRC.out.trans (if_pos ⟨by omega, by omega⟩)) ⟨by rw [HNUM.out]; exact k3, by show bf ≤ y1_; omega, by show y1_ ≤ x2_; omega⟩)
   clear k3 k4 k5 k6 k7
   have HI9 := Aside0.mk (IsS86.drew HI8.out)
   have HX9 := Aside0.mk (blk_drew HX8.out)
   have HD9 := Aside0.mk HD8.out.drewD
   have HB9 := Aside0.mk (below_drew1 HB8.out)
   refine start_ (n := 48) (S := fun w' => w'.cell? ⟨gb, 2, none⟩ = some (.bool false) ∧ w'.cell? ⟨gx, 0, none⟩ = some (.int .i64 y0_) ∧ w'.cell? ⟨gx, 1, none⟩ = some (.int .i64 y1_) ∧ w'.cell? ⟨gx, 2, none⟩ = some (.int .i64 y2_) ∧ w'.cell? ⟨gx, 4, none⟩ = some (.int .i64 y4_) ∧ w'.cell? ⟨gl, 12, none⟩ = some (.int .i64 x1_) ∧ w'.cell? ⟨gl, 6, none⟩ = some (.int .i64 x2_)) (ds := []) #[Yn, Yn, Yn, Yn, Yn, Yn, Yn, Yn, Yn, Yn, Yn, Yn, Yn, Yn, Yn, Yn, Yn, Yn, Yn, Yn, Yn, Yn, Yn, Yn, Yn, Yn, Yn, Yn, Yn, Yn, Yn, Yn, Yn, Yn, Yn, Yn, Yn, Yn, Yn, Yn, Yn, Yn, Yn, Yn, Yn, Yn, Yn, Yn] (by kernel_rfl) rfl rfl ⟨a2, x0, x1, x2, x4, c12, c6⟩ (fun hHeld => ?_)
   generalize b8.drew = b9 at HI9 HX9 HD9 HB9 hHeld ⊢
   refine P1 0 115 ?_ (Bz 48 0x1) ?_ ?_ ?_ ?_
   rotate_left
   ·intro w'
    go_simp
    with_reducible rfl
   rotate_left
   ·simp only [Act.put, Z1, Z2, Z3, i64_w, i32_w]
    rfl
   refine P1 1 116 ?_ (Bz 48 0x3) ?_ ?_ ?_ ?_
   rotate_left
   ·intro w'
    go_simp
    with_reducible rfl
   rotate_left
   ·simp only [Act.put, Z1, Z2, Z3, i64_w, i32_w]
    rfl
   refine P1 2 117 ?_ (Bz 48 0x7) ?_ ?_ ?_ ?_
   rotate_left
   ·intro w'
    go_simp
    with_reducible rfl
   rotate_left
   ·simp only [Act.put, Z1, Z2, Z3, i64_w, i32_w]
    rfl
   refine P1 3 118 ?_ (Bz 48 0xf) ?_ ?_ ?_ ?_
   rotate_left
   ·intro w'
    go_simp
    with_reducible rfl
   rotate_left
   ·simp only [Act.put, Z1, Z2, Z3, i64_w, i32_w]
    rfl
   refine P1 4 119 ?_ (Bz 48 0x1f) ?_ ?_ ?_ ?_
   rotate_left
   ·intro w'
    go_simp
    with_reducible rfl
   rotate_left
   ·simp only [Act.put, Z1, Z2, Z3, i64_w, i32_w]
    rfl
   refine P1 5 120 ?_ (Bz 48 0x3f) ?_ ?_ ?_ ?_
   rotate_left
   ·intro w'
    go_simp
    with_reducible rfl
   rotate_left
   ·simp only [Act.put, Z1, Z2, Z3, i64_w, i32_w]
    rfl
   refine P5 6 121 ?_ (Bz 48 0x7f) ?_ hHeld ?_ ?_ ?_
   rotate_left
   ·rintro w' ⟨s0, s1, s2, s3, s4, s5, s6⟩
    go_simp
    with_reducible rfl
   rotate_left
   ·simp only [Act.put, Z1, Z2, Z3, i64_w, i32_w]
    rfl
   refine P1 7 122 ?_ (Bz 48 0xff) ?_ ?_ ?_ ?_
   rotate_left
   ·intro w'
    go_simp
    with_reducible rfl
   rotate_left
   ·simp only [Act.put, Z1, Z2, Z3, i64_w, i32_w]
    rfl
   refine P1 8 123 ?_ (Bz 48 0x1ff) ?_ ?_ ?_ ?_
   rotate_left
   ·intro w'
    go_simp
    with_reducible rfl
   rotate_left
   ·simp only [Act.put, Z1, Z2, Z3, i64_w, i32_w]
    rfl
   refine P1 9 124 ?_ (Bz 48 0x3ff) ?_ ?_ ?_ ?_
   rotate_left
   ·intro w'
    go_simp
    with_reducible rfl
   rotate_left
   ·simp only [Act.put, Z1, Z2, Z3, i64_w, i32_w]
    rfl
   refine P1 11 126 ?_ (Bz 48 0xbff) ?_ ?_ ?_ ?_
   rotate_left
   ·intro w'
    go_simp
    with_reducible rfl
   rotate_left
   ·simp only [Act.put, Z1, Z2, Z3, i64_w, i32_w]
    rfl
   refine P1 12 127 ?_ (Bz 48 0x1bff) ?_ ?_ ?_ ?_
   rotate_left
   ·intro w'
    go_simp
    with_reducible rfl
   rotate_left
   ·simp only [Act.put, Z1, Z2, Z3, i64_w, i32_w]
    rfl
   refine P1 13 128 ?_ (Bz 48 0x3bff) ?_ ?_ ?_ ?_
   rotate_left
   ·intro w'
    go_simp
    with_reducible rfl
   rotate_left
   ·simp only [Act.put, Z1, Z2, Z3, i64_w, i32_w]
    rfl
   refine P1 15 130 ?_ (Bz 48 0xbbff) ?_ ?_ ?_ ?_
   rotate_left
   ·intro w'
    go_simp
    with_reducible rfl
   rotate_left
   ·simp only [Act.put, Z1, Z2, Z3, i64_w, i32_w]
    rfl
   refine P1 18 133 ?_ (Bz 48 0x4bbff) ?_ ?_ ?_ ?_
   rotate_left
   ·intro w'
    go_simp
    with_reducible rfl
   rotate_left
   ·simp only [Act.put, Z1, Z2, Z3, i64_w, i32_w]
    rfl
   refine P5 10 125 ?_ (Bz 48 0x4bfff) ?_ hHeld ?_ ?_ ?_
   rotate_left
   ·rintro w' ⟨s0, s1, s2, s3, s4, s5, s6⟩
    go_simp
    with_reducible rfl
   rotate_left
   ·simp only [Act.put, Z1, Z2, Z3, i64_w, i32_w]
    rfl
   refine P5 14 129 ?_ (Bz 48 0x4ffff) ?_ hHeld ?_ ?_ ?_
   rotate_left
   ·rintro w' ⟨s0, s1, s2, s3, s4, s5, s6⟩
    go_simp
    with_reducible rfl
   rotate_left
   ·simp only [Act.put, Z1, Z2, Z3, i64_w, i32_w]
    rfl
   refine P1 16 131 ?_ (Bz 48 0x5ffff) ?_ ?_ ?_ ?_
   rotate_left
   ·intro w'
    go_simp
    with_reducible rfl
   rotate_left
   ·simp only [Act.put, Z1, Z2, Z3, i64_w, i32_w]
    rfl
   refine P1 17 132 ?_ (Bz 48 0x7ffff) ?_ ?_ ?_ ?_
   rotate_left
   ·intro w'
    go_simp
    with_reducible rfl
   rotate_left
   ·simp only [Act.put, Z1, Z2, Z3, i64_w, i32_w]
    rfl
   refine P1 19 134 ?_ (Bz 48 0xfffff) ?_ ?_ ?_ ?_
   rotate_left
   ·intro w'
    go_simp
    with_reducible rfl
   rotate_left
   ·simp only [Act.put, Z1, Z2, Z3, i64_w, i32_w]
    rfl
   refine P1 20 135 ?_ (Bz 48 0x1fffff) ?_ ?_ ?_ ?_
   rotate_left
   ·intro w'
    go_simp
    with_reducible rfl
   rotate_left
   ·simp only [Act.put, Z1, Z2, Z3, i64_w, i32_w]
    rfl
   refine P1 21 136 ?_ (Bz 48 0x3fffff) ?_ ?_ ?_ ?_
   rotate_left
   ·intro w'
    go_simp
    with_reducible rfl
   rotate_left
   ·simp only [Act.put, Z1, Z2, Z3, i64_w, i32_w]
    rfl
   refine P1 22 137 ?_ (Bz 48 0x7fffff) ?_ ?_ ?_ ?_
   rotate_left
   ·intro w'
    go_simp
    with_reducible rfl
   rotate_left
   ·simp only [Act.put, Z1, Z2, Z3, i64_w, i32_w]
    rfl
   refine P1 23 138 ?_ (Bz 48 0xffffff) ?_ ?_ ?_ ?_
   rotate_left
   ·intro w'
    go_simp
    with_reducible rfl
   rotate_left
   ·simp only [Act.put, Z1, Z2, Z3, i64_w, i32_w]
    rfl
   refine P1 25 140 ?_ (Bz 48 0x2ffffff) ?_ ?_ ?_ ?_
   rotate_left
   ·intro w'
    go_simp
    with_reducible rfl
   rotate_left
   ·simp only [Act.put, Z1, Z2, Z3, i64_w, i32_w]
    rfl
   refine P5 24 139 ?_ (Bz 48 0x3ffffff) ?_ hHeld ?_ ?_ ?_
   rotate_left
   ·rintro w' ⟨s0, s1, s2, s3, s4, s5, s6⟩
    go_simp
    with_reducible rfl
   rotate_left
   ·simp only [Act.put, Z1, Z2, Z3, i64_w, i32_w]
    rfl
   refine P1 26 141 ?_ (Bz 48 0x7ffffff) ?_ ?_ ?_ ?_
   rotate_left
   ·intro w'
    go_simp
    with_reducible rfl
   rotate_left
   ·simp only [Act.put, Z1, Z2, Z3, i64_w, i32_w]
    rfl
   refine P1 27 142 ?_ (Bz 48 0xfffffff) ?_ ?_ ?_ ?_
   rotate_left
   ·intro w'
    go_simp
    with_reducible rfl
   rotate_left
   ·simp only [Act.put, Z1, Z2, Z3, i64_w, i32_w]
    rfl
   refine P1 28 143 ?_ (Bz 48 0x1fffffff) ?_ ?_ ?_ ?_
   rotate_left
   ·intro w'
    go_simp
    with_reducible rfl
   rotate_left
   ·simp only [Act.put, Z1, Z2, Z3, i64_w, i32_w]
    rfl
   refine P1 29 144 ?_ (Bz 48 0x3fffffff) ?_ ?_ ?_ ?_
   rotate_left
   ·intro w'
    go_simp
    with_reducible rfl
   rotate_left
   ·simp only [Act.put, Z1, Z2, Z3, i64_w, i32_w]
    rfl
   refine P1 31 146 ?_ (Bz 48 0xbfffffff) ?_ ?_ ?_ ?_
   rotate_left
   ·intro w'
    go_simp
    with_reducible rfl
   rotate_left
   ·simp only [Act.put, Z1, Z2, Z3, i64_w, i32_w]
    rfl
   refine P1 32 147 ?_ (Bz 48 0x1bfffffff) ?_ ?_ ?_ ?_
   rotate_left
   ·intro w'
    go_simp
    with_reducible rfl
   rotate_left
   ·simp only [Act.put, Z1, Z2, Z3, i64_w, i32_w]
    rfl
   refine P1 33 148 ?_ (Bz 48 0x3bfffffff) ?_ ?_ ?_ ?_
   rotate_left
   ·intro w'
    go_simp
    with_reducible rfl
   rotate_left
   ·simp only [Act.put, Z1, Z2, Z3, i64_w, i32_w]
    rfl
   refine P5 30 145 ?_ (Bz 48 0x3ffffffff) ?_ hHeld ?_ ?_ ?_
   rotate_left
   ·rintro w' ⟨s0, s1, s2, s3, s4, s5, s6⟩
    go_simp
    with_reducible rfl
   rotate_left
   ·simp only [Act.put, Z1, Z2, Z3, i64_w, i32_w]
    rfl
   refine P5 34 149 ?_ (Bz 48 0x7ffffffff) ?_ hHeld ?_ ?_ ?_
   rotate_left
   ·rintro w' ⟨s0, s1, s2, s3, s4, s5, s6⟩
    go_simp
    with_reducible rfl
   rotate_left
   ·simp only [Act.put, Z1, Z2, Z3, i64_w, i32_w]
    rfl
   refine P1 35 150 ?_ (Bz 48 0xfffffffff) ?_ ?_ ?_ ?_
   rotate_left
   ·intro w'
    go_simp
    with_reducible rfl
   rotate_left
   ·simp only [Act.put, Z1, Z2, Z3, i64_w, i32_w]
    rfl
   refine P1 36 151 ?_ (Bz 48 0x1fffffffff) ?_ ?_ ?_ ?_
   rotate_left
   ·intro w'
    go_simp
    with_reducible rfl
   rotate_left
   ·simp only [Act.put, Z1, Z2, Z3, i64_w, i32_w]
    rfl
   refine P1 37 152 ?_ (Bz 48 0x3fffffffff) ?_ ?_ ?_ ?_
   rotate_left
   ·intro w'
    go_simp
    with_reducible rfl
   rotate_left
   ·simp only [Act.put, Z1, Z2, Z3, i64_w, i32_w]
    rfl
   refine P1 38 153 ?_ (Bz 48 0x7fffffffff) ?_ ?_ ?_ ?_
   rotate_left
   ·intro w'
    go_simp
    with_reducible rfl
   rotate_left
   ·simp only [Act.put, Z1, Z2, Z3, i64_w, i32_w]
    rfl
   refine P1 39 154 ?_ (Bz 48 0xffffffffff) ?_ ?_ ?_ ?_
   rotate_left
   ·intro w'
    go_simp
    with_reducible rfl
   rotate_left
   ·simp only [Act.put, Z1, Z2, Z3, i64_w, i32_w]
    rfl
   refine P5 40 155 ?_ (Bz 48 0x1ffffffffff) ?_ hHeld ?_ ?_ ?_
   rotate_left
   ·rintro w' ⟨s0, s1, s2, s3, s4, s5, s6⟩
    go_simp
    with_reducible rfl
   rotate_left
   ·simp only [Act.put, Z1, Z2, Z3, i64_w, i32_w]
    rfl
   refine P1 41 156 ?_ (Bz 48 0x3ffffffffff) ?_ ?_ ?_ ?_
   rotate_left
   ·intro w'
    go_simp
    with_reducible rfl
   rotate_left
   ·simp only [Act.put, Z1, Z2, Z3, i64_w, i32_w]
    rfl
   refine P1 42 157 ?_ (Bz 48 0x7ffffffffff) ?_ ?_ ?_ ?_
   rotate_left
   ·intro w'
    go_simp
    with_reducible rfl
   rotate_left
   ·simp only [Act.put, Z1, Z2, Z3, i64_w, i32_w]
    rfl
   refine P1 43 158 ?_ (Bz 48 0xfffffffffff) ?_ ?_ ?_ ?_
   rotate_left
   ·intro w'
    go_simp
    with_reducible rfl
   rotate_left
   ·simp only [Act.put, Z1, Z2, Z3, i64_w, i32_w]
    rfl
   refine P1 44 159 ?_ (Bz 48 0x1fffffffffff) ?_ ?_ ?_ ?_
   rotate_left
   ·intro w'
    go_simp
    with_reducible rfl
   rotate_left
   ·simp only [Act.put, Z1, Z2, Z3, i64_w, i32_w]
    rfl
   refine P5 45 160 ?_ (Bz 48 0x3fffffffffff) ?_ hHeld ?_ ?_ ?_
   rotate_left
   ·rintro w' ⟨s0, s1, s2, s3, s4, s5, s6⟩
    go_simp
    with_reducible rfl
   rotate_left
   ·simp only [Act.put, Z1, Z2, Z3, i64_w, i32_w]
    rfl
   refine P1 46 161 ?_ (Bz 48 0x7fffffffffff) ?_ ?_ ?_ ?_
   rotate_left
   ·intro w'
    go_simp
    with_reducible rfl
   rotate_left
   ·simp only [Act.put, Z1, Z2, Z3, i64_w, i32_w]
    rfl
   refine P1 47 162 ?_ (Bz 48 0xffffffffffff) ?_ ?_ ?_ ?_
   rotate_left
   ·intro w'
    go_simp
    with_reducible rfl
   rotate_left
   ·simp only [Act.put, Z1, Z2, Z3, i64_w, i32_w]
    rfl
   refine done_ (by kernel_rfl) ?_
   clear a2 x0 x1 x2 x4 c12 c6 hHeld
   have x1 := (blk_cell HX9.out 1).trans rfl
   go_wp2
   clear x1
   obtain ⟨vL, hGL, hge, hOL⟩ := HD9.out
   obtain ⟨AL, cL, eL⟩ := Kd.R_slice hOL
   subst eL
   have HO9 := Aside0.mk (show Kd.R k44 44 b9 w.heap.size (fun _ => True) (.slice AL acc.length cL) acc from hOL)
   have HGL9 := Aside0.mk hGL
   have HGE := Aside0.mk hge
   clear hGL hge hOL
   have c13 := (blk_cell HGL9.out 13).trans rfl
   have x0 := (blk_cell HX9.out 0).trans rfl
   have x1 := (blk_cell HX9.out 1).trans rfl
   have x2 := (blk_cell HX9.out 2).trans rfl
   have x3 := (blk_cell HX9.out 3).trans rfl
   have x4 := (blk_cell HX9.out 4).trans rfl
   have x5 := (blk_cell HX9.out 5).trans rfl
   have HI11 := Aside0.mk (IsS86.drew HI9.out)
   have HX11 := Aside0.mk (blk_drew HX9.out)
   have HB11 := Aside0.mk (below_drew1 HB9.out)
   have HGL11 := Aside0.mk (blk_drew HGL9.out)
   have HO11 := Aside0.mk (Kd.R_drew HO9.out)
   refine start_ (n := 11) (S := fun w' => w'.cell? ⟨gl, 13, none⟩ = some (.slice AL acc.length cL) ∧ w'.cell? ⟨gx, 0, none⟩ = some (.int .i64 y0_) ∧ w'.cell? ⟨gx, 1, none⟩ = some (.int .i64 y1_) ∧ w'.cell? ⟨gx, 2, none⟩ = some (.int .i64 y2_) ∧ w'.cell? ⟨gx, 3, none⟩ = some (.int .i64 y3_) ∧ w'.cell? ⟨gx, 4, none⟩ = some (.int .i64 y4_) ∧ w'.cell? ⟨gx, 5, none⟩ = some (.int .i64 0)) (ds := [7, 10]) #[Yn, Yn, Yn, Yn, Yn, Yn, Yn, Yn, Yn, Yn, Yn] (by kernel_rfl) rfl rfl ⟨c13, x0, x1, x2, x3, x4, x5⟩ (fun hHeld => ?_)
   generalize b9.drew = b11 at HI11 HX11 HB11 HGL11 HO11 hHeld ⊢
   refine P1 0 165 ?_ (Bz 11 0x1) ?_ ?_ ?_ ?_
   rotate_left
   ·intro w'
    go_simp
    with_reducible rfl
   rotate_left
   ·simp only [Act.put, Z1, Z2, Z3, i64_w, i32_w]
    rfl
   refine P1 1 166 ?_ (Bz 11 0x3) ?_ ?_ ?_ ?_
   rotate_left
   ·intro w'
    go_simp
    with_reducible rfl
   rotate_left
   ·simp only [Act.put, Z1, Z2, Z3, i64_w, i32_w]
    rfl
   refine P1 2 167 ?_ (Bz 11 0x7) ?_ ?_ ?_ ?_
   rotate_left
   ·intro w'
    go_simp
    with_reducible rfl
   rotate_left
   ·simp only [Act.put, Z1, Z2, Z3, i64_w, i32_w]
    rfl
   refine P1 3 168 ?_ (Bz 11 0xf) ?_ ?_ ?_ ?_
   rotate_left
   ·intro w'
    go_simp
    with_reducible rfl
   rotate_left
   ·simp only [Act.put, Z1, Z2, Z3, i64_w, i32_w]
    rfl
   refine P5 4 169 ?_ (Bz 11 0x1f) ?_ hHeld ?_ ?_ ?_
   rotate_left
   ·rintro w' ⟨s0, s1, s2, s3, s4, s5, s6⟩
    go_simp
    with_reducible rfl
   rotate_left
   ·simp only [Act.put, Z1, Z2, Z3, i64_w, i32_w]
    rfl
   refine P5 5 170 ?_ (Bz 11 0x3f) ?_ hHeld ?_ ?_ ?_
   rotate_left
   ·rintro w' ⟨s0, s1, s2, s3, s4, s5, s6⟩
    go_simp
    with_reducible rfl
   rotate_left
   ·simp only [Act.put, Z1, Z2, Z3, i64_w, i32_w]
    rfl
   refine one_ (i := 6) (N := some 171) #[Y, Y, Y, Y, Y, Y, Y, Yn, Yn, Yn, Yn] rfl rfl (by kernel_rfl) (by decide) (fun K hK => ?_)
   refine value_ (w1 := ?_) (v := ?_) (by rfl) rfl ?_ ?_
   rotate_left 2
   ·go_simp
    constructor
    ·rfl
    ·rfl
   refine hK.out _ _ ⟨(blk_cell (blk_alloc HGL11.out _) 13).trans rfl, (blk_cell (blk_alloc HX11.out _) 0).trans rfl, (blk_cell (blk_alloc HX11.out _) 1).trans rfl, (blk_cell (blk_alloc HX11.out _) 2).trans rfl, (blk_cell (blk_alloc HX11.out _) 3).trans rfl, (blk_cell (blk_alloc HX11.out _) 4).trans rfl, (blk_cell (blk_alloc HX11.out _) 5).trans rfl⟩ (fun hHeld => ?_)
   clear hK K
   refine norm_ (a' := ?_) ?_ ?_
   rotate_left
   ·show Act.put _ (some 171) _ = _
    simp only [Act.put, Z1, Z2, Z3, i64_w, i32_w]
    rfl
   refine last_ (i := 7) (N := some 172) #[Y, Y, Y, Y, Y, Y, Y, Y, Yn, Yn, Yn] rfl rfl (by kernel_rfl) (by decide) (fun K hK => ?_)
   refine Kd.R_append_step k44 (w0 := b11) w.heap.size (by rfl) (.tmp 169) (.tmp 171) 39 44 (.agg #[(.int .i64 0), (.int .i64 0), (.int .i64 0), (.int .i64 0), (.int .i64 0), (.int .i64 0)]) 48 rfl Tryd.underlying39 info44 rfl (by decide) (by omega) (.slice AL acc.length cL) acc (⟨y0_, y1_, ⟨y2_, y3_⟩, y4_, 0⟩ : S44) [.int .i64 y0_, .int .i64 y1_, .int .i64 y2_, .int .i64 y3_, .int .i64 y4_, .int .i64 0] (fun _ => True) (fun _ => False) rfl (by first | (go_simp; done) | (go_simp; rfl)) (k44_mkM _ _ _ (⟨y0_, y1_, ⟨y2_, y3_⟩, y4_, 0⟩ : S44)) (fun _ hk => hk.elim) (fun _ _ => trivial) HO11.out (Below.refl _ _) HB11.out.size (by have h1 := HI.out.len; have h2 := HLT.out; have h3 := HNI.out; have h4 := HX3R.out; omega) ?_
   intro v1 b12 ho hb hg hat
   obtain ⟨ms, HMS⟩ : ∃ ms, Aside0 (acc ++ [(⟨y0_, y1_, ⟨y2_, y3_⟩, y4_, 0⟩ : S44)] = ms) := ⟨_, ⟨rfl⟩⟩
   rw [HMS.out] at ho
   obtain ⟨A1, k1_, e1⟩ := Kd.R_slice ho
   subst e1
   have HGL12 := Aside0.mk (blk_grown HGL11.out hg (Kd.R_ne HO11.out HGL11.out (by decide)))
   have HO12 := Aside0.mk ho
   have HB12 := Aside0.mk (HB11.out.trans (hb.mono (Nat.le_refl _)))
   have HI12 := Aside0.mk (HI11.out.grown hg (Kd.R_ne HO11.out HI11.out.1 (by decide)))
   have f13 := blk_frozen HGL12.out 13
   have c13 := (blk_cell HGL12.out 13).trans rfl
   clear ho hb hg hat
   refine hK.out _ _ ?_
   clear hK K
   refine norm_ (a' := ?_) ?_ ?_
   rotate_left
   ·show Act.put _ (some 172) _ = _
    simp only [Act.put, Z1, Z2, Z3, i64_w, i32_w]
    rfl
   refine P1 8 173 ?_ (Bz 11 0x1ff) ?_ ?_ ?_ ?_
   rotate_left
   ·intro w'
    go_simp
    with_reducible rfl
   rotate_left
   ·simp only [Act.put, Z1, Z2, Z3, i64_w, i32_w]
    rfl
   refine P1 9 174 ?_ (Bz 11 0x3ff) ?_ ?_ ?_ ?_
   rotate_left
   ·intro w'
    go_simp
    with_reducible rfl
   rotate_left
   ·simp only [Act.put, Z1, Z2, Z3, i64_w, i32_w]
    rfl
   refine last_ (i := 10) (N := none) #[Y, Y, Y, Y, Y, Y, Y, Y, Y, Y, Y] rfl rfl (by kernel_rfl) (by decide) (fun K hK => ?_)
   refine skip_ (w1 := ?_) (by rfl) rfl ?_ ?_
   rotate_left
   ·go_simp
    rfl
   refine hK.out _ _ ?_
   clear hK K
   refine done_ (by kernel_rfl) ?_
   have HI13b := Aside0.mk (show IsS86 w (b12.setCell ⟨gl, 13, none⟩ (.slice A1 ms.length k1_)) gb xb p3 false from HI12.out.far (p := ⟨gl, 13, none⟩) (blk_ne HI12.out.1 HGL12.out (by decide)) _)
   have HD13b := Aside0.mk (show DL w.heap.size gl nm pt way iv st sz x2_ x1_ ms (b12.setCell ⟨gl, 13, none⟩ (.slice A1 ms.length k1_)) from ⟨_, blk_put HGL12.out 13 _ rfl, HGE.out, R_set60 HGL12.out HO12.out 13 _⟩)
   have HB13b := Aside0.mk (HB12.out.setCell (p := ⟨gl, 13, none⟩) HGE.out (.slice A1 ms.length k1_))
   generalize b12.setCell ⟨gl, 13, none⟩ (.slice A1 ms.length k1_) = b13 at HI13b HD13b HB13b ⊢
   clear c13 f13 x0 x1 x2 x3 x4 x5 hHeld
   go_wp2
   have hwj : wrap64 ((j : Int) + 1) = ((j + 1 : Nat) : Int) := by rw [wrap_id (by omega) (by have := HNI.out; have := HX3R.out; have := HLT.out; omega)]; omega
   go_roundg k1
   case measure => omega
   case rel =>
    refine ⟨j + 1, y1_, p3, ms, rfl, by rw [hwj], ⟨by have h2 := HJN.out; omega⟩, ⟨⟨⟨p3, false, HI13b.out, HP8.out.1, fun q hq => by injection hq with hq; exact ⟨hq, rfl⟩, fun hn => by cases hn⟩, HD13b.out, HB13b.out, ?_, ?_⟩⟩⟩
    ·rw [HI.out.spec, HSTEP.out, ← HMS.out, Option.map_map]
     refine congrArg (fun f => Option.map f _) (funext fun r => ?_)
     show (acc ++ (_ :: r.1), r.2) = ((acc ++ [_]) ++ r.1, r.2)
     rw [List.append_assoc]
     rfl
    ·rw [← HMS.out, List.length_append, HI.out.len]
     rfl
end Go.Proofs.YtbccjcdmpiolpaaDoor.T
end
