/- TrendRestoresCard: one part of the proof that the law answers true for every input, and that its arguments read afterwards as before. No condition. -/
import Derived.Test.YtbccjcdmpiolpaaDoorCRest3
import Derived.Outline
import Derived.Deep.OwnRows
import Derived.LoopTactic
section
namespace Go.Proofs.YtbccjcdmpiolpaaDoor.T
open Go.RowKit Go.Proofs.YtbccjcdmpiolpaaDoor.Pure Go.Proofs.YtbccjcdmpiolpaaDoorW.PrintWords Go.Proofs.YtbccjcdmpiolpaaDoorW.PrintLast Go.Proofs.YtbccjcdmpiolpaaDoorW.PrintMore
set_option linter.unusedVariables false
set_option linter.unusedSimpArgs false
attribute [local go_sem] max2_int min2_int max_two min_two
def LogZ (B g : Nat) (L : Lg) (w : World) : Prop := ∃ v, w.heap[g]? = some (.cells (LC L.nm L.pt L.way L.iv L.st L.sz L.now L.valid L.vk L.vn L.q L.ra L.total v 0) 68 (0, 0)) ∧ B ≤ g ∧ Kd.R k44 44 w B (fun _ => True) v L.recs
theorem LogZ.log {B g : Nat} {L : Lg} {w : World} (h : LogZ B g L w) : LogAt B g L w := by
 obtain ⟨v, hv, hg, ho⟩ := h
 exact ⟨v, L.recs, 0, hv, hg, ho, ⟨by simp, Or.inl rfl, fun _ => rfl⟩⟩
theorem R44_keepQ {B : Nat} {w w1 : World} {v : Value} {xs : List S44} (h : Kd.R k44 44 w B (fun _ => True) v xs) (hk : KeepQ w w1) : Kd.R k44 44 w1 B (fun _ => True) v xs :=
 Kd.R_mono (Kd.R_step (Kd.R_bound h) (fun k hk' hlt => by
  obtain ⟨_, _, _, q, hq, cells, hc⟩ := hk'
  rcases List.mem_cons.1 hq with rfl | hq
  ·rw [hc]
   exact hk.keep k cells 44 hc (by decide) (by decide)
  ·cases hq)) (fun _ _ => trivial)
theorem LogZ.keepQ {B g : Nat} {L : Lg} {w w1 : World} (h : LogZ B g L w) (hk : KeepQ w w1) : LogZ B g L w1 := by
 obtain ⟨v, hv, hg, ho⟩ := h
 exact ⟨v, hk.keep _ _ _ hv (by decide) (by decide), hg, R44_keepQ ho hk⟩
theorem LogZ.cell12 {B g : Nat} {L : Lg} {w : World} (h : LogZ B g L w) : w.cell? ⟨g, 12, none⟩ = some (.int .i64 L.total) := by
 obtain ⟨v, hv, _⟩ := h
 exact (blk_cell hv 12).trans rfl
theorem LogZ.cell6 {B g : Nat} {L : Lg} {w : World} (h : LogZ B g L w) : w.cell? ⟨g, 6, none⟩ = some (.int .i64 L.now) := by
 obtain ⟨v, hv, _⟩ := h
 exact (blk_cell hv 6).trans rfl
theorem LogZ.set_now {B g : Nat} {L : Lg} {w : World} (h : LogZ B g L w) (x : Int) : LogZ B g { L with now := x } (w.setCell ⟨g, 6, none⟩ (.int .i64 x)) := by
 obtain ⟨v, hv, hg, ho⟩ := h
 exact ⟨v, blk_put hv 6 _ rfl, hg, R_setL hv ho 6 _⟩
theorem LogZ.set_total {B g : Nat} {L : Lg} {w : World} (h : LogZ B g L w) (x : Int) : LogZ B g { L with total := x } (w.setCell ⟨g, 12, none⟩ (.int .i64 x)) := by
 obtain ⟨v, hv, hg, ho⟩ := h
 exact ⟨v, blk_put hv 12 _ rfl, hg, R_setL hv ho 12 _⟩
theorem TRX.far {w0 w : World} {gR gr : Nat} {s : ByteArray} {ok : Bool} {p e : Int} (h : TRX w0 w gR gr s ok p e) {g : Nat} {cs : Array Value} {t : TypeId} (hg : w.heap[g]? = some (.cells cs t (0, 0))) (h1 : t ≠ 78) (h2 : t ≠ 102) (j : Nat) (u : Value) : TRX w0 (w.setCell ⟨g, j, none⟩ u) gR gr s ok p e :=
 ⟨blk_far h.box (p := ⟨g, j, none⟩) (blk_ne h.box hg (Ne.symm h1)) u, ⟨blk_far h.rd.1 (p := ⟨g, j, none⟩) (blk_ne h.rd.1 hg (Ne.symm h2)) u, h.rd.2⟩, h.err, h.low⟩
theorem TRS.far {w0 w : World} {gR gr : Nat} {s : ByteArray} {o : Option Int} (h : TRS w0 w gR gr s o) {g : Nat} {cs : Array Value} {t : TypeId} (hg : w.heap[g]? = some (.cells cs t (0, 0))) (h1 : t ≠ 78) (h2 : t ≠ 102) (j : Nat) (u : Value) : TRS w0 (w.setCell ⟨g, j, none⟩ u) gR gr s o := by
 obtain ⟨ok, p, e, hx, hs⟩ := h
 exact ⟨ok, p, e, hx.far hg h1 h2 j u, hs⟩
theorem TRS.drew {w0 w : World} {gR gr : Nat} {s : ByteArray} {o : Option Int} (h : TRS w0 w gR gr s o) : TRS w0 w.drew gR gr s o := by
 obtain ⟨ok, p, e, hx, hs⟩ := h
 exact ⟨ok, p, e, ⟨blk_drew hx.box, ⟨blk_drew hx.rd.1, hx.rd.2⟩, hx.err, hx.low⟩, hs⟩
theorem TRS.cell {w0 w : World} {gR gr : Nat} {s : ByteArray} {o : Option Int} (h : TRS w0 w gR gr s o) : w.cell? ⟨gR, 0, none⟩ = some (.pointer (some ⟨gr, 0, none⟩)) := by
 obtain ⟨ok, p, e, hx, _⟩ := h
 exact (blk_cell hx.box 0).trans rfl
theorem TRX.drew {w0 w : World} {gR gr : Nat} {s : ByteArray} {ok : Bool} {p e : Int} (h : TRX w0 w gR gr s ok p e) : TRX w0 w.drew gR gr s ok p e := ⟨blk_drew h.box, ⟨blk_drew h.rd.1, h.rd.2⟩, h.err, h.low⟩
theorem LogZ.drew {B g : Nat} {L : Lg} {w : World} (h : LogZ B g L w) : LogZ B g L w.drew := by
 obtain ⟨v, hv, hg, ho⟩ := h
 exact ⟨v, blk_drew hv, hg, Kd.R_drew ho⟩
theorem loop_none {s : ByteArray} {t nw x3 : Int} {n j : Nat} {bf p : Int} (hj : j < n) (h : ∀ x q, recS s (some p) = some (x, q) → ¬ (x.f0 = t - x3 + 1 + (j : Int) ∧ bf ≤ x.f1 ∧ x.f1 ≤ nw)) : loopS s t nw x3 (n - j) (j : Int) bf p = none := by
 rw [show n - j = (n - (j + 1)) + 1 by omega, loopS]
 cases hr : recS s (some p) with
 | none => rfl
 | some a =>
  obtain ⟨x, q⟩ := a
  rw [Option.bind_some, if_neg (h x q hr)]
theorem loop_step {s : ByteArray} {t nw x3 : Int} {n j : Nat} {bf p : Int} {x : S44} {q : Int} (hj : j < n) (hr : recS s (some p) = some (x, q)) (hc : x.f0 = t - x3 + 1 + (j : Int) ∧ bf ≤ x.f1 ∧ x.f1 ≤ nw) : loopS s t nw x3 (n - j) (j : Int) bf p = (loopS s t nw x3 (n - (j + 1)) ((j + 1 : Nat) : Int) x.f1 q).map fun r => (x :: r.1, r.2) := by
 rw [show n - j = (n - (j + 1)) + 1 by omega, loopS, hr, Option.bind_some, if_pos hc, show ((j + 1 : Nat) : Int) = (j : Int) + 1 by omega]
theorem KeepQ.setNew {w w1 : World} (h : KeepQ w w1) {g : Nat} (hg : w.heap.size ≤ g) (j : Nat) (u : Value) : KeepQ w (w1.setCell ⟨g, j, none⟩ u) := ⟨by simpa [World.setCell] using h.size, fun k cs t hk h1 h2 => blk_far (h.keep k cs t hk h1 h2) (p := ⟨g, j, none⟩) (by have := blk_lt hk; show k ≠ g; omega) u⟩
theorem KeepQ.drew {w w1 : World} (h : KeepQ w w1) : KeepQ w w1.drew := ⟨h.size, h.keep⟩
theorem TRX.grown {w0 w w1 : World} {gR gr : Nat} {s : ByteArray} {ok : Bool} {p e : Int} {B : Nat} {v : Value} {xs : List S44} (h : TRX w0 w gR gr s ok p e) (ho : Kd.R k44 44 w B (fun _ => True) v xs) (hg : w.grownBy w1 v.ownBlock) : TRX w0 w1 gR gr s ok p e :=
 ⟨blk_grown h.box hg (Kd.R_ne ho h.box (by decide)), ⟨blk_grown h.rd.1 hg (Kd.R_ne ho h.rd.1 (by decide)), h.rd.2⟩, h.err, h.low⟩
structure LI (w : World) (gB gb : Nat) (xb : ByteArray) (gl : Nat) (nm pt : ByteArray) (way iv st sz x1 x2 x3 p0 : Int) (n j : Nat) (bf p : Int) (acc : List S44) (wr : World) : Prop where
 trs : TRS w wr gB gb xb (some p)
 log : LogZ w.heap.size gl ⟨nm, pt, way, iv, st, sz, x2, false, 0, 0, 0, 0, x1, acc⟩ wr
 bel : Below w.heap.size w wr
 spec : loopS xb x1 x2 x3 n 0 0 p0 = (loopS xb x1 x2 x3 (n - j) (j : Int) bf p).map fun r => (acc ++ r.1, r.2)
 len : acc.length = j
def RestPost (w : World) (nm pt : ByteArray) (way iv st sz : Int) (r : Option (Int × Int × List S44)) (e : Ending) (w' : World) : Prop :=
 Below w.heap.size w w' ∧ match r with
 | none => e = .returned (.tuple #[.pointer none, .int .i64 14])
 | some r => ∃ g, e = .returned (.tuple #[.pointer (some ⟨g, 0, none⟩), .int .i64 0]) ∧ LogAt w.heap.size g ⟨nm, pt, way, iv, st, sz, r.2.1, false, 0, 0, 0, 0, r.1, r.2.2⟩ w'
theorem RestPost.none' {w w' : World} {nm pt : ByteArray} {way iv st sz : Int} {r : Option (Int × Int × List S44)} (hr : r = none) (hb : Below w.heap.size w w') : RestPost w nm pt way iv st sz r (.returned (.tuple #[.pointer none, .int .i64 14])) w' := by
 subst hr
 exact ⟨hb, rfl⟩
theorem St.no {o : Option Int} {ok : Bool} {p e : Int} (h : St o ok p e) (hn : ¬ (ok = true ∧ e = 0)) : o = none := by
 cases o with
 | none => rfl
 | some q => exact absurd ⟨(h.good q rfl).1, (h.good q rfl).2.2⟩ hn
theorem St.yes {o : Option Int} {p : Int} (h : St o true p 0) : o = some p := by
 cases o with
 | none => exact absurd ⟨rfl, rfl⟩ (h.bad rfl)
 | some q => rw [(h.good q rfl).2.1]
set_option maxHeartbeats 16000000 in
set_option maxRecDepth 100000 in
theorem restore_calls (nm pt : ByteArray) (way iv st sz : Int) (s : ByteArray) (w : World) (hG : Glob w) (hz : s.size ≤ 140737488355327) :
  Calls Tryd.prog 19 #[.agg #[.string nm, .string pt, .int .i64 way, .int .i64 iv, .int .i64 st, .int .i64 sz], .string s] w fun e w' => RestPost w nm pt way iv st sz (restS s sz) e w' := by
 have HG := Aside0.mk hG
 have HZS := Aside0.mk hz
 clear hG hz
 go_enter Tryd.func19, Tryd.ntmps19
 go_wp2_with (first | ((with_reducible refine gate_dst (N := 2) rfl ?_); refine box_event ?hg (N := 2) ?hd (cs := #[.string nm, .string pt, .int .i64 way, .int .i64 iv, .int .i64 st, .int .i64 sz]) (t := 23) ?hr ?_; (case hd => rfl); (case hg => rfl); (case hr => first | (go_simp; done) | (go_simp; rfl)); intro gt hgz wz hbox hb; have HR0 := Aside0.mk hbox; have HB0 := Aside0.mk hb; skip; clear hb hbox hgz) | (go_at_call 31; (with_reducible refine (codec_NewReader.calls s s 0 0 w _ HG.out HB0.out rfl).mono ?_); rintro e w1 ⟨ga, rfl, hi, hb, hbl⟩; have HI1 := Aside0.mk hi; have HB1 := Aside0.mk hb; have HR1 := Aside0.mk (blk_below HR0.out hbl); clear hi hb hbl) | ((with_reducible refine gate_dst (N := 18) rfl ?_); refine box_event ?hg (N := 18) ?hd (cs := #[.pointer (some ⟨ga, 0, none⟩), .bool true]) (t := 78) ?hr ?_; (case hd => rfl); (case hg => rfl); (case hr => first | (go_simp; done) | (go_simp; rfl)); intro gA hgz wz hbox hb; have HB2 := Aside0.mk (below_step HB1.out hb); have HR2 := Aside0.mk (blk_below HR1.out hb); have HT2 := Aside0.mk (show TRS w wz gA ga s (some 0) from ⟨true, 0, 0, ⟨hbox, ⟨blk_below HI1.out.1 hb, HI1.out.2⟩, Or.inl rfl, by rw [hgz]; exact HB1.out.size⟩, ⟨fun q hq => by injection hq with hq; exact ⟨rfl, hq, rfl⟩, fun hn => by cases hn⟩⟩); clear hb hbox hgz) | (go_at_call 32; (with_reducible refine (tlist_calls w gA ga s 2 (some 0) _ HG.out HZS.out HT2.out HB2.out).mono ?_); rintro e w3 ⟨rfl, ht, hb, hk⟩; have HT3 := Aside0.mk ht; have HB3 := Aside0.mk hb; have HR3 := Aside0.mk (hk.keep _ _ _ HR2.out (by decide) (by decide)); have r0 := HT3.out.cell; clear ht hb hk))
 have HT4 := Aside0.mk HT3.out.drew
 have HB4 := Aside0.mk (below_drew1 HB3.out)
 have HR4 := Aside0.mk (blk_drew HR3.out)
 refine start_ (n := 12) (S := fun w' => w'.cell? ⟨gA, 0, none⟩ = some (.pointer (some ⟨ga, 0, none⟩))) (ds := []) #[Yn, Yn, Yn, Yn, Yn, Yn, Yn, Yn, Yn, Yn, Yn, Yn] (by kernel_rfl) rfl rfl (r0) (fun hHeld => ?_)
 generalize w3.drew = w4 at HT4 HB4 HR4 hHeld ⊢
 refine P1 0 21 ?_ (Bz 12 0x1) ?_ ?_ ?_ ?_
 rotate_left
 ·intro w'
  go_simp
  with_reducible rfl
 rotate_left
 ·simp only [Act.put, Z1, Z2, Z3, i64_w, i32_w]
  rfl
 refine P1 1 22 ?_ (Bz 12 0x3) ?_ ?_ ?_ ?_
 rotate_left
 ·intro w'
  go_simp
  with_reducible rfl
 rotate_left
 ·simp only [Act.put, Z1, Z2, Z3, i64_w, i32_w]
  rfl
 refine P1 2 23 ?_ (Bz 12 0x7) ?_ ?_ ?_ ?_
 rotate_left
 ·intro w'
  go_simp
  with_reducible rfl
 rotate_left
 ·simp only [Act.put, Z1, Z2, Z3, i64_w, i32_w]
  rfl
 refine P1 5 26 ?_ (Bz 12 0x27) ?_ ?_ ?_ ?_
 rotate_left
 ·intro w'
  go_simp
  with_reducible rfl
 rotate_left
 ·simp only [Act.put, Z1, Z2, Z3, i64_w, i32_w]
  rfl
 refine P1 6 27 ?_ (Bz 12 0x67) ?_ ?_ ?_ ?_
 rotate_left
 ·intro w'
  go_simp
  with_reducible rfl
 rotate_left
 ·simp only [Act.put, Z1, Z2, Z3, i64_w, i32_w]
  rfl
 refine P1 7 28 ?_ (Bz 12 0xe7) ?_ ?_ ?_ ?_
 rotate_left
 ·intro w'
  go_simp
  with_reducible rfl
 rotate_left
 ·simp only [Act.put, Z1, Z2, Z3, i64_w, i32_w]
  rfl
 refine P5 3 24 ?_ (Bz 12 0xef) ?_ hHeld ?_ ?_ ?_
 rotate_left
 ·intro w' s0
  go_simp
  with_reducible rfl
 rotate_left
 ·simp only [Act.put, Z1, Z2, Z3, i64_w, i32_w]
  rfl
 refine P5 8 29 ?_ (Bz 12 0x1ef) ?_ hHeld ?_ ?_ ?_
 rotate_left
 ·intro w' s0
  go_simp
  with_reducible rfl
 rotate_left
 ·simp only [Act.put, Z1, Z2, Z3, i64_w, i32_w]
  rfl
 refine one_ (i := 4) (N := some 25) #[Y, Y, Y, Y, Y, Y, Y, Y, Y, Yn, Yn, Yn] rfl rfl (by kernel_rfl) (by decide) (fun K hK => ?_)
 refine goes_ Tryd.func33 (by kernel_rfl) rfl #[.pointer (some ⟨ga, 0, none⟩)] (by rfl) rfl rfl (by simp only [List.map_toArray, List.map_cons, List.map_nil]; rfl) ?_
 with_reducible refine (rt_calls w gA ga s (lstO s 2 (some 0)) _ HG.out HZS.out HT4.out HB4.out).mono ?_
 rintro e w5 ⟨xd, rfl, ht, hv, hb, hk⟩
 refine ⟨_, rfl, ?_⟩
 have HT5 := Aside0.mk ht
 have HV1 := Aside0.mk hv
 have HB5 := Aside0.mk hb
 have HR5 := Aside0.mk (hk.keep _ _ _ HR4.out (by decide) (by decide))
 clear ht hv hb hk
 refine hK.out _ _ (HT5.out.cell) (fun hHeld => ?_)
 clear hK K
 refine norm_ (a' := ?_) ?_ ?_
 rotate_left
 ·show Act.put _ (some 25) _ = _
  simp only [Act.put, Z1, Z2, Z3, i64_w, i32_w]
  rfl
 refine one_ (i := 9) (N := some 30) #[Y, Y, Y, Y, Y, Y, Y, Y, Y, Y, Yn, Yn] rfl rfl (by kernel_rfl) (by decide) (fun K hK => ?_)
 refine goes_ Tryd.func33 (by kernel_rfl) rfl #[.pointer (some ⟨ga, 0, none⟩)] (by rfl) rfl rfl (by simp only [List.map_toArray, List.map_cons, List.map_nil]; rfl) ?_
 with_reducible refine (rt_calls w gA ga s ((((lstO s 2 (some 0)).bind fun p => tS s p)).map Prod.snd) _ HG.out HZS.out HT5.out HB5.out).mono ?_
 rintro e w6 ⟨xb, rfl, ht, hv, hb, hk⟩
 refine ⟨_, rfl, ?_⟩
 have HT6 := Aside0.mk ht
 have HV2 := Aside0.mk hv
 have HB6 := Aside0.mk hb
 have HR6 := Aside0.mk (hk.keep _ _ _ HR5.out (by decide) (by decide))
 clear ht hv hb hk
 refine hK.out _ _ (HT6.out.cell) (fun hHeld => ?_)
 clear hK K
 refine norm_ (a' := ?_) ?_ ?_
 rotate_left
 ·show Act.put _ (some 30) _ = _
  simp only [Act.put, Z1, Z2, Z3, i64_w, i32_w]
  rfl
 refine P1 10 7 ?_ (Bz 12 0x7ff) ?_ ?_ ?_ ?_
 rotate_left
 ·intro w'
  go_simp
  with_reducible rfl
 rotate_left
 ·simp only [Act.put, Z1, Z2, Z3, i64_w, i32_w]
  rfl
 refine P1 11 8 ?_ (Bz 12 0xfff) ?_ ?_ ?_ ?_
 rotate_left
 ·intro w'
  go_simp
  with_reducible rfl
 rotate_left
 ·simp only [Act.put, Z1, Z2, Z3, i64_w, i32_w]
  rfl
 refine done_ (by kernel_rfl) ?_
 obtain ⟨ok1, p1, er1, hx1, hst1⟩ := HT6.out
 have HX := Aside0.mk hx1
 have HST := Aside0.mk hst1
 have HER := Aside0.mk hx1.err
 have r0 := (blk_cell hx1.box 0).trans rfl
 have r1 := (blk_cell hx1.box 1).trans rfl
 clear hx1 hst1 hHeld
 by_cases k1 : ok1 = true
 case neg =>
  have k1b : ok1 = false := Bool.eq_false_iff.mpr k1
  subst k1b
  have HNO := Aside0.mk (rest_none (sz := sz) (HST.out.no (fun h => by cases h.1)))
  clear k1
  go_wp2
  go_ret2
  exact RestPost.none' HNO.out HB6.out
 subst k1
 by_cases k2 : er1 = 0
 case neg =>
  have k2b : er1 = 2 := HER.out.resolve_left k2
  subst k2b
  have HNO := Aside0.mk (rest_none (sz := sz) (HST.out.no (fun h => k2 h.2)))
  clear k2
  go_wp2_with (go_at_call 34; (with_reducible refine (codec_Reader_End.calls ga s p1 2 2 s p1 2 w _ HG.out HX.out.rd HB6.out rfl).mono ?_); rintro e w7 ⟨rfl, hi, hb, hk⟩; have HB7 := Aside0.mk hb; have HKE := Aside0.mk (KeepQ.of_but hk HX.out.rd.1);  clear hi hb hk)
  go_ret2
  exact RestPost.none' HNO.out HB7.out
 subst k2
 have HYES := Aside0.mk HST.out.yes
 have HSPEC := Aside0.mk (rest_some (sz := sz) HYES.out HV1.out HV2.out)
 by_cases k3 : p1 = (s.size : Int)
 case neg =>
  have HNO := Aside0.mk (show restS s sz = none by rw [HSPEC.out.1, if_neg (fun h => k3 h.1)])
  have hef : codec_Reader_End.f s p1 0 = some (2, s, p1, 0) := by unfold codec_Reader_End.f; rw [if_pos rfl, if_neg k3]
  have HEF := Aside0.mk hef
  clear k3 hef
  go_wp2_with (go_at_call 34; (with_reducible refine (codec_Reader_End.calls ga s p1 0 2 s p1 0 w _ HG.out HX.out.rd HB6.out HEF.out).mono ?_); rintro e w7 ⟨rfl, hi, hb, hk⟩; have HB7 := Aside0.mk hb; have HKE := Aside0.mk (KeepQ.of_but hk HX.out.rd.1);  clear hi hb hk)
  go_ret2
  exact RestPost.none' HNO.out HB7.out
 have hef : codec_Reader_End.f s p1 0 = some (0, s, p1, 0) := by unfold codec_Reader_End.f; rw [if_pos rfl, if_pos k3]
 have HEF := Aside0.mk hef
 have HP1 := Aside0.mk k3
 obtain ⟨D, HD⟩ : ∃ d, Aside0 (digB xb = d) := ⟨_, ⟨rfl⟩⟩
 have HXZ := Aside0.mk (show xb.size ≤ s.size from HSPEC.out.2.1)
 have HDF := Aside0.mk (show codec_Digest.f xb = some D by rw [← HD.out]; unfold codec_Digest.f digB; rw [if_pos (by have := HXZ.out; have := HZS.out; omega)])
 clear hef k3
 by_cases k4 : xd.toList = D.toList
 case neg =>
  have HNO := Aside0.mk (show restS s sz = none by rw [HSPEC.out.1, if_neg (fun h => k4 (by rw [← HD.out]; exact h.2))])
  have k4b : (xd.toList != D.toList) = true := bne_iff_ne.mpr k4
  have k4c : (xd.toList == D.toList) = false := beq_false_of_ne k4
  have k4d : decide (xd.toList = D.toList) = false := decide_eq_false k4
  go_wp2_with (first | (go_at_call 34; (with_reducible refine (codec_Reader_End.calls ga s p1 0 0 s p1 0 w _ HG.out HX.out.rd HB6.out HEF.out).mono ?_); rintro e w7 ⟨rfl, hi, hb, hk⟩; have HB7 := Aside0.mk hb; have HKE := Aside0.mk (KeepQ.of_but hk HX.out.rd.1); have HR7 := Aside0.mk (HKE.out.keep _ _ _ HR6.out (by decide) (by decide)); clear hi hb hk) | (go_at_call 35; (with_reducible refine (codec_Digest.calls xb D _ (Glob.below HG.out HB7.out) HDF.out).mono ?_); rintro e w8 ⟨rfl, hb⟩; have HB8 := Aside0.mk (below_step HB7.out hb); have HR8 := Aside0.mk (blk_below HR7.out hb); clear hb))
  go_ret2
  exact RestPost.none' HNO.out HB8.out
 have k4b : (xd.toList != D.toList) = false := by rw [k4]; exact bne_self_eq_false _
 have k4c : (xd.toList == D.toList) = true := by rw [k4]; exact beq_self_eq_true _
 have HSPEC2 := Aside0.mk (show restS s sz = bodyS xb sz by rw [HSPEC.out.1, if_pos ⟨HP1.out, by rw [HD.out]; exact k4⟩])
 have HZXB := Aside0.mk (show xb.size ≤ 140737488355327 by have := HXZ.out; have := HZS.out; omega)
 have HK4 := Aside0.mk k4
 clear k4
 go_wp2_with (first | (go_at_call 34; (with_reducible refine (codec_Reader_End.calls ga s p1 0 0 s p1 0 w _ HG.out HX.out.rd HB6.out HEF.out).mono ?_); rintro e w7 ⟨rfl, hi, hb, hk⟩; have HB7 := Aside0.mk hb; have HKE := Aside0.mk (KeepQ.of_but hk HX.out.rd.1); have HR7 := Aside0.mk (HKE.out.keep _ _ _ HR6.out (by decide) (by decide)); clear hi hb hk) | (go_at_call 35; (with_reducible refine (codec_Digest.calls xb D _ (Glob.below HG.out HB7.out) HDF.out).mono ?_); rintro e w8 ⟨rfl, hb⟩; have HB8 := Aside0.mk (below_step HB7.out hb); have HR8 := Aside0.mk (blk_below HR7.out hb); clear hb) | (go_at_call 31; (with_reducible refine (codec_NewReader.calls xb xb 0 0 w _ HG.out HB8.out rfl).mono ?_); rintro e w9 ⟨gb, rfl, hi, hb, hbl⟩; have HI9 := Aside0.mk hi; have HB9 := Aside0.mk hb; have HR9 := Aside0.mk (blk_below HR8.out hbl); clear hi hb hbl) | ((with_reducible refine gate_dst (N := 53) rfl ?_); refine box_event ?hg (N := 53) ?hd (cs := #[.pointer (some ⟨gb, 0, none⟩), .bool true]) (t := 78) ?hr ?_; (case hd => rfl); (case hg => rfl); (case hr => first | (go_simp; done) | (go_simp; rfl)); intro gB hgz wz hbox hb; have HB10 := Aside0.mk (below_step HB9.out hb); have HR10 := Aside0.mk (blk_below HR9.out hb); have HT10 := Aside0.mk (show TRS w wz gB gb xb (some 0) from ⟨true, 0, 0, ⟨hbox, ⟨blk_below HI9.out.1 hb, HI9.out.2⟩, Or.inl rfl, by rw [hgz]; exact HB9.out.size⟩, ⟨fun q hq => by injection hq with hq; exact ⟨rfl, hq, rfl⟩, fun hn => by cases hn⟩⟩); clear hb hbox hgz) | (go_at_call 32; (with_reducible refine (tlist_calls w gB gb xb 3 (some 0) _ HG.out HZXB.out HT10.out HB10.out).mono ?_); rintro e w11 ⟨rfl, ht, hb, hk⟩; have HT11 := Aside0.mk ht; have HB11 := Aside0.mk hb; have HR11 := Aside0.mk (hk.keep _ _ _ HR10.out (by decide) (by decide));have x0 := (blk_cell HR11.out 0).trans rfl; have x1 := (blk_cell HR11.out 1).trans rfl; have x2 := (blk_cell HR11.out 2).trans rfl; have x3 := (blk_cell HR11.out 3).trans rfl; have x4 := (blk_cell HR11.out 4).trans rfl; have x5 := (blk_cell HR11.out 5).trans rfl; clear ht hb hk) | ((with_reducible refine gate_dst (N := 58) rfl ?_); refine box_event ?hg (N := 58) ?hd (cs := LC nm pt way iv st sz 0 false 0 0 0 0 0 (.slice none 0 0) 0) (t := 68) ?hr ?_; (case hd => rfl); (case hg => rfl); (case hr => first | (go_simp; done) | (go_simp; rfl)); intro gl hgz wz hbox hb; have HB12 := Aside0.mk (below_step HB11.out hb); have HR12 := Aside0.mk (blk_below HR11.out hb); have HT12 := Aside0.mk (HT11.out.below hb); have HL12 := Aside0.mk (show LogZ w.heap.size gl ⟨nm, pt, way, iv, st, sz, 0, false, 0, 0, 0, 0, 0, []⟩ wz from ⟨_, hbox, by rw [hgz]; exact HB11.out.size, Kd.R_nil _ _ _ _ _⟩); have HGL := Aside0.mk (show w.heap.size ≤ gl by rw [hgz]; exact HB11.out.size); have f12 := blk_frozen hbox 12; have c12 := (blk_cell hbox 12).trans rfl; clear x0 x1 x2 x3 x4 x5; clear hb hbox hgz) | (go_at_call 36; (with_reducible refine (tnum_calls w gB gb xb 6311433599 (lstO xb 3 (some 0)) _ HG.out HZXB.out (by decide) HT12.out HB12.out).mono ?_); rintro e w13 ⟨x1_, rfl, ht, hv, hr, hb, hk⟩; have HT13 := Aside0.mk ht; have HVA := Aside0.mk hv; have HVAR := Aside0.mk hr; have HB13 := Aside0.mk hb; have HR13 := Aside0.mk (hk.keep _ _ _ HR12.out (by decide) (by decide)); have HL13 := Aside0.mk (HL12.out.keepQ hk); clear f12 c12; obtain ⟨vq, hGq, _⟩ := HL13.out; have HGq := Aside0.mk hGq; have f12 := blk_frozen hGq 12; have c12 := (blk_cell hGq 12).trans rfl; have f6 := blk_frozen hGq 6; have c6 := (blk_cell hGq 6).trans rfl; clear hGq; clear ht hv hr hb hk))
 have HL14 := Aside0.mk (HL13.out.set_total x1_)
 have HT14 := Aside0.mk (HT13.out.far HGq.out (by decide) (by decide) 12 (.int .i64 x1_))
 have HR14 := Aside0.mk (blk_far HR13.out (p := ⟨gl, 12, none⟩) (blk_ne HR13.out HGq.out (by decide)) (.int .i64 x1_))
 have HB14 := Aside0.mk (HB13.out.setCell (p := ⟨gl, 12, none⟩) HGL.out (.int .i64 x1_))
 generalize w13.setCell ⟨gl, 12, none⟩ (.int .i64 x1_) = w14 at HL14 HT14 HR14 HB14 ⊢
 clear f12 c12 f6 c6
 obtain ⟨vq2, hGq2, _⟩ := HL14.out
 have HGq := Aside0.mk hGq2
 have f12 := blk_frozen hGq2 12
 have c12 := (blk_cell hGq2 12).trans rfl
 clear hGq2
 go_wp2_with (go_at_call 36; (with_reducible refine (tnum_calls w gB gb xb 6311433599 ((numO xb MI (lstO xb 3 (some 0))).map Prod.snd) _ HG.out HZXB.out (by decide) HT14.out HB14.out).mono ?_); rintro e w15 ⟨x2_, rfl, ht, hv, hr, hb, hk⟩; have HT15 := Aside0.mk ht; have HVB := Aside0.mk hv; have HVBR := Aside0.mk hr; have HB15 := Aside0.mk hb; have HR15 := Aside0.mk (hk.keep _ _ _ HR14.out (by decide) (by decide)); have HL15 := Aside0.mk (HL14.out.keepQ hk); clear f12 c12; obtain ⟨vq, hGq, _⟩ := HL15.out; have HGq := Aside0.mk hGq; have f12 := blk_frozen hGq 12; have c12 := (blk_cell hGq 12).trans rfl; have f6 := blk_frozen hGq 6; have c6 := (blk_cell hGq 6).trans rfl; have r0 := (TRS.far ht hGq (by decide) (by decide) 6 (.int .i64 x2_)).cell; clear hGq; clear ht hv hr hb hk)
 have HL16 := Aside0.mk (HL15.out.set_now x2_)
 have HT16 := Aside0.mk (HT15.out.far HGq.out (by decide) (by decide) 6 (.int .i64 x2_))
 have HR16 := Aside0.mk (blk_far HR15.out (p := ⟨gl, 6, none⟩) (blk_ne HR15.out HGq.out (by decide)) (.int .i64 x2_))
 have HB16 := Aside0.mk (HB15.out.setCell (p := ⟨gl, 6, none⟩) HGL.out (.int .i64 x2_))
 generalize w15.setCell ⟨gl, 6, none⟩ (.int .i64 x2_) = w16 at HL16 HT16 HR16 HB16 ⊢
 clear f12 c12 f6 c6
 go_wp2_with (go_at_call 37; (with_reducible refine (rl_calls w gB gb xb ((numO xb MI ((numO xb MI (lstO xb 3 (some 0))).map Prod.snd)).map Prod.snd) _ HG.out HZXB.out HT16.out HB16.out).mono ?_); rintro e w17 ⟨x3_, rfl, ht, hv, hb, hk⟩; have HT17 := Aside0.mk ht; have HVC := Aside0.mk hv; have HB17 := Aside0.mk hb; have HR17 := Aside0.mk (hk.keep _ _ _ HR16.out (by decide) (by decide)); have HL17 := Aside0.mk (HL16.out.keepQ hk); clear ht hv hb hk)
 clear r0
 obtain ⟨ok2, p2, er2, hx2, hst2⟩ := HT17.out
 have HX17 := Aside0.mk hx2
 have HST2 := Aside0.mk hst2
 have HER2 := Aside0.mk hx2.err
 have r0 := (blk_cell hx2.box 0).trans rfl
 have r1 := (blk_cell hx2.box 1).trans rfl
 obtain ⟨vg, hG17, _⟩ := HL17.out
 have HG17 := Aside0.mk hG17
 have c12 := (blk_cell hG17 12).trans rfl
 have y5 := (blk_cell HR17.out 5).trans rfl
 clear hx2 hst2 hG17
 by_cases k1 : ok2 = true
 case neg =>
  have k1b : ok2 = false := Bool.eq_false_iff.mpr k1
  subst k1b
  have HNO := Aside0.mk (show restS s sz = none by rw [HSPEC2.out]; exact body_none (HST2.out.no (fun h => by cases h.1)))
  clear k1
  have HX18 := Aside0.mk HX17.out.drew
  have HL18 := Aside0.mk HL17.out.drew
  have HR18 := Aside0.mk (blk_drew HR17.out)
  have HB18 := Aside0.mk (below_drew1 HB17.out)
  refine start_ (n := 24) (S := fun w' => w'.cell? ⟨gB, 0, none⟩ = some (.pointer (some ⟨gb, 0, none⟩)) ∧ w'.cell? ⟨gB, 1, none⟩ = some (.bool false) ∧ w'.cell? ⟨gl, 12, none⟩ = some (.int .i64 x1_) ∧ w'.cell? ⟨gt, 5, none⟩ = some (.int .i64 sz)) (ds := []) #[Yn, Yn, Yn, Yn, Yn, Yn, Yn, Yn, Yn, Yn, Yn, Yn, Yn, Yn, Yn, Yn, Yn, Yn, Yn, Yn, Yn, Yn, Yn, Yn] (by kernel_rfl) rfl rfl ⟨r0, r1, c12, y5⟩ (fun hHeld => ?_)
  generalize w17.drew = w18 at HX18 HL18 HR18 HB18 hHeld ⊢
  refine P1 0 74 ?_ (Bz 24 0x1) ?_ ?_ ?_ ?_
  rotate_left
  ·intro w'
   go_simp
   with_reducible rfl
  rotate_left
  ·simp only [Act.put, Z1, Z2, Z3, i64_w, i32_w]
   rfl
  refine P1 1 75 ?_ (Bz 24 0x3) ?_ ?_ ?_ ?_
  rotate_left
  ·intro w'
   go_simp
   with_reducible rfl
  rotate_left
  ·simp only [Act.put, Z1, Z2, Z3, i64_w, i32_w]
   rfl
  refine P1 2 76 ?_ (Bz 24 0x7) ?_ ?_ ?_ ?_
  rotate_left
  ·intro w'
   go_simp
   with_reducible rfl
  rotate_left
  ·simp only [Act.put, Z1, Z2, Z3, i64_w, i32_w]
   rfl
  refine P5 3 77 ?_ (Bz 24 0xf) ?_ hHeld ?_ ?_ ?_
  rotate_left
  ·rintro w' ⟨s0, s1, s2, s3⟩
   go_simp
   with_reducible rfl
  rotate_left
  ·simp only [Act.put, Z1, Z2, Z3, i64_w, i32_w]
   rfl
  refine P1 4 78 ?_ (Bz 24 0x1f) ?_ ?_ ?_ ?_
  rotate_left
  ·intro w'
   go_simp
   with_reducible rfl
  rotate_left
  ·simp only [Act.put, Z1, Z2, Z3, i64_w, i32_w]
   rfl
  refine P1 5 79 ?_ (Bz 24 0x3f) ?_ ?_ ?_ ?_
  rotate_left
  ·intro w'
   go_simp
   with_reducible rfl
  rotate_left
  ·simp only [Act.put, Z1, Z2, Z3, i64_w, i32_w]
   rfl
  refine P2 6 80 (Bz 24 0x7f) ?_ ?_ ?_
  rotate_left
  ·simp only [Act.put, Z1, Z2, Z3, i64_w, i32_w]
   rfl
  refine P2 7 81 (Bz 24 0xff) ?_ ?_ ?_
  rotate_left
  ·simp only [Act.put, Z1, Z2, Z3, i64_w, i32_w]
   rfl
  refine P2 8 82 (Bz 24 0x1ff) ?_ ?_ ?_
  rotate_left
  ·simp only [Act.put, Z1, Z2, Z3, i64_w, i32_w]
   rfl
  refine P2 9 83 (Bz 24 0x3ff) ?_ ?_ ?_
  rotate_left
  ·simp only [Act.put, Z1, Z2, Z3, i64_w, i32_w]
   rfl
  refine P2 10 84 (Bz 24 0x7ff) ?_ ?_ ?_
  rotate_left
  ·simp only [Act.put, Z1, Z2, Z3, i64_w, i32_w]
   rfl
  refine P2 11 85 (Bz 24 0xfff) ?_ ?_ ?_
  rotate_left
  ·simp only [Act.put, Z1, Z2, Z3, i64_w, i32_w]
   rfl
  refine P1 12 86 ?_ (Bz 24 0x1fff) ?_ ?_ ?_ ?_
  rotate_left
  ·intro w'
   go_simp
   with_reducible rfl
  rotate_left
  ·simp only [Act.put, Z1, Z2, Z3, i64_w, i32_w]
   rfl
  refine P1 13 87 ?_ (Bz 24 0x3fff) ?_ ?_ ?_ ?_
  rotate_left
  ·intro w'
   go_simp
   with_reducible rfl
  rotate_left
  ·simp only [Act.put, Z1, Z2, Z3, i64_w, i32_w]
   rfl
  refine P2 14 88 (Bz 24 0x7fff) ?_ ?_ ?_
  rotate_left
  ·simp only [Act.put, Z1, Z2, Z3, i64_w, i32_w]
   rfl
  refine P2 15 89 (Bz 24 0xffff) ?_ ?_ ?_
  rotate_left
  ·simp only [Act.put, Z1, Z2, Z3, i64_w, i32_w]
   rfl
  refine P2 16 90 (Bz 24 0x1ffff) ?_ ?_ ?_
  rotate_left
  ·simp only [Act.put, Z1, Z2, Z3, i64_w, i32_w]
   rfl
  refine P2 17 91 (Bz 24 0x3ffff) ?_ ?_ ?_
  rotate_left
  ·simp only [Act.put, Z1, Z2, Z3, i64_w, i32_w]
   rfl
  refine P2 18 92 (Bz 24 0x7ffff) ?_ ?_ ?_
  rotate_left
  ·simp only [Act.put, Z1, Z2, Z3, i64_w, i32_w]
   rfl
  refine P2 19 93 (Bz 24 0xfffff) ?_ ?_ ?_
  rotate_left
  ·simp only [Act.put, Z1, Z2, Z3, i64_w, i32_w]
   rfl
  refine P2 20 94 (Bz 24 0x1fffff) ?_ ?_ ?_
  rotate_left
  ·simp only [Act.put, Z1, Z2, Z3, i64_w, i32_w]
   rfl
  refine P2 21 95 (Bz 24 0x3fffff) ?_ ?_ ?_
  rotate_left
  ·simp only [Act.put, Z1, Z2, Z3, i64_w, i32_w]
   rfl
  refine P2 22 96 (Bz 24 0x7fffff) ?_ ?_ ?_
  rotate_left
  ·simp only [Act.put, Z1, Z2, Z3, i64_w, i32_w]
   rfl
  refine P1 23 97 ?_ (Bz 24 0xffffff) ?_ ?_ ?_ ?_
  rotate_left
  ·intro w'
   go_simp
   with_reducible rfl
  rotate_left
  ·simp only [Act.put, Z1, Z2, Z3, i64_w, i32_w]
   rfl
  refine done_ (by kernel_rfl) ?_
  clear r0 r1 c12 y5 hHeld
  go_wp2
  go_ret2
  exact RestPost.none' HNO.out HB18.out
 subst k1
 by_cases k2 : er2 = 0
 case neg =>
  have k2b : er2 = 2 := HER2.out.resolve_left k2
  subst k2b
  have HNO := Aside0.mk (show restS s sz = none by rw [HSPEC2.out]; exact body_none (HST2.out.no (fun h => k2 h.2)))
  clear k2
  have HX18 := Aside0.mk HX17.out.drew
  have HL18 := Aside0.mk HL17.out.drew
  have HR18 := Aside0.mk (blk_drew HR17.out)
  have HB18 := Aside0.mk (below_drew1 HB17.out)
  refine start_ (n := 24) (S := fun w' => w'.cell? ⟨gB, 0, none⟩ = some (.pointer (some ⟨gb, 0, none⟩)) ∧ w'.cell? ⟨gB, 1, none⟩ = some (.bool true) ∧ w'.cell? ⟨gl, 12, none⟩ = some (.int .i64 x1_) ∧ w'.cell? ⟨gt, 5, none⟩ = some (.int .i64 sz)) (ds := []) #[Yn, Yn, Yn, Yn, Yn, Yn, Yn, Yn, Yn, Yn, Yn, Yn, Yn, Yn, Yn, Yn, Yn, Yn, Yn, Yn, Yn, Yn, Yn, Yn] (by kernel_rfl) rfl rfl ⟨r0, r1, c12, y5⟩ (fun hHeld => ?_)
  generalize w17.drew = w18 at HX18 HL18 HR18 HB18 hHeld ⊢
  refine P1 0 74 ?_ (Bz 24 0x1) ?_ ?_ ?_ ?_
  rotate_left
  ·intro w'
   go_simp
   with_reducible rfl
  rotate_left
  ·simp only [Act.put, Z1, Z2, Z3, i64_w, i32_w]
   rfl
  refine P1 1 75 ?_ (Bz 24 0x3) ?_ ?_ ?_ ?_
  rotate_left
  ·intro w'
   go_simp
   with_reducible rfl
  rotate_left
  ·simp only [Act.put, Z1, Z2, Z3, i64_w, i32_w]
   rfl
  refine P1 2 76 ?_ (Bz 24 0x7) ?_ ?_ ?_ ?_
  rotate_left
  ·intro w'
   go_simp
   with_reducible rfl
  rotate_left
  ·simp only [Act.put, Z1, Z2, Z3, i64_w, i32_w]
   rfl
  refine P5 3 77 ?_ (Bz 24 0xf) ?_ hHeld ?_ ?_ ?_
  rotate_left
  ·rintro w' ⟨s0, s1, s2, s3⟩
   go_simp
   with_reducible rfl
  rotate_left
  ·simp only [Act.put, Z1, Z2, Z3, i64_w, i32_w]
   rfl
  refine P1 4 78 ?_ (Bz 24 0x1f) ?_ ?_ ?_ ?_
  rotate_left
  ·intro w'
   go_simp
   with_reducible rfl
  rotate_left
  ·simp only [Act.put, Z1, Z2, Z3, i64_w, i32_w]
   rfl
  refine P1 5 79 ?_ (Bz 24 0x3f) ?_ ?_ ?_ ?_
  rotate_left
  ·intro w'
   go_simp
   with_reducible rfl
  rotate_left
  ·simp only [Act.put, Z1, Z2, Z3, i64_w, i32_w]
   rfl
  refine P1 6 80 ?_ (Bz 24 0x7f) ?_ ?_ ?_ ?_
  rotate_left
  ·intro w'
   go_simp
   with_reducible rfl
  rotate_left
  ·simp only [Act.put, Z1, Z2, Z3, i64_w, i32_w]
   rfl
  refine P1 7 81 ?_ (Bz 24 0xff) ?_ ?_ ?_ ?_
  rotate_left
  ·intro w'
   go_simp
   with_reducible rfl
  rotate_left
  ·simp only [Act.put, Z1, Z2, Z3, i64_w, i32_w]
   rfl
  refine P1 8 82 ?_ (Bz 24 0x1ff) ?_ ?_ ?_ ?_
  rotate_left
  ·intro w'
   go_simp
   with_reducible rfl
  rotate_left
  ·simp only [Act.put, Z1, Z2, Z3, i64_w, i32_w]
   rfl
  refine P5 9 83 ?_ (Bz 24 0x3ff) ?_ hHeld ?_ ?_ ?_
  rotate_left
  ·rintro w' ⟨s0, s1, s2, s3⟩
   go_simp
   with_reducible rfl
  rotate_left
  ·simp only [Act.put, Z1, Z2, Z3, i64_w, i32_w]
   rfl
  refine one_ (i := 10) (N := some 84) #[Y, Y, Y, Y, Y, Y, Y, Y, Y, Y, Y, Yn, Yn, Yn, Yn, Yn, Yn, Yn, Yn, Yn, Yn, Yn, Yn, Yn] rfl rfl (by kernel_rfl) (by decide) (fun K hK => ?_)
  refine goes_ Tryd.func38 (by kernel_rfl) rfl #[.pointer (some ⟨gb, 0, none⟩)] (by rfl) rfl rfl (by simp only [List.map_toArray, List.map_cons, List.map_nil]; rfl) ?_
  with_reducible refine (codec_Reader_Err.calls gb xb p2 2 2 xb p2 2 w _ HG.out HX18.out.rd HB18.out rfl).mono ?_
  rintro e w19 ⟨rfl, hi, hb, hk⟩
  refine ⟨_, rfl, ?_⟩
  have HQ_ := Aside0.mk (KeepQ.of_but hk HX18.out.rd.1)
  have HX19 := Aside0.mk (HX18.out.but hk hi (by decide))
  have HB19 := Aside0.mk hb
  have HL19 := Aside0.mk (HL18.out.keepQ HQ_.out)
  have HR19 := Aside0.mk (HQ_.out.keep _ _ _ HR18.out (by decide) (by decide))
  clear hi hb hk
  refine hK.out _ _ ⟨(blk_cell HX19.out.box 0).trans rfl, (blk_cell HX19.out.box 1).trans rfl, (HL19.out.cell12), (blk_cell HR19.out 5).trans rfl⟩ (fun hHeld => ?_)
  clear hK K
  refine norm_ (a' := ?_) ?_ ?_
  rotate_left
  ·show Act.put _ (some 84) _ = _
   simp only [Act.put, Z1, Z2, Z3, i64_w, i32_w]
   rfl
  refine P1 11 85 ?_ (Bz 24 0xfff) ?_ ?_ ?_ ?_
  rotate_left
  ·intro w'
   go_simp
   with_reducible rfl
  rotate_left
  ·simp only [Act.put, Z1, Z2, Z3, i64_w, i32_w]
   rfl
  refine P1 12 86 ?_ (Bz 24 0x1fff) ?_ ?_ ?_ ?_
  rotate_left
  ·intro w'
   go_simp
   with_reducible rfl
  rotate_left
  ·simp only [Act.put, Z1, Z2, Z3, i64_w, i32_w]
   rfl
  refine P1 13 87 ?_ (Bz 24 0x3fff) ?_ ?_ ?_ ?_
  rotate_left
  ·intro w'
   go_simp
   with_reducible rfl
  rotate_left
  ·simp only [Act.put, Z1, Z2, Z3, i64_w, i32_w]
   rfl
  refine P2 14 88 (Bz 24 0x7fff) ?_ ?_ ?_
  rotate_left
  ·simp only [Act.put, Z1, Z2, Z3, i64_w, i32_w]
   rfl
  refine P2 15 89 (Bz 24 0xffff) ?_ ?_ ?_
  rotate_left
  ·simp only [Act.put, Z1, Z2, Z3, i64_w, i32_w]
   rfl
  refine P2 16 90 (Bz 24 0x1ffff) ?_ ?_ ?_
  rotate_left
  ·simp only [Act.put, Z1, Z2, Z3, i64_w, i32_w]
   rfl
  refine P2 17 91 (Bz 24 0x3ffff) ?_ ?_ ?_
  rotate_left
  ·simp only [Act.put, Z1, Z2, Z3, i64_w, i32_w]
   rfl
  refine P2 18 92 (Bz 24 0x7ffff) ?_ ?_ ?_
  rotate_left
  ·simp only [Act.put, Z1, Z2, Z3, i64_w, i32_w]
   rfl
  refine P2 19 93 (Bz 24 0xfffff) ?_ ?_ ?_
  rotate_left
  ·simp only [Act.put, Z1, Z2, Z3, i64_w, i32_w]
   rfl
  refine P2 20 94 (Bz 24 0x1fffff) ?_ ?_ ?_
  rotate_left
  ·simp only [Act.put, Z1, Z2, Z3, i64_w, i32_w]
   rfl
  refine P2 21 95 (Bz 24 0x3fffff) ?_ ?_ ?_
  rotate_left
  ·simp only [Act.put, Z1, Z2, Z3, i64_w, i32_w]
   rfl
  refine P2 22 96 (Bz 24 0x7fffff) ?_ ?_ ?_
  rotate_left
  ·simp only [Act.put, Z1, Z2, Z3, i64_w, i32_w]
   rfl
  refine P1 23 97 ?_ (Bz 24 0xffffff) ?_ ?_ ?_ ?_
  rotate_left
  ·intro w'
   go_simp
   with_reducible rfl
  rotate_left
  ·simp only [Act.put, Z1, Z2, Z3, i64_w, i32_w]
   rfl
  refine done_ (by kernel_rfl) ?_
  clear r0 r1 c12 y5 hHeld
  go_wp2
  go_ret2
  exact RestPost.none' HNO.out HB19.out
 subst k2
 have HSPB := Aside0.mk (body_some (sz := sz) HST2.out.yes HVA.out HVB.out HVC.out)
 obtain ⟨m, HMN⟩ : ∃ m, Aside0 (mn x1_ sz = m) := ⟨_, ⟨rfl⟩⟩
 have hmn : (if sz < x1_ then sz else x1_) = m := by rw [← HMN.out]; rfl
 by_cases k3 : x3_ = m
 case neg =>
  have HNO := Aside0.mk (show restS s sz = none by rw [HSPEC2.out, HSPB.out.1, if_neg (by rw [HMN.out]; exact k3)])
  have k3b : (x3_ != m) = true := bne_iff_ne.mpr k3
  clear k3
  have HX18 := Aside0.mk HX17.out.drew
  have HL18 := Aside0.mk HL17.out.drew
  have HR18 := Aside0.mk (blk_drew HR17.out)
  have HB18 := Aside0.mk (below_drew1 HB17.out)
  refine start_ (n := 24) (S := fun w' => w'.cell? ⟨gB, 0, none⟩ = some (.pointer (some ⟨gb, 0, none⟩)) ∧ w'.cell? ⟨gB, 1, none⟩ = some (.bool true) ∧ w'.cell? ⟨gl, 12, none⟩ = some (.int .i64 x1_) ∧ w'.cell? ⟨gt, 5, none⟩ = some (.int .i64 sz)) (ds := []) #[Yn, Yn, Yn, Yn, Yn, Yn, Yn, Yn, Yn, Yn, Yn, Yn, Yn, Yn, Yn, Yn, Yn, Yn, Yn, Yn, Yn, Yn, Yn, Yn] (by kernel_rfl) rfl rfl ⟨r0, r1, c12, y5⟩ (fun hHeld => ?_)
  generalize w17.drew = w18 at HX18 HL18 HR18 HB18 hHeld ⊢
  refine P1 0 74 ?_ (Bz 24 0x1) ?_ ?_ ?_ ?_
  rotate_left
  ·intro w'
   go_simp
   with_reducible rfl
  rotate_left
  ·simp only [Act.put, Z1, Z2, Z3, i64_w, i32_w]
   rfl
  refine P1 1 75 ?_ (Bz 24 0x3) ?_ ?_ ?_ ?_
  rotate_left
  ·intro w'
   go_simp
   with_reducible rfl
  rotate_left
  ·simp only [Act.put, Z1, Z2, Z3, i64_w, i32_w]
   rfl
  refine P1 2 76 ?_ (Bz 24 0x7) ?_ ?_ ?_ ?_
  rotate_left
  ·intro w'
   go_simp
   with_reducible rfl
  rotate_left
  ·simp only [Act.put, Z1, Z2, Z3, i64_w, i32_w]
   rfl
  refine P5 3 77 ?_ (Bz 24 0xf) ?_ hHeld ?_ ?_ ?_
  rotate_left
  ·rintro w' ⟨s0, s1, s2, s3⟩
   go_simp
   with_reducible rfl
  rotate_left
  ·simp only [Act.put, Z1, Z2, Z3, i64_w, i32_w]
   rfl
  refine P1 4 78 ?_ (Bz 24 0x1f) ?_ ?_ ?_ ?_
  rotate_left
  ·intro w'
   go_simp
   with_reducible rfl
  rotate_left
  ·simp only [Act.put, Z1, Z2, Z3, i64_w, i32_w]
   rfl
  refine P1 5 79 ?_ (Bz 24 0x3f) ?_ ?_ ?_ ?_
  rotate_left
  ·intro w'
   go_simp
   with_reducible rfl
  rotate_left
  ·simp only [Act.put, Z1, Z2, Z3, i64_w, i32_w]
   rfl
  refine P1 6 80 ?_ (Bz 24 0x7f) ?_ ?_ ?_ ?_
  rotate_left
  ·intro w'
   go_simp
   with_reducible rfl
  rotate_left
  ·simp only [Act.put, Z1, Z2, Z3, i64_w, i32_w]
   rfl
  refine P1 7 81 ?_ (Bz 24 0xff) ?_ ?_ ?_ ?_
  rotate_left
  ·intro w'
   go_simp
   with_reducible rfl
  rotate_left
  ·simp only [Act.put, Z1, Z2, Z3, i64_w, i32_w]
   rfl
  refine P1 8 82 ?_ (Bz 24 0x1ff) ?_ ?_ ?_ ?_
  rotate_left
  ·intro w'
   go_simp
   with_reducible rfl
  rotate_left
  ·simp only [Act.put, Z1, Z2, Z3, i64_w, i32_w]
   rfl
  refine P5 9 83 ?_ (Bz 24 0x3ff) ?_ hHeld ?_ ?_ ?_
  rotate_left
  ·rintro w' ⟨s0, s1, s2, s3⟩
   go_simp
   with_reducible rfl
  rotate_left
  ·simp only [Act.put, Z1, Z2, Z3, i64_w, i32_w]
   rfl
  refine one_ (i := 10) (N := some 84) #[Y, Y, Y, Y, Y, Y, Y, Y, Y, Y, Y, Yn, Yn, Yn, Yn, Yn, Yn, Yn, Yn, Yn, Yn, Yn, Yn, Yn] rfl rfl (by kernel_rfl) (by decide) (fun K hK => ?_)
  refine goes_ Tryd.func38 (by kernel_rfl) rfl #[.pointer (some ⟨gb, 0, none⟩)] (by rfl) rfl rfl (by simp only [List.map_toArray, List.map_cons, List.map_nil]; rfl) ?_
  with_reducible refine (codec_Reader_Err.calls gb xb p2 0 0 xb p2 0 w _ HG.out HX18.out.rd HB18.out rfl).mono ?_
  rintro e w19 ⟨rfl, hi, hb, hk⟩
  refine ⟨_, rfl, ?_⟩
  have HQ_ := Aside0.mk (KeepQ.of_but hk HX18.out.rd.1)
  have HX19 := Aside0.mk (HX18.out.but hk hi (by decide))
  have HB19 := Aside0.mk hb
  have HL19 := Aside0.mk (HL18.out.keepQ HQ_.out)
  have HR19 := Aside0.mk (HQ_.out.keep _ _ _ HR18.out (by decide) (by decide))
  clear hi hb hk
  refine hK.out _ _ ⟨(blk_cell HX19.out.box 0).trans rfl, (blk_cell HX19.out.box 1).trans rfl, (HL19.out.cell12), (blk_cell HR19.out 5).trans rfl⟩ (fun hHeld => ?_)
  clear hK K
  refine norm_ (a' := ?_) ?_ ?_
  rotate_left
  ·show Act.put _ (some 84) _ = _
   simp only [Act.put, Z1, Z2, Z3, i64_w, i32_w]
   rfl
  refine P1 11 85 ?_ (Bz 24 0xfff) ?_ ?_ ?_ ?_
  rotate_left
  ·intro w'
   go_simp
   with_reducible rfl
  rotate_left
  ·simp only [Act.put, Z1, Z2, Z3, i64_w, i32_w]
   rfl
  refine P1 12 86 ?_ (Bz 24 0x1fff) ?_ ?_ ?_ ?_
  rotate_left
  ·intro w'
   go_simp
   with_reducible rfl
  rotate_left
  ·simp only [Act.put, Z1, Z2, Z3, i64_w, i32_w]
   rfl
  refine P1 13 87 ?_ (Bz 24 0x3fff) ?_ ?_ ?_ ?_
  rotate_left
  ·intro w'
   go_simp
   with_reducible rfl
  rotate_left
  ·simp only [Act.put, Z1, Z2, Z3, i64_w, i32_w]
   rfl
  refine P1 14 88 ?_ (Bz 24 0x7fff) ?_ ?_ ?_ ?_
  rotate_left
  ·intro w'
   go_simp
   with_reducible rfl
  rotate_left
  ·simp only [Act.put, Z1, Z2, Z3, i64_w, i32_w]
   rfl
  refine P1 15 89 ?_ (Bz 24 0xffff) ?_ ?_ ?_ ?_
  rotate_left
  ·intro w'
   go_simp
   with_reducible rfl
  rotate_left
  ·simp only [Act.put, Z1, Z2, Z3, i64_w, i32_w]
   rfl
  refine P1 16 90 ?_ (Bz 24 0x1ffff) ?_ ?_ ?_ ?_
  rotate_left
  ·intro w'
   go_simp
   with_reducible rfl
  rotate_left
  ·simp only [Act.put, Z1, Z2, Z3, i64_w, i32_w]
   rfl
  refine P1 17 91 ?_ (Bz 24 0x3ffff) ?_ ?_ ?_ ?_
  rotate_left
  ·intro w'
   go_simp
   with_reducible rfl
  rotate_left
  ·simp only [Act.put, Z1, Z2, Z3, i64_w, i32_w]
   rfl
  refine P1 19 93 ?_ (Bz 24 0xbffff) ?_ ?_ ?_ ?_
  rotate_left
  ·intro w'
   go_simp
   with_reducible rfl
  rotate_left
  ·simp only [Act.put, Z1, Z2, Z3, i64_w, i32_w]
   rfl
  refine P5 18 92 ?_ (Bz 24 0xfffff) ?_ hHeld ?_ ?_ ?_
  rotate_left
  ·rintro w' ⟨s0, s1, s2, s3⟩
   go_simp
   with_reducible rfl
  rotate_left
  ·simp only [Act.put, Z1, Z2, Z3, i64_w, i32_w]
   rfl
  refine P5 20 94 ?_ (Bz 24 0x1fffff) ?_ hHeld ?_ ?_ ?_
  rotate_left
  ·rintro w' ⟨s0, s1, s2, s3⟩
   go_simp
   with_reducible rfl
  rotate_left
  ·simp only [Act.put, Z1, Z2, Z3, i64_w, i32_w]
   rfl
  refine P1 21 95 ?_ (Bz 24 0x3fffff) ?_ ?_ ?_ ?_
  rotate_left
  ·intro w'
   go_simp
   with_reducible rfl
  rotate_left
  ·simp only [Act.put, Z1, Z2, Z3, i64_w, i32_w]
   rfl
  refine P1 22 96 ?_ (Bz 24 0x7fffff) ?_ ?_ ?_ ?_
  rotate_left
  ·intro w'
   go_simp
   with_reducible rfl
  rotate_left
  ·simp only [Act.put, Z1, Z2, Z3, i64_w, i32_w]
   rfl
  refine P1 23 97 ?_ (Bz 24 0xffffff) ?_ ?_ ?_ ?_
  rotate_left
  ·intro w'
   go_simp
   with_reducible rfl
  rotate_left
  ·simp only [Act.put, Z1, Z2, Z3, i64_w, i32_w]
   rfl
  refine done_ (by kernel_rfl) ?_
  clear r0 r1 c12 y5 hHeld
  go_wp2
  go_ret2
  exact RestPost.none' HNO.out HB19.out
 have k3b : (x3_ != m) = false := by rw [k3]; exact bne_self_eq_false _
 have HSP3 := Aside0.mk (show restS s sz = (loopS xb x1_ x2_ x3_ x3_.toNat 0 0 p2).bind fun r => if r.2 = (xb.size : Int) then some (x1_, x2_, r.1) else none by rw [HSPEC2.out, HSPB.out.1, if_pos (by rw [HMN.out]; exact k3)])
 have HX3R := Aside0.mk (show 0 ≤ x3_ ∧ x3_ ≤ 65535 from HSPB.out.2)
 have HP2 := Aside0.mk (show TRS w w17 gB gb xb (some p2) from ⟨true, p2, 0, HX17.out, ⟨fun q hq => by injection hq with hq; exact ⟨rfl, hq, rfl⟩, fun hn => by cases hn⟩⟩)
 clear k3
 have HX18 := Aside0.mk HX17.out.drew
 have HL18 := Aside0.mk HL17.out.drew
 have HR18 := Aside0.mk (blk_drew HR17.out)
 have HB18 := Aside0.mk (below_drew1 HB17.out)
 refine start_ (n := 24) (S := fun w' => w'.cell? ⟨gB, 0, none⟩ = some (.pointer (some ⟨gb, 0, none⟩)) ∧ w'.cell? ⟨gB, 1, none⟩ = some (.bool true) ∧ w'.cell? ⟨gl, 12, none⟩ = some (.int .i64 x1_) ∧ w'.cell? ⟨gt, 5, none⟩ = some (.int .i64 sz)) (ds := []) #[Yn, Yn, Yn, Yn, Yn, Yn, Yn, Yn, Yn, Yn, Yn, Yn, Yn, Yn, Yn, Yn, Yn, Yn, Yn, Yn, Yn, Yn, Yn, Yn] (by kernel_rfl) rfl rfl ⟨r0, r1, c12, y5⟩ (fun hHeld => ?_)
 generalize w17.drew = w18 at HX18 HL18 HR18 HB18 hHeld ⊢
 refine P1 0 74 ?_ (Bz 24 0x1) ?_ ?_ ?_ ?_
 rotate_left
 ·intro w'
  go_simp
  with_reducible rfl
 rotate_left
 ·simp only [Act.put, Z1, Z2, Z3, i64_w, i32_w]
  rfl
 refine P1 1 75 ?_ (Bz 24 0x3) ?_ ?_ ?_ ?_
 rotate_left
 ·intro w'
  go_simp
  with_reducible rfl
 rotate_left
 ·simp only [Act.put, Z1, Z2, Z3, i64_w, i32_w]
  rfl
 refine P1 2 76 ?_ (Bz 24 0x7) ?_ ?_ ?_ ?_
 rotate_left
 ·intro w'
  go_simp
  with_reducible rfl
 rotate_left
 ·simp only [Act.put, Z1, Z2, Z3, i64_w, i32_w]
  rfl
 refine P5 3 77 ?_ (Bz 24 0xf) ?_ hHeld ?_ ?_ ?_
 rotate_left
 ·rintro w' ⟨s0, s1, s2, s3⟩
  go_simp
  with_reducible rfl
 rotate_left
 ·simp only [Act.put, Z1, Z2, Z3, i64_w, i32_w]
  rfl
 refine P1 4 78 ?_ (Bz 24 0x1f) ?_ ?_ ?_ ?_
 rotate_left
 ·intro w'
  go_simp
  with_reducible rfl
 rotate_left
 ·simp only [Act.put, Z1, Z2, Z3, i64_w, i32_w]
  rfl
 refine P1 5 79 ?_ (Bz 24 0x3f) ?_ ?_ ?_ ?_
 rotate_left
 ·intro w'
  go_simp
  with_reducible rfl
 rotate_left
 ·simp only [Act.put, Z1, Z2, Z3, i64_w, i32_w]
  rfl
 refine P1 6 80 ?_ (Bz 24 0x7f) ?_ ?_ ?_ ?_
 rotate_left
 ·intro w'
  go_simp
  with_reducible rfl
 rotate_left
 ·simp only [Act.put, Z1, Z2, Z3, i64_w, i32_w]
  rfl
 refine P1 7 81 ?_ (Bz 24 0xff) ?_ ?_ ?_ ?_
 rotate_left
 ·intro w'
  go_simp
  with_reducible rfl
 rotate_left
 ·simp only [Act.put, Z1, Z2, Z3, i64_w, i32_w]
  rfl
 refine P1 8 82 ?_ (Bz 24 0x1ff) ?_ ?_ ?_ ?_
 rotate_left
 ·intro w'
  go_simp
  with_reducible rfl
 rotate_left
 ·simp only [Act.put, Z1, Z2, Z3, i64_w, i32_w]
  rfl
 refine P5 9 83 ?_ (Bz 24 0x3ff) ?_ hHeld ?_ ?_ ?_
 rotate_left
 ·rintro w' ⟨s0, s1, s2, s3⟩
  go_simp
  with_reducible rfl
 rotate_left
 ·simp only [Act.put, Z1, Z2, Z3, i64_w, i32_w]
  rfl
 refine one_ (i := 10) (N := some 84) #[Y, Y, Y, Y, Y, Y, Y, Y, Y, Y, Y, Yn, Yn, Yn, Yn, Yn, Yn, Yn, Yn, Yn, Yn, Yn, Yn, Yn] rfl rfl (by kernel_rfl) (by decide) (fun K hK => ?_)
 refine goes_ Tryd.func38 (by kernel_rfl) rfl #[.pointer (some ⟨gb, 0, none⟩)] (by rfl) rfl rfl (by simp only [List.map_toArray, List.map_cons, List.map_nil]; rfl) ?_
 with_reducible refine (codec_Reader_Err.calls gb xb p2 0 0 xb p2 0 w _ HG.out HX18.out.rd HB18.out rfl).mono ?_
 rintro e w19 ⟨rfl, hi, hb, hk⟩
 refine ⟨_, rfl, ?_⟩
 have HQ_ := Aside0.mk (KeepQ.of_but hk HX18.out.rd.1)
 have HX19 := Aside0.mk (HX18.out.but hk hi (by decide))
 have HB19 := Aside0.mk hb
 have HL19 := Aside0.mk (HL18.out.keepQ HQ_.out)
 have HR19 := Aside0.mk (HQ_.out.keep _ _ _ HR18.out (by decide) (by decide))
 clear hi hb hk
 refine hK.out _ _ ⟨(blk_cell HX19.out.box 0).trans rfl, (blk_cell HX19.out.box 1).trans rfl, (HL19.out.cell12), (blk_cell HR19.out 5).trans rfl⟩ (fun hHeld => ?_)
 clear hK K
 refine norm_ (a' := ?_) ?_ ?_
 rotate_left
 ·show Act.put _ (some 84) _ = _
  simp only [Act.put, Z1, Z2, Z3, i64_w, i32_w]
  rfl
 refine P1 11 85 ?_ (Bz 24 0xfff) ?_ ?_ ?_ ?_
 rotate_left
 ·intro w'
  go_simp
  with_reducible rfl
 rotate_left
 ·simp only [Act.put, Z1, Z2, Z3, i64_w, i32_w]
  rfl
 refine P1 12 86 ?_ (Bz 24 0x1fff) ?_ ?_ ?_ ?_
 rotate_left
 ·intro w'
  go_simp
  with_reducible rfl
 rotate_left
 ·simp only [Act.put, Z1, Z2, Z3, i64_w, i32_w]
  rfl
 refine P1 13 87 ?_ (Bz 24 0x3fff) ?_ ?_ ?_ ?_
 rotate_left
 ·intro w'
  go_simp
  with_reducible rfl
 rotate_left
 ·simp only [Act.put, Z1, Z2, Z3, i64_w, i32_w]
  rfl
 refine P1 14 88 ?_ (Bz 24 0x7fff) ?_ ?_ ?_ ?_
 rotate_left
 ·intro w'
  go_simp
  with_reducible rfl
 rotate_left
 ·simp only [Act.put, Z1, Z2, Z3, i64_w, i32_w]
  rfl
 refine P1 15 89 ?_ (Bz 24 0xffff) ?_ ?_ ?_ ?_
 rotate_left
 ·intro w'
  go_simp
  with_reducible rfl
 rotate_left
 ·simp only [Act.put, Z1, Z2, Z3, i64_w, i32_w]
  rfl
 refine P1 16 90 ?_ (Bz 24 0x1ffff) ?_ ?_ ?_ ?_
 rotate_left
 ·intro w'
  go_simp
  with_reducible rfl
 rotate_left
 ·simp only [Act.put, Z1, Z2, Z3, i64_w, i32_w]
  rfl
 refine P1 17 91 ?_ (Bz 24 0x3ffff) ?_ ?_ ?_ ?_
 rotate_left
 ·intro w'
  go_simp
  with_reducible rfl
 rotate_left
 ·simp only [Act.put, Z1, Z2, Z3, i64_w, i32_w]
  rfl
 refine P1 19 93 ?_ (Bz 24 0xbffff) ?_ ?_ ?_ ?_
 rotate_left
 ·intro w'
  go_simp
  with_reducible rfl
 rotate_left
 ·simp only [Act.put, Z1, Z2, Z3, i64_w, i32_w]
  rfl
 refine P5 18 92 ?_ (Bz 24 0xfffff) ?_ hHeld ?_ ?_ ?_
 rotate_left
 ·rintro w' ⟨s0, s1, s2, s3⟩
  go_simp
  with_reducible rfl
 rotate_left
 ·simp only [Act.put, Z1, Z2, Z3, i64_w, i32_w]
  rfl
 refine P5 20 94 ?_ (Bz 24 0x1fffff) ?_ hHeld ?_ ?_ ?_
 rotate_left
 ·rintro w' ⟨s0, s1, s2, s3⟩
  go_simp
  with_reducible rfl
 rotate_left
 ·simp only [Act.put, Z1, Z2, Z3, i64_w, i32_w]
  rfl
 refine P1 21 95 ?_ (Bz 24 0x3fffff) ?_ ?_ ?_ ?_
 rotate_left
 ·intro w'
  go_simp
  with_reducible rfl
 rotate_left
 ·simp only [Act.put, Z1, Z2, Z3, i64_w, i32_w]
  rfl
 refine P1 22 96 ?_ (Bz 24 0x7fffff) ?_ ?_ ?_ ?_
 rotate_left
 ·intro w'
  go_simp
  with_reducible rfl
 rotate_left
 ·simp only [Act.put, Z1, Z2, Z3, i64_w, i32_w]
  rfl
 refine P1 23 97 ?_ (Bz 24 0xffffff) ?_ ?_ ?_ ?_
 rotate_left
 ·intro w'
  go_simp
  with_reducible rfl
 rotate_left
 ·simp only [Act.put, Z1, Z2, Z3, i64_w, i32_w]
  rfl
 refine done_ (by kernel_rfl) ?_
 clear r0 r1 c12 y5 hHeld
 clear k3b hmn
 have HTL := Aside0.mk (show TRS w w19 gB gb xb (some p2) from ⟨true, p2, 0, HX19.out, ⟨fun q hq => by injection hq with hq; exact ⟨rfl, hq, rfl⟩, fun hn => by cases hn⟩⟩)
 obtain ⟨n, HN⟩ : ∃ n, Aside0 (x3_.toNat = n) := ⟨_, ⟨rfl⟩⟩
 have HNI := Aside0.mk (show (n : Int) = x3_ by have h1 := HN.out; have h2 := HX3R.out; omega)
 rw [HN.out] at HSP3
 go_wp2
 go_loopw [12, 99] (fun bv iv_ wr => ∃ (j : Nat) (bf p : Int) (acc : List S44), bv = .int .i64 bf ∧ iv_ = .int .i64 (j : Int) ∧ j ≤ n ∧ Aside0 (LI w gB gb xb gl nm pt way iv st sz x1_ x2_ x3_ p2 n j bf p acc wr)) (fun _ iv_ _ => n - (intOf iv_).toNat)
 case atStart => exact ⟨0, 0, p2, [], rfl, by simp, Nat.zero_le _, ⟨⟨HTL.out, HL19.out, HB19.out, by rw [Nat.sub_zero]; cases loopS xb x1_ x2_ x3_ n 0 0 p2 <;> rfl, rfl⟩⟩⟩
 case round =>
  obtain ⟨j, bf, p, acc, hb1, hb2, hj, HI⟩ := hrel
  subst hb1 hb2
  by_cases hlt : j < n
  ·have hl1 : decide ((j : Int) < x3_) = true := decide_eq_true (by have := HNI.out; omega)
   have HLT := Aside0.mk hlt
   have r0 := HI.out.trs.cell
   clear hlt hj
   go_wp2_with (first | (go_at_call 32; (with_reducible refine (tlist_calls w gB gb xb 5 (some p) _ HG.out HZXB.out HI.out.trs HI.out.bel).mono ?_); rintro e b1 ⟨rfl, ht, hb, hk⟩; have HT1 := Aside0.mk ht; have HB1 := Aside0.mk hb; have HK1 := Aside0.mk hk; clear ht hb hk) | (go_at_call 36; (with_reducible refine (tnum_calls w gB gb xb 6311433599 (lstO xb 5 (some p)) _ HG.out HZXB.out (by decide) HT1.out HB1.out).mono ?_); rintro e b2 ⟨y0_, rfl, ht, hv, hr, hb, hk⟩; have HY0 := Aside0.mk hv; have HY0R := Aside0.mk hr; have HT2 := Aside0.mk ht; have HB2 := Aside0.mk hb; have HK2 := Aside0.mk (HK1.out.trans hk); clear ht hv hr hb hk) | (go_at_call 36; (with_reducible refine (tnum_calls w gB gb xb 6311433599 ((o1R xb (some p)).map Prod.snd) _ HG.out HZXB.out (by decide) HT2.out HB2.out).mono ?_); rintro e b3 ⟨y1_, rfl, ht, hv, hr, hb, hk⟩; have HY1 := Aside0.mk hv; have HY1R := Aside0.mk hr; have HT3 := Aside0.mk ht; have HB3 := Aside0.mk hb; have HL3 := Aside0.mk (HI.out.log.keepQ (HK2.out.trans hk)); clear ht hv hr hb hk) | ((with_reducible refine gate_dst (N := 14) rfl ?_); refine box_event ?hg (N := 14) ?hd (cs := #[.int .i64 0, .int .i64 0, .int .i64 0, .int .i64 0, .int .i64 0, .int .i64 0]) (t := 44) ?hr ?_; (case hd => rfl); (case hg => rfl); (case hr => first | (go_simp; done) | (go_simp; rfl)); intro gx hgz b3a hbox hb; have HXa := Aside0.mk hbox; have HBa := Aside0.mk hb; have HG3 := Aside0.mk (show b3.heap.size ≤ gx by rw [hgz]; exact Nat.le_refl _); have HGX := Aside0.mk (Nat.le_trans HB3.out.size HG3.out); clear hb hbox hgz) | (refine wpList_store_row rfl 44 (.tmp 14) (.tmp _) rfl gx #[.int .i64 y0_, .int .i64 y1_, .int .i64 0, .int .i64 0, .int .i64 0, .int .i64 0] rfl rfl 44 #[.int .i64 0, .int .i64 0, .int .i64 0, .int .i64 0, .int .i64 0, .int .i64 0] HXa.out (by kernel_rfl) rfl (by simp [Value.oneCell']) ?_; have HX4 := Aside0.mk (setRow_heap _ _ _ #[.int .i64 y0_, .int .i64 y1_, .int .i64 0, .int .i64 0, .int .i64 0, .int .i64 0] _ _ HXa.out); have hb4 := below_setRow HBa.out HG3.out #[.int .i64 y0_, .int .i64 y1_, .int .i64 0, .int .i64 0, .int .i64 0, .int .i64 0]; have HT4 := Aside0.mk (HT3.out.below hb4); have HB4 := Aside0.mk (below_step HB3.out hb4); have HK4 := Aside0.mk (KeepQ.of_below hb4); clear hb4; generalize b3a.setRow gx #[.int .i64 y0_, .int .i64 y1_, .int .i64 0, .int .i64 0, .int .i64 0, .int .i64 0] = b4 at HX4 HT4 HB4 HK4 ⊢; skip) | (go_at_call 36; (with_reducible refine (tnum_calls w gB gb xb 3 ((o2R xb (some p)).map Prod.snd) _ HG.out HZXB.out (by decide) HT4.out HB4.out).mono ?_); rintro e b5 ⟨y2_, rfl, ht, hv, hr, hb, hk⟩; have HY2 := Aside0.mk hv; have HY2R := Aside0.mk hr; have HXp5 := Aside0.mk (hk.keep _ _ _ HX4.out (by decide) (by decide)); have HT5 := Aside0.mk (ht.far HXp5.out (by decide) (by decide) 2 (.int .i64 y2_)); have HB5 := Aside0.mk (hb.setCell (p := ⟨gx, 2, none⟩) HGX.out (.int .i64 y2_)); have HK5 := Aside0.mk ((HK4.out.trans hk).setNew HG3.out 2 (.int .i64 y2_)); have HX5 := Aside0.mk (blk_put HXp5.out 2 (.int .i64 y2_) rfl); have fx2 := blk_frozen HXp5.out 2; have cx2 := (blk_cell HXp5.out 2).trans rfl; have r0 := HT5.out.cell; clear ht hv hr hb hk) | (go_at_call 39; (with_reducible refine (rs_calls w gB gb xb ((o3R xb (some p)).map Prod.snd) _ HG.out HZXB.out HT5.out HB5.out).mono ?_); rintro e b6 ⟨y3_, rfl, ht, hv, hb, hk⟩; have HY3 := Aside0.mk hv; clear r0 fx2 cx2; have HXp6 := Aside0.mk (hk.keep _ _ _ HX5.out (by decide) (by decide)); have HT6 := Aside0.mk (ht.far HXp6.out (by decide) (by decide) 3 (.int .i64 y3_)); have HB6 := Aside0.mk (hb.setCell (p := ⟨gx, 3, none⟩) HGX.out (.int .i64 y3_)); have HK6 := Aside0.mk ((HK5.out.trans hk).setNew HG3.out 3 (.int .i64 y3_)); have HX6 := Aside0.mk (blk_put HXp6.out 3 (.int .i64 y3_) rfl); have fx3 := blk_frozen HXp6.out 3; have cx3 := (blk_cell HXp6.out 3).trans rfl;  clear ht hv hb hk) | (go_at_call 36; (with_reducible refine (tnum_calls w gB gb xb 15 ((o4R xb (some p)).map Prod.snd) _ HG.out HZXB.out (by decide) HT6.out HB6.out).mono ?_); rintro e b7 ⟨y4_, rfl, ht, hv, hr, hb, hk⟩; have HY4 := Aside0.mk hv; have HY4R := Aside0.mk hr; clear fx3 cx3; have HXp7 := Aside0.mk (hk.keep _ _ _ HX6.out (by decide) (by decide)); have HT7 := Aside0.mk (ht.far HXp7.out (by decide) (by decide) 4 (.int .i64 y4_)); have HB7 := Aside0.mk (hb.setCell (p := ⟨gx, 4, none⟩) HGX.out (.int .i64 y4_)); have HK7 := Aside0.mk ((HK6.out.trans hk).setNew HG3.out 4 (.int .i64 y4_)); have HX7 := Aside0.mk (blk_put HXp7.out 4 (.int .i64 y4_) rfl); have fx4 := blk_frozen HXp7.out 4; have cx4 := (blk_cell HXp7.out 4).trans rfl;  clear ht hv hr hb hk))
   clear fx4 cx4
   have HX8 := Aside0.mk (show (b7.setCell ⟨gx, 4, none⟩ (.int .i64 y4_)).heap[gx]? = some (.cells #[.int .i64 y0_, .int .i64 y1_, .int .i64 y2_, .int .i64 y3_, .int .i64 y4_, .int .i64 0] 44 (0, 0)) from HX7.out)
   generalize b7.setCell ⟨gx, 4, none⟩ (.int .i64 y4_) = b8 at HT7 HB7 HK7 HX8 ⊢
   obtain ⟨ok3, p3, er3, hx3, hst3⟩ := HT7.out
   have HQ8 := Aside0.mk hx3
   have HST3 := Aside0.mk hst3
   have HER3 := Aside0.mk hx3.err
   have HB8 := HB7
   have HK8 := HK7
   clear hx3 hst3 HT1 HT2 HT3 HT4 HT5 HT6 HT7 HB1 HB2 HB3 HB4 HB5 HB6 HB7 HK1 HK2 HK4 HK5 HK6 HK7 HX4 HX5 HX6 HX7 HXp5 HXp6 HXp7 HXa HBa
   have r0 := (blk_cell HQ8.out.box 0).trans rfl
   have r1 := (blk_cell HQ8.out.box 1).trans rfl
   have x0 := (blk_cell HX8.out 0).trans rfl
   have x1 := (blk_cell HX8.out 1).trans rfl
   have c12 := (HL3.out.keepQ HK8.out).cell12
   have c6 := (HL3.out.keepQ HK8.out).cell6
   have HX1R := Aside0.mk (show 0 ≤ x1_ ∧ x1_ ≤ 6311433599 from HVAR.out)
   obtain ⟨num, HNUM⟩ : ∃ num, Aside0 (x1_ - x3_ + 1 + (j : Int) = num) := ⟨_, ⟨rfl⟩⟩
   have hw1 : wrap64 (x1_ - x3_) = x1_ - x3_ := wrap_id (by have := HX1R.out; have := HX3R.out; omega) (by have := HX1R.out; have := HX3R.out; omega)
   have hw2 : wrap64 (x1_ - x3_ + 1) = x1_ - x3_ + 1 := wrap_id (by have := HX1R.out; have := HX3R.out; omega) (by have := HX1R.out; have := HX3R.out; omega)
   have hw3 : wrap64 (x1_ - x3_ + 1 + (j : Int)) = num := by rw [wrap_id (by have := HX1R.out; have := HX3R.out; omega) (by have := HX1R.out; have := HX3R.out; have := HLT.out; have := HNI.out; omega), HNUM.out]
   have HSPJ := Aside0.mk (fun (h : loopS xb x1_ x2_ x3_ (n - j) (j : Int) bf p = none) => (show restS s sz = none by rw [HSP3.out, HI.out.spec, h]; rfl))
   by_cases k1 : ok3 = true
   case neg =>
    have k1b : ok3 = false := Bool.eq_false_iff.mpr k1
    subst k1b
    have HNO := Aside0.mk (HSPJ.out (loop_none HLT.out (fun x q hr => by rw [rec_none (HST3.out.no (fun h => by cases h.1))] at hr; cases hr)))
    clear k1
    have HQ9 := Aside0.mk HQ8.out.drew
    have HX9 := Aside0.mk (blk_drew HX8.out)
    have HB9 := Aside0.mk (below_drew1 HB8.out)
    have HK9 := Aside0.mk HK8.out.drew
    refine start_ (n := 42) (S := fun w' => w'.cell? ⟨gB, 0, none⟩ = some (.pointer (some ⟨gb, 0, none⟩)) ∧ w'.cell? ⟨gB, 1, none⟩ = some (.bool false) ∧ w'.cell? ⟨gx, 0, none⟩ = some (.int .i64 y0_) ∧ w'.cell? ⟨gx, 1, none⟩ = some (.int .i64 y1_) ∧ w'.cell? ⟨gl, 12, none⟩ = some (.int .i64 x1_) ∧ w'.cell? ⟨gl, 6, none⟩ = some (.int .i64 x2_)) (ds := []) #[Yn, Yn, Yn, Yn, Yn, Yn, Yn, Yn, Yn, Yn, Yn, Yn, Yn, Yn, Yn, Yn, Yn, Yn, Yn, Yn, Yn, Yn, Yn, Yn, Yn, Yn, Yn, Yn, Yn, Yn, Yn, Yn, Yn, Yn, Yn, Yn, Yn, Yn, Yn, Yn, Yn, Yn] (by kernel_rfl) rfl rfl ⟨r0, r1, x0, x1, c12, c6⟩ (fun hHeld => ?_)
    generalize b8.drew = b9 at HQ9 HX9 HB9 HK9 hHeld ⊢
    refine P1 0 123 ?_ (Bz 42 0x1) ?_ ?_ ?_ ?_
    rotate_left
    ·intro w'
     go_simp
     with_reducible rfl
    rotate_left
    ·simp only [Act.put, Z1, Z2, Z3, i64_w, i32_w]
     rfl
    refine P1 1 124 ?_ (Bz 42 0x3) ?_ ?_ ?_ ?_
    rotate_left
    ·intro w'
     go_simp
     with_reducible rfl
    rotate_left
    ·simp only [Act.put, Z1, Z2, Z3, i64_w, i32_w]
     rfl
    refine P1 2 125 ?_ (Bz 42 0x7) ?_ ?_ ?_ ?_
    rotate_left
    ·intro w'
     go_simp
     with_reducible rfl
    rotate_left
    ·simp only [Act.put, Z1, Z2, Z3, i64_w, i32_w]
     rfl
    refine P5 3 126 ?_ (Bz 42 0xf) ?_ hHeld ?_ ?_ ?_
    rotate_left
    ·rintro w' ⟨s0, s1, s2, s3, s4, s5⟩
     go_simp
     with_reducible rfl
    rotate_left
    ·simp only [Act.put, Z1, Z2, Z3, i64_w, i32_w]
     rfl
    refine P1 4 127 ?_ (Bz 42 0x1f) ?_ ?_ ?_ ?_
    rotate_left
    ·intro w'
     go_simp
     with_reducible rfl
    rotate_left
    ·simp only [Act.put, Z1, Z2, Z3, i64_w, i32_w]
     rfl
    refine P1 5 128 ?_ (Bz 42 0x3f) ?_ ?_ ?_ ?_
    rotate_left
    ·intro w'
     go_simp
     with_reducible rfl
    rotate_left
    ·simp only [Act.put, Z1, Z2, Z3, i64_w, i32_w]
     rfl
    refine P2 6 129 (Bz 42 0x7f) ?_ ?_ ?_
    rotate_left
    ·simp only [Act.put, Z1, Z2, Z3, i64_w, i32_w]
     rfl
    refine P2 7 130 (Bz 42 0xff) ?_ ?_ ?_
    rotate_left
    ·simp only [Act.put, Z1, Z2, Z3, i64_w, i32_w]
     rfl
    refine P2 8 131 (Bz 42 0x1ff) ?_ ?_ ?_
    rotate_left
    ·simp only [Act.put, Z1, Z2, Z3, i64_w, i32_w]
     rfl
    refine P2 9 132 (Bz 42 0x3ff) ?_ ?_ ?_
    rotate_left
    ·simp only [Act.put, Z1, Z2, Z3, i64_w, i32_w]
     rfl
    refine P2 10 133 (Bz 42 0x7ff) ?_ ?_ ?_
    rotate_left
    ·simp only [Act.put, Z1, Z2, Z3, i64_w, i32_w]
     rfl
    refine P2 11 134 (Bz 42 0xfff) ?_ ?_ ?_
    rotate_left
    ·simp only [Act.put, Z1, Z2, Z3, i64_w, i32_w]
     rfl
    refine P1 12 135 ?_ (Bz 42 0x1fff) ?_ ?_ ?_ ?_
    rotate_left
    ·intro w'
     go_simp
     with_reducible rfl
    rotate_left
    ·simp only [Act.put, Z1, Z2, Z3, i64_w, i32_w]
     rfl
    refine P1 13 136 ?_ (Bz 42 0x3fff) ?_ ?_ ?_ ?_
    rotate_left
    ·intro w'
     go_simp
     with_reducible rfl
    rotate_left
    ·simp only [Act.put, Z1, Z2, Z3, i64_w, i32_w]
     rfl
    refine P2 14 137 (Bz 42 0x7fff) ?_ ?_ ?_
    rotate_left
    ·simp only [Act.put, Z1, Z2, Z3, i64_w, i32_w]
     rfl
    refine P2 15 138 (Bz 42 0xffff) ?_ ?_ ?_
    rotate_left
    ·simp only [Act.put, Z1, Z2, Z3, i64_w, i32_w]
     rfl
    refine P2 16 139 (Bz 42 0x1ffff) ?_ ?_ ?_
    rotate_left
    ·simp only [Act.put, Z1, Z2, Z3, i64_w, i32_w]
     rfl
    refine P2 17 140 (Bz 42 0x3ffff) ?_ ?_ ?_
    rotate_left
    ·simp only [Act.put, Z1, Z2, Z3, i64_w, i32_w]
     rfl
    refine P2 18 141 (Bz 42 0x7ffff) ?_ ?_ ?_
    rotate_left
    ·simp only [Act.put, Z1, Z2, Z3, i64_w, i32_w]
     rfl
    refine P2 19 142 (Bz 42 0xfffff) ?_ ?_ ?_
    rotate_left
    ·simp only [Act.put, Z1, Z2, Z3, i64_w, i32_w]
     rfl
    refine P2 20 143 (Bz 42 0x1fffff) ?_ ?_ ?_
    rotate_left
    ·simp only [Act.put, Z1, Z2, Z3, i64_w, i32_w]
     rfl
    refine P2 21 144 (Bz 42 0x3fffff) ?_ ?_ ?_
    rotate_left
    ·simp only [Act.put, Z1, Z2, Z3, i64_w, i32_w]
     rfl
    refine P2 22 145 (Bz 42 0x7fffff) ?_ ?_ ?_
    rotate_left
    ·simp only [Act.put, Z1, Z2, Z3, i64_w, i32_w]
     rfl
    refine P2 23 146 (Bz 42 0xffffff) ?_ ?_ ?_
    rotate_left
    ·simp only [Act.put, Z1, Z2, Z3, i64_w, i32_w]
     rfl
    refine P2 24 147 (Bz 42 0x1ffffff) ?_ ?_ ?_
    rotate_left
    ·simp only [Act.put, Z1, Z2, Z3, i64_w, i32_w]
     rfl
    refine P2 25 148 (Bz 42 0x3ffffff) ?_ ?_ ?_
    rotate_left
    ·simp only [Act.put, Z1, Z2, Z3, i64_w, i32_w]
     rfl
    refine P1 26 149 ?_ (Bz 42 0x7ffffff) ?_ ?_ ?_ ?_
    rotate_left
    ·intro w'
     go_simp
     with_reducible rfl
    rotate_left
    ·simp only [Act.put, Z1, Z2, Z3, i64_w, i32_w]
     rfl
    refine P1 27 150 ?_ (Bz 42 0xfffffff) ?_ ?_ ?_ ?_
    rotate_left
    ·intro w'
     go_simp
     with_reducible rfl
    rotate_left
    ·simp only [Act.put, Z1, Z2, Z3, i64_w, i32_w]
     rfl
    refine P2 28 151 (Bz 42 0x1fffffff) ?_ ?_ ?_
    rotate_left
    ·simp only [Act.put, Z1, Z2, Z3, i64_w, i32_w]
     rfl
    refine P2 29 152 (Bz 42 0x3fffffff) ?_ ?_ ?_
    rotate_left
    ·simp only [Act.put, Z1, Z2, Z3, i64_w, i32_w]
     rfl
    refine P2 30 153 (Bz 42 0x7fffffff) ?_ ?_ ?_
    rotate_left
    ·simp only [Act.put, Z1, Z2, Z3, i64_w, i32_w]
     rfl
    refine P2 31 154 (Bz 42 0xffffffff) ?_ ?_ ?_
    rotate_left
    ·simp only [Act.put, Z1, Z2, Z3, i64_w, i32_w]
     rfl
    refine P1 32 155 ?_ (Bz 42 0x1ffffffff) ?_ ?_ ?_ ?_
    rotate_left
    ·intro w'
     go_simp
     with_reducible rfl
    rotate_left
    ·simp only [Act.put, Z1, Z2, Z3, i64_w, i32_w]
     rfl
    refine P1 33 156 ?_ (Bz 42 0x3ffffffff) ?_ ?_ ?_ ?_
    rotate_left
    ·intro w'
     go_simp
     with_reducible rfl
    rotate_left
    ·simp only [Act.put, Z1, Z2, Z3, i64_w, i32_w]
     rfl
    refine P2 34 157 (Bz 42 0x7ffffffff) ?_ ?_ ?_
    rotate_left
    ·simp only [Act.put, Z1, Z2, Z3, i64_w, i32_w]
     rfl
    refine P2 35 158 (Bz 42 0xfffffffff) ?_ ?_ ?_
    rotate_left
    ·simp only [Act.put, Z1, Z2, Z3, i64_w, i32_w]
     rfl
    refine P2 36 159 (Bz 42 0x1fffffffff) ?_ ?_ ?_
    rotate_left
    ·simp only [Act.put, Z1, Z2, Z3, i64_w, i32_w]
     rfl
    refine P2 37 160 (Bz 42 0x3fffffffff) ?_ ?_ ?_
    rotate_left
    ·simp only [Act.put, Z1, Z2, Z3, i64_w, i32_w]
     rfl
    refine P2 38 161 (Bz 42 0x7fffffffff) ?_ ?_ ?_
    rotate_left
    ·simp only [Act.put, Z1, Z2, Z3, i64_w, i32_w]
     rfl
    refine P2 39 162 (Bz 42 0xffffffffff) ?_ ?_ ?_
    rotate_left
    ·simp only [Act.put, Z1, Z2, Z3, i64_w, i32_w]
     rfl
    refine P2 40 163 (Bz 42 0x1ffffffffff) ?_ ?_ ?_
    rotate_left
    ·simp only [Act.put, Z1, Z2, Z3, i64_w, i32_w]
     rfl
    refine P1 41 164 ?_ (Bz 42 0x3ffffffffff) ?_ ?_ ?_ ?_
    rotate_left
    ·intro w'
     go_simp
     with_reducible rfl
    rotate_left
    ·simp only [Act.put, Z1, Z2, Z3, i64_w, i32_w]
     rfl
    refine done_ (by kernel_rfl) ?_
    clear r0 r1 x0 x1 c12 c6 hHeld
    go_wp2
    go_ret2
    exact RestPost.none' HNO.out HB9.out
   subst k1
   by_cases k2 : er3 = 0
   case neg =>
    have k2b : er3 = 2 := HER3.out.resolve_left k2
    subst k2b
    have HNO := Aside0.mk (HSPJ.out (loop_none HLT.out (fun x q hr => by rw [rec_none (HST3.out.no (fun h => k2 h.2))] at hr; cases hr)))
    clear k2
    have HQ9 := Aside0.mk HQ8.out.drew
    have HX9 := Aside0.mk (blk_drew HX8.out)
    have HB9 := Aside0.mk (below_drew1 HB8.out)
    have HK9 := Aside0.mk HK8.out.drew
    refine start_ (n := 42) (S := fun w' => w'.cell? ⟨gB, 0, none⟩ = some (.pointer (some ⟨gb, 0, none⟩)) ∧ w'.cell? ⟨gB, 1, none⟩ = some (.bool true) ∧ w'.cell? ⟨gx, 0, none⟩ = some (.int .i64 y0_) ∧ w'.cell? ⟨gx, 1, none⟩ = some (.int .i64 y1_) ∧ w'.cell? ⟨gl, 12, none⟩ = some (.int .i64 x1_) ∧ w'.cell? ⟨gl, 6, none⟩ = some (.int .i64 x2_)) (ds := []) #[Yn, Yn, Yn, Yn, Yn, Yn, Yn, Yn, Yn, Yn, Yn, Yn, Yn, Yn, Yn, Yn, Yn, Yn, Yn, Yn, Yn, Yn, Yn, Yn, Yn, Yn, Yn, Yn, Yn, Yn, Yn, Yn, Yn, Yn, Yn, Yn, Yn, Yn, Yn, Yn, Yn, Yn] (by kernel_rfl) rfl rfl ⟨r0, r1, x0, x1, c12, c6⟩ (fun hHeld => ?_)
    generalize b8.drew = b9 at HQ9 HX9 HB9 HK9 hHeld ⊢
    refine P1 0 123 ?_ (Bz 42 0x1) ?_ ?_ ?_ ?_
    rotate_left
    ·intro w'
     go_simp
     with_reducible rfl
    rotate_left
    ·simp only [Act.put, Z1, Z2, Z3, i64_w, i32_w]
     rfl
    refine P1 1 124 ?_ (Bz 42 0x3) ?_ ?_ ?_ ?_
    rotate_left
    ·intro w'
     go_simp
     with_reducible rfl
    rotate_left
    ·simp only [Act.put, Z1, Z2, Z3, i64_w, i32_w]
     rfl
    refine P1 2 125 ?_ (Bz 42 0x7) ?_ ?_ ?_ ?_
    rotate_left
    ·intro w'
     go_simp
     with_reducible rfl
    rotate_left
    ·simp only [Act.put, Z1, Z2, Z3, i64_w, i32_w]
     rfl
    refine P5 3 126 ?_ (Bz 42 0xf) ?_ hHeld ?_ ?_ ?_
    rotate_left
    ·rintro w' ⟨s0, s1, s2, s3, s4, s5⟩
     go_simp
     with_reducible rfl
    rotate_left
    ·simp only [Act.put, Z1, Z2, Z3, i64_w, i32_w]
     rfl
    refine P1 4 127 ?_ (Bz 42 0x1f) ?_ ?_ ?_ ?_
    rotate_left
    ·intro w'
     go_simp
     with_reducible rfl
    rotate_left
    ·simp only [Act.put, Z1, Z2, Z3, i64_w, i32_w]
     rfl
    refine P1 5 128 ?_ (Bz 42 0x3f) ?_ ?_ ?_ ?_
    rotate_left
    ·intro w'
     go_simp
     with_reducible rfl
    rotate_left
    ·simp only [Act.put, Z1, Z2, Z3, i64_w, i32_w]
     rfl
    refine P1 6 129 ?_ (Bz 42 0x7f) ?_ ?_ ?_ ?_
    rotate_left
    ·intro w'
     go_simp
     with_reducible rfl
    rotate_left
    ·simp only [Act.put, Z1, Z2, Z3, i64_w, i32_w]
     rfl
    refine P1 7 130 ?_ (Bz 42 0xff) ?_ ?_ ?_ ?_
    rotate_left
    ·intro w'
     go_simp
     with_reducible rfl
    rotate_left
    ·simp only [Act.put, Z1, Z2, Z3, i64_w, i32_w]
     rfl
    refine P1 8 131 ?_ (Bz 42 0x1ff) ?_ ?_ ?_ ?_
    rotate_left
    ·intro w'
     go_simp
     with_reducible rfl
    rotate_left
    ·simp only [Act.put, Z1, Z2, Z3, i64_w, i32_w]
     rfl
    refine P5 9 132 ?_ (Bz 42 0x3ff) ?_ hHeld ?_ ?_ ?_
    rotate_left
    ·rintro w' ⟨s0, s1, s2, s3, s4, s5⟩
     go_simp
     with_reducible rfl
    rotate_left
    ·simp only [Act.put, Z1, Z2, Z3, i64_w, i32_w]
     rfl
    refine one_ (i := 10) (N := some 133) #[Y, Y, Y, Y, Y, Y, Y, Y, Y, Y, Y, Yn, Yn, Yn, Yn, Yn, Yn, Yn, Yn, Yn, Yn, Yn, Yn, Yn, Yn, Yn, Yn, Yn, Yn, Yn, Yn, Yn, Yn, Yn, Yn, Yn, Yn, Yn, Yn, Yn, Yn, Yn] rfl rfl (by kernel_rfl) (by decide) (fun K hK => ?_)
    refine goes_ Tryd.func38 (by kernel_rfl) rfl #[.pointer (some ⟨gb, 0, none⟩)] (by rfl) rfl rfl (by simp only [List.map_toArray, List.map_cons, List.map_nil]; rfl) ?_
    with_reducible refine (codec_Reader_Err.calls gb xb p3 2 2 xb p3 2 w _ HG.out HQ9.out.rd HB9.out rfl).mono ?_
    rintro e b10 ⟨rfl, hi, hb, hk⟩
    refine ⟨_, rfl, ?_⟩
    have hkq := KeepQ.of_but hk HQ9.out.rd.1
    have HQ10 := Aside0.mk (HQ9.out.but hk hi (by decide))
    have HB10 := Aside0.mk hb
    have HX10 := Aside0.mk (hkq.keep _ _ _ HX9.out (by decide) (by decide))
    have HK10 := Aside0.mk (HK9.out.trans hkq)
    clear hi hb hk hkq
    refine hK.out _ _ ⟨(blk_cell HQ10.out.box 0).trans rfl, (blk_cell HQ10.out.box 1).trans rfl, (blk_cell HX10.out 0).trans rfl, (blk_cell HX10.out 1).trans rfl, (HL3.out.keepQ HK10.out).cell12, (HL3.out.keepQ HK10.out).cell6⟩ (fun hHeld => ?_)
    clear hK K
    refine norm_ (a' := ?_) ?_ ?_
    rotate_left
    ·show Act.put _ (some 133) _ = _
     simp only [Act.put, Z1, Z2, Z3, i64_w, i32_w]
     rfl
    refine P1 11 134 ?_ (Bz 42 0xfff) ?_ ?_ ?_ ?_
    rotate_left
    ·intro w'
     go_simp
     with_reducible rfl
    rotate_left
    ·simp only [Act.put, Z1, Z2, Z3, i64_w, i32_w]
     rfl
    refine P1 12 135 ?_ (Bz 42 0x1fff) ?_ ?_ ?_ ?_
    rotate_left
    ·intro w'
     go_simp
     with_reducible rfl
    rotate_left
    ·simp only [Act.put, Z1, Z2, Z3, i64_w, i32_w]
     rfl
    refine P1 13 136 ?_ (Bz 42 0x3fff) ?_ ?_ ?_ ?_
    rotate_left
    ·intro w'
     go_simp
     with_reducible rfl
    rotate_left
    ·simp only [Act.put, Z1, Z2, Z3, i64_w, i32_w]
     rfl
    refine P2 14 137 (Bz 42 0x7fff) ?_ ?_ ?_
    rotate_left
    ·simp only [Act.put, Z1, Z2, Z3, i64_w, i32_w]
     rfl
    refine P2 15 138 (Bz 42 0xffff) ?_ ?_ ?_
    rotate_left
    ·simp only [Act.put, Z1, Z2, Z3, i64_w, i32_w]
     rfl
    refine P2 16 139 (Bz 42 0x1ffff) ?_ ?_ ?_
    rotate_left
    ·simp only [Act.put, Z1, Z2, Z3, i64_w, i32_w]
     rfl
    refine P2 17 140 (Bz 42 0x3ffff) ?_ ?_ ?_
    rotate_left
    ·simp only [Act.put, Z1, Z2, Z3, i64_w, i32_w]
     rfl
    refine P2 18 141 (Bz 42 0x7ffff) ?_ ?_ ?_
    rotate_left
    ·simp only [Act.put, Z1, Z2, Z3, i64_w, i32_w]
     rfl
    refine P2 19 142 (Bz 42 0xfffff) ?_ ?_ ?_
    rotate_left
    ·simp only [Act.put, Z1, Z2, Z3, i64_w, i32_w]
     rfl
    refine P2 20 143 (Bz 42 0x1fffff) ?_ ?_ ?_
    rotate_left
    ·simp only [Act.put, Z1, Z2, Z3, i64_w, i32_w]
     rfl
    refine P2 21 144 (Bz 42 0x3fffff) ?_ ?_ ?_
    rotate_left
    ·simp only [Act.put, Z1, Z2, Z3, i64_w, i32_w]
     rfl
    refine P2 22 145 (Bz 42 0x7fffff) ?_ ?_ ?_
    rotate_left
    ·simp only [Act.put, Z1, Z2, Z3, i64_w, i32_w]
     rfl
    refine P2 23 146 (Bz 42 0xffffff) ?_ ?_ ?_
    rotate_left
    ·simp only [Act.put, Z1, Z2, Z3, i64_w, i32_w]
     rfl
    refine P2 24 147 (Bz 42 0x1ffffff) ?_ ?_ ?_
    rotate_left
    ·simp only [Act.put, Z1, Z2, Z3, i64_w, i32_w]
     rfl
    refine P2 25 148 (Bz 42 0x3ffffff) ?_ ?_ ?_
    rotate_left
    ·simp only [Act.put, Z1, Z2, Z3, i64_w, i32_w]
     rfl
    refine P1 26 149 ?_ (Bz 42 0x7ffffff) ?_ ?_ ?_ ?_
    rotate_left
    ·intro w'
     go_simp
     with_reducible rfl
    rotate_left
    ·simp only [Act.put, Z1, Z2, Z3, i64_w, i32_w]
     rfl
    refine P1 27 150 ?_ (Bz 42 0xfffffff) ?_ ?_ ?_ ?_
    rotate_left
    ·intro w'
     go_simp
     with_reducible rfl
    rotate_left
    ·simp only [Act.put, Z1, Z2, Z3, i64_w, i32_w]
     rfl
    refine P2 28 151 (Bz 42 0x1fffffff) ?_ ?_ ?_
    rotate_left
    ·simp only [Act.put, Z1, Z2, Z3, i64_w, i32_w]
     rfl
    refine P2 29 152 (Bz 42 0x3fffffff) ?_ ?_ ?_
    rotate_left
    ·simp only [Act.put, Z1, Z2, Z3, i64_w, i32_w]
     rfl
    refine P2 30 153 (Bz 42 0x7fffffff) ?_ ?_ ?_
    rotate_left
    ·simp only [Act.put, Z1, Z2, Z3, i64_w, i32_w]
     rfl
    refine P2 31 154 (Bz 42 0xffffffff) ?_ ?_ ?_
    rotate_left
    ·simp only [Act.put, Z1, Z2, Z3, i64_w, i32_w]
     rfl
    refine P1 32 155 ?_ (Bz 42 0x1ffffffff) ?_ ?_ ?_ ?_
    rotate_left
    ·intro w'
     go_simp
     with_reducible rfl
    rotate_left
    ·simp only [Act.put, Z1, Z2, Z3, i64_w, i32_w]
     rfl
    refine P1 33 156 ?_ (Bz 42 0x3ffffffff) ?_ ?_ ?_ ?_
    rotate_left
    ·intro w'
     go_simp
     with_reducible rfl
    rotate_left
    ·simp only [Act.put, Z1, Z2, Z3, i64_w, i32_w]
     rfl
    refine P2 34 157 (Bz 42 0x7ffffffff) ?_ ?_ ?_
    rotate_left
    ·simp only [Act.put, Z1, Z2, Z3, i64_w, i32_w]
     rfl
    refine P2 35 158 (Bz 42 0xfffffffff) ?_ ?_ ?_
    rotate_left
    ·simp only [Act.put, Z1, Z2, Z3, i64_w, i32_w]
     rfl
    refine P2 36 159 (Bz 42 0x1fffffffff) ?_ ?_ ?_
    rotate_left
    ·simp only [Act.put, Z1, Z2, Z3, i64_w, i32_w]
     rfl
    refine P2 37 160 (Bz 42 0x3fffffffff) ?_ ?_ ?_
    rotate_left
    ·simp only [Act.put, Z1, Z2, Z3, i64_w, i32_w]
     rfl
    refine P2 38 161 (Bz 42 0x7fffffffff) ?_ ?_ ?_
    rotate_left
    ·simp only [Act.put, Z1, Z2, Z3, i64_w, i32_w]
     rfl
    refine P2 39 162 (Bz 42 0xffffffffff) ?_ ?_ ?_
    rotate_left
    ·simp only [Act.put, Z1, Z2, Z3, i64_w, i32_w]
     rfl
    refine P2 40 163 (Bz 42 0x1ffffffffff) ?_ ?_ ?_
    rotate_left
    ·simp only [Act.put, Z1, Z2, Z3, i64_w, i32_w]
     rfl
    refine P1 41 164 ?_ (Bz 42 0x3ffffffffff) ?_ ?_ ?_ ?_
    rotate_left
    ·intro w'
     go_simp
     with_reducible rfl
    rotate_left
    ·simp only [Act.put, Z1, Z2, Z3, i64_w, i32_w]
     rfl
    refine done_ (by kernel_rfl) ?_
    clear r0 r1 x0 x1 c12 c6 hHeld
    go_wp2
    go_ret2
    exact RestPost.none' HNO.out HB10.out
   subst k2
   have HREC := Aside0.mk (rec_some HST3.out.yes HY0.out HY1.out HY2.out HY3.out HY4.out)
   by_cases k3 : y0_ = num
   case neg =>
    have k3b : (y0_ != num) = true := bne_iff_ne.mpr k3
    have HNO := Aside0.mk (HSPJ.out (loop_none HLT.out (fun x q hr => by rw [HREC.out] at hr; injection hr with hr; injection hr with hr1 hr2; subst hr1; exact fun hc => k3 (by rw [← HNUM.out]; exact hc.1))))
    clear k3
    have HQ9 := Aside0.mk HQ8.out.drew
    have HX9 := Aside0.mk (blk_drew HX8.out)
    have HB9 := Aside0.mk (below_drew1 HB8.out)
    have HK9 := Aside0.mk HK8.out.drew
    refine start_ (n := 42) (S := fun w' => w'.cell? ⟨gB, 0, none⟩ = some (.pointer (some ⟨gb, 0, none⟩)) ∧ w'.cell? ⟨gB, 1, none⟩ = some (.bool true) ∧ w'.cell? ⟨gx, 0, none⟩ = some (.int .i64 y0_) ∧ w'.cell? ⟨gx, 1, none⟩ = some (.int .i64 y1_) ∧ w'.cell? ⟨gl, 12, none⟩ = some (.int .i64 x1_) ∧ w'.cell? ⟨gl, 6, none⟩ = some (.int .i64 x2_)) (ds := []) #[Yn, Yn, Yn, Yn, Yn, Yn, Yn, Yn, Yn, Yn, Yn, Yn, Yn, Yn, Yn, Yn, Yn, Yn, Yn, Yn, Yn, Yn, Yn, Yn, Yn, Yn, Yn, Yn, Yn, Yn, Yn, Yn, Yn, Yn, Yn, Yn, Yn, Yn, Yn, Yn, Yn, Yn] (by kernel_rfl) rfl rfl ⟨r0, r1, x0, x1, c12, c6⟩ (fun hHeld => ?_)
    generalize b8.drew = b9 at HQ9 HX9 HB9 HK9 hHeld ⊢
    refine P1 0 123 ?_ (Bz 42 0x1) ?_ ?_ ?_ ?_
    rotate_left
    ·intro w'
     go_simp
     with_reducible rfl
    rotate_left
    ·simp only [Act.put, Z1, Z2, Z3, i64_w, i32_w]
     rfl
    refine P1 1 124 ?_ (Bz 42 0x3) ?_ ?_ ?_ ?_
    rotate_left
    ·intro w'
     go_simp
     with_reducible rfl
    rotate_left
    ·simp only [Act.put, Z1, Z2, Z3, i64_w, i32_w]
     rfl
    refine P1 2 125 ?_ (Bz 42 0x7) ?_ ?_ ?_ ?_
    rotate_left
    ·intro w'
     go_simp
     with_reducible rfl
    rotate_left
    ·simp only [Act.put, Z1, Z2, Z3, i64_w, i32_w]
     rfl
    refine P5 3 126 ?_ (Bz 42 0xf) ?_ hHeld ?_ ?_ ?_
    rotate_left
    ·rintro w' ⟨s0, s1, s2, s3, s4, s5⟩
     go_simp
     with_reducible rfl
    rotate_left
    ·simp only [Act.put, Z1, Z2, Z3, i64_w, i32_w]
     rfl
    refine P1 4 127 ?_ (Bz 42 0x1f) ?_ ?_ ?_ ?_
    rotate_left
    ·intro w'
     go_simp
     with_reducible rfl
    rotate_left
    ·simp only [Act.put, Z1, Z2, Z3, i64_w, i32_w]
     rfl
    refine P1 5 128 ?_ (Bz 42 0x3f) ?_ ?_ ?_ ?_
    rotate_left
    ·intro w'
     go_simp
     with_reducible rfl
    rotate_left
    ·simp only [Act.put, Z1, Z2, Z3, i64_w, i32_w]
     rfl
    refine P1 6 129 ?_ (Bz 42 0x7f) ?_ ?_ ?_ ?_
    rotate_left
    ·intro w'
     go_simp
     with_reducible rfl
    rotate_left
    ·simp only [Act.put, Z1, Z2, Z3, i64_w, i32_w]
     rfl
    refine P1 7 130 ?_ (Bz 42 0xff) ?_ ?_ ?_ ?_
    rotate_left
    ·intro w'
     go_simp
     with_reducible rfl
    rotate_left
    ·simp only [Act.put, Z1, Z2, Z3, i64_w, i32_w]
     rfl
    refine P1 8 131 ?_ (Bz 42 0x1ff) ?_ ?_ ?_ ?_
    rotate_left
    ·intro w'
     go_simp
     with_reducible rfl
    rotate_left
    ·simp only [Act.put, Z1, Z2, Z3, i64_w, i32_w]
     rfl
    refine P5 9 132 ?_ (Bz 42 0x3ff) ?_ hHeld ?_ ?_ ?_
    rotate_left
    ·rintro w' ⟨s0, s1, s2, s3, s4, s5⟩
     go_simp
     with_reducible rfl
    rotate_left
    ·simp only [Act.put, Z1, Z2, Z3, i64_w, i32_w]
     rfl
    refine one_ (i := 10) (N := some 133) #[Y, Y, Y, Y, Y, Y, Y, Y, Y, Y, Y, Yn, Yn, Yn, Yn, Yn, Yn, Yn, Yn, Yn, Yn, Yn, Yn, Yn, Yn, Yn, Yn, Yn, Yn, Yn, Yn, Yn, Yn, Yn, Yn, Yn, Yn, Yn, Yn, Yn, Yn, Yn] rfl rfl (by kernel_rfl) (by decide) (fun K hK => ?_)
    refine goes_ Tryd.func38 (by kernel_rfl) rfl #[.pointer (some ⟨gb, 0, none⟩)] (by rfl) rfl rfl (by simp only [List.map_toArray, List.map_cons, List.map_nil]; rfl) ?_
    with_reducible refine (codec_Reader_Err.calls gb xb p3 0 0 xb p3 0 w _ HG.out HQ9.out.rd HB9.out rfl).mono ?_
    rintro e b10 ⟨rfl, hi, hb, hk⟩
    refine ⟨_, rfl, ?_⟩
    have hkq := KeepQ.of_but hk HQ9.out.rd.1
    have HQ10 := Aside0.mk (HQ9.out.but hk hi (by decide))
    have HB10 := Aside0.mk hb
    have HX10 := Aside0.mk (hkq.keep _ _ _ HX9.out (by decide) (by decide))
    have HK10 := Aside0.mk (HK9.out.trans hkq)
    clear hi hb hk hkq
    refine hK.out _ _ ⟨(blk_cell HQ10.out.box 0).trans rfl, (blk_cell HQ10.out.box 1).trans rfl, (blk_cell HX10.out 0).trans rfl, (blk_cell HX10.out 1).trans rfl, (HL3.out.keepQ HK10.out).cell12, (HL3.out.keepQ HK10.out).cell6⟩ (fun hHeld => ?_)
    clear hK K
    refine norm_ (a' := ?_) ?_ ?_
    rotate_left
    ·show Act.put _ (some 133) _ = _
     simp only [Act.put, Z1, Z2, Z3, i64_w, i32_w]
     rfl
    refine P1 11 134 ?_ (Bz 42 0xfff) ?_ ?_ ?_ ?_
    rotate_left
    ·intro w'
     go_simp
     with_reducible rfl
    rotate_left
    ·simp only [Act.put, Z1, Z2, Z3, i64_w, i32_w]
     rfl
    refine P1 12 135 ?_ (Bz 42 0x1fff) ?_ ?_ ?_ ?_
    rotate_left
    ·intro w'
     go_simp
     with_reducible rfl
    rotate_left
    ·simp only [Act.put, Z1, Z2, Z3, i64_w, i32_w]
     rfl
    refine P1 13 136 ?_ (Bz 42 0x3fff) ?_ ?_ ?_ ?_
    rotate_left
    ·intro w'
     go_simp
     with_reducible rfl
    rotate_left
    ·simp only [Act.put, Z1, Z2, Z3, i64_w, i32_w]
     rfl
    refine P1 14 137 ?_ (Bz 42 0x7fff) ?_ ?_ ?_ ?_
    rotate_left
    ·intro w'
     go_simp
     with_reducible rfl
    rotate_left
    ·simp only [Act.put, Z1, Z2, Z3, i64_w, i32_w]
     rfl
    refine P1 16 139 ?_ (Bz 42 0x17fff) ?_ ?_ ?_ ?_
    rotate_left
    ·intro w'
     go_simp
     with_reducible rfl
    rotate_left
    ·simp only [Act.put, Z1, Z2, Z3, i64_w, i32_w]
     rfl
    refine P1 17 140 ?_ (Bz 42 0x37fff) ?_ ?_ ?_ ?_
    rotate_left
    ·intro w'
     go_simp
     with_reducible rfl
    rotate_left
    ·simp only [Act.put, Z1, Z2, Z3, i64_w, i32_w]
     rfl
    refine P1 18 141 ?_ (Bz 42 0x77fff) ?_ ?_ ?_ ?_
    rotate_left
    ·intro w'
     go_simp
     with_reducible rfl
    rotate_left
    ·simp only [Act.put, Z1, Z2, Z3, i64_w, i32_w]
     rfl
    refine P1 20 143 ?_ (Bz 42 0x177fff) ?_ ?_ ?_ ?_
    rotate_left
    ·intro w'
     go_simp
     with_reducible rfl
    rotate_left
    ·simp only [Act.put, Z1, Z2, Z3, i64_w, i32_w]
     rfl
    refine P1 23 146 ?_ (Bz 42 0x977fff) ?_ ?_ ?_ ?_
    rotate_left
    ·intro w'
     go_simp
     with_reducible rfl
    rotate_left
    ·simp only [Act.put, Z1, Z2, Z3, i64_w, i32_w]
     rfl
    refine P5 15 138 ?_ (Bz 42 0x97ffff) ?_ hHeld ?_ ?_ ?_
    rotate_left
    ·rintro w' ⟨s0, s1, s2, s3, s4, s5⟩
     go_simp
     with_reducible rfl
    rotate_left
    ·simp only [Act.put, Z1, Z2, Z3, i64_w, i32_w]
     rfl
    refine P5 19 142 ?_ (Bz 42 0x9fffff) ?_ hHeld ?_ ?_ ?_
    rotate_left
    ·rintro w' ⟨s0, s1, s2, s3, s4, s5⟩
     go_simp
     with_reducible rfl
    rotate_left
    ·simp only [Act.put, Z1, Z2, Z3, i64_w, i32_w]
     rfl
    refine P1 21 144 ?_ (Bz 42 0xbfffff) ?_ ?_ ?_ ?_
    rotate_left
    ·intro w'
     go_simp
     with_reducible rfl
    rotate_left
    ·simp only [Act.put, Z1, Z2, Z3, i64_w, i32_w]
     rfl
    refine P1 22 145 ?_ (Bz 42 0xffffff) ?_ ?_ ?_ ?_
    rotate_left
    ·intro w'
     go_simp
     with_reducible rfl
    rotate_left
    ·simp only [Act.put, Z1, Z2, Z3, i64_w, i32_w]
     rfl
    refine P1 24 147 ?_ (Bz 42 0x1ffffff) ?_ ?_ ?_ ?_
    rotate_left
    ·intro w'
     go_simp
     with_reducible rfl
    rotate_left
    ·simp only [Act.put, Z1, Z2, Z3, i64_w, i32_w]
     rfl
    refine P1 25 148 ?_ (Bz 42 0x3ffffff) ?_ ?_ ?_ ?_
    rotate_left
    ·intro w'
     go_simp
     with_reducible rfl
    rotate_left
    ·simp only [Act.put, Z1, Z2, Z3, i64_w, i32_w]
     rfl
    refine P1 26 149 ?_ (Bz 42 0x7ffffff) ?_ ?_ ?_ ?_
    rotate_left
    ·intro w'
     go_simp
     with_reducible rfl
    rotate_left
    ·simp only [Act.put, Z1, Z2, Z3, i64_w, i32_w]
     rfl
    refine P1 27 150 ?_ (Bz 42 0xfffffff) ?_ ?_ ?_ ?_
    rotate_left
    ·intro w'
     go_simp
     with_reducible rfl
    rotate_left
    ·simp only [Act.put, Z1, Z2, Z3, i64_w, i32_w]
     rfl
    refine P2 28 151 (Bz 42 0x1fffffff) ?_ ?_ ?_
    rotate_left
    ·simp only [Act.put, Z1, Z2, Z3, i64_w, i32_w]
     rfl
    refine P2 29 152 (Bz 42 0x3fffffff) ?_ ?_ ?_
    rotate_left
    ·simp only [Act.put, Z1, Z2, Z3, i64_w, i32_w]
     rfl
    refine P2 30 153 (Bz 42 0x7fffffff) ?_ ?_ ?_
    rotate_left
    ·simp only [Act.put, Z1, Z2, Z3, i64_w, i32_w]
     rfl
    refine P2 31 154 (Bz 42 0xffffffff) ?_ ?_ ?_
    rotate_left
    ·simp only [Act.put, Z1, Z2, Z3, i64_w, i32_w]
     rfl
    refine P1 32 155 ?_ (Bz 42 0x1ffffffff) ?_ ?_ ?_ ?_
    rotate_left
    ·intro w'
     go_simp
     with_reducible rfl
    rotate_left
    ·simp only [Act.put, Z1, Z2, Z3, i64_w, i32_w]
     rfl
    refine P1 33 156 ?_ (Bz 42 0x3ffffffff) ?_ ?_ ?_ ?_
    rotate_left
    ·intro w'
     go_simp
     with_reducible rfl
    rotate_left
    ·simp only [Act.put, Z1, Z2, Z3, i64_w, i32_w]
     rfl
    refine P2 34 157 (Bz 42 0x7ffffffff) ?_ ?_ ?_
    rotate_left
    ·simp only [Act.put, Z1, Z2, Z3, i64_w, i32_w]
     rfl
    refine P2 35 158 (Bz 42 0xfffffffff) ?_ ?_ ?_
    rotate_left
    ·simp only [Act.put, Z1, Z2, Z3, i64_w, i32_w]
     rfl
    refine P2 36 159 (Bz 42 0x1fffffffff) ?_ ?_ ?_
    rotate_left
    ·simp only [Act.put, Z1, Z2, Z3, i64_w, i32_w]
     rfl
    refine P2 37 160 (Bz 42 0x3fffffffff) ?_ ?_ ?_
    rotate_left
    ·simp only [Act.put, Z1, Z2, Z3, i64_w, i32_w]
     rfl
    refine P2 38 161 (Bz 42 0x7fffffffff) ?_ ?_ ?_
    rotate_left
    ·simp only [Act.put, Z1, Z2, Z3, i64_w, i32_w]
     rfl
    refine P2 39 162 (Bz 42 0xffffffffff) ?_ ?_ ?_
    rotate_left
    ·simp only [Act.put, Z1, Z2, Z3, i64_w, i32_w]
     rfl
    refine P2 40 163 (Bz 42 0x1ffffffffff) ?_ ?_ ?_
    rotate_left
    ·simp only [Act.put, Z1, Z2, Z3, i64_w, i32_w]
     rfl
    refine P1 41 164 ?_ (Bz 42 0x3ffffffffff) ?_ ?_ ?_ ?_
    rotate_left
    ·intro w'
     go_simp
     with_reducible rfl
    rotate_left
    ·simp only [Act.put, Z1, Z2, Z3, i64_w, i32_w]
     rfl
    refine done_ (by kernel_rfl) ?_
    clear r0 r1 x0 x1 c12 c6 hHeld
    go_wp2
    go_ret2
    exact RestPost.none' HNO.out HB10.out
   have k3b : (y0_ != num) = false := by rw [k3]; exact bne_self_eq_false _
   by_cases k4 : y1_ < bf
   case neg =>
    have k4b : decide (y1_ < bf) = false := decide_eq_false k4
    by_cases k5 : x2_ < y1_
    case neg =>
     have k5b : decide (x2_ < y1_) = false := decide_eq_false k5
     have HSTEP := Aside0.mk (loop_step (t := x1_) (nw := x2_) (x3 := x3_) (n := n) (bf := bf) HLT.out HREC.out ⟨by rw [HNUM.out]; exact k3, by show bf ≤ y1_; omega, by show y1_ ≤ x2_; omega⟩)
     clear k3 k4 k5
     have HQ9 := Aside0.mk HQ8.out.drew
     have HX9 := Aside0.mk (blk_drew HX8.out)
     have HB9 := Aside0.mk (below_drew1 HB8.out)
     have HK9 := Aside0.mk HK8.out.drew
     refine start_ (n := 42) (S := fun w' => w'.cell? ⟨gB, 0, none⟩ = some (.pointer (some ⟨gb, 0, none⟩)) ∧ w'.cell? ⟨gB, 1, none⟩ = some (.bool true) ∧ w'.cell? ⟨gx, 0, none⟩ = some (.int .i64 y0_) ∧ w'.cell? ⟨gx, 1, none⟩ = some (.int .i64 y1_) ∧ w'.cell? ⟨gl, 12, none⟩ = some (.int .i64 x1_) ∧ w'.cell? ⟨gl, 6, none⟩ = some (.int .i64 x2_)) (ds := []) #[Yn, Yn, Yn, Yn, Yn, Yn, Yn, Yn, Yn, Yn, Yn, Yn, Yn, Yn, Yn, Yn, Yn, Yn, Yn, Yn, Yn, Yn, Yn, Yn, Yn, Yn, Yn, Yn, Yn, Yn, Yn, Yn, Yn, Yn, Yn, Yn, Yn, Yn, Yn, Yn, Yn, Yn] (by kernel_rfl) rfl rfl ⟨r0, r1, x0, x1, c12, c6⟩ (fun hHeld => ?_)
     generalize b8.drew = b9 at HQ9 HX9 HB9 HK9 hHeld ⊢
     refine P1 0 123 ?_ (Bz 42 0x1) ?_ ?_ ?_ ?_
     rotate_left
     ·intro w'
      go_simp
      with_reducible rfl
     rotate_left
     ·simp only [Act.put, Z1, Z2, Z3, i64_w, i32_w]
      rfl
     refine P1 1 124 ?_ (Bz 42 0x3) ?_ ?_ ?_ ?_
     rotate_left
     ·intro w'
      go_simp
      with_reducible rfl
     rotate_left
     ·simp only [Act.put, Z1, Z2, Z3, i64_w, i32_w]
      rfl
     refine P1 2 125 ?_ (Bz 42 0x7) ?_ ?_ ?_ ?_
     rotate_left
     ·intro w'
      go_simp
      with_reducible rfl
     rotate_left
     ·simp only [Act.put, Z1, Z2, Z3, i64_w, i32_w]
      rfl
     refine P5 3 126 ?_ (Bz 42 0xf) ?_ hHeld ?_ ?_ ?_
     rotate_left
     ·rintro w' ⟨s0, s1, s2, s3, s4, s5⟩
      go_simp
      with_reducible rfl
     rotate_left
     ·simp only [Act.put, Z1, Z2, Z3, i64_w, i32_w]
      rfl
     refine P1 4 127 ?_ (Bz 42 0x1f) ?_ ?_ ?_ ?_
     rotate_left
     ·intro w'
      go_simp
      with_reducible rfl
     rotate_left
     ·simp only [Act.put, Z1, Z2, Z3, i64_w, i32_w]
      rfl
     refine P1 5 128 ?_ (Bz 42 0x3f) ?_ ?_ ?_ ?_
     rotate_left
     ·intro w'
      go_simp
      with_reducible rfl
     rotate_left
     ·simp only [Act.put, Z1, Z2, Z3, i64_w, i32_w]
      rfl
     refine P1 6 129 ?_ (Bz 42 0x7f) ?_ ?_ ?_ ?_
     rotate_left
     ·intro w'
      go_simp
      with_reducible rfl
     rotate_left
     ·simp only [Act.put, Z1, Z2, Z3, i64_w, i32_w]
      rfl
     refine P1 7 130 ?_ (Bz 42 0xff) ?_ ?_ ?_ ?_
     rotate_left
     ·intro w'
      go_simp
      with_reducible rfl
     rotate_left
     ·simp only [Act.put, Z1, Z2, Z3, i64_w, i32_w]
      rfl
     refine P1 8 131 ?_ (Bz 42 0x1ff) ?_ ?_ ?_ ?_
     rotate_left
     ·intro w'
      go_simp
      with_reducible rfl
     rotate_left
     ·simp only [Act.put, Z1, Z2, Z3, i64_w, i32_w]
      rfl
     refine P5 9 132 ?_ (Bz 42 0x3ff) ?_ hHeld ?_ ?_ ?_
     rotate_left
     ·rintro w' ⟨s0, s1, s2, s3, s4, s5⟩
      go_simp
      with_reducible rfl
     rotate_left
     ·simp only [Act.put, Z1, Z2, Z3, i64_w, i32_w]
      rfl
     refine one_ (i := 10) (N := some 133) #[Y, Y, Y, Y, Y, Y, Y, Y, Y, Y, Y, Yn, Yn, Yn, Yn, Yn, Yn, Yn, Yn, Yn, Yn, Yn, Yn, Yn, Yn, Yn, Yn, Yn, Yn, Yn, Yn, Yn, Yn, Yn, Yn, Yn, Yn, Yn, Yn, Yn, Yn, Yn] rfl rfl (by kernel_rfl) (by decide) (fun K hK => ?_)
     refine goes_ Tryd.func38 (by kernel_rfl) rfl #[.pointer (some ⟨gb, 0, none⟩)] (by rfl) rfl rfl (by simp only [List.map_toArray, List.map_cons, List.map_nil]; rfl) ?_
     with_reducible refine (codec_Reader_Err.calls gb xb p3 0 0 xb p3 0 w _ HG.out HQ9.out.rd HB9.out rfl).mono ?_
     rintro e b10 ⟨rfl, hi, hb, hk⟩
     refine ⟨_, rfl, ?_⟩
     have hkq := KeepQ.of_but hk HQ9.out.rd.1
     have HQ10 := Aside0.mk (HQ9.out.but hk hi (by decide))
     have HB10 := Aside0.mk hb
     have HX10 := Aside0.mk (hkq.keep _ _ _ HX9.out (by decide) (by decide))
     have HK10 := Aside0.mk (HK9.out.trans hkq)
     clear hi hb hk hkq
     refine hK.out _ _ ⟨(blk_cell HQ10.out.box 0).trans rfl, (blk_cell HQ10.out.box 1).trans rfl, (blk_cell HX10.out 0).trans rfl, (blk_cell HX10.out 1).trans rfl, (HL3.out.keepQ HK10.out).cell12, (HL3.out.keepQ HK10.out).cell6⟩ (fun hHeld => ?_)
     clear hK K
     refine norm_ (a' := ?_) ?_ ?_
     rotate_left
     ·show Act.put _ (some 133) _ = _
      simp only [Act.put, Z1, Z2, Z3, i64_w, i32_w]
      rfl
     refine P1 11 134 ?_ (Bz 42 0xfff) ?_ ?_ ?_ ?_
     rotate_left
     ·intro w'
      go_simp
      with_reducible rfl
     rotate_left
     ·simp only [Act.put, Z1, Z2, Z3, i64_w, i32_w]
      rfl
     refine P1 12 135 ?_ (Bz 42 0x1fff) ?_ ?_ ?_ ?_
     rotate_left
     ·intro w'
      go_simp
      with_reducible rfl
     rotate_left
     ·simp only [Act.put, Z1, Z2, Z3, i64_w, i32_w]
      rfl
     refine P1 13 136 ?_ (Bz 42 0x3fff) ?_ ?_ ?_ ?_
     rotate_left
     ·intro w'
      go_simp
      with_reducible rfl
     rotate_left
     ·simp only [Act.put, Z1, Z2, Z3, i64_w, i32_w]
      rfl
     refine P1 14 137 ?_ (Bz 42 0x7fff) ?_ ?_ ?_ ?_
     rotate_left
     ·intro w'
      go_simp
      with_reducible rfl
     rotate_left
     ·simp only [Act.put, Z1, Z2, Z3, i64_w, i32_w]
      rfl
     refine P1 16 139 ?_ (Bz 42 0x17fff) ?_ ?_ ?_ ?_
     rotate_left
     ·intro w'
      go_simp
      with_reducible rfl
     rotate_left
     ·simp only [Act.put, Z1, Z2, Z3, i64_w, i32_w]
      rfl
     refine P1 17 140 ?_ (Bz 42 0x37fff) ?_ ?_ ?_ ?_
     rotate_left
     ·intro w'
      go_simp
      with_reducible rfl
     rotate_left
     ·simp only [Act.put, Z1, Z2, Z3, i64_w, i32_w]
      rfl
     refine P1 18 141 ?_ (Bz 42 0x77fff) ?_ ?_ ?_ ?_
     rotate_left
     ·intro w'
      go_simp
      with_reducible rfl
     rotate_left
     ·simp only [Act.put, Z1, Z2, Z3, i64_w, i32_w]
      rfl
     refine P1 20 143 ?_ (Bz 42 0x177fff) ?_ ?_ ?_ ?_
     rotate_left
     ·intro w'
      go_simp
      with_reducible rfl
     rotate_left
     ·simp only [Act.put, Z1, Z2, Z3, i64_w, i32_w]
      rfl
     refine P1 23 146 ?_ (Bz 42 0x977fff) ?_ ?_ ?_ ?_
     rotate_left
     ·intro w'
      go_simp
      with_reducible rfl
     rotate_left
     ·simp only [Act.put, Z1, Z2, Z3, i64_w, i32_w]
      rfl
     refine P5 15 138 ?_ (Bz 42 0x97ffff) ?_ hHeld ?_ ?_ ?_
     rotate_left
     ·rintro w' ⟨s0, s1, s2, s3, s4, s5⟩
      go_simp
      with_reducible rfl
     rotate_left
     ·simp only [Act.put, Z1, Z2, Z3, i64_w, i32_w]
      rfl
     refine P5 19 142 ?_ (Bz 42 0x9fffff) ?_ hHeld ?_ ?_ ?_
     rotate_left
     ·rintro w' ⟨s0, s1, s2, s3, s4, s5⟩
      go_simp
      with_reducible rfl
     rotate_left
     ·simp only [Act.put, Z1, Z2, Z3, i64_w, i32_w]
      rfl
     refine P1 21 144 ?_ (Bz 42 0xbfffff) ?_ ?_ ?_ ?_
     rotate_left
     ·intro w'
      go_simp
      with_reducible rfl
     rotate_left
     ·simp only [Act.put, Z1, Z2, Z3, i64_w, i32_w]
      rfl
     refine P1 22 145 ?_ (Bz 42 0xffffff) ?_ ?_ ?_ ?_
     rotate_left
     ·intro w'
      go_simp
      with_reducible rfl
     rotate_left
     ·simp only [Act.put, Z1, Z2, Z3, i64_w, i32_w]
      rfl
     refine P1 24 147 ?_ (Bz 42 0x1ffffff) ?_ ?_ ?_ ?_
     rotate_left
     ·intro w'
      go_simp
      with_reducible rfl
     rotate_left
     ·simp only [Act.put, Z1, Z2, Z3, i64_w, i32_w]
      rfl
     refine P1 25 148 ?_ (Bz 42 0x3ffffff) ?_ ?_ ?_ ?_
     rotate_left
     ·intro w'
      go_simp
      with_reducible rfl
     rotate_left
     ·simp only [Act.put, Z1, Z2, Z3, i64_w, i32_w]
      rfl
     refine P1 26 149 ?_ (Bz 42 0x7ffffff) ?_ ?_ ?_ ?_
     rotate_left
     ·intro w'
      go_simp
      with_reducible rfl
     rotate_left
     ·simp only [Act.put, Z1, Z2, Z3, i64_w, i32_w]
      rfl
     refine P1 27 150 ?_ (Bz 42 0xfffffff) ?_ ?_ ?_ ?_
     rotate_left
     ·intro w'
      go_simp
      with_reducible rfl
     rotate_left
     ·simp only [Act.put, Z1, Z2, Z3, i64_w, i32_w]
      rfl
     refine P1 28 151 ?_ (Bz 42 0x1fffffff) ?_ ?_ ?_ ?_
     rotate_left
     ·intro w'
      go_simp
      with_reducible rfl
     rotate_left
     ·simp only [Act.put, Z1, Z2, Z3, i64_w, i32_w]
      rfl
     refine P1 30 153 ?_ (Bz 42 0x5fffffff) ?_ ?_ ?_ ?_
     rotate_left
     ·intro w'
      go_simp
      with_reducible rfl
     rotate_left
     ·simp only [Act.put, Z1, Z2, Z3, i64_w, i32_w]
      rfl
     refine P5 29 152 ?_ (Bz 42 0x7fffffff) ?_ hHeld ?_ ?_ ?_
     rotate_left
     ·rintro w' ⟨s0, s1, s2, s3, s4, s5⟩
      go_simp
      with_reducible rfl
     rotate_left
     ·simp only [Act.put, Z1, Z2, Z3, i64_w, i32_w]
      rfl
     refine P1 31 154 ?_ (Bz 42 0xffffffff) ?_ ?_ ?_ ?_
     rotate_left
     ·intro w'
      go_simp
      with_reducible rfl
     rotate_left
     ·simp only [Act.put, Z1, Z2, Z3, i64_w, i32_w]
      rfl
     refine P1 32 155 ?_ (Bz 42 0x1ffffffff) ?_ ?_ ?_ ?_
     rotate_left
     ·intro w'
      go_simp
      with_reducible rfl
     rotate_left
     ·simp only [Act.put, Z1, Z2, Z3, i64_w, i32_w]
      rfl
     refine P1 33 156 ?_ (Bz 42 0x3ffffffff) ?_ ?_ ?_ ?_
     rotate_left
     ·intro w'
      go_simp
      with_reducible rfl
     rotate_left
     ·simp only [Act.put, Z1, Z2, Z3, i64_w, i32_w]
      rfl
     refine P1 34 157 ?_ (Bz 42 0x7ffffffff) ?_ ?_ ?_ ?_
     rotate_left
     ·intro w'
      go_simp
      with_reducible rfl
     rotate_left
     ·simp only [Act.put, Z1, Z2, Z3, i64_w, i32_w]
      rfl
     refine P1 36 159 ?_ (Bz 42 0x17ffffffff) ?_ ?_ ?_ ?_
     rotate_left
     ·intro w'
      go_simp
      with_reducible rfl
     rotate_left
     ·simp only [Act.put, Z1, Z2, Z3, i64_w, i32_w]
      rfl
     refine P1 37 160 ?_ (Bz 42 0x37ffffffff) ?_ ?_ ?_ ?_
     rotate_left
     ·intro w'
      go_simp
      with_reducible rfl
     rotate_left
     ·simp only [Act.put, Z1, Z2, Z3, i64_w, i32_w]
      rfl
     refine P1 38 161 ?_ (Bz 42 0x77ffffffff) ?_ ?_ ?_ ?_
     rotate_left
     ·intro w'
      go_simp
      with_reducible rfl
     rotate_left
     ·simp only [Act.put, Z1, Z2, Z3, i64_w, i32_w]
      rfl
     refine P5 35 158 ?_ (Bz 42 0x7fffffffff) ?_ hHeld ?_ ?_ ?_
     rotate_left
     ·rintro w' ⟨s0, s1, s2, s3, s4, s5⟩
      go_simp
      with_reducible rfl
     rotate_left
     ·simp only [Act.put, Z1, Z2, Z3, i64_w, i32_w]
      rfl
     refine P5 39 162 ?_ (Bz 42 0xffffffffff) ?_ hHeld ?_ ?_ ?_
     rotate_left
     ·rintro w' ⟨s0, s1, s2, s3, s4, s5⟩
      go_simp
      with_reducible rfl
     rotate_left
     ·simp only [Act.put, Z1, Z2, Z3, i64_w, i32_w]
      rfl
     refine P1 40 163 ?_ (Bz 42 0x1ffffffffff) ?_ ?_ ?_ ?_
     rotate_left
     ·intro w'
      go_simp
      with_reducible rfl
     rotate_left
     ·simp only [Act.put, Z1, Z2, Z3, i64_w, i32_w]
      rfl
     refine P1 41 164 ?_ (Bz 42 0x3ffffffffff) ?_ ?_ ?_ ?_
     rotate_left
     ·intro w'
      go_simp
      with_reducible rfl
     rotate_left
     ·simp only [Act.put, Z1, Z2, Z3, i64_w, i32_w]
      rfl
     refine done_ (by kernel_rfl) ?_
     clear r0 r1 x0 x1 c12 c6 hHeld
     have x1 := (blk_cell HX10.out 1).trans rfl
     go_wp2
     clear x1
     obtain ⟨vL, hGL, hge, hOL⟩ := HL3.out.keepQ HK10.out
     obtain ⟨AL, cL, eL⟩ := Kd.R_slice hOL
     subst eL
     have hOL' : Kd.R k44 44 b10 w.heap.size (fun _ => True) (.slice AL acc.length cL) acc := hOL
     have HO10 := Aside0.mk hOL'
     have HGL10 := Aside0.mk hGL
     have HGE := Aside0.mk hge
     clear hGL hge hOL hOL'
     have c13 := (blk_cell HGL10.out 13).trans rfl
     have x0 := (blk_cell HX10.out 0).trans rfl
     have x1 := (blk_cell HX10.out 1).trans rfl
     have x2 := (blk_cell HX10.out 2).trans rfl
     have x3 := (blk_cell HX10.out 3).trans rfl
     have x4 := (blk_cell HX10.out 4).trans rfl
     have x5 := (blk_cell HX10.out 5).trans rfl
     have HQ11 := Aside0.mk HQ10.out.drew
     have HX11 := Aside0.mk (blk_drew HX10.out)
     have HB11 := Aside0.mk (below_drew1 HB10.out)
     have HGL11 := Aside0.mk (blk_drew HGL10.out)
     have HO11 := Aside0.mk (Kd.R_drew HO10.out)
     refine start_ (n := 11) (S := fun w' => w'.cell? ⟨gl, 13, none⟩ = some (.slice AL acc.length cL) ∧ w'.cell? ⟨gx, 0, none⟩ = some (.int .i64 y0_) ∧ w'.cell? ⟨gx, 1, none⟩ = some (.int .i64 y1_) ∧ w'.cell? ⟨gx, 2, none⟩ = some (.int .i64 y2_) ∧ w'.cell? ⟨gx, 3, none⟩ = some (.int .i64 y3_) ∧ w'.cell? ⟨gx, 4, none⟩ = some (.int .i64 y4_) ∧ w'.cell? ⟨gx, 5, none⟩ = some (.int .i64 0)) (ds := [7, 10]) #[Yn, Yn, Yn, Yn, Yn, Yn, Yn, Yn, Yn, Yn, Yn] (by kernel_rfl) rfl rfl ⟨c13, x0, x1, x2, x3, x4, x5⟩ (fun hHeld => ?_)
     generalize b10.drew = b11 at HQ11 HX11 HB11 HGL11 HO11 hHeld ⊢
     refine P1 0 167 ?_ (Bz 11 0x1) ?_ ?_ ?_ ?_
     rotate_left
     ·intro w'
      go_simp
      with_reducible rfl
     rotate_left
     ·simp only [Act.put, Z1, Z2, Z3, i64_w, i32_w]
      rfl
     refine P1 1 168 ?_ (Bz 11 0x3) ?_ ?_ ?_ ?_
     rotate_left
     ·intro w'
      go_simp
      with_reducible rfl
     rotate_left
     ·simp only [Act.put, Z1, Z2, Z3, i64_w, i32_w]
      rfl
     refine P1 2 169 ?_ (Bz 11 0x7) ?_ ?_ ?_ ?_
     rotate_left
     ·intro w'
      go_simp
      with_reducible rfl
     rotate_left
     ·simp only [Act.put, Z1, Z2, Z3, i64_w, i32_w]
      rfl
     refine P1 3 170 ?_ (Bz 11 0xf) ?_ ?_ ?_ ?_
     rotate_left
     ·intro w'
      go_simp
      with_reducible rfl
     rotate_left
     ·simp only [Act.put, Z1, Z2, Z3, i64_w, i32_w]
      rfl
     refine P5 4 171 ?_ (Bz 11 0x1f) ?_ hHeld ?_ ?_ ?_
     rotate_left
     ·rintro w' ⟨s0, s1, s2, s3, s4, s5, s6⟩
      go_simp
      with_reducible rfl
     rotate_left
     ·simp only [Act.put, Z1, Z2, Z3, i64_w, i32_w]
      rfl
     refine P5 5 172 ?_ (Bz 11 0x3f) ?_ hHeld ?_ ?_ ?_
     rotate_left
     ·rintro w' ⟨s0, s1, s2, s3, s4, s5, s6⟩
      go_simp
      with_reducible rfl
     rotate_left
     ·simp only [Act.put, Z1, Z2, Z3, i64_w, i32_w]
      rfl
     refine one_ (i := 6) (N := some 173) #[Y, Y, Y, Y, Y, Y, Y, Yn, Yn, Yn, Yn] rfl rfl (by kernel_rfl) (by decide) (fun K hK => ?_)
     refine value_ (w1 := ?_) (v := ?_) (by rfl) rfl ?_ ?_
     rotate_left 2
     ·go_simp
      constructor
      ·rfl
      ·rfl
     refine hK.out _ _ ⟨(blk_cell (blk_alloc HGL11.out _) 13).trans rfl, (blk_cell (blk_alloc HX11.out _) 0).trans rfl, (blk_cell (blk_alloc HX11.out _) 1).trans rfl, (blk_cell (blk_alloc HX11.out _) 2).trans rfl, (blk_cell (blk_alloc HX11.out _) 3).trans rfl, (blk_cell (blk_alloc HX11.out _) 4).trans rfl, (blk_cell (blk_alloc HX11.out _) 5).trans rfl⟩ (fun hHeld => ?_)
     clear hK K
     refine norm_ (a' := ?_) ?_ ?_
     rotate_left
     ·show Act.put _ (some 173) _ = _
      simp only [Act.put, Z1, Z2, Z3, i64_w, i32_w]
      rfl
     refine last_ (i := 7) (N := some 174) #[Y, Y, Y, Y, Y, Y, Y, Y, Yn, Yn, Yn] rfl rfl (by kernel_rfl) (by decide) (fun K hK => ?_)
     refine Kd.R_append_step k44 (w0 := b11) w.heap.size (by rfl) (.tmp 171) (.tmp 173) 39 44 (.agg #[(.int .i64 0), (.int .i64 0), (.int .i64 0), (.int .i64 0), (.int .i64 0), (.int .i64 0)]) 48 rfl Tryd.underlying39 info44 rfl (by decide) (by omega) (.slice AL acc.length cL) acc (⟨y0_, y1_, ⟨y2_, y3_⟩, y4_, 0⟩ : S44) [.int .i64 y0_, .int .i64 y1_, .int .i64 y2_, .int .i64 y3_, .int .i64 y4_, .int .i64 0] (fun _ => True) (fun _ => False) rfl (by first | (go_simp; done) | (go_simp; rfl)) (k44_mkM _ _ _ (⟨y0_, y1_, ⟨y2_, y3_⟩, y4_, 0⟩ : S44)) (fun _ hk => hk.elim) (fun _ _ => trivial) HO11.out (Below.refl _ _) HB11.out.size (by have h1 := HI.out.len; have h2 := HLT.out; have h3 := HNI.out; have h4 := HX3R.out; omega) ?_
     intro v1 b12 ho hb hg hat
     obtain ⟨ms, HMS⟩ : ∃ ms, Aside0 (acc ++ [(⟨y0_, y1_, ⟨y2_, y3_⟩, y4_, 0⟩ : S44)] = ms) := ⟨_, ⟨rfl⟩⟩
     rw [HMS.out] at ho
     obtain ⟨A1, k1_, e1⟩ := Kd.R_slice ho
     subst e1
     have HGL12 := Aside0.mk (blk_grown HGL11.out hg (Kd.R_ne HO11.out HGL11.out (by decide)))
     have HO12 := Aside0.mk ho
     have HB12 := Aside0.mk (HB11.out.trans (hb.mono (Nat.le_refl _)))
     have HQ12 := Aside0.mk (HQ11.out.grown HO11.out hg)
     have f13 := blk_frozen HGL12.out 13
     have c13 := (blk_cell HGL12.out 13).trans rfl
     clear ho hb hg hat
     refine hK.out _ _ ?_
     clear hK K
     refine norm_ (a' := ?_) ?_ ?_
     rotate_left
     ·show Act.put _ (some 174) _ = _
      simp only [Act.put, Z1, Z2, Z3, i64_w, i32_w]
      rfl
     refine P1 8 175 ?_ (Bz 11 0x1ff) ?_ ?_ ?_ ?_
     rotate_left
     ·intro w'
      go_simp
      with_reducible rfl
     rotate_left
     ·simp only [Act.put, Z1, Z2, Z3, i64_w, i32_w]
      rfl
     refine P1 9 176 ?_ (Bz 11 0x3ff) ?_ ?_ ?_ ?_
     rotate_left
     ·intro w'
      go_simp
      with_reducible rfl
     rotate_left
     ·simp only [Act.put, Z1, Z2, Z3, i64_w, i32_w]
      rfl
     refine last_ (i := 10) (N := none) #[Y, Y, Y, Y, Y, Y, Y, Y, Y, Y, Y] rfl rfl (by kernel_rfl) (by decide) (fun K hK => ?_)
     refine skip_ (w1 := ?_) (by rfl) rfl ?_ ?_
     rotate_left
     ·go_simp
      rfl
     refine hK.out _ _ ?_
     clear hK K
     refine done_ (by kernel_rfl) ?_
     have HQ13 := Aside0.mk (HQ12.out.far HGL12.out (by decide) (by decide) 13 (.slice A1 ms.length k1_))
     have HL13 := Aside0.mk (show LogZ w.heap.size gl ⟨nm, pt, way, iv, st, sz, x2_, false, 0, 0, 0, 0, x1_, ms⟩ (b12.setCell ⟨gl, 13, none⟩ (.slice A1 ms.length k1_)) from ⟨_, blk_put HGL12.out 13 _ rfl, HGE.out, R_setL HGL12.out HO12.out 13 _⟩)
     have HB13 := Aside0.mk (HB12.out.setCell (p := ⟨gl, 13, none⟩) HGE.out (.slice A1 ms.length k1_))
     generalize b12.setCell ⟨gl, 13, none⟩ (.slice A1 ms.length k1_) = b13 at HQ13 HL13 HB13 ⊢
     clear c13 f13 x0 x1 x2 x3 x4 x5 hHeld
     go_wp2
     have hwj : wrap64 ((j : Int) + 1) = ((j + 1 : Nat) : Int) := by rw [wrap_id (by omega) (by have := HNI.out; have := HX3R.out; have := HLT.out; omega)]; omega
     refine ⟨⟨j + 1, y1_, p3, ms, rfl, by rw [hwj], HLT.out, ⟨⟨⟨true, p3, 0, HQ13.out, ⟨fun q hq => by injection hq with hq; exact ⟨rfl, hq, rfl⟩, fun hn => by cases hn⟩⟩, HL13.out, HB13.out, ?_, ?_⟩⟩⟩, ?_⟩
     ·rw [HI.out.spec, HSTEP.out, ← HMS.out, Option.map_map]
      refine congrArg (fun f => Option.map f _) (funext fun r => ?_)
      show (acc ++ (_ :: r.1), r.2) = ((acc ++ [_]) ++ r.1, r.2)
      rw [List.append_assoc]
      rfl
     ·rw [← HMS.out, List.length_append, HI.out.len]
      rfl
     ·rw [intOf_int, intOf_int, hwj, Int.toNat_natCast, Int.toNat_natCast]
      have := HLT.out
      omega
    have k5b : decide (x2_ < y1_) = true := decide_eq_true k5
    have HNO := Aside0.mk (HSPJ.out (loop_none HLT.out (fun x q hr => by rw [HREC.out] at hr; injection hr with hr; injection hr with hr1 hr2; subst hr1; exact fun hc => absurd hc.2.2 (by show ¬ y1_ ≤ x2_; omega))))
    clear k3 k4 k5
    have HQ9 := Aside0.mk HQ8.out.drew
    have HX9 := Aside0.mk (blk_drew HX8.out)
    have HB9 := Aside0.mk (below_drew1 HB8.out)
    have HK9 := Aside0.mk HK8.out.drew
    refine start_ (n := 42) (S := fun w' => w'.cell? ⟨gB, 0, none⟩ = some (.pointer (some ⟨gb, 0, none⟩)) ∧ w'.cell? ⟨gB, 1, none⟩ = some (.bool true) ∧ w'.cell? ⟨gx, 0, none⟩ = some (.int .i64 y0_) ∧ w'.cell? ⟨gx, 1, none⟩ = some (.int .i64 y1_) ∧ w'.cell? ⟨gl, 12, none⟩ = some (.int .i64 x1_) ∧ w'.cell? ⟨gl, 6, none⟩ = some (.int .i64 x2_)) (ds := []) #[Yn, Yn, Yn, Yn, Yn, Yn, Yn, Yn, Yn, Yn, Yn, Yn, Yn, Yn, Yn, Yn, Yn, Yn, Yn, Yn, Yn, Yn, Yn, Yn, Yn, Yn, Yn, Yn, Yn, Yn, Yn, Yn, Yn, Yn, Yn, Yn, Yn, Yn, Yn, Yn, Yn, Yn] (by kernel_rfl) rfl rfl ⟨r0, r1, x0, x1, c12, c6⟩ (fun hHeld => ?_)
    generalize b8.drew = b9 at HQ9 HX9 HB9 HK9 hHeld ⊢
    refine P1 0 123 ?_ (Bz 42 0x1) ?_ ?_ ?_ ?_
    rotate_left
    ·intro w'
     go_simp
     with_reducible rfl
    rotate_left
    ·simp only [Act.put, Z1, Z2, Z3, i64_w, i32_w]
     rfl
    refine P1 1 124 ?_ (Bz 42 0x3) ?_ ?_ ?_ ?_
    rotate_left
    ·intro w'
     go_simp
     with_reducible rfl
    rotate_left
    ·simp only [Act.put, Z1, Z2, Z3, i64_w, i32_w]
     rfl
    refine P1 2 125 ?_ (Bz 42 0x7) ?_ ?_ ?_ ?_
    rotate_left
    ·intro w'
     go_simp
     with_reducible rfl
    rotate_left
    ·simp only [Act.put, Z1, Z2, Z3, i64_w, i32_w]
     rfl
    refine P5 3 126 ?_ (Bz 42 0xf) ?_ hHeld ?_ ?_ ?_
    rotate_left
    ·rintro w' ⟨s0, s1, s2, s3, s4, s5⟩
     go_simp
     with_reducible rfl
    rotate_left
    ·simp only [Act.put, Z1, Z2, Z3, i64_w, i32_w]
     rfl
    refine P1 4 127 ?_ (Bz 42 0x1f) ?_ ?_ ?_ ?_
    rotate_left
    ·intro w'
     go_simp
     with_reducible rfl
    rotate_left
    ·simp only [Act.put, Z1, Z2, Z3, i64_w, i32_w]
     rfl
    refine P1 5 128 ?_ (Bz 42 0x3f) ?_ ?_ ?_ ?_
    rotate_left
    ·intro w'
     go_simp
     with_reducible rfl
    rotate_left
    ·simp only [Act.put, Z1, Z2, Z3, i64_w, i32_w]
     rfl
    refine P1 6 129 ?_ (Bz 42 0x7f) ?_ ?_ ?_ ?_
    rotate_left
    ·intro w'
     go_simp
     with_reducible rfl
    rotate_left
    ·simp only [Act.put, Z1, Z2, Z3, i64_w, i32_w]
     rfl
    refine P1 7 130 ?_ (Bz 42 0xff) ?_ ?_ ?_ ?_
    rotate_left
    ·intro w'
     go_simp
     with_reducible rfl
    rotate_left
    ·simp only [Act.put, Z1, Z2, Z3, i64_w, i32_w]
     rfl
    refine P1 8 131 ?_ (Bz 42 0x1ff) ?_ ?_ ?_ ?_
    rotate_left
    ·intro w'
     go_simp
     with_reducible rfl
    rotate_left
    ·simp only [Act.put, Z1, Z2, Z3, i64_w, i32_w]
     rfl
    refine P5 9 132 ?_ (Bz 42 0x3ff) ?_ hHeld ?_ ?_ ?_
    rotate_left
    ·rintro w' ⟨s0, s1, s2, s3, s4, s5⟩
     go_simp
     with_reducible rfl
    rotate_left
    ·simp only [Act.put, Z1, Z2, Z3, i64_w, i32_w]
     rfl
    refine one_ (i := 10) (N := some 133) #[Y, Y, Y, Y, Y, Y, Y, Y, Y, Y, Y, Yn, Yn, Yn, Yn, Yn, Yn, Yn, Yn, Yn, Yn, Yn, Yn, Yn, Yn, Yn, Yn, Yn, Yn, Yn, Yn, Yn, Yn, Yn, Yn, Yn, Yn, Yn, Yn, Yn, Yn, Yn] rfl rfl (by kernel_rfl) (by decide) (fun K hK => ?_)
    refine goes_ Tryd.func38 (by kernel_rfl) rfl #[.pointer (some ⟨gb, 0, none⟩)] (by rfl) rfl rfl (by simp only [List.map_toArray, List.map_cons, List.map_nil]; rfl) ?_
    with_reducible refine (codec_Reader_Err.calls gb xb p3 0 0 xb p3 0 w _ HG.out HQ9.out.rd HB9.out rfl).mono ?_
    rintro e b10 ⟨rfl, hi, hb, hk⟩
    refine ⟨_, rfl, ?_⟩
    have hkq := KeepQ.of_but hk HQ9.out.rd.1
    have HQ10 := Aside0.mk (HQ9.out.but hk hi (by decide))
    have HB10 := Aside0.mk hb
    have HX10 := Aside0.mk (hkq.keep _ _ _ HX9.out (by decide) (by decide))
    have HK10 := Aside0.mk (HK9.out.trans hkq)
    clear hi hb hk hkq
    refine hK.out _ _ ⟨(blk_cell HQ10.out.box 0).trans rfl, (blk_cell HQ10.out.box 1).trans rfl, (blk_cell HX10.out 0).trans rfl, (blk_cell HX10.out 1).trans rfl, (HL3.out.keepQ HK10.out).cell12, (HL3.out.keepQ HK10.out).cell6⟩ (fun hHeld => ?_)
    clear hK K
    refine norm_ (a' := ?_) ?_ ?_
    rotate_left
    ·show Act.put _ (some 133) _ = _
     simp only [Act.put, Z1, Z2, Z3, i64_w, i32_w]
     rfl
    refine P1 11 134 ?_ (Bz 42 0xfff) ?_ ?_ ?_ ?_
    rotate_left
    ·intro w'
     go_simp
     with_reducible rfl
    rotate_left
    ·simp only [Act.put, Z1, Z2, Z3, i64_w, i32_w]
     rfl
    refine P1 12 135 ?_ (Bz 42 0x1fff) ?_ ?_ ?_ ?_
    rotate_left
    ·intro w'
     go_simp
     with_reducible rfl
    rotate_left
    ·simp only [Act.put, Z1, Z2, Z3, i64_w, i32_w]
     rfl
    refine P1 13 136 ?_ (Bz 42 0x3fff) ?_ ?_ ?_ ?_
    rotate_left
    ·intro w'
     go_simp
     with_reducible rfl
    rotate_left
    ·simp only [Act.put, Z1, Z2, Z3, i64_w, i32_w]
     rfl
    refine P1 14 137 ?_ (Bz 42 0x7fff) ?_ ?_ ?_ ?_
    rotate_left
    ·intro w'
     go_simp
     with_reducible rfl
    rotate_left
    ·simp only [Act.put, Z1, Z2, Z3, i64_w, i32_w]
     rfl
    refine P1 16 139 ?_ (Bz 42 0x17fff) ?_ ?_ ?_ ?_
    rotate_left
    ·intro w'
     go_simp
     with_reducible rfl
    rotate_left
    ·simp only [Act.put, Z1, Z2, Z3, i64_w, i32_w]
     rfl
    refine P1 17 140 ?_ (Bz 42 0x37fff) ?_ ?_ ?_ ?_
    rotate_left
    ·intro w'
     go_simp
     with_reducible rfl
    rotate_left
    ·simp only [Act.put, Z1, Z2, Z3, i64_w, i32_w]
     rfl
    refine P1 18 141 ?_ (Bz 42 0x77fff) ?_ ?_ ?_ ?_
    rotate_left
    ·intro w'
     go_simp
     with_reducible rfl
    rotate_left
    ·simp only [Act.put, Z1, Z2, Z3, i64_w, i32_w]
     rfl
    refine P1 20 143 ?_ (Bz 42 0x177fff) ?_ ?_ ?_ ?_
    rotate_left
    ·intro w'
     go_simp
     with_reducible rfl
    rotate_left
    ·simp only [Act.put, Z1, Z2, Z3, i64_w, i32_w]
     rfl
    refine P1 23 146 ?_ (Bz 42 0x977fff) ?_ ?_ ?_ ?_
    rotate_left
    ·intro w'
     go_simp
     with_reducible rfl
    rotate_left
    ·simp only [Act.put, Z1, Z2, Z3, i64_w, i32_w]
     rfl
    refine P5 15 138 ?_ (Bz 42 0x97ffff) ?_ hHeld ?_ ?_ ?_
    rotate_left
    ·rintro w' ⟨s0, s1, s2, s3, s4, s5⟩
     go_simp
     with_reducible rfl
    rotate_left
    ·simp only [Act.put, Z1, Z2, Z3, i64_w, i32_w]
     rfl
    refine P5 19 142 ?_ (Bz 42 0x9fffff) ?_ hHeld ?_ ?_ ?_
    rotate_left
    ·rintro w' ⟨s0, s1, s2, s3, s4, s5⟩
     go_simp
     with_reducible rfl
    rotate_left
    ·simp only [Act.put, Z1, Z2, Z3, i64_w, i32_w]
     rfl
    refine P1 21 144 ?_ (Bz 42 0xbfffff) ?_ ?_ ?_ ?_
    rotate_left
    ·intro w'
     go_simp
     with_reducible rfl
    rotate_left
    ·simp only [Act.put, Z1, Z2, Z3, i64_w, i32_w]
     rfl
    refine P1 22 145 ?_ (Bz 42 0xffffff) ?_ ?_ ?_ ?_
    rotate_left
    ·intro w'
     go_simp
     with_reducible rfl
    rotate_left
    ·simp only [Act.put, Z1, Z2, Z3, i64_w, i32_w]
     rfl
    refine P1 24 147 ?_ (Bz 42 0x1ffffff) ?_ ?_ ?_ ?_
    rotate_left
    ·intro w'
     go_simp
     with_reducible rfl
    rotate_left
    ·simp only [Act.put, Z1, Z2, Z3, i64_w, i32_w]
     rfl
    refine P1 25 148 ?_ (Bz 42 0x3ffffff) ?_ ?_ ?_ ?_
    rotate_left
    ·intro w'
     go_simp
     with_reducible rfl
    rotate_left
    ·simp only [Act.put, Z1, Z2, Z3, i64_w, i32_w]
     rfl
    refine P1 26 149 ?_ (Bz 42 0x7ffffff) ?_ ?_ ?_ ?_
    rotate_left
    ·intro w'
     go_simp
     with_reducible rfl
    rotate_left
    ·simp only [Act.put, Z1, Z2, Z3, i64_w, i32_w]
     rfl
    refine P1 27 150 ?_ (Bz 42 0xfffffff) ?_ ?_ ?_ ?_
    rotate_left
    ·intro w'
     go_simp
     with_reducible rfl
    rotate_left
    ·simp only [Act.put, Z1, Z2, Z3, i64_w, i32_w]
     rfl
    refine P1 28 151 ?_ (Bz 42 0x1fffffff) ?_ ?_ ?_ ?_
    rotate_left
    ·intro w'
     go_simp
     with_reducible rfl
    rotate_left
    ·simp only [Act.put, Z1, Z2, Z3, i64_w, i32_w]
     rfl
    refine P1 30 153 ?_ (Bz 42 0x5fffffff) ?_ ?_ ?_ ?_
    rotate_left
    ·intro w'
     go_simp
     with_reducible rfl
    rotate_left
    ·simp only [Act.put, Z1, Z2, Z3, i64_w, i32_w]
     rfl
    refine P5 29 152 ?_ (Bz 42 0x7fffffff) ?_ hHeld ?_ ?_ ?_
    rotate_left
    ·rintro w' ⟨s0, s1, s2, s3, s4, s5⟩
     go_simp
     with_reducible rfl
    rotate_left
    ·simp only [Act.put, Z1, Z2, Z3, i64_w, i32_w]
     rfl
    refine P1 31 154 ?_ (Bz 42 0xffffffff) ?_ ?_ ?_ ?_
    rotate_left
    ·intro w'
     go_simp
     with_reducible rfl
    rotate_left
    ·simp only [Act.put, Z1, Z2, Z3, i64_w, i32_w]
     rfl
    refine P1 32 155 ?_ (Bz 42 0x1ffffffff) ?_ ?_ ?_ ?_
    rotate_left
    ·intro w'
     go_simp
     with_reducible rfl
    rotate_left
    ·simp only [Act.put, Z1, Z2, Z3, i64_w, i32_w]
     rfl
    refine P1 33 156 ?_ (Bz 42 0x3ffffffff) ?_ ?_ ?_ ?_
    rotate_left
    ·intro w'
     go_simp
     with_reducible rfl
    rotate_left
    ·simp only [Act.put, Z1, Z2, Z3, i64_w, i32_w]
     rfl
    refine P1 34 157 ?_ (Bz 42 0x7ffffffff) ?_ ?_ ?_ ?_
    rotate_left
    ·intro w'
     go_simp
     with_reducible rfl
    rotate_left
    ·simp only [Act.put, Z1, Z2, Z3, i64_w, i32_w]
     rfl
    refine P1 36 159 ?_ (Bz 42 0x17ffffffff) ?_ ?_ ?_ ?_
    rotate_left
    ·intro w'
     go_simp
     with_reducible rfl
    rotate_left
    ·simp only [Act.put, Z1, Z2, Z3, i64_w, i32_w]
     rfl
    refine P1 37 160 ?_ (Bz 42 0x37ffffffff) ?_ ?_ ?_ ?_
    rotate_left
    ·intro w'
     go_simp
     with_reducible rfl
    rotate_left
    ·simp only [Act.put, Z1, Z2, Z3, i64_w, i32_w]
     rfl
    refine P1 38 161 ?_ (Bz 42 0x77ffffffff) ?_ ?_ ?_ ?_
    rotate_left
    ·intro w'
     go_simp
     with_reducible rfl
    rotate_left
    ·simp only [Act.put, Z1, Z2, Z3, i64_w, i32_w]
     rfl
    refine P5 35 158 ?_ (Bz 42 0x7fffffffff) ?_ hHeld ?_ ?_ ?_
    rotate_left
    ·rintro w' ⟨s0, s1, s2, s3, s4, s5⟩
     go_simp
     with_reducible rfl
    rotate_left
    ·simp only [Act.put, Z1, Z2, Z3, i64_w, i32_w]
     rfl
    refine P5 39 162 ?_ (Bz 42 0xffffffffff) ?_ hHeld ?_ ?_ ?_
    rotate_left
    ·rintro w' ⟨s0, s1, s2, s3, s4, s5⟩
     go_simp
     with_reducible rfl
    rotate_left
    ·simp only [Act.put, Z1, Z2, Z3, i64_w, i32_w]
     rfl
    refine P1 40 163 ?_ (Bz 42 0x1ffffffffff) ?_ ?_ ?_ ?_
    rotate_left
    ·intro w'
     go_simp
     with_reducible rfl
    rotate_left
    ·simp only [Act.put, Z1, Z2, Z3, i64_w, i32_w]
     rfl
    refine P1 41 164 ?_ (Bz 42 0x3ffffffffff) ?_ ?_ ?_ ?_
    rotate_left
    ·intro w'
     go_simp
     with_reducible rfl
    rotate_left
    ·simp only [Act.put, Z1, Z2, Z3, i64_w, i32_w]
     rfl
    refine done_ (by kernel_rfl) ?_
    clear r0 r1 x0 x1 c12 c6 hHeld
    go_wp2
    go_ret2
    exact RestPost.none' HNO.out HB10.out
   have k4b : decide (y1_ < bf) = true := decide_eq_true k4
   have HNO := Aside0.mk (HSPJ.out (loop_none HLT.out (fun x q hr => by rw [HREC.out] at hr; injection hr with hr; injection hr with hr1 hr2; subst hr1; exact fun hc => absurd hc.2.1 (by show ¬ bf ≤ y1_; omega))))
   clear k3 k4
   have HQ9 := Aside0.mk HQ8.out.drew
   have HX9 := Aside0.mk (blk_drew HX8.out)
   have HB9 := Aside0.mk (below_drew1 HB8.out)
   have HK9 := Aside0.mk HK8.out.drew
   refine start_ (n := 42) (S := fun w' => w'.cell? ⟨gB, 0, none⟩ = some (.pointer (some ⟨gb, 0, none⟩)) ∧ w'.cell? ⟨gB, 1, none⟩ = some (.bool true) ∧ w'.cell? ⟨gx, 0, none⟩ = some (.int .i64 y0_) ∧ w'.cell? ⟨gx, 1, none⟩ = some (.int .i64 y1_) ∧ w'.cell? ⟨gl, 12, none⟩ = some (.int .i64 x1_) ∧ w'.cell? ⟨gl, 6, none⟩ = some (.int .i64 x2_)) (ds := []) #[Yn, Yn, Yn, Yn, Yn, Yn, Yn, Yn, Yn, Yn, Yn, Yn, Yn, Yn, Yn, Yn, Yn, Yn, Yn, Yn, Yn, Yn, Yn, Yn, Yn, Yn, Yn, Yn, Yn, Yn, Yn, Yn, Yn, Yn, Yn, Yn, Yn, Yn, Yn, Yn, Yn, Yn] (by kernel_rfl) rfl rfl ⟨r0, r1, x0, x1, c12, c6⟩ (fun hHeld => ?_)
   generalize b8.drew = b9 at HQ9 HX9 HB9 HK9 hHeld ⊢
   refine P1 0 123 ?_ (Bz 42 0x1) ?_ ?_ ?_ ?_
   rotate_left
   ·intro w'
    go_simp
    with_reducible rfl
   rotate_left
   ·simp only [Act.put, Z1, Z2, Z3, i64_w, i32_w]
    rfl
   refine P1 1 124 ?_ (Bz 42 0x3) ?_ ?_ ?_ ?_
   rotate_left
   ·intro w'
    go_simp
    with_reducible rfl
   rotate_left
   ·simp only [Act.put, Z1, Z2, Z3, i64_w, i32_w]
    rfl
   refine P1 2 125 ?_ (Bz 42 0x7) ?_ ?_ ?_ ?_
   rotate_left
   ·intro w'
    go_simp
    with_reducible rfl
   rotate_left
   ·simp only [Act.put, Z1, Z2, Z3, i64_w, i32_w]
    rfl
   refine P5 3 126 ?_ (Bz 42 0xf) ?_ hHeld ?_ ?_ ?_
   rotate_left
   ·rintro w' ⟨s0, s1, s2, s3, s4, s5⟩
    go_simp
    with_reducible rfl
   rotate_left
   ·simp only [Act.put, Z1, Z2, Z3, i64_w, i32_w]
    rfl
   refine P1 4 127 ?_ (Bz 42 0x1f) ?_ ?_ ?_ ?_
   rotate_left
   ·intro w'
    go_simp
    with_reducible rfl
   rotate_left
   ·simp only [Act.put, Z1, Z2, Z3, i64_w, i32_w]
    rfl
   refine P1 5 128 ?_ (Bz 42 0x3f) ?_ ?_ ?_ ?_
   rotate_left
   ·intro w'
    go_simp
    with_reducible rfl
   rotate_left
   ·simp only [Act.put, Z1, Z2, Z3, i64_w, i32_w]
    rfl
   refine P1 6 129 ?_ (Bz 42 0x7f) ?_ ?_ ?_ ?_
   rotate_left
   ·intro w'
    go_simp
    with_reducible rfl
   rotate_left
   ·simp only [Act.put, Z1, Z2, Z3, i64_w, i32_w]
    rfl
   refine P1 7 130 ?_ (Bz 42 0xff) ?_ ?_ ?_ ?_
   rotate_left
   ·intro w'
    go_simp
    with_reducible rfl
   rotate_left
   ·simp only [Act.put, Z1, Z2, Z3, i64_w, i32_w]
    rfl
   refine P1 8 131 ?_ (Bz 42 0x1ff) ?_ ?_ ?_ ?_
   rotate_left
   ·intro w'
    go_simp
    with_reducible rfl
   rotate_left
   ·simp only [Act.put, Z1, Z2, Z3, i64_w, i32_w]
    rfl
   refine P5 9 132 ?_ (Bz 42 0x3ff) ?_ hHeld ?_ ?_ ?_
   rotate_left
   ·rintro w' ⟨s0, s1, s2, s3, s4, s5⟩
    go_simp
    with_reducible rfl
   rotate_left
   ·simp only [Act.put, Z1, Z2, Z3, i64_w, i32_w]
    rfl
   refine one_ (i := 10) (N := some 133) #[Y, Y, Y, Y, Y, Y, Y, Y, Y, Y, Y, Yn, Yn, Yn, Yn, Yn, Yn, Yn, Yn, Yn, Yn, Yn, Yn, Yn, Yn, Yn, Yn, Yn, Yn, Yn, Yn, Yn, Yn, Yn, Yn, Yn, Yn, Yn, Yn, Yn, Yn, Yn] rfl rfl (by kernel_rfl) (by decide) (fun K hK => ?_)
   refine goes_ Tryd.func38 (by kernel_rfl) rfl #[.pointer (some ⟨gb, 0, none⟩)] (by rfl) rfl rfl (by simp only [List.map_toArray, List.map_cons, List.map_nil]; rfl) ?_
   with_reducible refine (codec_Reader_Err.calls gb xb p3 0 0 xb p3 0 w _ HG.out HQ9.out.rd HB9.out rfl).mono ?_
   rintro e b10 ⟨rfl, hi, hb, hk⟩
   refine ⟨_, rfl, ?_⟩
   have hkq := KeepQ.of_but hk HQ9.out.rd.1
   have HQ10 := Aside0.mk (HQ9.out.but hk hi (by decide))
   have HB10 := Aside0.mk hb
   have HX10 := Aside0.mk (hkq.keep _ _ _ HX9.out (by decide) (by decide))
   have HK10 := Aside0.mk (HK9.out.trans hkq)
   clear hi hb hk hkq
   refine hK.out _ _ ⟨(blk_cell HQ10.out.box 0).trans rfl, (blk_cell HQ10.out.box 1).trans rfl, (blk_cell HX10.out 0).trans rfl, (blk_cell HX10.out 1).trans rfl, (HL3.out.keepQ HK10.out).cell12, (HL3.out.keepQ HK10.out).cell6⟩ (fun hHeld => ?_)
   clear hK K
   refine norm_ (a' := ?_) ?_ ?_
   rotate_left
   ·show Act.put _ (some 133) _ = _
    simp only [Act.put, Z1, Z2, Z3, i64_w, i32_w]
    rfl
   refine P1 11 134 ?_ (Bz 42 0xfff) ?_ ?_ ?_ ?_
   rotate_left
   ·intro w'
    go_simp
    with_reducible rfl
   rotate_left
   ·simp only [Act.put, Z1, Z2, Z3, i64_w, i32_w]
    rfl
   refine P1 12 135 ?_ (Bz 42 0x1fff) ?_ ?_ ?_ ?_
   rotate_left
   ·intro w'
    go_simp
    with_reducible rfl
   rotate_left
   ·simp only [Act.put, Z1, Z2, Z3, i64_w, i32_w]
    rfl
   refine P1 13 136 ?_ (Bz 42 0x3fff) ?_ ?_ ?_ ?_
   rotate_left
   ·intro w'
    go_simp
    with_reducible rfl
   rotate_left
   ·simp only [Act.put, Z1, Z2, Z3, i64_w, i32_w]
    rfl
   refine P1 14 137 ?_ (Bz 42 0x7fff) ?_ ?_ ?_ ?_
   rotate_left
   ·intro w'
    go_simp
    with_reducible rfl
   rotate_left
   ·simp only [Act.put, Z1, Z2, Z3, i64_w, i32_w]
    rfl
   refine P1 16 139 ?_ (Bz 42 0x17fff) ?_ ?_ ?_ ?_
   rotate_left
   ·intro w'
    go_simp
    with_reducible rfl
   rotate_left
   ·simp only [Act.put, Z1, Z2, Z3, i64_w, i32_w]
    rfl
   refine P1 17 140 ?_ (Bz 42 0x37fff) ?_ ?_ ?_ ?_
   rotate_left
   ·intro w'
    go_simp
    with_reducible rfl
   rotate_left
   ·simp only [Act.put, Z1, Z2, Z3, i64_w, i32_w]
    rfl
   refine P1 18 141 ?_ (Bz 42 0x77fff) ?_ ?_ ?_ ?_
   rotate_left
   ·intro w'
    go_simp
    with_reducible rfl
   rotate_left
   ·simp only [Act.put, Z1, Z2, Z3, i64_w, i32_w]
    rfl
   refine P1 20 143 ?_ (Bz 42 0x177fff) ?_ ?_ ?_ ?_
   rotate_left
   ·intro w'
    go_simp
    with_reducible rfl
   rotate_left
   ·simp only [Act.put, Z1, Z2, Z3, i64_w, i32_w]
    rfl
   refine P1 23 146 ?_ (Bz 42 0x977fff) ?_ ?_ ?_ ?_
   rotate_left
   ·intro w'
    go_simp
    with_reducible rfl
   rotate_left
   ·simp only [Act.put, Z1, Z2, Z3, i64_w, i32_w]
    rfl
   refine P5 15 138 ?_ (Bz 42 0x97ffff) ?_ hHeld ?_ ?_ ?_
   rotate_left
   ·rintro w' ⟨s0, s1, s2, s3, s4, s5⟩
    go_simp
    with_reducible rfl
   rotate_left
   ·simp only [Act.put, Z1, Z2, Z3, i64_w, i32_w]
    rfl
   refine P5 19 142 ?_ (Bz 42 0x9fffff) ?_ hHeld ?_ ?_ ?_
   rotate_left
   ·rintro w' ⟨s0, s1, s2, s3, s4, s5⟩
    go_simp
    with_reducible rfl
   rotate_left
   ·simp only [Act.put, Z1, Z2, Z3, i64_w, i32_w]
    rfl
   refine P1 21 144 ?_ (Bz 42 0xbfffff) ?_ ?_ ?_ ?_
   rotate_left
   ·intro w'
    go_simp
    with_reducible rfl
   rotate_left
   ·simp only [Act.put, Z1, Z2, Z3, i64_w, i32_w]
    rfl
   refine P1 22 145 ?_ (Bz 42 0xffffff) ?_ ?_ ?_ ?_
   rotate_left
   ·intro w'
    go_simp
    with_reducible rfl
   rotate_left
   ·simp only [Act.put, Z1, Z2, Z3, i64_w, i32_w]
    rfl
   refine P1 24 147 ?_ (Bz 42 0x1ffffff) ?_ ?_ ?_ ?_
   rotate_left
   ·intro w'
    go_simp
    with_reducible rfl
   rotate_left
   ·simp only [Act.put, Z1, Z2, Z3, i64_w, i32_w]
    rfl
   refine P1 25 148 ?_ (Bz 42 0x3ffffff) ?_ ?_ ?_ ?_
   rotate_left
   ·intro w'
    go_simp
    with_reducible rfl
   rotate_left
   ·simp only [Act.put, Z1, Z2, Z3, i64_w, i32_w]
    rfl
   refine P1 26 149 ?_ (Bz 42 0x7ffffff) ?_ ?_ ?_ ?_
   rotate_left
   ·intro w'
    go_simp
    with_reducible rfl
   rotate_left
   ·simp only [Act.put, Z1, Z2, Z3, i64_w, i32_w]
    rfl
   refine P1 27 150 ?_ (Bz 42 0xfffffff) ?_ ?_ ?_ ?_
   rotate_left
   ·intro w'
    go_simp
    with_reducible rfl
   rotate_left
   ·simp only [Act.put, Z1, Z2, Z3, i64_w, i32_w]
    rfl
   refine P1 28 151 ?_ (Bz 42 0x1fffffff) ?_ ?_ ?_ ?_
   rotate_left
   ·intro w'
    go_simp
    with_reducible rfl
   rotate_left
   ·simp only [Act.put, Z1, Z2, Z3, i64_w, i32_w]
    rfl
   refine P1 30 153 ?_ (Bz 42 0x5fffffff) ?_ ?_ ?_ ?_
   rotate_left
   ·intro w'
    go_simp
    with_reducible rfl
   rotate_left
   ·simp only [Act.put, Z1, Z2, Z3, i64_w, i32_w]
    rfl
   refine P5 29 152 ?_ (Bz 42 0x7fffffff) ?_ hHeld ?_ ?_ ?_
   rotate_left
   ·rintro w' ⟨s0, s1, s2, s3, s4, s5⟩
    go_simp
    with_reducible rfl
   rotate_left
   ·simp only [Act.put, Z1, Z2, Z3, i64_w, i32_w]
    rfl
   refine P1 31 154 ?_ (Bz 42 0xffffffff) ?_ ?_ ?_ ?_
   rotate_left
   ·intro w'
    go_simp
    with_reducible rfl
   rotate_left
   ·simp only [Act.put, Z1, Z2, Z3, i64_w, i32_w]
    rfl
   refine P1 32 155 ?_ (Bz 42 0x1ffffffff) ?_ ?_ ?_ ?_
   rotate_left
   ·intro w'
    go_simp
    with_reducible rfl
   rotate_left
   ·simp only [Act.put, Z1, Z2, Z3, i64_w, i32_w]
    rfl
   refine P1 33 156 ?_ (Bz 42 0x3ffffffff) ?_ ?_ ?_ ?_
   rotate_left
   ·intro w'
    go_simp
    with_reducible rfl
   rotate_left
   ·simp only [Act.put, Z1, Z2, Z3, i64_w, i32_w]
    rfl
   refine P2 34 157 (Bz 42 0x7ffffffff) ?_ ?_ ?_
   rotate_left
   ·simp only [Act.put, Z1, Z2, Z3, i64_w, i32_w]
    rfl
   refine P2 35 158 (Bz 42 0xfffffffff) ?_ ?_ ?_
   rotate_left
   ·simp only [Act.put, Z1, Z2, Z3, i64_w, i32_w]
    rfl
   refine P2 36 159 (Bz 42 0x1fffffffff) ?_ ?_ ?_
   rotate_left
   ·simp only [Act.put, Z1, Z2, Z3, i64_w, i32_w]
    rfl
   refine P2 37 160 (Bz 42 0x3fffffffff) ?_ ?_ ?_
   rotate_left
   ·simp only [Act.put, Z1, Z2, Z3, i64_w, i32_w]
    rfl
   refine P2 38 161 (Bz 42 0x7fffffffff) ?_ ?_ ?_
   rotate_left
   ·simp only [Act.put, Z1, Z2, Z3, i64_w, i32_w]
    rfl
   refine P2 39 162 (Bz 42 0xffffffffff) ?_ ?_ ?_
   rotate_left
   ·simp only [Act.put, Z1, Z2, Z3, i64_w, i32_w]
    rfl
   refine P2 40 163 (Bz 42 0x1ffffffffff) ?_ ?_ ?_
   rotate_left
   ·simp only [Act.put, Z1, Z2, Z3, i64_w, i32_w]
    rfl
   refine P1 41 164 ?_ (Bz 42 0x3ffffffffff) ?_ ?_ ?_ ?_
   rotate_left
   ·intro w'
    go_simp
    with_reducible rfl
   rotate_left
   ·simp only [Act.put, Z1, Z2, Z3, i64_w, i32_w]
    rfl
   refine done_ (by kernel_rfl) ?_
   clear r0 r1 x0 x1 c12 c6 hHeld
   go_wp2
   go_ret2
   exact RestPost.none' HNO.out HB10.out
  ·have hje : j = n := by omega
   subst hje
   have hl1 : decide ((j : Int) < x3_) = false := decide_eq_false (by have := HNI.out; omega)
   obtain ⟨ok4, p4, er4, hx4, hst4⟩ := HI.out.trs
   obtain ⟨rfl, rfl, rfl⟩ := hst4.good p rfl
   have HQ4 := Aside0.mk hx4
   have r0 := (blk_cell hx4.box 0).trans rfl
   have HSPE := Aside0.mk (show restS s sz = if p4 = (xb.size : Int) then some (x1_, x2_, acc) else none by
    rw [HSP3.out, HI.out.spec, Nat.sub_self]
    show (if p4 = (xb.size : Int) then some (x1_, x2_, acc ++ []) else none) = _
    rw [List.append_nil])
   clear hx4 hst4 hlt hj
   by_cases k : p4 = (xb.size : Int)
   ·have HEF := Aside0.mk (show codec_Reader_End.f xb p4 0 = some (0, xb, p4, 0) by unfold codec_Reader_End.f; rw [if_pos rfl, if_pos k])
    have HFIN := Aside0.mk (show restS s sz = some (x1_, x2_, acc) by rw [HSPE.out, if_pos k])
    clear k
    go_wp2_with (go_at_call 34; (with_reducible refine (codec_Reader_End.calls gb xb p4 0 0 xb p4 0 w _ HG.out HQ4.out.rd HI.out.bel HEF.out).mono ?_); rintro e bz ⟨rfl, hi, hb, hk⟩; have HBZ := Aside0.mk hb; have HKZ := Aside0.mk (KeepQ.of_but hk HQ4.out.rd.1); clear hi hb hk)
    go_ret2
    rw [HFIN.out]
    exact ⟨HBZ.out, gl, rfl, (HI.out.log.keepQ HKZ.out).log⟩
   ·have HEF := Aside0.mk (show codec_Reader_End.f xb p4 0 = some (2, xb, p4, 0) by unfold codec_Reader_End.f; rw [if_pos rfl, if_neg k])
    have HNO := Aside0.mk (show restS s sz = none by rw [HSPE.out, if_neg k])
    clear k
    go_wp2_with (go_at_call 34; (with_reducible refine (codec_Reader_End.calls gb xb p4 0 2 xb p4 0 w _ HG.out HQ4.out.rd HI.out.bel HEF.out).mono ?_); rintro e bz ⟨rfl, hi, hb, hk⟩; have HBZ := Aside0.mk hb; have HKZ := Aside0.mk (KeepQ.of_but hk HQ4.out.rd.1); clear hi hb hk)
    go_ret2
    exact RestPost.none' HNO.out HBZ.out
end Go.Proofs.YtbccjcdmpiolpaaDoor.T
end
