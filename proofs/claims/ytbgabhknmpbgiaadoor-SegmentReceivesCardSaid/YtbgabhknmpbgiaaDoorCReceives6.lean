/- SegmentReceivesCard: one part of the proof that the law answers true for every input, and that its arguments read afterwards as before. No condition. -/
import Derived.Test.YtbgabhknmpbgiaaDoorCReceives5
import Derived.Outline
import Derived.Deep.OwnRows
import Derived.LoopTactic
import Derived.ProofKit
import Derived.Deep.Slices
import Derived.SizedLaws
import Derived.OpenShut
import Derived.DataReads
import Derived.SevenTiedAt
import Derived.WalkKit
import Derived.ShutString
import Derived.ChangeOld
import Derived.Below
import Derived.Test.YtbgabhknmpbgiaaDoorCards
import Derived.Test.YtbgabhknmpbgiaaDoorRows
import Derived.Test.YtbgabhknmpbgiaaDoorTie
section
namespace Go.Proofs.YtbgabhknmpbgiaaDoor.S
open Go.RowKit Go.Proofs.YtbgabhknmpbgiaaDoor.Pure Go.Proofs.YtbgabhknmpbgiaaDoorW.PrintWords Go.Proofs.YtbgabhknmpbgiaaDoorW.PrintLast Go.Proofs.YtbgabhknmpbgiaaDoorW.PrintMore
set_option linter.unusedVariables false
set_option linter.unusedSimpArgs false
attribute [local go_sem] max2_int min2_int max_two min_two
theorem V27_keepX {w w1 : World} {n : Nat} {v : Value} {xs : List S27} {t0 : TypeId} (h : Kd.V k27 27 w 0 (okT 27 n w) v xs) (hk : KeepX w w1 t0) (ht : 27 ≠ t0) : Kd.V k27 27 w1 0 (okT 27 n w1) v xs := by
  refine Kd.V_mono (Kd.V_step h (fun k ho hlt => ?_)) (fun k ho => ?_)
  · obtain ⟨_, cs, hc⟩ := ho
    rw [hc]
    exact hk.keep k cs 27 hc ht
  · obtain ⟨h1, cs, hc⟩ := ho
    exact ⟨h1, cs, hk.keep k cs 27 hc ht⟩
set_option maxHeartbeats 16000000 in
set_option maxRecDepth 100000 in
theorem receives_walk (id timeout now : Int) (A3 : Option Addr) (c3 : Nat) (l3 : List S54) (w : World) (hG : Glob w) (hr3 : Kd.C k54 w A3 l3.length l3) (hc3 : l3.length ≤ c3) :
    Calls Tryd.prog 6 #[.int .i64 id, .int .i64 timeout, .int .i64 now, .slice A3 l3.length c3] w fun e w' => e = .returned (.bool true) ∧ Below w.heap.size w w' := by
  have HG := Aside0.mk hG
  have HR3 := Aside0.mk hr3
  have HC3 := Aside0.mk hc3
  clear hG hr3 hc3
  have hu54 := Tryd.underlying54
  have hu27 := Tryd.underlying27
  obtain ⟨b, hsm, hsb⟩ := small_some l3
  have HSM := Aside0.mk hsm
  have HSB := Aside0.mk hsb
  clear hsm hsb
  cases b with
  | false =>
    go_enter Tryd.func6, Tryd.ntmps6
    go_wp2_with (first | (go_at_call 10; (with_reducible refine (awake_calls w HG.out).mono ?_); rintro e w1 ⟨rfl, hb⟩; have HB1 := Aside0.mk hb; clear hb) | (go_at_call 20; (with_reducible refine (plenumref49_Small.calls 40 A3 c3 l3 30 false w1 (Glob.below HG.out HB1.out) (Kd.C_below HR3.out HB1.out) HC3.out HSM.out).mono ?_); rintro e Wx ⟨rfl, ⟨nd, rfl⟩⟩; have HB2 := Aside0.mk (pw_below_drewN HB1.out nd); generalize w1.drewN nd = w2 at HB2 ⊢))
    go_ret
    exact ⟨rfl, HB2.out⟩
  | true =>
  by_cases k1 : now < 0
  · have k1b : decide (now < 0) = true := decide_eq_true k1
    clear k1
    go_enter Tryd.func6, Tryd.ntmps6
    go_wp2_with (first | (go_at_call 10; (with_reducible refine (awake_calls w HG.out).mono ?_); rintro e w1 ⟨rfl, hb⟩; have HB1 := Aside0.mk hb; clear hb) | (go_at_call 20; (with_reducible refine (plenumref49_Small.calls 40 A3 c3 l3 30 true w1 (Glob.below HG.out HB1.out) (Kd.C_below HR3.out HB1.out) HC3.out HSM.out).mono ?_); rintro e Wx ⟨rfl, ⟨nd, rfl⟩⟩; have HB2 := Aside0.mk (pw_below_drewN HB1.out nd); generalize w1.drewN nd = w2 at HB2 ⊢))
    go_ret
    exact ⟨rfl, HB2.out⟩
  have k1b : decide (now < 0) = false := decide_eq_false k1
  clear k1
  by_cases k2 : 6311433599 < now
  · have k2b : decide (6311433599 < now) = true := decide_eq_true k2
    clear k2
    go_enter Tryd.func6, Tryd.ntmps6
    go_wp2_with (first | (go_at_call 10; (with_reducible refine (awake_calls w HG.out).mono ?_); rintro e w1 ⟨rfl, hb⟩; have HB1 := Aside0.mk hb; clear hb) | (go_at_call 20; (with_reducible refine (plenumref49_Small.calls 40 A3 c3 l3 30 true w1 (Glob.below HG.out HB1.out) (Kd.C_below HR3.out HB1.out) HC3.out HSM.out).mono ?_); rintro e Wx ⟨rfl, ⟨nd, rfl⟩⟩; have HB2 := Aside0.mk (pw_below_drewN HB1.out nd); generalize w1.drewN nd = w2 at HB2 ⊢))
    go_ret
    exact ⟨rfl, HB2.out⟩
  have k2b : decide (6311433599 < now) = false := decide_eq_false k2
  clear k2
  by_cases ke : begE id timeout = 0
  case neg =>
    have HE := Aside0.mk ke
    obtain ⟨er, HER⟩ : ∃ er, Aside0 (begE id timeout = er) := ⟨_, ⟨rfl⟩⟩
    have kb : (er != 0) = true := bne_iff_ne.mpr (by rw [← HER.out]; exact ke)
    have kd : (er != er) = false := bne_self_eq_false _
    clear ke
    go_enter Tryd.func6, Tryd.ntmps6
    go_wp2_with (first | (go_at_call 10; (with_reducible refine (awake_calls w HG.out).mono ?_); rintro e w1 ⟨rfl, hb⟩; have HB1 := Aside0.mk hb; clear hb) | (go_at_call 20; (with_reducible refine (plenumref49_Small.calls 40 A3 c3 l3 30 true w1 (Glob.below HG.out HB1.out) (Kd.C_below HR3.out HB1.out) HC3.out HSM.out).mono ?_); rintro e Wx ⟨rfl, ⟨nd, rfl⟩⟩; have HB2 := Aside0.mk (pw_below_drewN HB1.out nd); generalize w1.drewN nd = w2 at HB2 ⊢) | (go_at_call 30; (with_reducible refine (rnew_calls id timeout now w2 (Glob.below HG.out HB2.out)).mono ?_); rintro e w3 ⟨hn, _⟩; obtain ⟨he, hb⟩ := hn HE.out; rw [HER.out] at he; subst he; have HB3 := Aside0.mk (below_step HB2.out hb); clear hn hb) | (go_at_call 31; (with_reducible refine (rnewR_calls id timeout now w3 (Glob.below HG.out HB3.out)).mono ?_); rintro e w4 ⟨hn, _⟩; obtain ⟨he, hb⟩ := hn HE.out; rw [HER.out] at he; subst he; have HB4 := Aside0.mk (below_step HB3.out hb); clear hn hb))
    go_ret
    exact ⟨rfl, HB4.out⟩
  have HE := Aside0.mk ke
  have HLEN := Aside0.mk (HSB.out rfl).1
  have HTXT := Aside0.mk (HSB.out rfl).2
  clear ke
  go_enter Tryd.func6, Tryd.ntmps6
  go_wp2_with (first | (go_at_call 10; (with_reducible refine (awake_calls w HG.out).mono ?_); rintro e w1 ⟨rfl, hb⟩; have HB1 := Aside0.mk hb; clear hb) | (go_at_call 20; (with_reducible refine (plenumref49_Small.calls 40 A3 c3 l3 30 true w1 (Glob.below HG.out HB1.out) (Kd.C_below HR3.out HB1.out) HC3.out HSM.out).mono ?_); rintro e Wx ⟨rfl, ⟨nd, rfl⟩⟩; have HB2 := Aside0.mk (pw_below_drewN HB1.out nd); generalize w1.drewN nd = w2 at HB2 ⊢) | (go_at_call 30; (with_reducible refine (rnew_calls id timeout now w2 (Glob.below HG.out HB2.out)).mono ?_); rintro e w3 ⟨_, hp⟩; obtain ⟨gp, rfl, hr, hb⟩ := hp HE.out; have HR_ := Aside0.mk hr; have HB3 := Aside0.mk hb; clear hp hr hb) | (go_at_call 31; (with_reducible refine (rnewR_calls id timeout now w3 (Glob.below HG.out (below_step HB2.out HB3.out))).mono ?_); rintro e w4 ⟨_, hp⟩; obtain ⟨gd, wd, rfl, hi, hb0, hb⟩ := hp HE.out; have HD4 := Aside0.mk (show Duo w w2.heap.size gp gd ⟨id, timeout, 0, 0, [], wrap64 (now + timeout)⟩ ⟨id, timeout, 0, 0, [], wrap64 (now + timeout)⟩ w4 from ⟨HR_.out.below (below_step hb0 hb), Nat.le_trans HB3.out.size (below_step hb0 hb).size, hi.1, Nat.le_trans (Nat.le_trans (below_step HB2.out HB3.out).size hb0.size) hi.2, HB2.out.size, below_step (below_step HB2.out HB3.out) (below_step hb0 hb)⟩); clear hp hi hb0 hb))
  go_loopg [13, 15, 16, 17, 18, 19, 20] l3.length (fun kq v13 v15 v16 v17 v18 v19 v20 wr => ∃ (x : Int) (r : Rn), v13 = .int .i64 x ∧ Aside0 (0 ≤ x ∧ x + (kq : Int) = (l3.length : Int)) ∧ Aside0 (OkR r (100 * x.toNat)) ∧ Aside0 (Duo w w2.heap.size gp gd r r wr))
  case atStart => exact ⟨0, _, rfl, ⟨by omega, by omega⟩, ⟨⟨Or.inl rfl, Nat.le_refl _⟩⟩, HD4⟩
  case round =>
    obtain ⟨x, r, rfl, HXX, HOK, HT⟩ := hrel
    clear HB1 HB3 HR_ HD4
    by_cases hx : x < (l3.length : Int)
    · have q0 : decide (x < (l3.length : Int)) = true := decide_eq_true hx
      have HLT := Aside0.mk hx
      have hxw : wrap64 (x + 1) = x + 1 := by have := HXX.out; have := HLEN.out; unfold wrap64; omega
      obtain ⟨ad, e7, x0, x1, x2, x3, x4, x5, x6⟩ := at_T54 (Kd.C_below HR3.out HT.out.base) x HXX.out.1 hx
      subst e7
      have p1 : (0 ≤ x) = True := eq_true HXX.out.1
      have p2 : (x < (l3.length : Int)) = True := eq_true hx
      have HM5 := Aside0.mk (show (rd_T54 l3 x).f0.f5.size ≤ 100 by have h1 := HTXT.out x.toNat (by have := HXX.out; omega); rwa [Int.toNat_of_nonneg HXX.out.1] at h1)
      generalize rd_T54 l3 x = m at x0 x1 x2 x3 x4 x5 x6 HM5
      have HLM := Aside0.mk (show r.msg.length + m.f0.f5.size ≤ 140737488355328 by have h1 := HM5.out; have h2 := HOK.out.len; have h3 := HXX.out; have h4 := HLEN.out; omega)
      by_cases hk : m.f0.f0 = 0
      · have hkb : (m.f0.f0 == 0) = true := by rw [hk]; rfl
        have hok2 := OkR.tick HOK.out m.f1
        obtain ⟨X2, HXS⟩ : ∃ X2, Aside0 (r.tick m.f1 = X2) := ⟨_, ⟨rfl⟩⟩
        rw [HXS.out] at hok2
        obtain ⟨xs, r2⟩ := X2
        have HOK2 := Aside0.mk (show OkR r2 (100 * (x + 1).toNat) from ⟨hok2.1.st, Nat.le_trans hok2.1.len (by have h1 := HXX.out; have h2 := HM5.out; omega)⟩)
        have HXL2 := Aside0.mk hok2.2
        obtain ⟨ys, HYS2⟩ : ∃ ys, Aside0 (xs.map conv = ys) := ⟨_, ⟨rfl⟩⟩
        obtain ⟨st, HST⟩ : ∃ st, Aside0 (r2.state = st) := ⟨_, ⟨rfl⟩⟩
        obtain ⟨mt, HMT⟩ : ∃ mt, Aside0 (r2.text = mt) := ⟨_, ⟨rfl⟩⟩
        obtain ⟨mb, HMB⟩ : ∃ mb, Aside0 ((r2.state == 1) = mb) := ⟨_, ⟨rfl⟩⟩
        have hst : (st != st) = false := bne_self_eq_false _
        have hmt : (mt.toList == mt.toList) = true := beq_self_eq_true _
        have hmb : (mb != mb) = false := bne_self_eq_false _
        clear hk hok2 hx
        go_wp2_with (first | (go_at_call 32; have hbox := blk_new wr (.cells #[.int .i64 m.f0.f0, .int .i64 m.f0.f1, .int .i64 m.f0.f2, .bool m.f0.f3, .int .i64 m.f0.f4, .string m.f0.f5, .int .i64 m.f1] 54); have hb := below_alloc (Below.refl wr.heap.size wr) (.cells #[.int .i64 m.f0.f0, .int .i64 m.f0.f1, .int .i64 m.f0.f2, .bool m.f0.f3, .int .i64 m.f0.f4, .string m.f0.f5, .int .i64 m.f1] 54); have HT9 := Aside0.mk (HT.out.below hb); clear hb; generalize wr.heap.size = g at hbox ⊢; generalize wr.alloc (.cells #[.int .i64 m.f0.f0, .int .i64 m.f0.f1, .int .i64 m.f0.f2, .bool m.f0.f3, .int .i64 m.f0.f4, .string m.f0.f5, .int .i64 m.f1] 54) = w9 at hbox HT9 ⊢; have HG9 := Aside0.mk hbox; clear hbox x0 x1 x2 x3 x4 x5 x6; (with_reducible refine (Duo.ptick HT9.out m.f1).mono ?_); rintro e wa ⟨va, rfl, hva, hta, hka⟩; rw [HXS.out] at hva hta; have HTa := Aside0.mk hta; obtain ⟨Aa, ev, _⟩ := Pt.slice hva; subst ev; have HPa := Aside0.mk (show Pt w9.heap.size wa (.slice Aa xs.length xs.length) xs from hva); have HGa := Aside0.mk (hka.keep _ _ _ HG9.out (by decide) (by decide)); clear hva hta hka; have c0 := (blk_cell HGa.out 0).trans rfl; have c1 := (blk_cell HGa.out 1).trans rfl; have c2 := (blk_cell HGa.out 2).trans rfl; have c3 := (blk_cell HGa.out 3).trans rfl; have c4 := (blk_cell HGa.out 4).trans rfl; have c5 := (blk_cell HGa.out 5).trans rfl; have c6 := (blk_cell HGa.out 6).trans rfl) | (go_at_call 33; (with_reducible refine (Duo.dtick HG.out HTa.out m.f1).mono ?_); rintro e wb ⟨vb, rfl, hvb, htb, hkb⟩; rw [HXS.out] at hvb htb; replace hvb : Kd.V k27 27 wb 0 (okT 27 0 wb) vb (xs.map conv) := hvb; rw [HYS2.out] at hvb; have HTb := Aside0.mk htb; obtain ⟨Ab, cb, ev⟩ := Kd.V_slice hvb; subst ev; have HVb := Aside0.mk hvb; have HPb := Aside0.mk (HPa.out.keep (hkb.k23 (by decide))); clear hvb htb hkb c0 c1 c2 c3 c4 c5 c6) | (go_at_call 36; (with_reducible refine (Duo.pmessage HTb.out mt mb HMT.out HMB.out).mono ?_); rintro e wm ⟨rfl, rfl⟩) | (go_at_call 37; (with_reducible refine (Duo.dmessage HG.out HTb.out mt mb HMT.out HMB.out).mono ?_); rintro e wn ⟨rfl, htn, hkn⟩; have HTn := Aside0.mk htn; have HPn := Aside0.mk (HPb.out.keep (hkn.k23 (by decide))); have HVn := Aside0.mk (V27_keepX HVb.out hkn (by decide)); clear htn hkn))
        have HTc := Aside0.mk (HTn.out.below (below_drew1 (Below.refl _ _)))
        have HPc := Aside0.mk (HPn.out.keep (Keep23.of_below (below_drew1 (Below.refl _ _))))
        have HVc := Aside0.mk (V27_below HVn.out (below_drew1 (Below.refl _ _)))
        generalize hwd : wn.drew = wd at HTc HPc HVc
        have HTd := HTc
        have HPd := HPc
        have HVd := HVc
        have u2 : wn.drew.cell? ⟨gd, 2, none⟩ = some (.int .i64 st) := by rw [hwd]; exact Duo.dstate HTd.out st HST.out
        refine start_ (n := 23) (S := fun w' => w'.cell? ⟨gd, 2, none⟩ = some (.int .i64 st)) (ds := []) #[false, false, false, false, false, false, false, false, false, false, false, false, false, false, false, false, false, false, false, false, false, false, false] (by kernel_rfl) rfl rfl (u2) (fun hHeld => ?_)
        rw [hwd] at hHeld ⊢
        refine pure_ (i := 0) (N := some 100) (v := ?_) (a' := ?_) #[true, false, false, false, false, false, false, false, false, false, false, false, false, false, false, false, false, false, false, false, false, false, false] rfl rfl (by kernel_rfl) (fun _ _ _ h => h) (Or.inl ⟨by rfl, ?_⟩) ?_ ?_
        rotate_left
        · intro w'
          go_simp
          with_reducible rfl
        rotate_left
        · simp only [Act.put, List.setIfInBounds_toArray, List.set_cons_zero, List.set_cons_succ, i64_w, i32_w]
          rfl
        refine pure_ (i := 1) (N := some 101) (v := ?_) (a' := ?_) #[true, true, false, false, false, false, false, false, false, false, false, false, false, false, false, false, false, false, false, false, false, false, false] rfl rfl (by kernel_rfl) (fun _ _ _ h => h) (Or.inl ⟨by rfl, ?_⟩) ?_ ?_
        rotate_left
        · intro w'
          go_simp
          with_reducible rfl
        rotate_left
        · simp only [Act.put, List.setIfInBounds_toArray, List.set_cons_zero, List.set_cons_succ, i64_w, i32_w]
          rfl
        refine one_ (i := 2) (N := some 102) #[true, true, true, false, false, false, false, false, false, false, false, false, false, false, false, false, false, false, false, false, false, false, false] rfl rfl (by kernel_rfl) (by decide) (fun K hK => ?_)
        refine goes_ Tryd.func23 (by kernel_rfl) rfl #[.slice Aa xs.length xs.length, .slice Ab ys.length cb] (by rfl) rfl rfl (by simp only [List.map_toArray, List.map_cons, List.map_nil]; rfl) ?_
        with_reducible refine (same_eq Aa Ab cb xs ys w9.heap.size _ (Glob.below HG.out HTd.out.base) HPd.out HYS2.out HVd.out HXL2.out).mono ?_
        rintro e we ⟨rfl, hb⟩
        refine ⟨_, rfl, ?_⟩
        have HTe := Aside0.mk (HTd.out.below hb)
        have hbe := Aside0.mk hb
        clear hb
        refine hK.out _ _ (pw_cell_below hbe.out hHeld) (fun hHeld => ?_)
        clear hK K
        refine norm_ (a' := ?_) ?_ ?_
        rotate_left
        · show Act.put _ (some 102) _ = _
          simp only [Act.put, List.setIfInBounds_toArray, List.set_cons_zero, List.set_cons_succ, i64_w, i32_w]
          rfl
        refine pure_ (i := 3) (N := some 103) (v := ?_) (a' := ?_) #[true, true, true, true, false, false, false, false, false, false, false, false, false, false, false, false, false, false, false, false, false, false, false] rfl rfl (by kernel_rfl) (fun _ _ _ h => h) (Or.inl ⟨by rfl, ?_⟩) ?_ ?_
        rotate_left
        · intro w'
          go_simp
          with_reducible rfl
        rotate_left
        · simp only [Act.put, List.setIfInBounds_toArray, List.set_cons_zero, List.set_cons_succ, i64_w, i32_w]
          rfl
        refine pure_ (i := 4) (N := some 104) (v := ?_) (a' := ?_) #[true, true, true, true, true, false, false, false, false, false, false, false, false, false, false, false, false, false, false, false, false, false, false] rfl rfl (by kernel_rfl) (fun _ _ _ h => h) (Or.inl ⟨by rfl, ?_⟩) ?_ ?_
        rotate_left
        · intro w'
          go_simp
          with_reducible rfl
        rotate_left
        · simp only [Act.put, List.setIfInBounds_toArray, List.set_cons_zero, List.set_cons_succ, i64_w, i32_w]
          rfl
        refine pure_ (i := 5) (N := some 105) (v := ?_) (a' := ?_) #[true, true, true, true, true, true, false, false, false, false, false, false, false, false, false, false, false, false, false, false, false, false, false] rfl rfl (by kernel_rfl) (fun _ _ _ h => h) (Or.inl ⟨by rfl, ?_⟩) ?_ ?_
        rotate_left
        · intro w'
          go_simp
          with_reducible rfl
        rotate_left
        · simp only [Act.put, List.setIfInBounds_toArray, List.set_cons_zero, List.set_cons_succ, i64_w, i32_w]
          rfl
        refine pure_ (i := 7) (N := some 107) (v := ?_) (a' := ?_) #[true, true, true, true, true, true, false, true, false, false, false, false, false, false, false, false, false, false, false, false, false, false, false] rfl rfl (by kernel_rfl) (fun _ _ _ h => h) (Or.inl ⟨by rfl, ?_⟩) ?_ ?_
        rotate_left
        · intro w'
          go_simp
          with_reducible rfl
        rotate_left
        · simp only [Act.put, List.setIfInBounds_toArray, List.set_cons_zero, List.set_cons_succ, i64_w, i32_w]
          rfl
        refine pure_ (i := 8) (N := some 108) (v := ?_) (a' := ?_) #[true, true, true, true, true, true, false, true, true, false, false, false, false, false, false, false, false, false, false, false, false, false, false] rfl rfl (by kernel_rfl) (fun _ _ _ h => h) (Or.inl ⟨by rfl, ?_⟩) ?_ ?_
        rotate_left
        · intro w'
          go_simp
          with_reducible rfl
        rotate_left
        · simp only [Act.put, List.setIfInBounds_toArray, List.set_cons_zero, List.set_cons_succ, i64_w, i32_w]
          rfl
        refine pure_ (i := 9) (N := some 109) (v := ?_) (a' := ?_) #[true, true, true, true, true, true, false, true, true, true, false, false, false, false, false, false, false, false, false, false, false, false, false] rfl rfl (by kernel_rfl) (fun _ _ _ h => h) (Or.inl ⟨by rfl, ?_⟩) ?_ ?_
        rotate_left
        · intro w'
          go_simp
          with_reducible rfl
        rotate_left
        · simp only [Act.put, List.setIfInBounds_toArray, List.set_cons_zero, List.set_cons_succ, i64_w, i32_w]
          rfl
        refine take_ (i := 10) (N := some 110) (v := ?_) (a' := ?_) #[true, true, true, true, true, true, false, true, true, true, true, false, false, false, false, false, false, false, false, false, false, false, false] rfl rfl (by kernel_rfl) (fun _ _ _ h => h) (Or.inl ⟨by rfl, ?_⟩) hHeld ?_ ?_
        rotate_left
        · intro w' s0
          go_simp
          with_reducible rfl
        rotate_left
        · simp only [Act.put, List.setIfInBounds_toArray, List.set_cons_zero, List.set_cons_succ, i64_w, i32_w]
          rfl
        refine one_ (i := 6) (N := some 106) #[true, true, true, true, true, true, true, true, true, true, true, false, false, false, false, false, false, false, false, false, false, false, false] rfl rfl (by kernel_rfl) (by decide) (fun K hK => ?_)
        refine goes_ Tryd.func38 (by kernel_rfl) rfl #[.pointer (some ⟨gp, 0, none⟩)] (by rfl) rfl rfl (by simp only [List.map_toArray, List.map_cons, List.map_nil]; rfl) ?_
        with_reducible refine (Duo.pstate HTe.out st HST.out).mono ?_
        rintro e wf ⟨rfl, rfl⟩
        refine ⟨_, rfl, ?_⟩
        refine hK.out _ _ (hHeld) (fun hHeld => ?_)
        clear hK K
        refine norm_ (a' := ?_) ?_ ?_
        rotate_left
        · show Act.put _ (some 106) _ = _
          simp only [Act.put, List.setIfInBounds_toArray, List.set_cons_zero, List.set_cons_succ, i64_w, i32_w]
          rfl
        refine pure_ (i := 11) (N := some 111) (v := ?_) (a' := ?_) #[true, true, true, true, true, true, true, true, true, true, true, true, false, false, false, false, false, false, false, false, false, false, false] rfl rfl (by kernel_rfl) (fun _ _ _ h => h) (Or.inl ⟨by rfl, ?_⟩) ?_ ?_
        rotate_left
        · intro w'
          go_simp
          with_reducible rfl
        rotate_left
        · simp only [Act.put, List.setIfInBounds_toArray, List.set_cons_zero, List.set_cons_succ, i64_w, i32_w]
          rfl
        refine pure_ (i := 12) (N := some 112) (v := ?_) (a' := ?_) #[true, true, true, true, true, true, true, true, true, true, true, true, true, false, false, false, false, false, false, false, false, false, false] rfl rfl (by kernel_rfl) (fun _ _ _ h => h) (Or.inl ⟨by rfl, ?_⟩) ?_ ?_
        rotate_left
        · intro w'
          go_simp
          with_reducible rfl
        rotate_left
        · simp only [Act.put, List.setIfInBounds_toArray, List.set_cons_zero, List.set_cons_succ, i64_w, i32_w]
          rfl
        refine pure_ (i := 13) (N := some 113) (v := ?_) (a' := ?_) #[true, true, true, true, true, true, true, true, true, true, true, true, true, true, false, false, false, false, false, false, false, false, false] rfl rfl (by kernel_rfl) (fun _ _ _ h => h) (Or.inl ⟨by rfl, ?_⟩) ?_ ?_
        rotate_left
        · intro w'
          go_simp
          with_reducible rfl
        rotate_left
        · simp only [Act.put, List.setIfInBounds_toArray, List.set_cons_zero, List.set_cons_succ, i64_w, i32_w]
          rfl
        refine pure_ (i := 14) (N := some 114) (v := ?_) (a' := ?_) #[true, true, true, true, true, true, true, true, true, true, true, true, true, true, true, false, false, false, false, false, false, false, false] rfl rfl (by kernel_rfl) (fun _ _ _ h => h) (Or.inl ⟨by rfl, ?_⟩) ?_ ?_
        rotate_left
        · intro w'
          go_simp
          with_reducible rfl
        rotate_left
        · simp only [Act.put, List.setIfInBounds_toArray, List.set_cons_zero, List.set_cons_succ, i64_w, i32_w]
          rfl
        refine pure_ (i := 15) (N := some 115) (v := ?_) (a' := ?_) #[true, true, true, true, true, true, true, true, true, true, true, true, true, true, true, true, false, false, false, false, false, false, false] rfl rfl (by kernel_rfl) (fun _ _ _ h => h) (Or.inl ⟨by rfl, ?_⟩) ?_ ?_
        rotate_left
        · intro w'
          go_simp
          with_reducible rfl
        rotate_left
        · simp only [Act.put, List.setIfInBounds_toArray, List.set_cons_zero, List.set_cons_succ, i64_w, i32_w]
          rfl
        refine pure_ (i := 16) (N := some 116) (v := ?_) (a' := ?_) #[true, true, true, true, true, true, true, true, true, true, true, true, true, true, true, true, true, false, false, false, false, false, false] rfl rfl (by kernel_rfl) (fun _ _ _ h => h) (Or.inl ⟨by rfl, ?_⟩) ?_ ?_
        rotate_left
        · intro w'
          go_simp
          with_reducible rfl
        rotate_left
        · simp only [Act.put, List.setIfInBounds_toArray, List.set_cons_zero, List.set_cons_succ, i64_w, i32_w]
          rfl
        refine pure_ (i := 17) (N := some 117) (v := ?_) (a' := ?_) #[true, true, true, true, true, true, true, true, true, true, true, true, true, true, true, true, true, true, false, false, false, false, false] rfl rfl (by kernel_rfl) (fun _ _ _ h => h) (Or.inl ⟨by rfl, ?_⟩) ?_ ?_
        rotate_left
        · intro w'
          go_simp
          with_reducible rfl
        rotate_left
        · simp only [Act.put, List.setIfInBounds_toArray, List.set_cons_zero, List.set_cons_succ, i64_w, i32_w]
          rfl
        refine pure_ (i := 18) (N := some 118) (v := ?_) (a' := ?_) #[true, true, true, true, true, true, true, true, true, true, true, true, true, true, true, true, true, true, true, false, false, false, false] rfl rfl (by kernel_rfl) (fun _ _ _ h => h) (Or.inl ⟨by rfl, ?_⟩) ?_ ?_
        rotate_left
        · intro w'
          go_simp
          with_reducible rfl
        rotate_left
        · simp only [Act.put, List.setIfInBounds_toArray, List.set_cons_zero, List.set_cons_succ, i64_w, i32_w]
          rfl
        refine pure_ (i := 19) (N := some 119) (v := ?_) (a' := ?_) #[true, true, true, true, true, true, true, true, true, true, true, true, true, true, true, true, true, true, true, true, false, false, false] rfl rfl (by kernel_rfl) (fun _ _ _ h => h) (Or.inl ⟨by rfl, ?_⟩) ?_ ?_
        rotate_left
        · intro w'
          go_simp
          with_reducible rfl
        rotate_left
        · simp only [Act.put, List.setIfInBounds_toArray, List.set_cons_zero, List.set_cons_succ, i64_w, i32_w]
          rfl
        refine pure_ (i := 20) (N := some 120) (v := ?_) (a' := ?_) #[true, true, true, true, true, true, true, true, true, true, true, true, true, true, true, true, true, true, true, true, true, false, false] rfl rfl (by kernel_rfl) (fun _ _ _ h => h) (Or.inl ⟨by rfl, ?_⟩) ?_ ?_
        rotate_left
        · intro w'
          go_simp
          with_reducible rfl
        rotate_left
        · simp only [Act.put, List.setIfInBounds_toArray, List.set_cons_zero, List.set_cons_succ, i64_w, i32_w]
          rfl
        refine pure_ (i := 21) (N := some 121) (v := ?_) (a' := ?_) #[true, true, true, true, true, true, true, true, true, true, true, true, true, true, true, true, true, true, true, true, true, true, false] rfl rfl (by kernel_rfl) (fun _ _ _ h => h) (Or.inl ⟨by rfl, ?_⟩) ?_ ?_
        rotate_left
        · intro w'
          go_simp
          with_reducible rfl
        rotate_left
        · simp only [Act.put, List.setIfInBounds_toArray, List.set_cons_zero, List.set_cons_succ, i64_w, i32_w]
          rfl
        refine pure_ (i := 22) (N := some 122) (v := ?_) (a' := ?_) #[true, true, true, true, true, true, true, true, true, true, true, true, true, true, true, true, true, true, true, true, true, true, true] rfl rfl (by kernel_rfl) (fun _ _ _ h => h) (Or.inl ⟨by rfl, ?_⟩) ?_ ?_
        rotate_left
        · intro w'
          go_simp
          with_reducible rfl
        rotate_left
        · simp only [Act.put, List.setIfInBounds_toArray, List.set_cons_zero, List.set_cons_succ, i64_w, i32_w]
          rfl
        refine done_ (by kernel_rfl) ?_
        go_wp2
        go_roundg (gk - 1)
        case measure => have h1 := HXX.out; have h2 := HLT.out; omega
        case rel => exact ⟨x + 1, r2, (by first | rfl | (rw [hxw])), ⟨by have h1 := HXX.out; have h2 := HLT.out; omega⟩, HOK2, HTe⟩
      · have hkb : (m.f0.f0 == 0) = false := beq_false_of_ne hk
        have hok2 := OkR.handle HOK.out m.f0.f0 m.f0.f1 m.f0.f2 m.f0.f3 m.f0.f5 m.f1
        obtain ⟨X2, HXS⟩ : ∃ X2, Aside0 (r.handle m.f0.f0 m.f0.f1 m.f0.f2 m.f0.f3 m.f0.f5 m.f1 = X2) := ⟨_, ⟨rfl⟩⟩
        rw [HXS.out] at hok2
        obtain ⟨xs, r2⟩ := X2
        have HOK2 := Aside0.mk (show OkR r2 (100 * (x + 1).toNat) from ⟨hok2.1.st, Nat.le_trans hok2.1.len (by have h1 := HXX.out; have h2 := HM5.out; omega)⟩)
        have HXL2 := Aside0.mk hok2.2
        obtain ⟨ys, HYS2⟩ : ∃ ys, Aside0 (xs.map conv = ys) := ⟨_, ⟨rfl⟩⟩
        obtain ⟨st, HST⟩ : ∃ st, Aside0 (r2.state = st) := ⟨_, ⟨rfl⟩⟩
        obtain ⟨mt, HMT⟩ : ∃ mt, Aside0 (r2.text = mt) := ⟨_, ⟨rfl⟩⟩
        obtain ⟨mb, HMB⟩ : ∃ mb, Aside0 ((r2.state == 1) = mb) := ⟨_, ⟨rfl⟩⟩
        have hst : (st != st) = false := bne_self_eq_false _
        have hmt : (mt.toList == mt.toList) = true := beq_self_eq_true _
        have hmb : (mb != mb) = false := bne_self_eq_false _
        clear hk hok2 hx
        go_wp2
        have hbox := blk_new wr (.cells #[.int .i64 m.f0.f0, .int .i64 m.f0.f1, .int .i64 m.f0.f2, .bool m.f0.f3, .int .i64 m.f0.f4, .string m.f0.f5, .int .i64 m.f1] 54)
        have hb := below_alloc (Below.refl wr.heap.size wr) (.cells #[.int .i64 m.f0.f0, .int .i64 m.f0.f1, .int .i64 m.f0.f2, .bool m.f0.f3, .int .i64 m.f0.f4, .string m.f0.f5, .int .i64 m.f1] 54)
        have HT9 := Aside0.mk (HT.out.below hb)
        clear hb
        generalize wr.heap.size = g at hbox ⊢
        generalize wr.alloc (.cells #[.int .i64 m.f0.f0, .int .i64 m.f0.f1, .int .i64 m.f0.f2, .bool m.f0.f3, .int .i64 m.f0.f4, .string m.f0.f5, .int .i64 m.f1] 54) = w9 at hbox HT9 ⊢
        have HG9 := Aside0.mk hbox
        clear hbox x0 x1 x2 x3 x4 x5 x6
        have HTg := Aside0.mk (HT9.out.below (below_drew1 (Below.refl _ _)))
        have HGg := Aside0.mk (blk_drew HG9.out)
        have c0 := (blk_cell HGg.out 0).trans rfl
        have c1 := (blk_cell HGg.out 1).trans rfl
        have c2 := (blk_cell HGg.out 2).trans rfl
        have c3 := (blk_cell HGg.out 3).trans rfl
        have c4 := (blk_cell HGg.out 4).trans rfl
        have c5 := (blk_cell HGg.out 5).trans rfl
        have c6 := (blk_cell HGg.out 6).trans rfl
        generalize hwg : w9.drew = wg at HTg HGg
        refine start_ (n := 8) (S := fun w' => w'.cell? ⟨g, 0, none⟩ = some (.int .i64 m.f0.f0) ∧ w'.cell? ⟨g, 1, none⟩ = some (.int .i64 m.f0.f1) ∧ w'.cell? ⟨g, 2, none⟩ = some (.int .i64 m.f0.f2) ∧ w'.cell? ⟨g, 3, none⟩ = some (.bool m.f0.f3) ∧ w'.cell? ⟨g, 4, none⟩ = some (.int .i64 m.f0.f4) ∧ w'.cell? ⟨g, 5, none⟩ = some (.string m.f0.f5) ∧ w'.cell? ⟨g, 6, none⟩ = some (.int .i64 m.f1)) (ds := []) #[false, false, false, false, false, false, false, false] (by kernel_rfl) rfl rfl ⟨c0, c1, c2, c3, c4, c5, c6⟩ (fun hHeld => ?_)
        rw [hwg] at hHeld ⊢
        clear c0 c1 c2 c3 c4 c5 c6
        refine pure_ (i := 0) (N := some 77) (v := ?_) (a' := ?_) #[true, false, false, false, false, false, false, false] rfl rfl (by kernel_rfl) (fun _ _ _ h => h) (Or.inl ⟨by rfl, ?_⟩) ?_ ?_
        rotate_left
        · intro w'
          go_simp
          with_reducible rfl
        rotate_left
        · simp only [Act.put, List.setIfInBounds_toArray, List.set_cons_zero, List.set_cons_succ, i64_w, i32_w]
          rfl
        refine pure_ (i := 1) (N := some 78) (v := ?_) (a' := ?_) #[true, true, false, false, false, false, false, false] rfl rfl (by kernel_rfl) (fun _ _ _ h => h) (Or.inl ⟨by rfl, ?_⟩) ?_ ?_
        rotate_left
        · intro w'
          go_simp
          with_reducible rfl
        rotate_left
        · simp only [Act.put, List.setIfInBounds_toArray, List.set_cons_zero, List.set_cons_succ, i64_w, i32_w]
          rfl
        refine pure_ (i := 4) (N := some 81) (v := ?_) (a' := ?_) #[true, true, false, false, true, false, false, false] rfl rfl (by kernel_rfl) (fun _ _ _ h => h) (Or.inl ⟨by rfl, ?_⟩) ?_ ?_
        rotate_left
        · intro w'
          go_simp
          with_reducible rfl
        rotate_left
        · simp only [Act.put, List.setIfInBounds_toArray, List.set_cons_zero, List.set_cons_succ, i64_w, i32_w]
          rfl
        refine take_ (i := 2) (N := some 79) (v := ?_) (a' := ?_) #[true, true, true, false, true, false, false, false] rfl rfl (by kernel_rfl) (fun _ _ _ h => h) (Or.inl ⟨by rfl, ?_⟩) hHeld ?_ ?_
        rotate_left
        · rintro w' ⟨s0, s1, s2, s3, s4, s5, s6⟩
          go_simp
          with_reducible rfl
        rotate_left
        · simp only [Act.put, List.setIfInBounds_toArray, List.set_cons_zero, List.set_cons_succ, i64_w, i32_w]
          rfl
        refine take_ (i := 5) (N := some 82) (v := ?_) (a' := ?_) #[true, true, true, false, true, true, false, false] rfl rfl (by kernel_rfl) (fun _ _ _ h => h) (Or.inl ⟨by rfl, ?_⟩) hHeld ?_ ?_
        rotate_left
        · rintro w' ⟨s0, s1, s2, s3, s4, s5, s6⟩
          go_simp
          with_reducible rfl
        rotate_left
        · simp only [Act.put, List.setIfInBounds_toArray, List.set_cons_zero, List.set_cons_succ, i64_w, i32_w]
          rfl
        refine one_ (i := 3) (N := some 80) #[true, true, true, true, true, true, false, false] rfl rfl (by kernel_rfl) (by decide) (fun K hK => ?_)
        refine goes_ Tryd.func27 (by kernel_rfl) rfl #[.agg #[.int .i64 m.f0.f0, .int .i64 m.f0.f1, .int .i64 m.f0.f2, .bool m.f0.f3, .int .i64 m.f0.f4, .string m.f0.f5]] (by rfl) rfl rfl (by simp only [List.map_toArray, List.map_cons, List.map_nil]; rfl) ?_
        with_reducible refine (plenumlaw49_back.calls m.f0.f0 m.f0.f1 m.f0.f2 m.f0.f3 m.f0.f4 m.f0.f5 m.f0.f0 m.f0.f1 m.f0.f2 m.f0.f3 m.f0.f4 m.f0.f5 _ (Glob.below HG.out HTg.out.base) rfl).mono ?_
        rintro e wh ⟨rfl, hb⟩
        refine ⟨_, rfl, ?_⟩
        have HTh := Aside0.mk (HTg.out.below hb)
        have HGh := Aside0.mk (blk_below HGg.out hb)
        have hbh := Aside0.mk hb
        clear hb
        refine hK.out _ _ ⟨pw_cell_below hbh.out hHeld.1, pw_cell_below hbh.out hHeld.2.1, pw_cell_below hbh.out hHeld.2.2.1, pw_cell_below hbh.out hHeld.2.2.2.1, pw_cell_below hbh.out hHeld.2.2.2.2.1, pw_cell_below hbh.out hHeld.2.2.2.2.2.1, pw_cell_below hbh.out hHeld.2.2.2.2.2.2⟩ (fun hHeld => ?_)
        clear hK K
        refine norm_ (a' := ?_) ?_ ?_
        rotate_left
        · show Act.put _ (some 80) _ = _
          simp only [Act.put, List.setIfInBounds_toArray, List.set_cons_zero, List.set_cons_succ, i64_w, i32_w]
          rfl
        refine one_ (i := 6) (N := some 83) #[true, true, true, true, true, true, true, false] rfl rfl (by kernel_rfl) (by decide) (fun K hK => ?_)
        refine goes_ Tryd.func34 (by kernel_rfl) rfl #[.pointer (some ⟨gp, 0, none⟩), .agg #[.int .i64 m.f0.f0, .int .i64 m.f0.f1, .int .i64 m.f0.f2, .bool m.f0.f3, .int .i64 m.f0.f4, .string m.f0.f5], .int .i64 m.f1] (by rfl) rfl rfl (by simp only [List.map_toArray, List.map_cons, List.map_nil]; rfl) ?_
        with_reducible refine (Duo.phandle HTh.out m.f0.f0 m.f0.f1 m.f0.f2 m.f0.f3 m.f0.f4 m.f0.f5 m.f1 HLM.out).mono ?_
        rintro e wa ⟨va, rfl, hva, hta, hka⟩
        refine ⟨_, rfl, ?_⟩
        rw [HXS.out] at hva hta
        have HTa := Aside0.mk hta
        obtain ⟨Aa, ev, _⟩ := Pt.slice hva
        subst ev
        have HPa := Aside0.mk (show Pt wh.heap.size wa (.slice Aa xs.length xs.length) xs from hva)
        have HGa := Aside0.mk (hka.keep _ _ _ HGh.out (by decide) (by decide))
        clear hva hta hka
        refine hK.out _ _ ⟨(blk_cell HGa.out 0).trans rfl, (blk_cell HGa.out 1).trans rfl, (blk_cell HGa.out 2).trans rfl, (blk_cell HGa.out 3).trans rfl, (blk_cell HGa.out 4).trans rfl, (blk_cell HGa.out 5).trans rfl, (blk_cell HGa.out 6).trans rfl⟩ (fun hHeld => ?_)
        clear hK K
        refine norm_ (a' := ?_) ?_ ?_
        rotate_left
        · show Act.put _ (some 83) _ = _
          simp only [Act.put, List.setIfInBounds_toArray, List.set_cons_zero, List.set_cons_succ, i64_w, i32_w]
          rfl
        refine pure_ (i := 7) (N := some 15) (v := ?_) (a' := ?_) #[true, true, true, true, true, true, true, true] rfl rfl (by kernel_rfl) (fun _ _ _ h => h) (Or.inl ⟨by rfl, ?_⟩) ?_ ?_
        rotate_left
        · intro w'
          go_simp
          with_reducible rfl
        rotate_left
        · simp only [Act.put, List.setIfInBounds_toArray, List.set_cons_zero, List.set_cons_succ, i64_w, i32_w]
          rfl
        refine done_ (by kernel_rfl) ?_
        clear hHeld
        have c0 := (blk_cell HGa.out 0).trans rfl
        have c1 := (blk_cell HGa.out 1).trans rfl
        have c2 := (blk_cell HGa.out 2).trans rfl
        have c3 := (blk_cell HGa.out 3).trans rfl
        have c4 := (blk_cell HGa.out 4).trans rfl
        have c5 := (blk_cell HGa.out 5).trans rfl
        have c6 := (blk_cell HGa.out 6).trans rfl
        go_wp2_with (first | (go_at_call 35; (with_reducible refine (Duo.dhandle HG.out HTa.out m.f0.f0 m.f0.f1 m.f0.f2 m.f0.f3 m.f0.f4 m.f0.f5 m.f1 HOK.out.st HLM.out).mono ?_); rintro e wb ⟨vb, rfl, hvb, htb, hkb⟩; rw [HXS.out] at hvb htb; replace hvb : Kd.V k27 27 wb 0 (okT 27 0 wb) vb (xs.map conv) := hvb; rw [HYS2.out] at hvb; have HTb := Aside0.mk htb; obtain ⟨Ab, cb, ev⟩ := Kd.V_slice hvb; subst ev; have HVb := Aside0.mk hvb; have HPb := Aside0.mk (HPa.out.keep (hkb.k23 (by decide))); clear hvb htb hkb c0 c1 c2 c3 c4 c5 c6) | (go_at_call 36; (with_reducible refine (Duo.pmessage HTb.out mt mb HMT.out HMB.out).mono ?_); rintro e wm ⟨rfl, rfl⟩) | (go_at_call 37; (with_reducible refine (Duo.dmessage HG.out HTb.out mt mb HMT.out HMB.out).mono ?_); rintro e wn ⟨rfl, htn, hkn⟩; have HTn := Aside0.mk htn; have HPn := Aside0.mk (HPb.out.keep (hkn.k23 (by decide))); have HVn := Aside0.mk (V27_keepX HVb.out hkn (by decide)); clear htn hkn))
        have HTc := Aside0.mk (HTn.out.below (below_drew1 (Below.refl _ _)))
        have HPc := Aside0.mk (HPn.out.keep (Keep23.of_below (below_drew1 (Below.refl _ _))))
        have HVc := Aside0.mk (V27_below HVn.out (below_drew1 (Below.refl _ _)))
        generalize hwd : wn.drew = wd at HTc HPc HVc
        have HTd := HTc
        have HPd := HPc
        have HVd := HVc
        have u2 : wn.drew.cell? ⟨gd, 2, none⟩ = some (.int .i64 st) := by rw [hwd]; exact Duo.dstate HTd.out st HST.out
        refine start_ (n := 23) (S := fun w' => w'.cell? ⟨gd, 2, none⟩ = some (.int .i64 st)) (ds := []) #[false, false, false, false, false, false, false, false, false, false, false, false, false, false, false, false, false, false, false, false, false, false, false] (by kernel_rfl) rfl rfl (u2) (fun hHeld => ?_)
        rw [hwd] at hHeld ⊢
        refine pure_ (i := 0) (N := some 100) (v := ?_) (a' := ?_) #[true, false, false, false, false, false, false, false, false, false, false, false, false, false, false, false, false, false, false, false, false, false, false] rfl rfl (by kernel_rfl) (fun _ _ _ h => h) (Or.inl ⟨by rfl, ?_⟩) ?_ ?_
        rotate_left
        · intro w'
          go_simp
          with_reducible rfl
        rotate_left
        · simp only [Act.put, List.setIfInBounds_toArray, List.set_cons_zero, List.set_cons_succ, i64_w, i32_w]
          rfl
        refine pure_ (i := 1) (N := some 101) (v := ?_) (a' := ?_) #[true, true, false, false, false, false, false, false, false, false, false, false, false, false, false, false, false, false, false, false, false, false, false] rfl rfl (by kernel_rfl) (fun _ _ _ h => h) (Or.inl ⟨by rfl, ?_⟩) ?_ ?_
        rotate_left
        · intro w'
          go_simp
          with_reducible rfl
        rotate_left
        · simp only [Act.put, List.setIfInBounds_toArray, List.set_cons_zero, List.set_cons_succ, i64_w, i32_w]
          rfl
        refine one_ (i := 2) (N := some 102) #[true, true, true, false, false, false, false, false, false, false, false, false, false, false, false, false, false, false, false, false, false, false, false] rfl rfl (by kernel_rfl) (by decide) (fun K hK => ?_)
        refine goes_ Tryd.func23 (by kernel_rfl) rfl #[.slice Aa xs.length xs.length, .slice Ab ys.length cb] (by rfl) rfl rfl (by simp only [List.map_toArray, List.map_cons, List.map_nil]; rfl) ?_
        with_reducible refine (same_eq Aa Ab cb xs ys wh.heap.size _ (Glob.below HG.out HTd.out.base) HPd.out HYS2.out HVd.out HXL2.out).mono ?_
        rintro e we ⟨rfl, hb⟩
        refine ⟨_, rfl, ?_⟩
        have HTe := Aside0.mk (HTd.out.below hb)
        have hbe := Aside0.mk hb
        clear hb
        refine hK.out _ _ (pw_cell_below hbe.out hHeld) (fun hHeld => ?_)
        clear hK K
        refine norm_ (a' := ?_) ?_ ?_
        rotate_left
        · show Act.put _ (some 102) _ = _
          simp only [Act.put, List.setIfInBounds_toArray, List.set_cons_zero, List.set_cons_succ, i64_w, i32_w]
          rfl
        refine pure_ (i := 3) (N := some 103) (v := ?_) (a' := ?_) #[true, true, true, true, false, false, false, false, false, false, false, false, false, false, false, false, false, false, false, false, false, false, false] rfl rfl (by kernel_rfl) (fun _ _ _ h => h) (Or.inl ⟨by rfl, ?_⟩) ?_ ?_
        rotate_left
        · intro w'
          go_simp
          with_reducible rfl
        rotate_left
        · simp only [Act.put, List.setIfInBounds_toArray, List.set_cons_zero, List.set_cons_succ, i64_w, i32_w]
          rfl
        refine pure_ (i := 4) (N := some 104) (v := ?_) (a' := ?_) #[true, true, true, true, true, false, false, false, false, false, false, false, false, false, false, false, false, false, false, false, false, false, false] rfl rfl (by kernel_rfl) (fun _ _ _ h => h) (Or.inl ⟨by rfl, ?_⟩) ?_ ?_
        rotate_left
        · intro w'
          go_simp
          with_reducible rfl
        rotate_left
        · simp only [Act.put, List.setIfInBounds_toArray, List.set_cons_zero, List.set_cons_succ, i64_w, i32_w]
          rfl
        refine pure_ (i := 5) (N := some 105) (v := ?_) (a' := ?_) #[true, true, true, true, true, true, false, false, false, false, false, false, false, false, false, false, false, false, false, false, false, false, false] rfl rfl (by kernel_rfl) (fun _ _ _ h => h) (Or.inl ⟨by rfl, ?_⟩) ?_ ?_
        rotate_left
        · intro w'
          go_simp
          with_reducible rfl
        rotate_left
        · simp only [Act.put, List.setIfInBounds_toArray, List.set_cons_zero, List.set_cons_succ, i64_w, i32_w]
          rfl
        refine pure_ (i := 7) (N := some 107) (v := ?_) (a' := ?_) #[true, true, true, true, true, true, false, true, false, false, false, false, false, false, false, false, false, false, false, false, false, false, false] rfl rfl (by kernel_rfl) (fun _ _ _ h => h) (Or.inl ⟨by rfl, ?_⟩) ?_ ?_
        rotate_left
        · intro w'
          go_simp
          with_reducible rfl
        rotate_left
        · simp only [Act.put, List.setIfInBounds_toArray, List.set_cons_zero, List.set_cons_succ, i64_w, i32_w]
          rfl
        refine pure_ (i := 8) (N := some 108) (v := ?_) (a' := ?_) #[true, true, true, true, true, true, false, true, true, false, false, false, false, false, false, false, false, false, false, false, false, false, false] rfl rfl (by kernel_rfl) (fun _ _ _ h => h) (Or.inl ⟨by rfl, ?_⟩) ?_ ?_
        rotate_left
        · intro w'
          go_simp
          with_reducible rfl
        rotate_left
        · simp only [Act.put, List.setIfInBounds_toArray, List.set_cons_zero, List.set_cons_succ, i64_w, i32_w]
          rfl
        refine pure_ (i := 9) (N := some 109) (v := ?_) (a' := ?_) #[true, true, true, true, true, true, false, true, true, true, false, false, false, false, false, false, false, false, false, false, false, false, false] rfl rfl (by kernel_rfl) (fun _ _ _ h => h) (Or.inl ⟨by rfl, ?_⟩) ?_ ?_
        rotate_left
        · intro w'
          go_simp
          with_reducible rfl
        rotate_left
        · simp only [Act.put, List.setIfInBounds_toArray, List.set_cons_zero, List.set_cons_succ, i64_w, i32_w]
          rfl
        refine take_ (i := 10) (N := some 110) (v := ?_) (a' := ?_) #[true, true, true, true, true, true, false, true, true, true, true, false, false, false, false, false, false, false, false, false, false, false, false] rfl rfl (by kernel_rfl) (fun _ _ _ h => h) (Or.inl ⟨by rfl, ?_⟩) hHeld ?_ ?_
        rotate_left
        · intro w' s0
          go_simp
          with_reducible rfl
        rotate_left
        · simp only [Act.put, List.setIfInBounds_toArray, List.set_cons_zero, List.set_cons_succ, i64_w, i32_w]
          rfl
        refine one_ (i := 6) (N := some 106) #[true, true, true, true, true, true, true, true, true, true, true, false, false, false, false, false, false, false, false, false, false, false, false] rfl rfl (by kernel_rfl) (by decide) (fun K hK => ?_)
        refine goes_ Tryd.func38 (by kernel_rfl) rfl #[.pointer (some ⟨gp, 0, none⟩)] (by rfl) rfl rfl (by simp only [List.map_toArray, List.map_cons, List.map_nil]; rfl) ?_
        with_reducible refine (Duo.pstate HTe.out st HST.out).mono ?_
        rintro e wf ⟨rfl, rfl⟩
        refine ⟨_, rfl, ?_⟩
        refine hK.out _ _ (hHeld) (fun hHeld => ?_)
        clear hK K
        refine norm_ (a' := ?_) ?_ ?_
        rotate_left
        · show Act.put _ (some 106) _ = _
          simp only [Act.put, List.setIfInBounds_toArray, List.set_cons_zero, List.set_cons_succ, i64_w, i32_w]
          rfl
        refine pure_ (i := 11) (N := some 111) (v := ?_) (a' := ?_) #[true, true, true, true, true, true, true, true, true, true, true, true, false, false, false, false, false, false, false, false, false, false, false] rfl rfl (by kernel_rfl) (fun _ _ _ h => h) (Or.inl ⟨by rfl, ?_⟩) ?_ ?_
        rotate_left
        · intro w'
          go_simp
          with_reducible rfl
        rotate_left
        · simp only [Act.put, List.setIfInBounds_toArray, List.set_cons_zero, List.set_cons_succ, i64_w, i32_w]
          rfl
        refine pure_ (i := 12) (N := some 112) (v := ?_) (a' := ?_) #[true, true, true, true, true, true, true, true, true, true, true, true, true, false, false, false, false, false, false, false, false, false, false] rfl rfl (by kernel_rfl) (fun _ _ _ h => h) (Or.inl ⟨by rfl, ?_⟩) ?_ ?_
        rotate_left
        · intro w'
          go_simp
          with_reducible rfl
        rotate_left
        · simp only [Act.put, List.setIfInBounds_toArray, List.set_cons_zero, List.set_cons_succ, i64_w, i32_w]
          rfl
        refine pure_ (i := 13) (N := some 113) (v := ?_) (a' := ?_) #[true, true, true, true, true, true, true, true, true, true, true, true, true, true, false, false, false, false, false, false, false, false, false] rfl rfl (by kernel_rfl) (fun _ _ _ h => h) (Or.inl ⟨by rfl, ?_⟩) ?_ ?_
        rotate_left
        · intro w'
          go_simp
          with_reducible rfl
        rotate_left
        · simp only [Act.put, List.setIfInBounds_toArray, List.set_cons_zero, List.set_cons_succ, i64_w, i32_w]
          rfl
        refine pure_ (i := 14) (N := some 114) (v := ?_) (a' := ?_) #[true, true, true, true, true, true, true, true, true, true, true, true, true, true, true, false, false, false, false, false, false, false, false] rfl rfl (by kernel_rfl) (fun _ _ _ h => h) (Or.inl ⟨by rfl, ?_⟩) ?_ ?_
        rotate_left
        · intro w'
          go_simp
          with_reducible rfl
        rotate_left
        · simp only [Act.put, List.setIfInBounds_toArray, List.set_cons_zero, List.set_cons_succ, i64_w, i32_w]
          rfl
        refine pure_ (i := 15) (N := some 115) (v := ?_) (a' := ?_) #[true, true, true, true, true, true, true, true, true, true, true, true, true, true, true, true, false, false, false, false, false, false, false] rfl rfl (by kernel_rfl) (fun _ _ _ h => h) (Or.inl ⟨by rfl, ?_⟩) ?_ ?_
        rotate_left
        · intro w'
          go_simp
          with_reducible rfl
        rotate_left
        · simp only [Act.put, List.setIfInBounds_toArray, List.set_cons_zero, List.set_cons_succ, i64_w, i32_w]
          rfl
        refine pure_ (i := 16) (N := some 116) (v := ?_) (a' := ?_) #[true, true, true, true, true, true, true, true, true, true, true, true, true, true, true, true, true, false, false, false, false, false, false] rfl rfl (by kernel_rfl) (fun _ _ _ h => h) (Or.inl ⟨by rfl, ?_⟩) ?_ ?_
        rotate_left
        · intro w'
          go_simp
          with_reducible rfl
        rotate_left
        · simp only [Act.put, List.setIfInBounds_toArray, List.set_cons_zero, List.set_cons_succ, i64_w, i32_w]
          rfl
        refine pure_ (i := 17) (N := some 117) (v := ?_) (a' := ?_) #[true, true, true, true, true, true, true, true, true, true, true, true, true, true, true, true, true, true, false, false, false, false, false] rfl rfl (by kernel_rfl) (fun _ _ _ h => h) (Or.inl ⟨by rfl, ?_⟩) ?_ ?_
        rotate_left
        · intro w'
          go_simp
          with_reducible rfl
        rotate_left
        · simp only [Act.put, List.setIfInBounds_toArray, List.set_cons_zero, List.set_cons_succ, i64_w, i32_w]
          rfl
        refine pure_ (i := 18) (N := some 118) (v := ?_) (a' := ?_) #[true, true, true, true, true, true, true, true, true, true, true, true, true, true, true, true, true, true, true, false, false, false, false] rfl rfl (by kernel_rfl) (fun _ _ _ h => h) (Or.inl ⟨by rfl, ?_⟩) ?_ ?_
        rotate_left
        · intro w'
          go_simp
          with_reducible rfl
        rotate_left
        · simp only [Act.put, List.setIfInBounds_toArray, List.set_cons_zero, List.set_cons_succ, i64_w, i32_w]
          rfl
        refine pure_ (i := 19) (N := some 119) (v := ?_) (a' := ?_) #[true, true, true, true, true, true, true, true, true, true, true, true, true, true, true, true, true, true, true, true, false, false, false] rfl rfl (by kernel_rfl) (fun _ _ _ h => h) (Or.inl ⟨by rfl, ?_⟩) ?_ ?_
        rotate_left
        · intro w'
          go_simp
          with_reducible rfl
        rotate_left
        · simp only [Act.put, List.setIfInBounds_toArray, List.set_cons_zero, List.set_cons_succ, i64_w, i32_w]
          rfl
        refine pure_ (i := 20) (N := some 120) (v := ?_) (a' := ?_) #[true, true, true, true, true, true, true, true, true, true, true, true, true, true, true, true, true, true, true, true, true, false, false] rfl rfl (by kernel_rfl) (fun _ _ _ h => h) (Or.inl ⟨by rfl, ?_⟩) ?_ ?_
        rotate_left
        · intro w'
          go_simp
          with_reducible rfl
        rotate_left
        · simp only [Act.put, List.setIfInBounds_toArray, List.set_cons_zero, List.set_cons_succ, i64_w, i32_w]
          rfl
        refine pure_ (i := 21) (N := some 121) (v := ?_) (a' := ?_) #[true, true, true, true, true, true, true, true, true, true, true, true, true, true, true, true, true, true, true, true, true, true, false] rfl rfl (by kernel_rfl) (fun _ _ _ h => h) (Or.inl ⟨by rfl, ?_⟩) ?_ ?_
        rotate_left
        · intro w'
          go_simp
          with_reducible rfl
        rotate_left
        · simp only [Act.put, List.setIfInBounds_toArray, List.set_cons_zero, List.set_cons_succ, i64_w, i32_w]
          rfl
        refine pure_ (i := 22) (N := some 122) (v := ?_) (a' := ?_) #[true, true, true, true, true, true, true, true, true, true, true, true, true, true, true, true, true, true, true, true, true, true, true] rfl rfl (by kernel_rfl) (fun _ _ _ h => h) (Or.inl ⟨by rfl, ?_⟩) ?_ ?_
        rotate_left
        · intro w'
          go_simp
          with_reducible rfl
        rotate_left
        · simp only [Act.put, List.setIfInBounds_toArray, List.set_cons_zero, List.set_cons_succ, i64_w, i32_w]
          rfl
        refine done_ (by kernel_rfl) ?_
        go_wp2
        go_roundg (gk - 1)
        case measure => have h1 := HXX.out; have h2 := HLT.out; omega
        case rel => exact ⟨x + 1, r2, (by first | rfl | (rw [hxw])), ⟨by have h1 := HXX.out; have h2 := HLT.out; omega⟩, HOK2, HTe⟩
    · have q0 : decide (x < (l3.length : Int)) = false := decide_eq_false hx
      clear hx
      go_wp2
      go_ret
      exact ⟨rfl, HT.out.base⟩
def plenumlaw49_SegmentReceives.f (k : Nat) (a0 : Int) (a1 : Int) (a2 : Int) (l3 : List (S54)) : Option (Bool) := some true
theorem plenumlaw49_SegmentReceives.calls (k : Nat) (a0 : Int) (a1 : Int) (a2 : Int) (A3 : Option Addr) (c3 : Nat) (l3 : List (S54)) (r : Bool) (w : World) (hG : Glob w) (hr3 : Kd.C k54 w A3 l3.length l3) (hc3 : l3.length ≤ c3) (h : plenumlaw49_SegmentReceives.f k a0 a1 a2 l3 = some r) :
    Calls Tryd.prog 6 #[.int .i64 a0, .int .i64 a1, .int .i64 a2, .slice A3 l3.length c3] w fun e w' => e = .returned (.bool r) ∧ Below w.heap.size w w' := by
  injection h with h
  subst h
  exact receives_walk a0 a1 a2 A3 c3 l3 w hG hr3 hc3
end Go.Proofs.YtbgabhknmpbgiaaDoor.S
end
section
namespace Go.Proofs.YtbgabhknmpbgiaaDoor.Opn
open Go.RowKit Go.Proofs.YtbgabhknmpbgiaaDoorW.PrintWords
def Opn (P : Program) (t : TypeId) {α : Type} (d : Kd α) (V : α → Prop) : Prop :=
  ∀ (H : Type) (enc : TypeId × Value → H) (w : World) (fuel : Nat) (cs : List Value) (x : DataW H × List MemPlace),
    DataW.trod enc P w 0 (fun _ => true) true fuel t cs = some x → (∀ n ∈ DataW.weights P t x.1, n ≤ 140737488351232) → ∃ y, d.K w y cs ∧ V y
theorem opn_int {P : Program} {t : TypeId} {k : IntKind} (ht : P.underlying t = some (.int k)) : Opn P t (Kd.int k) (fun y => (Lit.int k y).wf = true) := by
  intro H enc w fuel cs x h _
  obtain ⟨n, rfl, _, hw⟩ := DataW.trod_int ht h
  exact ⟨n, rfl, hw⟩
theorem opn_bool {P : Program} {t : TypeId} (ht : P.underlying t = some .bool) : Opn P t Kd.bool (fun _ => True) := by
  intro H enc w fuel cs x h _
  obtain ⟨b, rfl, _⟩ := DataW.trod_bool ht h
  exact ⟨b, rfl, trivial⟩
theorem opn_string {P : Program} {t : TypeId} (ht : P.underlying t = some .string) : Opn P t Kd.string (fun y => y.size ≤ 140737488351232) := by
  intro H enc w fuel cs x h hw
  obtain ⟨s, rfl, rfl, _⟩ := DataW.trod_string ht h
  refine ⟨s, rfl, ?_⟩
  have := hw s.data.toList.length (by simp [DataW.weights])
  rw [Array.length_toList] at this
  exact this
theorem weights_all {H : Type} {P : Program} {e : TypeId} {d : DataW H} {n : Nat} (hn : n ∈ DataW.weights P e d) : ∀ {l : List (DataW H)}, d ∈ l → n ∈ DataW.weightsAll P e l
  | [], h => by simp at h
  | a :: r, h => by
    simp only [DataW.weightsAll, List.mem_append]
    rcases List.mem_cons.1 h with rfl | h
    · exact .inl hn
    · exact .inr (weights_all hn h)
theorem list_of {α : Type} (Q : Nat → α → Prop) : ∀ n, (∀ i, i < n → ∃ y, Q i y) → ∃ l : List α, l.length = n ∧ ∀ i y, l[i]? = some y → Q i y
  | 0, _ => ⟨[], rfl, fun i y h => by simp at h⟩
  | n + 1, h => by
    obtain ⟨l, hl, hq⟩ := list_of Q n (fun i hi => h i (by omega))
    obtain ⟨y, hy⟩ := h n (by omega)
    refine ⟨l ++ [y], by simp [hl], fun i z hz => ?_⟩
    rcases Nat.lt_or_ge i n with hi | hi
    · rw [List.getElem?_append_left (by omega)] at hz
      exact hq i z hz
    · have : i = n := by
        have := (List.getElem?_eq_some_iff.1 hz).1
        simp [hl] at this
        omega
      subst this
      rw [List.getElem?_append_right (by omega), hl, Nat.sub_self] at hz
      simp at hz
      subst hz
      exact hy
theorem opn_slice {P : Program} {t e : TypeId} {α : Type} {d : Kd α} {V : α → Prop} {B : Nat} (ht : P.underlying t = some (.slice e)) (hs : P.cellsOf e = d.sz) (hB : P.bytesOf e = B) (he : Opn P e d V) :
    Opn P t (Kd.slice e d) (fun xs => xs.length * B ≤ 140737488351232 ∧ ∀ x ∈ xs, V x) := by
  intro H enc w fuel cs x h hw
  rcases Go.Deep.open_slice ht h with ⟨rfl, rfl⟩ | ⟨a, len, cap, m, n, D, Pl, rfl, _, hl, hm, hmm, rfl, hi⟩
  · exact ⟨[], ⟨none, 0, rfl, by simp, rfl, by simp, fun hn => absurd hn (by simp)⟩, by simp, by simp⟩
  have hmm' : m = cap := by simpa using hmm
  subst hmm'
  have hw' : (len + (m - len)) * B ≤ 140737488351232 := by
    have := hw ((len + (m - len)) * B) (by simp [DataW.weights, ht, hB])
    exact this
  obtain ⟨l, hlen, hq⟩ := list_of (fun i y => ∃ c, w.cells? 0 (a.add (i * P.cellsOf e)) (P.cellsOf e) = some c ∧ d.K w y c ∧ V y) len (fun i hil => by
    obtain ⟨c, hc, htr⟩ := hi i (by omega)
    obtain ⟨y, hy, hV⟩ := he H enc w n c _ htr (fun k hk => hw k (by
      simp only [DataW.weights, ht, List.mem_cons, List.mem_append]
      exact .inr (.inl (weights_all hk (List.mem_map.2 ⟨i, List.mem_range.2 hil, rfl⟩)))))
    exact ⟨y, c, hc, hy, hV⟩)
  refine ⟨l, ⟨some a, m, by rw [hlen], by omega, ?_⟩, ?_, ?_⟩
  · refine ⟨rfl, by simp only [maxLen] at hm; omega, fun _ => ⟨a, rfl, fun j p hj => ?_⟩⟩
    obtain ⟨c, hc, hK, _⟩ := hq j p hj
    obtain ⟨_, hcl, hat⟩ := World.cells?_some hc
    refine ⟨c, by rw [hcl, hs], hK, fun i u hu => ?_⟩
    have hil : i < P.cellsOf e := by
      have := (List.getElem?_eq_some_iff.1 hu).1
      omega
    rw [← hs, ← Go.Deep.add_add, hat i hil, hu]
  · rw [hlen]
    exact Nat.le_trans (Nat.mul_le_mul_right _ (by omega)) hw'
  · intro y hy
    obtain ⟨i, hi2⟩ := List.mem_iff_getElem?.1 hy
    exact (hq i y hi2).elim fun c h => h.2.2
def OpnF (P : Program) (fs : List Field) {α : Type} (d : Kd α) (V : α → Prop) (o : Nat) : Prop :=
  ∀ (H : Type) (enc : TypeId × Value → H) (w : World) (n : Nat) (cs : List Value) (xs : List (DataW H × List MemPlace)),
    o + d.sz ≤ cs.length →
    (∀ (i : Nat) (f : Field), fs[i]? = some f → ∃ x, xs[i]? = some x ∧ DataW.trod enc P w 0 (fun _ => true) true n f.type ((cs.drop f.offset).take (P.cellsOf f.type)) = some x ∧ ∀ k ∈ DataW.weights P f.type x.1, k ≤ 140737488351232) →
    ∃ y, d.K w y ((cs.drop o).take d.sz) ∧ V y
theorem opn_last {P : Program} {f : Field} {α : Type} {d : Kd α} {V : α → Prop} {o : Nat} (ho : f.offset = o) (hs : P.cellsOf f.type = d.sz) (h : Opn P f.type d V) : OpnF P [f] d V o := by
  intro H enc w n cs xs _ hx
  obtain ⟨x, _, ht, hw⟩ := hx 0 f rfl
  rw [hs, ho] at ht
  exact h H enc w n _ x ht hw
theorem take_two {α : Type} (cs : List α) (o a b : Nat) : (cs.drop o).take (a + b) = (cs.drop o).take a ++ (cs.drop (o + a)).take b := by
  rw [List.take_add, List.drop_drop]
theorem opn_cons {P : Program} {f : Field} {fs : List Field} {α β : Type} {a : Kd α} {b : Kd β} {V : α → Prop} {U : β → Prop} {o : Nat} (ho : f.offset = o) (hs : P.cellsOf f.type = a.sz) (h : Opn P f.type a V) (hr : OpnF P fs b U (o + a.sz)) :
    OpnF P (f :: fs) (Kd.pair a b) (fun y => V y.1 ∧ U y.2) o := by
  intro H enc w n cs xs hl hx
  obtain ⟨x, hx0, ht, hw⟩ := hx 0 f rfl
  rw [hs, ho] at ht
  obtain ⟨y, hy, hV⟩ := h H enc w n _ x ht hw
  have hl' : o + (a.sz + b.sz) ≤ cs.length := hl
  obtain ⟨z, hz, hU⟩ := hr H enc w n cs (xs.drop 1) (by omega) (fun i g hg => by
    obtain ⟨x', h1, h2⟩ := hx (i + 1) g (by simpa using hg)
    exact ⟨x', by rw [List.getElem?_drop, Nat.add_comm]; exact h1, h2⟩)
  exact ⟨(y, z), ⟨_, _, take_two cs o a.sz b.sz, hy, hz⟩, hV, hU⟩
theorem opn_struct {P : Program} {t : TypeId} {fa : Array Field} {fs : List Field} {α β : Type} {d : Kd α} {V : α → Prop} (ht : P.underlying t = some (.struct fa)) (hf : fa.toList = fs) (hs : P.cellsOf t = d.sz) (g : β → α) (g' : α → β) (hg : ∀ y, g (g' y) = y)
    (h : OpnF P fs d V 0) : Opn P t (Kd.iso d g) (fun x => V (g x)) := by
  intro H enc w fuel cs x hx hw
  obtain ⟨xs, n, rfl, rfl, hl, hxl, hfs⟩ := DataW.trod_struct ht hx
  obtain ⟨y, hy, hV⟩ := h H enc w n cs xs (by omega) (fun i f hi => by
    have hi' : fa[i]? = some f := by rw [← hf] at hi; simpa using hi
    have hlt : i < xs.length := by
      rw [hxl]
      exact (Array.getElem?_eq_some_iff.1 hi').1
    have h1 := hfs i f hi'
    refine ⟨xs[i], List.getElem?_eq_getElem hlt, by rw [h1, List.getElem?_eq_getElem hlt], fun k hk => hw k ?_⟩
    simp only [DataW.weights, ht]
    refine DataW.weights_mem_each (j := i) (t := f.type) (d := xs[i].1) ?_ ?_ k hk
    · rw [List.getElem?_map, hf, hi]
      rfl
    · rw [List.getElem?_map, List.getElem?_eq_getElem hlt]
      rfl)
  refine ⟨g' y, ?_, ?_⟩
  · show d.K w (g (g' y)) cs
    rw [hg]
    rw [List.drop_zero, ← hs, ← hl, List.take_length] at hy
    exact hy
  · show V (g (g' y))
    rw [hg]
    exact hV
theorem arg_slice {H : Type} {enc : TypeId × Value → H} {P : Program} {t e : TypeId} {α : Type} {d : Kd α} {V : List α → Prop} {W : World} {v : Value} {x : DataW H} {ps : List MemPlace} (ho : Opn P t (Kd.slice e d) V) (a : Option Addr) (len cap : Nat) (hv : v = .slice a len cap)
    (h : DataW.Trod enc P W 0 (fun _ => true) true t v x ps) (hw : ∀ n ∈ DataW.weights P t x, n ≤ 140737488351232) : ∃ (A : Option Addr) (c : Nat) (l : List α), v = .slice A l.length c ∧ l.length ≤ c ∧ Kd.C d W A l.length l ∧ V l := by
  obtain ⟨fuel, hf⟩ := h
  obtain ⟨l, ⟨A, c, hc, hl, hC⟩, hV⟩ := ho H enc W fuel _ _ hf hw
  subst hv
  have he : Value.slice a len cap = .slice A l.length c := by simpa [Value.cells] using hc
  exact ⟨A, c, l, he, hl, hC, hV⟩
theorem arg_weights {H : Type} {P : Program} {ts : List TypeId} {ds : List (DataW H)} (h : (DataW.weightsEach P ts ds).all (· ≤ reachBytes) = true) {j : Nat} {t : TypeId} {d : DataW H} (ht : ts[j]? = some t) (hd : ds[j]? = some d) : ∀ n ∈ DataW.weights P t d, n ≤ 140737488351232 := by
  intro n hn
  have := List.all_eq_true.1 h n (DataW.weights_mem_each ht hd n hn)
  exact of_decide_eq_true this
end Go.Proofs.YtbgabhknmpbgiaaDoor.Opn
end
section
namespace Go.Proofs.YtbgabhknmpbgiaaDoor.S
open Go.RowKit Go.Proofs.YtbgabhknmpbgiaaDoorW.PrintWords Go.Proofs.YtbgabhknmpbgiaaDoor.Opn
def V27 (x : S27) : Prop := ((Lit.int .i64 x.f0).wf = true) ∧ ((Lit.int .i64 x.f1).wf = true) ∧ ((Lit.int .i64 x.f2).wf = true) ∧ (True) ∧ ((Lit.int .i64 x.f4).wf = true) ∧ (x.f5.size ≤ 140737488351232)
theorem opn27 : Opn Tryd.prog 27 k27 V27 := opn_struct Tryd.underlying27 rfl (by kernel_rfl) (fun x : S27 => (x.f0, x.f1, x.f2, x.f3, x.f4, x.f5)) (fun y => (⟨y.1, y.2.1, y.2.2.1, y.2.2.2.1, y.2.2.2.2.1, y.2.2.2.2.2⟩ : S27)) (fun _ => rfl) (opn_cons rfl (by kernel_rfl) (opn_int Tryd.underlying3) (opn_cons rfl (by kernel_rfl) (opn_int Tryd.underlying3) (opn_cons rfl (by kernel_rfl) (opn_int Tryd.underlying3) (opn_cons rfl (by kernel_rfl) (opn_bool Tryd.underlying4) (opn_cons rfl (by kernel_rfl) (opn_int Tryd.underlying3) (opn_last rfl (by kernel_rfl) (opn_string Tryd.underlying9)))))))
def V54 (x : S54) : Prop := (V27 x.f0) ∧ ((Lit.int .i64 x.f1).wf = true)
theorem opn54 : Opn Tryd.prog 54 k54 V54 := opn_struct Tryd.underlying54 rfl (by kernel_rfl) (fun x : S54 => (x.f0, x.f1)) (fun y => (⟨y.1, y.2⟩ : S54)) (fun _ => rfl) (opn_cons rfl (by kernel_rfl) opn27 (opn_last rfl (by kernel_rfl) (opn_int Tryd.underlying3)))
end Go.Proofs.YtbgabhknmpbgiaaDoor.S
end
section
namespace Go.Proofs.YtbgabhknmpbgiaaDoor.S
open Go.RowKit Go.Proofs.YtbgabhknmpbgiaaDoorW.PrintWords
def plenumlaw49_SegmentReceives.Pure : Prop := ∀ (a0 : Int) (a1 : Int) (a2 : Int) (l3 : List (S54)), ((Lit.int .i64 a0).wf = true) → ((Lit.int .i64 a1).wf = true) → ((Lit.int .i64 a2).wf = true) → (l3.length * 64 ≤ 140737488351232 ∧ ∀ y ∈ l3, V54 y) → ∃ k, plenumlaw49_SegmentReceives.f k a0 a1 a2 l3 = some true
end Go.Proofs.YtbgabhknmpbgiaaDoor.S
end
section
namespace Go.Proofs.YtbgabhknmpbgiaaDoor.Pure
open Go.RowKit Go.Proofs.YtbgabhknmpbgiaaDoor.S
theorem SegmentReceives : plenumlaw49_SegmentReceives.Pure := by
  unfold plenumlaw49_SegmentReceives.Pure
  intros
  exact ⟨0, rfl⟩
end Go.Proofs.YtbgabhknmpbgiaaDoor.Pure
end
section
namespace Go.Proofs.YtbgabhknmpbgiaaDoor.segmentReceives
open Go.ChangeShapes Go.WideShapes Go.ChangeAt Go.RowKit
open Go.ChangeMaps (open_string shut_string)
open Go.Proofs.YtbgabhknmpbgiaaDoor.Opn Go.Proofs.YtbgabhknmpbgiaaDoorW.PrintWords Go.Proofs.YtbgabhknmpbgiaaDoor.S
set_option linter.unusedVariables false
theorem own : ownKnob Tryd.prog.godebug = none := by kernel_rfl
theorem laidOut : laidOutB Tryd.prog = true := by kernel_rfl
set_option maxHeartbeats 2000000 in
set_option maxRecDepth 100000 in
theorem lifted (os : Os) (started : os.Started) (H : Type) (enc : TypeId × Value → H) :
    ReturnsInHanded {} Tryd.checked os 6 .any (fun w args => (Rows.segmentReceivesSpec.pre enc Tryd.prog Tryd.f6 Rows.segmentReceivesRow.domain false w args ∧ laidMet Tryd.prog theLaid w) ∧ sizedMet enc Tryd.prog Tryd.f6 (OpenSpec.ofChange Rows.segmentReceivesSpec) false w args) (Rows.segmentReceivesSpec.post enc Tryd.prog Tryd.f6 false true false false) := by
  refine returnsInHanded_of_change_and (C := Tryd.checked) (X := fun w _ => laidMet Tryd.prog theLaid w) (fun _ _ _ hh h => h.of_heap hh) own started (by kernel_rfl) Tryd.func6
    (ChangeSpec.witness_at (enc := enc) (C := Tryd.checked) (os := os) (X := fun w _ => laidMet Tryd.prog theLaid w) false (laidWorld os) #[.int .i64 0, .int .i64 0, .int .i64 0, .slice none 0 0] 8 rfl (by kernel_rfl) (by kernel_rfl) (by kernel_rfl) (by kernel_rfl) (by kernel_rfl) (laidWorld_met os _)) ?_
  intro W base args ds gs before hval0 hW hcnd hsz0 hL0 _
  have hGl := glob_of_laid hL0
  have hsz : (DataW.weightsEach Tryd.prog (Tryd.f6.params.toList ++ Rows.segmentReceivesSpec.plain.varTypes Tryd.prog) (ds ++ gs)).all (· ≤ reachBytes) = true := hsz0
  have hval : ∀ (j : Nat) t v, Tryd.f6.params[j]? = some t → args[j]? = some v → Value.okWide Tryd.prog W .any base t v := hval0
  have hW' := hW
  obtain ⟨p, q, hA0, hV, rfl, hfz, hnd⟩ := hW
  have hA : DataW.TrodAll enc Tryd.prog W 0 (fun _ => true) true Tryd.f6.params.toList args.toList ds p := hA0
  rw [Tryd.params6] at hA hval hsz
  obtain ⟨v0, vs0, d0, ds0, p0, q0, hargs, rfl, rfl, h0, r0⟩ := trodAll_cons hA
  obtain ⟨v1, vs1, d1, ds1, p1, q1, rfl, rfl, rfl, h1, r1⟩ := trodAll_cons r0
  obtain ⟨v2, vs2, d2, ds2, p2, q2, rfl, rfl, rfl, h2, r2⟩ := trodAll_cons r1
  obtain ⟨v3, vs3, d3, ds3, p3, q3, rfl, rfl, rfl, h3, r3⟩ := trodAll_cons r2
  obtain ⟨rfl, rfl, rfl⟩ := trodAll_nil r3
  obtain rfl : args = #[v0, v1, v2, v3] := by cases args; simp_all
  obtain ⟨rfl, rfl⟩ := trodVars_none hV
  obtain ⟨a0, rfl, rfl, rfl, w0⟩ := open_int Tryd.underlying3 (hval 0 3 v0 rfl rfl) h0
  obtain ⟨a1, rfl, rfl, rfl, w1⟩ := open_int Tryd.underlying3 (hval 1 3 v1 rfl rfl) h1
  obtain ⟨a2, rfl, rfl, rfl, w2⟩ := open_int Tryd.underlying3 (hval 2 3 v2 rfl rfl) h2
  have k3 := h3
  have lt3 : ∀ x ∈ p3, x.block < W.heap.size := by obtain ⟨m, hm⟩ := k3; exact DataW.trod_lt m _ _ _ hm
  obtain ⟨b3, len3, cap3, hb3⟩ := okWide_slice Tryd.underlying42 (hval 3 42 v3 rfl rfl)
  obtain ⟨A3, c3, l3, hv3, hc3, hr3, hV3⟩ := arg_slice (opn_slice (B := 64) Tryd.underlying42 (by kernel_rfl) (by kernel_rfl) opn54) b3 len3 cap3 hb3 h3 (arg_weights hsz (j := 3) (t := 42) rfl rfl)
  clear hb3
  subst hv3
  clear hA0 hval0 hsz0 hsz
  obtain ⟨k, h⟩ := Pure.SegmentReceives a0 a1 a2 l3 w0 w1 w2 hV3
  refine (S.plenumlaw49_SegmentReceives.calls k a0 a1 a2 A3 c3 l3 true W hGl hr3 hc3 h).mono fun e W' ⟨he, bel0⟩ => ?_
  have bel : Below W.heap.size W W' := bel0
  subst he
  exact ⟨_, rfl, _, _, _, [], _, [], hW', trodAll_mk1 (shut_bool Tryd.underlying4 _), (trodAll_cons_mk (shut_int Tryd.underlying3 w0) (trodAll_cons_mk (shut_int Tryd.underlying3 w1) (trodAll_cons_mk (shut_int Tryd.underlying3 w2) (trodAll_cons_mk (Below.trod laidOut (by kernel_rfl) (of_decide_eq_true (by kernel_rfl)) k3 bel lt3) trodAll_mk0)))), rfl, bel.frame _, fun h => by cases h⟩
theorem over : Rows.segmentReceivesRow.holds Tryd.pinned (OpenSpec.ofChange Rows.segmentReceivesSpec) :=
  OpenClaim.holds_of_wide 6 Tryd.f6 rfl rfl rfl rfl rfl rfl rfl ⟨rfl, rfl, rfl, rfl, rfl⟩ rfl rfl rfl rfl rfl (by kernel_rfl) Tryd.func6 (by kernel_rfl)
    (of_decide_eq_true (by kernel_rfl)) (by unfold Func.isWrapper; first | (rw [if_pos (by decide +kernel)]; kernel_rfl) | (rw [if_neg (by decide +kernel)]; exact ⟨rfl, rfl⟩))
    (fun os started H enc _ => lifted os started H enc)
theorem card_holds : Rows.SegmentReceivesCardSaid :=
  Claim7.holds_tied_plain_at .later [] [.data] true (true, "890f3340eab410ca07798f741ff427d8fc963afe88bbea7d7902dec58a10bb18") false
    over (fun _ h => by cases h) (by kernel_rfl) (fun _ h => by cases h) segmentReceives_row_tie rfl ⟨rfl, rfl⟩ (by kernel_rfl) rfl
    (fun f fn hf hfn => by
      obtain rfl : f = 6 := Option.some.inj ((show Tryd.prog.funcNamed "plenum/plenumlaw49.SegmentReceives" = some 6 by kernel_rfl).symm.trans hf) |>.symm
      obtain rfl : fn = Tryd.f6 := (Option.some.inj (Tryd.func6.symm.trans hfn)).symm
      exact ⟨by kernel_rfl, fun j t ht => by
        rw [Tryd.params6] at ht
        have ho : t = 3 ∨ t = 42 := by
          rcases j with _ | _ | _ | _ | j
          all_goals simp at ht
          all_goals subst ht; simp
        obtain rfl | rfl := ho
        · exact (show Tryd.prog.wantsStandIn 3 = false by kernel_rfl)
        · exact (show Tryd.prog.wantsStandIn 42 = false by kernel_rfl)⟩)
    (by kernel_rfl)
#print axioms card_holds
end Go.Proofs.YtbgabhknmpbgiaaDoor.segmentReceives
namespace Go.Proofs.YtbgabhknmpbgiaaDoor
theorem segmentReceives_holds : Rows.SegmentReceivesCardSaid := segmentReceives.card_holds
end Go.Proofs.YtbgabhknmpbgiaaDoor
end
