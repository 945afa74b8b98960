/- SegmentSafeCard: one part of the proof that the law answers true for every input, and that its arguments read afterwards as before. No condition. -/
import Derived.Test.YtbgabhknmpbgiaaDoorCSafe4
import Derived.Outline
import Derived.Deep.OwnRows
import Derived.LoopTactic
import Derived.ProofKit
import Derived.Deep.Slices
import Derived.SizedLaws
import Derived.OpenShut
import Derived.DataReads
import Derived.SevenTiedAt
import Derived.WalkKit
import Derived.ShutString
import Derived.ChangeOld
import Derived.Below
import Derived.Test.YtbgabhknmpbgiaaDoorCards
import Derived.Test.YtbgabhknmpbgiaaDoorRows
import Derived.Test.YtbgabhknmpbgiaaDoorTie
section
namespace Go.Proofs.YtbgabhknmpbgiaaDoor.S
open Go.RowKit Go.Proofs.YtbgabhknmpbgiaaDoor.Pure Go.Proofs.YtbgabhknmpbgiaaDoorW.PrintWords Go.Proofs.YtbgabhknmpbgiaaDoorW.PrintLast Go.Proofs.YtbgabhknmpbgiaaDoorW.PrintMore
set_option linter.unusedVariables false
set_option linter.unusedSimpArgs false
attribute [local go_sem] max2_int min2_int max_two min_two
theorem rd_mem {l : List Int} {x : Int} (h0 : 0 ≤ x) (h1 : x < (l.length : Int)) : rd l x ∈ l := by
  unfold rd
  rw [List.getD_eq_getElem?_getD, List.getElem?_eq_getElem (by omega : x.toNat < l.length)]
  exact List.getElem_mem _
theorem C_low {w w1 : World} {A : Option Addr} {m : Nat} {xs : List S23} (h : Kd.C k23 w A m xs) (hk : ∀ k, k < w.heap.size → w1.heap[k]? = w.heap[k]?) : Kd.C k23 w1 A m xs :=
  ⟨h.1, h.2.1, fun hn => by
    obtain ⟨ad, e, hc⟩ := h.2.2 hn
    refine ⟨ad, e, fun j p hj => ?_⟩
    obtain ⟨c, hs, hr, hcell⟩ := hc j p hj
    refine ⟨c, hs, by obtain rfl := k23_open hr; exact k23_mk w1 p, fun i u hu => ?_⟩
    have h1 := hcell i u hu
    have h2 := hk _ (World.block_lt_of_cell? w _ h1)
    unfold World.cell? at h1 ⊢
    rw [h2]
    exact h1⟩
theorem rd23_mem {l : List S23} {x : Int} (h0 : 0 ≤ x) (h1 : x < (l.length : Int)) : rd_T23 l x ∈ l := by
  unfold rd_T23
  rw [List.getD_eq_getElem?_getD, List.getElem?_eq_getElem (by omega : x.toNat < l.length)]
  exact List.getElem_mem _
theorem good_num {window : Int} {segs : List ByteArray} {c : Nat} {ak : Int} {p : S23} (h : Good window segs c ak p) (hp : p.f0 = 1) : ¬ (ak + window < p.f2) := by
  rcases h with ⟨i, h1, h2, h3⟩ | ⟨j, h1, h2, h3⟩ | h
  · subst h2
    show ¬ (ak + window < (i : Int))
    omega
  · subst h3
    exact absurd hp (by show ¬ ((2 : Int) = 1); decide)
  · subst h
    exact absurd hp (by show ¬ ((3 : Int) = 1); decide)
theorem begS : begE 7 500 = 0 := by kernel_rfl
theorem snew {window : Int} {segs : List ByteArray} (h0 : 1 ≤ window) : newS 7 window 10 10 segs 0 = (parts23 7 window segs 0 (min window.toNat segs.length), cS window 10 segs 0 0 (min window.toNat segs.length) 0 10) := by
  unfold newS Sn.send cS Sn.cnt
  have hw : wrap64 ((0 : Int) + 10) = 10 := by kernel_rfl
  have hm : (mn ((0 : Int) + window) (segs.length : Int) - 0).toNat = min window.toNat segs.length := by
    unfold mn
    split <;> omega
  show (parts23 7 window segs 0 (mn ((0 : Int) + window) (segs.length : Int) - 0).toNat, (⟨7, window, 10, 10, segs, 0, 0, 0 + ((mn ((0 : Int) + window) (segs.length : Int) - 0).toNat : Int), 0, wrap64 (0 + 10)⟩ : Sn)) = _
  rw [hm, hw, Int.zero_add]
  rfl
theorem snewE_0 {id window timeout retries e2 : Int} (h : newE id window timeout retries e2 = 0) : e2 = 0 ∧ 1 ≤ window ∧ window ≤ 16 := by
  unfold newE at h
  split at h
  · split at h
    · exact ⟨h, by omega⟩
    · exact absurd h (by decide)
  · exact absurd h (by assumption)
set_option maxHeartbeats 64000000 in
set_option maxRecDepth 100000 in
theorem safe_walk (message : ByteArray) (size window : Int) (A3 : Option Addr) (c3 : Nat) (l3 : List Int) (w : World) (hG : Glob w) (hr3 : Kd.C (Kd.int .i64) w A3 l3.length l3) (hc3 : l3.length ≤ c3) (hwf : ∀ y ∈ l3, -9223372036854775808 ≤ y ∧ y ≤ 9223372036854775807) :
    Calls Tryd.prog 7 #[.string message, .int .i64 size, .int .i64 window, .slice A3 l3.length c3] w fun e w' => e = .returned (.bool true) ∧ Below w.heap.size w w' := by
  have HG := Aside0.mk hG
  have HR3 := Aside0.mk hr3
  have HC3 := Aside0.mk hc3
  have HWF := Aside0.mk hwf
  clear hG hr3 hc3 hwf
  have hu23 := Tryd.underlying23
  by_cases k0 : (message.size : Int) > 200
  · have k0b : decide (200 < (message.size : Int)) = true := decide_eq_true k0
    have k0c : decide (200 < message.size) = true := decide_eq_true (by omega)
    clear k0
    go_enter Tryd.func7, Tryd.ntmps7
    go_wp2_with (first | (go_at_call 10; (with_reducible refine (awake_calls w HG.out).mono ?_); rintro e w1 ⟨rfl, hb⟩; have HB1 := Aside0.mk hb; clear hb))
    go_ret
    exact ⟨rfl, HB1.out⟩
  have HMS := Aside0.mk k0
  have k0b : decide (200 < (message.size : Int)) = false := decide_eq_false k0
  have k0c : decide (200 < message.size) = false := decide_eq_false (by omega)
  clear k0
  by_cases k1 : (l3.length : Int) > 80
  · have k1b : decide (80 < (l3.length : Int)) = true := decide_eq_true k1
    have k1c : decide (80 < l3.length) = true := decide_eq_true (by omega)
    clear k1
    go_enter Tryd.func7, Tryd.ntmps7
    go_wp2_with (first | (go_at_call 10; (with_reducible refine (awake_calls w HG.out).mono ?_); rintro e w1 ⟨rfl, hb⟩; have HB1 := Aside0.mk hb; clear hb))
    go_ret
    exact ⟨rfl, HB1.out⟩
  have HLM := Aside0.mk k1
  have k1b : decide (80 < (l3.length : Int)) = false := decide_eq_false k1
  have k1c : decide (80 < l3.length) = false := decide_eq_false (by omega)
  clear k1
  obtain ⟨segs, e2, hsp, hsr, hl, h0, hne⟩ := split_both message size 0 (by have := HMS.out; omega)
  have HSP := Aside0.mk (show segment_Split.f 66 message size = some (segs, e2) from hsp)
  have HL := Aside0.mk hl
  have HSEG := Aside0.mk h0
  clear hsp hsr hl h0 hne
  by_cases ke : newE 7 window 10 10 e2 = 0
  case neg =>
    have HE := Aside0.mk ke
    obtain ⟨er, HER⟩ : ∃ er, Aside0 (newE 7 window 10 10 e2 = er) := ⟨_, ⟨rfl⟩⟩
    have kb : (er != 0) = true := bne_iff_ne.mpr (by rw [← HER.out]; exact ke)
    clear ke
    go_enter Tryd.func7, Tryd.ntmps7
    go_wp2_with (first | (go_at_call 10; (with_reducible refine (awake_calls w HG.out).mono ?_); rintro e w1 ⟨rfl, hb⟩; have HB1 := Aside0.mk hb; clear hb) | (go_at_call 21; (with_reducible refine (newP_calls 66 7 message size window 10 10 0 segs e2 w1 (Glob.below HG.out HB1.out) HSP.out HL.out).mono ?_); rintro e w3 ⟨hn, _⟩; obtain ⟨he, hb⟩ := hn HE.out; rw [HER.out] at he; subst he; have HB3 := Aside0.mk (below_step HB1.out hb); clear hn hb) | (go_at_call 30; (with_reducible refine (rnew_calls 7 500 0 w3 (Glob.below HG.out HB3.out)).mono ?_); rintro e w5 ⟨_, hp⟩; obtain ⟨gr, rfl, hr, hb⟩ := hp begS; have HB5 := Aside0.mk (below_step HB3.out hb); clear hp hr hb))
    go_ret
    exact ⟨rfl, HB5.out⟩
  have HE := Aside0.mk ke
  obtain ⟨he2, hw0, hw1⟩ := snewE_0 ke
  have HE2 := Aside0.mk he2
  have HW := Aside0.mk (show 1 ≤ window ∧ window ≤ 16 from ⟨hw0, hw1⟩)
  obtain ⟨c0, HC0⟩ : ∃ c0, Aside0 (min window.toNat segs.length = c0) := ⟨_, ⟨rfl⟩⟩
  have HX0 := Aside0.mk (show newS 7 window 10 10 segs 0 = (parts23 7 window segs 0 c0, cS window 10 segs 0 0 c0 0 10) by rw [← HC0.out]; exact snew hw0)
  obtain ⟨hz0, hz1, hz2, hz3⟩ := HSEG.out he2
  obtain ⟨sz, HSZ⟩ : ∃ sz : Nat, Aside0 (size = (sz : Int) ∧ 1 ≤ sz ∧ segs = segsOf message sz) := ⟨size.toNat, ⟨by omega, by omega, hz3⟩⟩
  have HN1 := Aside0.mk (show 1 ≤ segs.length by rw [HSZ.out.2.2]; unfold segsOf; rw [pieces_len]; exact (pcs_ok HSZ.out.2.1).1)
  have HSI0 := Aside0.mk (show SI window segs 0 0 c0 0 (-1) from ⟨hw0, hw1, HN1.out, HL.out, Nat.le_refl _, Nat.zero_le _, by have := HC0.out; omega, by omega, by omega, by omega, fun _ => by have := HN1.out; omega, fun h => absurd h (by decide), Or.inl rfl⟩)
  have HGL0 := Aside0.mk (show GoodL window segs 0 (-1) (parts23 7 window segs 0 c0) from GoodL.parts (by have := HC0.out; omega) (by have := HC0.out; omega))
  clear ke hw0 hw1 he2 hz0 hz1 hz2 hz3
  go_enter Tryd.func7, Tryd.ntmps7
  go_wp2_with (first | (go_at_call 10; (with_reducible refine (awake_calls w HG.out).mono ?_); rintro e w1 ⟨rfl, hb⟩; have HB1 := Aside0.mk hb; clear hb) | (go_at_call 21; (with_reducible refine (newP_calls 66 7 message size window 10 10 0 segs e2 w1 (Glob.below HG.out HB1.out) HSP.out HL.out).mono ?_); rintro e w3 ⟨_, hp⟩; obtain ⟨gs, v3, ws, rfl, hv, hs, hb0, hb⟩ := hp HE.out; rw [HX0.out] at hv hs; have HLS3 := Aside0.mk (show Lst ws.heap.size w3 v3 (parts23 7 window segs 0 c0) from Or.inr (Pt.low hv (Nat.zero_le _))); have HO3 := Aside0.mk (show One w ws gs (cS window 10 segs 0 0 c0 0 10) w3 from ⟨hs, hb, Nat.le_trans HB1.out.size hb0.size, below_step (below_step HB1.out hb0) hb⟩); clear hp hv hs hb0 hb) | (go_at_call 30; (with_reducible refine (rnew_calls 7 500 0 w3 (Glob.below HG.out HO3.out.base)).mono ?_); rintro e w5 ⟨_, hp⟩; obtain ⟨gr, rfl, hr, hb⟩ := hp begS; rw [show wrap64 ((0 : Int) + 500) = 500 by kernel_rfl] at hr; have HN5 := Aside0.mk (show Net w ws w3.heap.size gs gr (cS window 10 segs 0 0 c0 0 10) (cR 500 segs 0 0 500) w5 from ⟨HO3.out.snd.below hb, HO3.out.sb.trans (hb.mono HO3.out.sb.size), hr, HO3.out.sb.size, hb.size, HO3.out.b0, below_step HO3.out.base hb⟩); have HLS5 := Aside0.mk (HLS3.out.keep (Keep23.of_below hb)); clear hp hr hb))
  go_loopg [10, 14, 15, 16, 17, 18, 20, 21, 22] l3.length (fun kq v10 v14 v15 v16 v17 v18 v20 v21 v22 wr => ∃ (x nw : Int) (c a nx : Nat) (st ak tries dl rdl : Int) (xs : List S23), v16 = .int .i64 x ∧ v14 = .int .i64 nw ∧ v15 = .int .i64 ak ∧ Aside0 (0 ≤ x ∧ x + (kq : Int) = (l3.length : Int) ∧ 0 ≤ nw ∧ nw ≤ 3 * x ∧ 500 ≤ rdl ∧ (xs.length : Int) ≤ 64 + 64 * x) ∧ Aside0 (SI window segs c a nx st ak) ∧ Aside0 (GoodL window segs c ak xs) ∧ Aside0 (Lst ws.heap.size wr v10 xs) ∧ Aside0 (Net w ws w3.heap.size gs gr (cS window 10 segs st a nx tries dl) (cR 500 segs (if c = segs.length then 1 else 0) c rdl) wr))
  case atStart => exact ⟨0, 0, 0, 0, c0, 0, -1, 0, 10, 500, parts23 7 window segs 0 c0, rfl, rfl, rfl, ⟨by omega, by omega, by omega, by omega, by omega, by rw [parts23_len]; have h1 := HC0.out; have h2 := HL.out; omega⟩, HSI0, HGL0, HLS5, ⟨by have h1 := HN1.out; rw [if_neg (show ¬ (0 = segs.length) by omega)]; exact HN5.out⟩⟩
  case round =>
    obtain ⟨x, nw, c, a, nx, st, ak, tries, dl, rdl, xs, rfl, rfl, rfl, HXX, HSI, HGL, HLS, HN⟩ := hrel
    clear HB1 HLS3 HO3 HN5 HLS5 HSI0 HGL0
    cases gk with
    | zero =>
      have q0 : decide (x < (l3.length : Int)) = false := decide_eq_false (by have h1 := HXX.out; omega)
      go_wp2
      go_ret
      exact ⟨rfl, HN.out.base⟩
    | succ k1 =>
      have hlt : x < (l3.length : Int) := by have h1 := HXX.out; omega
      have HLT := Aside0.mk (show x < (l3.length : Int) ∧ x < 80 from ⟨hlt, by have h2 := HLM.out; omega⟩)
      have q0 : decide (x < (l3.length : Int)) = true := decide_eq_true hlt
      obtain ⟨ad3, e3, hm⟩ := Kd.at_int (Kd.C_below HR3.out HN.out.base) x HXX.out.1 hlt
      subst e3
      have hmr : -9223372036854775808 ≤ rd l3 x ∧ rd l3 x ≤ 9223372036854775807 := HWF.out _ (rd_mem HXX.out.1 HLT.out.1)
      have p1 : (0 ≤ x) = True := eq_true HXX.out.1
      have p2 : (x < (l3.length : Int)) = True := eq_true hlt
      have hxw : wrap64 (x + 1) = x + 1 := by have h1 := HXX.out; have h2 := HLM.out; unfold wrap64; omega
      generalize rd l3 x = m at hm hmr
      clear hlt
      by_cases hneg : m < 0
      · have hn : decide (m < 0) = true := decide_eq_true hneg
        obtain ⟨mm, hmm⟩ : ∃ mm, wrap64 (-wrap64 (m + 1)) = mm := ⟨_, rfl⟩
        have hmp : 0 ≤ mm ∧ mm ≤ 9223372036854775807 := by rw [← hmm]; unfold wrap64; omega
        clear hneg hmr
        have ht : mm.tmod 4 = mm % 4 := Int.tmod_eq_emod_of_nonneg hmp.1
        by_cases hr : mm % 4 = 3
        · as_aux_lemma =>
            have f1 : (mm.tmod 4 == 3) = true := by rw [ht, hr]; rfl
            have f1b : (mm % 4 == 3) = true := by rw [hr]; rfl
            have hnw : wrap64 (nw + 3) = nw + 3 := by have h1 := HXX.out; have h2 := HLM.out; have h3 := HLT.out; unfold wrap64; omega
            obtain ⟨ys, st2, tries2, dl2, htk, hsi2, hgl2, hyl⟩ := HSI.out.tick (tries := tries) (dl := dl) (nw + 3)
            have HTK := Aside0.mk htk
            have HSI2 := Aside0.mk hsi2
            have HYL := Aside0.mk hyl
            have HGL2 := Aside0.mk (show GoodL window segs c ak ((xs ++ ys) ++ []) from (HGL.out.app hgl2).app GoodL.nil)
            clear htk hsi2 hgl2 hyl hr
            go_wp2_with (first | (go_at_call 24; (with_reducible refine (Net.stick HN.out HSI.out.ok (nw + 3) ys _ HTK.out).mono ?_); rintro e w11 ⟨A11, he, hC11, hn11, hk11⟩; subst he; have HN11 := Aside0.mk hn11; have HC11 := Aside0.mk hC11; have HL11 := Aside0.mk (Lst.keep HLS.out hk11.k23); clear hn11 hC11 hk11) | ((with_reducible refine gate_builtin (b := .append) (xs := #[.tmp 69, .tmp 72]) rfl ?_); at_builtin; refine wpList_lst_append rfl (.tmp 69) (.tmp 72) rfl ws.heap.size _ A11 ys.length ys.length (xs) (ys) rfl rfl HL11.out HC11.out HN11.out.sb.size (by have h1 := HXX.out; have h2 := HLM.out; have h3 := HLT.out; have h4 := HYL.out; omega) ?_; intro v12 w12 ho hg; have HL12 := Aside0.mk ho; have HN12 := Aside0.mk (HN11.out.gr hg); clear ho hg) | (go_at_call 32; (with_reducible refine (Net.rtick HN12.out (nw + 3) [] _ (rTick (nw + 3) (by have h1 := HXX.out; have h2 := HLM.out; have h3 := HLT.out; omega))).mono ?_); rintro e w13 ⟨A13, he, hC13, hn13, hk13⟩; replace he : e = .returned (.slice A13 0 0) := he; subst he; have HN13 := Aside0.mk hn13; have HC13 := Aside0.mk hC13; have HL13 := Aside0.mk (Lst.keep HL12.out hk13.k23); clear hn13 hC13 hk13) | ((with_reducible refine gate_builtin (b := .append) (xs := #[.tmp 73, .tmp 76]) rfl ?_); at_builtin; refine wpList_lst_append rfl (.tmp 73) (.tmp 76) rfl ws.heap.size v12 A13 0 0 (xs ++ ys) ([]) rfl rfl HL13.out HC13.out HN13.out.sb.size (by have h1 := HXX.out; have h2 := HLM.out; have h3 := HLT.out; have h4 := HYL.out; rw [List.length_append]; omega) ?_; intro v14 w14 ho hg; have HL14 := Aside0.mk ho; have HN14 := Aside0.mk (HN13.out.gr hg); clear ho hg))
            obtain ⟨At, ct, et, hct, hCt⟩ := HL14.out.slice
            subst et
            clear hct hCt
            obtain ⟨XL, HXL⟩ : ∃ XL, Aside0 (xs ++ ys ++ [] = XL) := ⟨_, ⟨rfl⟩⟩
            have HLSt := Aside0.mk HL14.out
            have HGLt := Aside0.mk HGL2.out
            rw [HXL.out] at HLSt HGLt ⊢
            have HXLL := Aside0.mk (show (XL.length : Int) ≤ 64 + 64 * (x + 1) by rw [← HXL.out]; have h1 := HXX.out; have h5 := HYL.out; rw [List.append_nil, List.length_append]; push_cast; omega)
            have HNt := HN14
            have HSIt := HSI2
            go_loopg [20] XL.length (fun kq v20 wq => ∃ (y : Int), v20 = .int .i64 y ∧ Aside0 (0 ≤ y ∧ y + (kq : Int) = (XL.length : Int)) ∧ Aside0 (Lst ws.heap.size wq (.slice At XL.length ct) XL) ∧ Aside0 (Net w ws w3.heap.size gs gr (cS window 10 segs st2 a nx tries2 dl2) (cR 500 segs (if c = segs.length then 1 else 0) c rdl) wq))
            case atStart => exact ⟨0, rfl, ⟨by omega⟩, HLSt, HNt⟩
            case round =>
              obtain ⟨y, rfl, HYY, HLSq, HNq⟩ := hrel
              have HNq0 := HNq
              have hakw : wrap64 (ak + window) = ak + window := by have h1 := HSIt.out.ak1; have h2 := HSIt.out.akc; have h3 := HSIt.out.cn; have h4 := HSIt.out.n64; have h5 := HW.out; unfold wrap64; omega
              cases gk with
              | zero =>
                have q1 : decide (y < (XL.length : Int)) = false := decide_eq_false (by have h1 := HYY.out; omega)
                by_cases hcn : c = segs.length
                · rw [if_pos hcn] at HNq
                  have HMSG := Aside0.mk (show (if (cR 500 segs 1 c rdl).state = 1 then strOfNums (cR 500 segs 1 c rdl).msg else ⟨#[]⟩) = message by show (if (1 : Int) = 1 then strOfNums (cat segs c) else ⟨#[]⟩) = message; rw [if_pos rfl, hcn, HSZ.out.2.2]; exact cat_all message sz HSZ.out.2.1)
                  have HCN := Aside0.mk hcn
                  have hmt : (message.toList == message.toList) = true := beq_self_eq_true _
                  clear hcn
                  by_cases hs1 : st2 = 1
                  · have hsb : (st2 == 1) = true := by rw [hs1]; rfl
                    clear hs1
                    go_wp2_with (first | (go_at_call 36; (with_reducible refine (rmessage_calls w3.heap.size gr _ _ HNq.out.rcv).mono ?_); rintro e wm ⟨he, rfl⟩; rw [HMSG.out] at he; replace he : e = .returned (.tuple #[.string message, .bool true]) := he; subst he) | (go_at_call 38; (with_reducible refine (rstate_calls w3.heap.size gr _ _ HNq.out.rcv).mono ?_); rintro e wm ⟨he, rfl⟩; replace he : e = .returned (.int .i64 1) := he; subst he) | (go_at_call 29; (with_reducible refine (sstate_calls gs _ ws _ HNq.out.snd).mono ?_); rintro e wz ⟨he, rfl⟩; replace he : e = .returned (.int .i64 st2) := he; subst he))
                    go_roundg k1
                    case measure => omega
                    case rel => exact ⟨x + 1, (nw + 3), c, a, nx, st2, ak, tries2, dl2, rdl, XL, (by first | rfl | (rw [hxw])), (by first | rfl | assumption), (by first | rfl | assumption), ⟨by have h1 := HXX.out; have h2 := HLT.out; skip; have h4 := HXLL.out; omega⟩, HSIt, HGLt, HLSq, HNq0⟩
                  · have hsb : (st2 == 1) = false := beq_false_of_ne hs1
                    clear hs1
                    go_wp2_with (first | (go_at_call 36; (with_reducible refine (rmessage_calls w3.heap.size gr _ _ HNq.out.rcv).mono ?_); rintro e wm ⟨he, rfl⟩; rw [HMSG.out] at he; replace he : e = .returned (.tuple #[.string message, .bool true]) := he; subst he) | (go_at_call 38; (with_reducible refine (rstate_calls w3.heap.size gr _ _ HNq.out.rcv).mono ?_); rintro e wm ⟨he, rfl⟩; replace he : e = .returned (.int .i64 1) := he; subst he) | (go_at_call 29; (with_reducible refine (sstate_calls gs _ ws _ HNq.out.snd).mono ?_); rintro e wz ⟨he, rfl⟩; replace he : e = .returned (.int .i64 st2) := he; subst he))
                    go_roundg k1
                    case measure => omega
                    case rel => exact ⟨x + 1, (nw + 3), c, a, nx, st2, ak, tries2, dl2, rdl, XL, (by first | rfl | (rw [hxw])), (by first | rfl | assumption), (by first | rfl | assumption), ⟨by have h1 := HXX.out; have h2 := HLT.out; skip; have h4 := HXLL.out; omega⟩, HSIt, HGLt, HLSq, HNq0⟩
                · have hsb : (st2 == 1) = false := beq_false_of_ne (fun e => hcn (by have h1 := HSIt.out.done e; have h2 := HSIt.out.ac; have h3 := HSIt.out.cn; omega))
                  rw [if_neg hcn] at HNq
                  have HMSG := Aside0.mk (show (if (cR 500 segs 0 c rdl).state = 1 then strOfNums (cR 500 segs 0 c rdl).msg else ⟨#[]⟩) = (⟨#[]⟩ : ByteArray) from rfl)
                  have HCN := Aside0.mk hcn
                  clear hcn
                  go_wp2_with (first | (go_at_call 36; (with_reducible refine (rmessage_calls w3.heap.size gr _ _ HNq.out.rcv).mono ?_); rintro e wm ⟨he, rfl⟩; rw [HMSG.out] at he; replace he : e = .returned (.tuple #[.string ⟨#[]⟩, .bool false]) := he; subst he) | (go_at_call 38; (with_reducible refine (rstate_calls w3.heap.size gr _ _ HNq.out.rcv).mono ?_); rintro e wm ⟨he, rfl⟩; replace he : e = .returned (.int .i64 0) := he; subst he) | (go_at_call 29; (with_reducible refine (sstate_calls gs _ ws _ HNq.out.snd).mono ?_); rintro e wz ⟨he, rfl⟩; replace he : e = .returned (.int .i64 st2) := he; subst he))
                  go_roundg k1
                  case measure => omega
                  case rel => exact ⟨x + 1, (nw + 3), c, a, nx, st2, ak, tries2, dl2, rdl, XL, (by first | rfl | (rw [hxw])), (by first | rfl | assumption), (by first | rfl | assumption), ⟨by have h1 := HXX.out; have h2 := HLT.out; skip; have h4 := HXLL.out; omega⟩, HSIt, HGLt, HLSq, HNq0⟩
              | succ k2 =>
                have hlt2 : y < (XL.length : Int) := by have h1 := HYY.out; omega
                have q1 : decide (y < (XL.length : Int)) = true := decide_eq_true hlt2
                have hyw : wrap64 (y + 1) = y + 1 := by have h1 := HYY.out; have h2 := HXLL.out; have h3 := HXX.out; have h4 := HLM.out; unfold wrap64; omega
                obtain ⟨Aq, cq, eq_, hcq, hCq⟩ := HLSq.out.slice
                obtain ⟨rfl, rfl⟩ : At = Aq ∧ ct = cq := by injection eq_ with e1 e2 e3; exact ⟨e1, e3⟩
                obtain ⟨adq, eaq, z0, z1, z2, z3, z4, z5⟩ := at_T23 hCq y HYY.out.1 hlt2
                subst eaq
                have hgd := HGLt.out _ (rd23_mem HYY.out.1 hlt2)
                have u1 : (0 ≤ y) = True := eq_true HYY.out.1
                have u2 : (y < (XL.length : Int)) = True := eq_true hlt2
                generalize rd_T23 XL y = pq at z0 z1 z2 z3 z4 z5 hgd
                by_cases hq1 : pq.f0 = 1
                · have hqb : (pq.f0 == 1) = true := by rw [hq1]; rfl
                  have hqc : decide (ak + window < pq.f2) = false := decide_eq_false (good_num hgd hq1)
                  clear hq1 hgd hlt2 hcq hCq z1 z3 z4 z5
                  go_wp2
                  go_roundg k2
                  case measure => omega
                  case rel => exact ⟨y + 1, (by first | rfl | (rw [hyw])), ⟨by have h1 := HYY.out; omega⟩, HLSq, HNq⟩
                · have hqb : (pq.f0 == 1) = false := beq_false_of_ne hq1
                  clear hq1 hgd hlt2 hcq hCq z1 z2 z3 z4 z5
                  go_wp2
                  go_roundg k2
                  case measure => omega
                  case rel => exact ⟨y + 1, (by first | rfl | (rw [hyw])), ⟨by have h1 := HYY.out; omega⟩, HLSq, HNq⟩
        have f1 : (mm.tmod 4 == 3) = false := by rw [ht]; exact beq_false_of_ne hr
        have f1b : (mm % 4 == 3) = false := beq_false_of_ne hr
        by_cases hxs : xs = []
        · as_aux_lemma =>
            have hL0 : xs = [] := hxs
            subst hL0
            obtain ⟨At, ct, et, hct, hCt⟩ := HLS.out.slice
            subst et
            clear hct hCt
            obtain ⟨XL, HXL⟩ : ∃ XL, Aside0 (([] : List S23) = XL) := ⟨_, ⟨rfl⟩⟩
            have HLSt := Aside0.mk HLS.out
            have HGLt := Aside0.mk HGL.out
            rw [HXL.out] at HLSt HGLt ⊢
            have HXLL := Aside0.mk (show (XL.length : Int) ≤ 64 + 64 * (x + 1) by rw [← HXL.out]; have h1 := HXX.out; simp; omega)
            have HNt := HN
            have HSIt := HSI
            have g1 : decide (0 < (XL.length : Int)) = false := decide_eq_false (by rw [← HXL.out]; decide)
            have g2 : decide (0 < XL.length) = false := decide_eq_false (by rw [← HXL.out]; decide)
            go_wp2
            go_loopg [20] XL.length (fun kq v20 wq => ∃ (y : Int), v20 = .int .i64 y ∧ Aside0 (0 ≤ y ∧ y + (kq : Int) = (XL.length : Int)) ∧ Aside0 (Lst ws.heap.size wq (.slice At XL.length ct) XL) ∧ Aside0 (Net w ws w3.heap.size gs gr (cS window 10 segs st a nx tries dl) (cR 500 segs (if c = segs.length then 1 else 0) c rdl) wq))
            case atStart => exact ⟨0, rfl, ⟨by omega⟩, HLSt, HNt⟩
            case round =>
              obtain ⟨y, rfl, HYY, HLSq, HNq⟩ := hrel
              have HNq0 := HNq
              have hakw : wrap64 (ak + window) = ak + window := by have h1 := HSIt.out.ak1; have h2 := HSIt.out.akc; have h3 := HSIt.out.cn; have h4 := HSIt.out.n64; have h5 := HW.out; unfold wrap64; omega
              cases gk with
              | zero =>
                have q1 : decide (y < (XL.length : Int)) = false := decide_eq_false (by have h1 := HYY.out; omega)
                by_cases hcn : c = segs.length
                · rw [if_pos hcn] at HNq
                  have HMSG := Aside0.mk (show (if (cR 500 segs 1 c rdl).state = 1 then strOfNums (cR 500 segs 1 c rdl).msg else ⟨#[]⟩) = message by show (if (1 : Int) = 1 then strOfNums (cat segs c) else ⟨#[]⟩) = message; rw [if_pos rfl, hcn, HSZ.out.2.2]; exact cat_all message sz HSZ.out.2.1)
                  have HCN := Aside0.mk hcn
                  have hmt : (message.toList == message.toList) = true := beq_self_eq_true _
                  clear hcn
                  by_cases hs1 : st = 1
                  · have hsb : (st == 1) = true := by rw [hs1]; rfl
                    clear hs1
                    go_wp2_with (first | (go_at_call 36; (with_reducible refine (rmessage_calls w3.heap.size gr _ _ HNq.out.rcv).mono ?_); rintro e wm ⟨he, rfl⟩; rw [HMSG.out] at he; replace he : e = .returned (.tuple #[.string message, .bool true]) := he; subst he) | (go_at_call 38; (with_reducible refine (rstate_calls w3.heap.size gr _ _ HNq.out.rcv).mono ?_); rintro e wm ⟨he, rfl⟩; replace he : e = .returned (.int .i64 1) := he; subst he) | (go_at_call 29; (with_reducible refine (sstate_calls gs _ ws _ HNq.out.snd).mono ?_); rintro e wz ⟨he, rfl⟩; replace he : e = .returned (.int .i64 st) := he; subst he))
                    go_roundg k1
                    case measure => omega
                    case rel => exact ⟨x + 1, nw, c, a, nx, st, ak, tries, dl, rdl, XL, (by first | rfl | (rw [hxw])), (by first | rfl | assumption), (by first | rfl | assumption), ⟨by have h1 := HXX.out; have h2 := HLT.out; skip; have h4 := HXLL.out; omega⟩, HSIt, HGLt, HLSq, HNq0⟩
                  · have hsb : (st == 1) = false := beq_false_of_ne hs1
                    clear hs1
                    go_wp2_with (first | (go_at_call 36; (with_reducible refine (rmessage_calls w3.heap.size gr _ _ HNq.out.rcv).mono ?_); rintro e wm ⟨he, rfl⟩; rw [HMSG.out] at he; replace he : e = .returned (.tuple #[.string message, .bool true]) := he; subst he) | (go_at_call 38; (with_reducible refine (rstate_calls w3.heap.size gr _ _ HNq.out.rcv).mono ?_); rintro e wm ⟨he, rfl⟩; replace he : e = .returned (.int .i64 1) := he; subst he) | (go_at_call 29; (with_reducible refine (sstate_calls gs _ ws _ HNq.out.snd).mono ?_); rintro e wz ⟨he, rfl⟩; replace he : e = .returned (.int .i64 st) := he; subst he))
                    go_roundg k1
                    case measure => omega
                    case rel => exact ⟨x + 1, nw, c, a, nx, st, ak, tries, dl, rdl, XL, (by first | rfl | (rw [hxw])), (by first | rfl | assumption), (by first | rfl | assumption), ⟨by have h1 := HXX.out; have h2 := HLT.out; skip; have h4 := HXLL.out; omega⟩, HSIt, HGLt, HLSq, HNq0⟩
                · have hsb : (st == 1) = false := beq_false_of_ne (fun e => hcn (by have h1 := HSIt.out.done e; have h2 := HSIt.out.ac; have h3 := HSIt.out.cn; omega))
                  rw [if_neg hcn] at HNq
                  have HMSG := Aside0.mk (show (if (cR 500 segs 0 c rdl).state = 1 then strOfNums (cR 500 segs 0 c rdl).msg else ⟨#[]⟩) = (⟨#[]⟩ : ByteArray) from rfl)
                  have HCN := Aside0.mk hcn
                  clear hcn
                  go_wp2_with (first | (go_at_call 36; (with_reducible refine (rmessage_calls w3.heap.size gr _ _ HNq.out.rcv).mono ?_); rintro e wm ⟨he, rfl⟩; rw [HMSG.out] at he; replace he : e = .returned (.tuple #[.string ⟨#[]⟩, .bool false]) := he; subst he) | (go_at_call 38; (with_reducible refine (rstate_calls w3.heap.size gr _ _ HNq.out.rcv).mono ?_); rintro e wm ⟨he, rfl⟩; replace he : e = .returned (.int .i64 0) := he; subst he) | (go_at_call 29; (with_reducible refine (sstate_calls gs _ ws _ HNq.out.snd).mono ?_); rintro e wz ⟨he, rfl⟩; replace he : e = .returned (.int .i64 st) := he; subst he))
                  go_roundg k1
                  case measure => omega
                  case rel => exact ⟨x + 1, nw, c, a, nx, st, ak, tries, dl, rdl, XL, (by first | rfl | (rw [hxw])), (by first | rfl | assumption), (by first | rfl | assumption), ⟨by have h1 := HXX.out; have h2 := HLT.out; skip; have h4 := HXLL.out; omega⟩, HSIt, HGLt, HLSq, HNq0⟩
              | succ k2 =>
                have hlt2 : y < (XL.length : Int) := by have h1 := HYY.out; omega
                have q1 : decide (y < (XL.length : Int)) = true := decide_eq_true hlt2
                have hyw : wrap64 (y + 1) = y + 1 := by have h1 := HYY.out; have h2 := HXLL.out; have h3 := HXX.out; have h4 := HLM.out; unfold wrap64; omega
                obtain ⟨Aq, cq, eq_, hcq, hCq⟩ := HLSq.out.slice
                obtain ⟨rfl, rfl⟩ : At = Aq ∧ ct = cq := by injection eq_ with e1 e2 e3; exact ⟨e1, e3⟩
                obtain ⟨adq, eaq, z0, z1, z2, z3, z4, z5⟩ := at_T23 hCq y HYY.out.1 hlt2
                subst eaq
                have hgd := HGLt.out _ (rd23_mem HYY.out.1 hlt2)
                have u1 : (0 ≤ y) = True := eq_true HYY.out.1
                have u2 : (y < (XL.length : Int)) = True := eq_true hlt2
                generalize rd_T23 XL y = pq at z0 z1 z2 z3 z4 z5 hgd
                by_cases hq1 : pq.f0 = 1
                · have hqb : (pq.f0 == 1) = true := by rw [hq1]; rfl
                  have hqc : decide (ak + window < pq.f2) = false := decide_eq_false (good_num hgd hq1)
                  clear hq1 hgd hlt2 hcq hCq z1 z3 z4 z5
                  go_wp2
                  go_roundg k2
                  case measure => omega
                  case rel => exact ⟨y + 1, (by first | rfl | (rw [hyw])), ⟨by have h1 := HYY.out; omega⟩, HLSq, HNq⟩
                · have hqb : (pq.f0 == 1) = false := beq_false_of_ne hq1
                  clear hq1 hgd hlt2 hcq hCq z1 z2 z3 z4 z5
                  go_wp2
                  go_roundg k2
                  case measure => omega
                  case rel => exact ⟨y + 1, (by first | rfl | (rw [hyw])), ⟨by have h1 := HYY.out; omega⟩, HLSq, HNq⟩
        have hLp : 0 < xs.length := by cases xs with | nil => exact absurd rfl hxs | cons _ _ => simp
        obtain ⟨A8, c8, e8, hc8, hC8⟩ := HLS.out.slice
        subst e8
        have HLS8 := Aside0.mk HLS.out
        have HC8 := Aside0.mk hC8
        obtain ⟨qd, hqd⟩ : ∃ qd, mm.tdiv 4 = qd := ⟨_, rfl⟩
        have hqd2 : mm / 4 = qd := by rw [← hqd]; exact (Int.tdiv_eq_ediv_of_nonneg hmp.1).symm
        have hqr : 0 ≤ qd ∧ qd ≤ 9223372036854775807 := by rw [← hqd2]; omega
        have hwq : wrap64 qd = qd := by unfold wrap64; omega
        obtain ⟨kk, hkk⟩ : ∃ kk, qd.tmod (xs.length : Int) = kk := ⟨_, rfl⟩
        have hkk2 : qd % (xs.length : Int) = kk := by rw [← hkk]; exact (Int.tmod_eq_emod_of_nonneg hqr.1).symm
        have hkr : 0 ≤ kk ∧ kk < (xs.length : Int) := by rw [← hkk2]; exact ⟨Int.emod_nonneg _ (by omega), Int.emod_lt_of_pos _ (by omega)⟩
        have HKR := Aside0.mk hkr
        obtain ⟨ad, ea, x0, x1, x2, x3, x4, x5⟩ := at_T23 hC8 kk hkr.1 hkr.2
        subst ea
        have HGD := Aside0.mk (HGL.out _ (rd23_mem hkr.1 hkr.2))
        obtain ⟨A9, c9, hcut2, hC9⟩ := lst_from hC8 hc8 (kk.toNat + 1) (by omega)
        obtain ⟨hcut1, hC9b⟩ := lst_to hC8 hc8 kk.toNat (by omega)
        obtain ⟨L1, HL1⟩ : ∃ L1, Aside0 (xs.take kk.toNat = L1) := ⟨_, ⟨rfl⟩⟩
        obtain ⟨L2, HL2⟩ : ∃ L2, Aside0 (xs.drop (kk.toNat + 1) = L2) := ⟨_, ⟨rfl⟩⟩
        have HLL := Aside0.mk (show L1.length + L2.length + 1 = xs.length by rw [← HL1.out, ← HL2.out, List.length_take, List.length_drop]; omega)
        have HGC := Aside0.mk (show GoodL window segs c ak (L1 ++ L2) by rw [← HL1.out, ← HL2.out]; exact HGL.out.cut kk.toNat)
        rw [HL1.out, show ((kk.toNat : Nat) : Int) = kk by omega] at hcut1
        rw [HL2.out, show ((kk.toNat + 1 : Nat) : Int) = kk + 1 by omega] at hcut2
        have HD1 := Aside0.mk (show ∀ w1, Kd.C k23 w1 (some ad) xs.length xs → Kd.C k23 w1 (some ad) L1.length L1 by rw [← HL1.out]; exact hC9b)
        have HD2 := Aside0.mk (show ∀ w1, Kd.C k23 w1 (some ad) xs.length xs → Kd.C k23 w1 A9 L2.length L2 by rw [← HL2.out]; exact hC9)
        have hkw : wrap64 (kk + 1) = kk + 1 := by have h1 := HXX.out; have h2 := HLT.out; unfold wrap64; omega
        obtain ⟨L, HLq⟩ : ∃ L : Nat, Aside0 (xs.length = L) := ⟨_, ⟨rfl⟩⟩
        rw [HLq.out] at hcut1 hcut2 hkk hkk2 hkr hLp HLS8 ⊢
        have kf0 : (0 ≤ kk) = True := eq_true hkr.1
        have kf1 : (kk < (L : Int)) = True := eq_true hkr.2
        have l0 : decide (0 < (L : Int)) = true := decide_eq_true (by omega)
        have l1 : decide (0 < L) = true := decide_eq_true hLp
        have l2 : ((L : Int) == 0) = false := beq_false_of_ne (by omega)
        have l3' : ((L : Int) = 0) = False := eq_false (by omega)
        have l4 : (L = 0) = False := eq_false (by omega)
        have l5 : (L == 0) = false := beq_false_of_ne (by omega)
        clear hLp hkr hC8 hc8 hC9 hC9b hqr hxs
        generalize rd_T23 xs kk = p at x0 x1 x2 x3 x4 x5 HGD
        by_cases r1 : mm % 4 = 1
        · have g1 : (mm.tmod 4 != 1) = false := by rw [ht, r1]; rfl
          have g1b : (mm % 4 != 1) = false := by rw [r1]; rfl
          have g2 : (mm.tmod 4 != 2) = true := by rw [ht, r1]; rfl
          have g2b : (mm % 4 != 2) = true := by rw [r1]; rfl
          clear r1 hr
          have HGB := HGL
          rcases HGD.out with ⟨i, hi, hp, _⟩ | ⟨JJ, hj0, hj1, hp⟩ | hp
          · as_aux_lemma =>
              obtain ⟨mo, HMO⟩ : ∃ mo, Aside0 (decide ((i : Int) < wrap64 ((segs.length : Int) - 1)) = mo) := ⟨_, ⟨rfl⟩⟩
              obtain ⟨es, HES⟩ : ∃ es, Aside0 (rdOf ByteArray.empty segs (i : Int) = es) := ⟨_, ⟨rfl⟩⟩
              obtain ⟨II, HII⟩ : ∃ II : Int, Aside0 ((i : Int) = II) := ⟨_, ⟨rfl⟩⟩
              obtain ⟨ys, c2, rd2, hhd, hsi2, hgl2, hyl, hcc, hrd2⟩ := HSI.out.data (rd := rdl) hi nw (by have h1 := HXX.out; omega) (by have h1 := HXX.out; have h2 := HLT.out; omega) (by have h1 := HXX.out; omega)
              rw [HMO.out, HES.out, HII.out] at hhd
              have HML := Aside0.mk (show (cR 500 segs (if c = segs.length then 1 else 0) c rdl).msg.length + es.size ≤ 140737488355328 by rw [← HES.out]; show (cat segs c).length + _ ≤ _; have h1 := HSI.out.cn; rw [HSZ.out.2.2] at h1 hi ⊢; have h2 := cat_len message sz c HSZ.out.2.1 (by unfold segsOf at h1; rw [pieces_len] at h1; exact h1); have h3 := seg_len message sz i HSZ.out.2.1 (by unfold segsOf at hi; rw [pieces_len] at hi; exact hi); have h4 := HMS.out; omega)
              have HSI2 := Aside0.mk hsi2
              have HYL := Aside0.mk hyl
              have HRD2 := Aside0.mk hrd2
              have HGL2 := Aside0.mk (show GoodL window segs c2 ak ((xs) ++ ys) from (HGB.out.mono hcc (Int.le_refl _)).app hgl2)
              have HH := Aside0.mk hhd
              have hk1 : ((1 : Int) == 1) = true := rfl
              clear hhd hsi2 hgl2 hyl hcc hrd2 hi
              subst hp
              replace x0 : wr.cell? (ad.add (kk.toNat * 6)) = some (.int .i64 1) := by exact x0
              replace x1 : wr.cell? ⟨(ad.add (kk.toNat * 6)).block, (ad.add (kk.toNat * 6)).off + 1, none⟩ = some (.int .i64 7) := by exact x1
              replace x2 : wr.cell? ⟨(ad.add (kk.toNat * 6)).block, (ad.add (kk.toNat * 6)).off + 2, none⟩ = some (.int .i64 II) := by rw [← HII.out]; exact x2
              replace x3 : wr.cell? ⟨(ad.add (kk.toNat * 6)).block, (ad.add (kk.toNat * 6)).off + 3, none⟩ = some (.bool mo) := by rw [← HMO.out]; exact x3
              replace x4 : wr.cell? ⟨(ad.add (kk.toNat * 6)).block, (ad.add (kk.toNat * 6)).off + 4, none⟩ = some (.int .i64 window) := by exact x4
              replace x5 : wr.cell? ⟨(ad.add (kk.toNat * 6)).block, (ad.add (kk.toNat * 6)).off + 5, none⟩ = some (.string es) := by rw [← HES.out]; exact x5
              go_wp2_with (first | (go_at_call 34; have hb := below_alloc (Below.refl wr.heap.size wr) (.cells #[.int .i64 1, .int .i64 7, .int .i64 II, .bool mo, .int .i64 window, .string es] 23); have HNg := Aside0.mk (HN.out.below hb); have HLg := Aside0.mk (Lst.keep HLS8.out (Keep23.of_below hb)); clear hb x0 x1 x2 x3 x4 x5; generalize wr.heap.size = g; generalize wr.alloc (.cells #[.int .i64 1, .int .i64 7, .int .i64 II, .bool mo, .int .i64 window, .string es] 23) = wg at HNg HLg ⊢; (with_reducible refine (Net.rhandle HNg.out 1 7 II mo window es nw ys _ HH.out HML.out).mono ?_); rintro e w11 ⟨A11, he, hC11, hn11, hk11⟩; subst he; have HN11 := Aside0.mk hn11; have HC11 := Aside0.mk hC11; have HL11 := Aside0.mk (Lst.keep HLg.out hk11.k23); clear hn11 hC11 hk11) | ((with_reducible refine gate_builtin (b := .append) (xs := #[.tmp 109, .tmp 113]) rfl ?_); at_builtin; refine wpList_lst_append rfl (.tmp 109) (.tmp 113) rfl ws.heap.size _ A11 ys.length ys.length (xs) (ys) rfl rfl HL11.out HC11.out HN11.out.sb.size (by have h1 := HXX.out; have h2 := HLT.out; have h3 := HLL.out; have h4 := HYL.out; first | (rw [List.length_append]; omega) | omega) ?_; intro v12 w12 ho hg; have HL12 := Aside0.mk ho; have HN12 := Aside0.mk (HN11.out.gr hg); clear ho hg))
              obtain ⟨At, ct, et, hct, hCt⟩ := HL12.out.slice
              subst et
              clear hct hCt
              obtain ⟨XL, HXL⟩ : ∃ XL, Aside0 ((xs) ++ ys = XL) := ⟨_, ⟨rfl⟩⟩
              have HLSt := Aside0.mk HL12.out
              have HGLt := Aside0.mk HGL2.out
              rw [HXL.out] at HLSt HGLt ⊢
              have HXLL := Aside0.mk (show (XL.length : Int) ≤ 64 + 64 * (x + 1) by rw [← HXL.out]; have h1 := HXX.out; have h5 := HYL.out; have h6 := HLL.out; rw [List.length_append]; (try rw [List.length_append]); push_cast; omega)
              have HNt := HN12
              have HSIt := HSI2
              go_loopg [20] XL.length (fun kq v20 wq => ∃ (y : Int), v20 = .int .i64 y ∧ Aside0 (0 ≤ y ∧ y + (kq : Int) = (XL.length : Int)) ∧ Aside0 (Lst ws.heap.size wq (.slice At XL.length ct) XL) ∧ Aside0 (Net w ws w3.heap.size gs gr (cS window 10 segs st a nx tries dl) (cR 500 segs (if c2 = segs.length then 1 else 0) c2 rd2) wq))
              case atStart => exact ⟨0, rfl, ⟨by omega⟩, HLSt, HNt⟩
              case round =>
                obtain ⟨y, rfl, HYY, HLSq, HNq⟩ := hrel
                have HNq0 := HNq
                have hakw : wrap64 (ak + window) = ak + window := by have h1 := HSIt.out.ak1; have h2 := HSIt.out.akc; have h3 := HSIt.out.cn; have h4 := HSIt.out.n64; have h5 := HW.out; unfold wrap64; omega
                cases gk with
                | zero =>
                  have q1 : decide (y < (XL.length : Int)) = false := decide_eq_false (by have h1 := HYY.out; omega)
                  by_cases hcn : c2 = segs.length
                  · rw [if_pos hcn] at HNq
                    have HMSG := Aside0.mk (show (if (cR 500 segs 1 c2 rd2).state = 1 then strOfNums (cR 500 segs 1 c2 rd2).msg else ⟨#[]⟩) = message by show (if (1 : Int) = 1 then strOfNums (cat segs c2) else ⟨#[]⟩) = message; rw [if_pos rfl, hcn, HSZ.out.2.2]; exact cat_all message sz HSZ.out.2.1)
                    have HCN := Aside0.mk hcn
                    have hmt : (message.toList == message.toList) = true := beq_self_eq_true _
                    clear hcn
                    by_cases hs1 : st = 1
                    · have hsb : (st == 1) = true := by rw [hs1]; rfl
                      clear hs1
                      go_wp2_with (first | (go_at_call 36; (with_reducible refine (rmessage_calls w3.heap.size gr _ _ HNq.out.rcv).mono ?_); rintro e wm ⟨he, rfl⟩; rw [HMSG.out] at he; replace he : e = .returned (.tuple #[.string message, .bool true]) := he; subst he) | (go_at_call 38; (with_reducible refine (rstate_calls w3.heap.size gr _ _ HNq.out.rcv).mono ?_); rintro e wm ⟨he, rfl⟩; replace he : e = .returned (.int .i64 1) := he; subst he) | (go_at_call 29; (with_reducible refine (sstate_calls gs _ ws _ HNq.out.snd).mono ?_); rintro e wz ⟨he, rfl⟩; replace he : e = .returned (.int .i64 st) := he; subst he))
                      go_roundg k1
                      case measure => omega
                      case rel => exact ⟨x + 1, nw, c2, a, nx, st, ak, tries, dl, rd2, XL, (by first | rfl | (rw [hxw])), (by first | rfl | assumption), (by first | rfl | assumption), ⟨by have h1 := HXX.out; have h2 := HLT.out; have h6 := HRD2.out; have h4 := HXLL.out; omega⟩, HSIt, HGLt, HLSq, HNq0⟩
                    · have hsb : (st == 1) = false := beq_false_of_ne hs1
                      clear hs1
                      go_wp2_with (first | (go_at_call 36; (with_reducible refine (rmessage_calls w3.heap.size gr _ _ HNq.out.rcv).mono ?_); rintro e wm ⟨he, rfl⟩; rw [HMSG.out] at he; replace he : e = .returned (.tuple #[.string message, .bool true]) := he; subst he) | (go_at_call 38; (with_reducible refine (rstate_calls w3.heap.size gr _ _ HNq.out.rcv).mono ?_); rintro e wm ⟨he, rfl⟩; replace he : e = .returned (.int .i64 1) := he; subst he) | (go_at_call 29; (with_reducible refine (sstate_calls gs _ ws _ HNq.out.snd).mono ?_); rintro e wz ⟨he, rfl⟩; replace he : e = .returned (.int .i64 st) := he; subst he))
                      go_roundg k1
                      case measure => omega
                      case rel => exact ⟨x + 1, nw, c2, a, nx, st, ak, tries, dl, rd2, XL, (by first | rfl | (rw [hxw])), (by first | rfl | assumption), (by first | rfl | assumption), ⟨by have h1 := HXX.out; have h2 := HLT.out; have h6 := HRD2.out; have h4 := HXLL.out; omega⟩, HSIt, HGLt, HLSq, HNq0⟩
                  · have hsb : (st == 1) = false := beq_false_of_ne (fun e => hcn (by have h1 := HSIt.out.done e; have h2 := HSIt.out.ac; have h3 := HSIt.out.cn; omega))
                    rw [if_neg hcn] at HNq
                    have HMSG := Aside0.mk (show (if (cR 500 segs 0 c2 rd2).state = 1 then strOfNums (cR 500 segs 0 c2 rd2).msg else ⟨#[]⟩) = (⟨#[]⟩ : ByteArray) from rfl)
                    have HCN := Aside0.mk hcn
                    clear hcn
                    go_wp2_with (first | (go_at_call 36; (with_reducible refine (rmessage_calls w3.heap.size gr _ _ HNq.out.rcv).mono ?_); rintro e wm ⟨he, rfl⟩; rw [HMSG.out] at he; replace he : e = .returned (.tuple #[.string ⟨#[]⟩, .bool false]) := he; subst he) | (go_at_call 38; (with_reducible refine (rstate_calls w3.heap.size gr _ _ HNq.out.rcv).mono ?_); rintro e wm ⟨he, rfl⟩; replace he : e = .returned (.int .i64 0) := he; subst he) | (go_at_call 29; (with_reducible refine (sstate_calls gs _ ws _ HNq.out.snd).mono ?_); rintro e wz ⟨he, rfl⟩; replace he : e = .returned (.int .i64 st) := he; subst he))
                    go_roundg k1
                    case measure => omega
                    case rel => exact ⟨x + 1, nw, c2, a, nx, st, ak, tries, dl, rd2, XL, (by first | rfl | (rw [hxw])), (by first | rfl | assumption), (by first | rfl | assumption), ⟨by have h1 := HXX.out; have h2 := HLT.out; have h6 := HRD2.out; have h4 := HXLL.out; omega⟩, HSIt, HGLt, HLSq, HNq0⟩
                | succ k2 =>
                  have hlt2 : y < (XL.length : Int) := by have h1 := HYY.out; omega
                  have q1 : decide (y < (XL.length : Int)) = true := decide_eq_true hlt2
                  have hyw : wrap64 (y + 1) = y + 1 := by have h1 := HYY.out; have h2 := HXLL.out; have h3 := HXX.out; have h4 := HLM.out; unfold wrap64; omega
                  obtain ⟨Aq, cq, eq_, hcq, hCq⟩ := HLSq.out.slice
                  obtain ⟨rfl, rfl⟩ : At = Aq ∧ ct = cq := by injection eq_ with e1 e2 e3; exact ⟨e1, e3⟩
                  obtain ⟨adq, eaq, z0, z1, z2, z3, z4, z5⟩ := at_T23 hCq y HYY.out.1 hlt2
                  subst eaq
                  have hgd := HGLt.out _ (rd23_mem HYY.out.1 hlt2)
                  have u1 : (0 ≤ y) = True := eq_true HYY.out.1
                  have u2 : (y < (XL.length : Int)) = True := eq_true hlt2
                  generalize rd_T23 XL y = pq at z0 z1 z2 z3 z4 z5 hgd
                  by_cases hq1 : pq.f0 = 1
                  · have hqb : (pq.f0 == 1) = true := by rw [hq1]; rfl
                    have hqc : decide (ak + window < pq.f2) = false := decide_eq_false (good_num hgd hq1)
                    clear hq1 hgd hlt2 hcq hCq z1 z3 z4 z5
                    go_wp2
                    go_roundg k2
                    case measure => omega
                    case rel => exact ⟨y + 1, (by first | rfl | (rw [hyw])), ⟨by have h1 := HYY.out; omega⟩, HLSq, HNq⟩
                  · have hqb : (pq.f0 == 1) = false := beq_false_of_ne hq1
                    clear hq1 hgd hlt2 hcq hCq z1 z2 z3 z4 z5
                    go_wp2
                    go_roundg k2
                    case measure => omega
                    case rel => exact ⟨y + 1, (by first | rfl | (rw [hyw])), ⟨by have h1 := HYY.out; omega⟩, HLSq, HNq⟩
          · as_aux_lemma =>
              obtain ⟨ys, st2, a2, nx2, tries2, dl2, hhd, hsi2, hgl2, hyl⟩ := HSI.out.ack (tries := tries) (dl := dl) hj0 hj1 nw
              obtain ⟨ak2, HAK⟩ : ∃ ak2, Aside0 (mx ak JJ = ak2) := ⟨_, ⟨rfl⟩⟩
              have hak2 : (if ak < JJ then JJ else ak) = ak2 := HAK.out
              rw [HAK.out] at hsi2 hgl2
              have HSI2 := Aside0.mk hsi2
              have HYL := Aside0.mk hyl
              have HGL2 := Aside0.mk (show GoodL window segs c ak2 ((xs) ++ ys) from (HGB.out.mono (Nat.le_refl _) (by rw [← HAK.out]; unfold mx; split <;> omega)).app hgl2)
              have HH := Aside0.mk hhd
              clear hhd hsi2 hgl2 hyl hj0 hj1
              subst hp
              replace x0 : wr.cell? (ad.add (kk.toNat * 6)) = some (.int .i64 2) := by exact x0
              replace x1 : wr.cell? ⟨(ad.add (kk.toNat * 6)).block, (ad.add (kk.toNat * 6)).off + 1, none⟩ = some (.int .i64 7) := by exact x1
              replace x2 : wr.cell? ⟨(ad.add (kk.toNat * 6)).block, (ad.add (kk.toNat * 6)).off + 2, none⟩ = some (.int .i64 JJ) := by exact x2
              replace x3 : wr.cell? ⟨(ad.add (kk.toNat * 6)).block, (ad.add (kk.toNat * 6)).off + 3, none⟩ = some (.bool false) := by exact x3
              replace x4 : wr.cell? ⟨(ad.add (kk.toNat * 6)).block, (ad.add (kk.toNat * 6)).off + 4, none⟩ = some (.int .i64 0) := by exact x4
              replace x5 : wr.cell? ⟨(ad.add (kk.toNat * 6)).block, (ad.add (kk.toNat * 6)).off + 5, none⟩ = some (.string ⟨#[]⟩) := by exact x5
              go_wp2_with (first | (go_at_call 26; have hb := below_alloc (Below.refl wr.heap.size wr) (.cells #[.int .i64 2, .int .i64 7, .int .i64 JJ, .bool false, .int .i64 0, .string ⟨#[]⟩] 23); have HNg := Aside0.mk (HN.out.below hb); have HLg := Aside0.mk (Lst.keep HLS8.out (Keep23.of_below hb)); clear hb x0 x1 x2 x3 x4 x5; generalize wr.heap.size = g; generalize wr.alloc (.cells #[.int .i64 2, .int .i64 7, .int .i64 JJ, .bool false, .int .i64 0, .string ⟨#[]⟩] 23) = wg at HNg HLg ⊢; (with_reducible refine (Net.shandle HNg.out HSI.out.ok 2 7 JJ false 0 ⟨#[]⟩ nw ys _ HH.out).mono ?_); rintro e w11 ⟨A11, he, hC11, hn11, hk11⟩; subst he; have HN11 := Aside0.mk hn11; have HC11 := Aside0.mk hC11; have HL11 := Aside0.mk (Lst.keep HLg.out hk11.k23); clear hn11 hC11 hk11) | ((with_reducible refine gate_builtin (b := .append) (xs := #[.tmp 122, .tmp 126]) rfl ?_); at_builtin; refine wpList_lst_append rfl (.tmp 122) (.tmp 126) rfl ws.heap.size _ A11 ys.length ys.length (xs) (ys) rfl rfl HL11.out HC11.out HN11.out.sb.size (by have h1 := HXX.out; have h2 := HLT.out; have h3 := HLL.out; have h4 := HYL.out; first | (rw [List.length_append]; omega) | omega) ?_; intro v12 w12 ho hg; have HL12 := Aside0.mk ho; have HN12 := Aside0.mk (HN11.out.gr hg); clear ho hg))
              obtain ⟨At, ct, et, hct, hCt⟩ := HL12.out.slice
              subst et
              clear hct hCt
              obtain ⟨XL, HXL⟩ : ∃ XL, Aside0 ((xs) ++ ys = XL) := ⟨_, ⟨rfl⟩⟩
              have HLSt := Aside0.mk HL12.out
              have HGLt := Aside0.mk HGL2.out
              rw [HXL.out] at HLSt HGLt ⊢
              have HXLL := Aside0.mk (show (XL.length : Int) ≤ 64 + 64 * (x + 1) by rw [← HXL.out]; have h1 := HXX.out; have h5 := HYL.out; have h6 := HLL.out; rw [List.length_append]; (try rw [List.length_append]); push_cast; omega)
              have HNt := HN12
              have HSIt := HSI2
              go_loopg [20] XL.length (fun kq v20 wq => ∃ (y : Int), v20 = .int .i64 y ∧ Aside0 (0 ≤ y ∧ y + (kq : Int) = (XL.length : Int)) ∧ Aside0 (Lst ws.heap.size wq (.slice At XL.length ct) XL) ∧ Aside0 (Net w ws w3.heap.size gs gr (cS window 10 segs st2 a2 nx2 tries2 dl2) (cR 500 segs (if c = segs.length then 1 else 0) c rdl) wq))
              case atStart => exact ⟨0, rfl, ⟨by omega⟩, HLSt, HNt⟩
              case round =>
                obtain ⟨y, rfl, HYY, HLSq, HNq⟩ := hrel
                have HNq0 := HNq
                have hakw : wrap64 (ak2 + window) = ak2 + window := by have h1 := HSIt.out.ak1; have h2 := HSIt.out.akc; have h3 := HSIt.out.cn; have h4 := HSIt.out.n64; have h5 := HW.out; unfold wrap64; omega
                cases gk with
                | zero =>
                  have q1 : decide (y < (XL.length : Int)) = false := decide_eq_false (by have h1 := HYY.out; omega)
                  by_cases hcn : c = segs.length
                  · rw [if_pos hcn] at HNq
                    have HMSG := Aside0.mk (show (if (cR 500 segs 1 c rdl).state = 1 then strOfNums (cR 500 segs 1 c rdl).msg else ⟨#[]⟩) = message by show (if (1 : Int) = 1 then strOfNums (cat segs c) else ⟨#[]⟩) = message; rw [if_pos rfl, hcn, HSZ.out.2.2]; exact cat_all message sz HSZ.out.2.1)
                    have HCN := Aside0.mk hcn
                    have hmt : (message.toList == message.toList) = true := beq_self_eq_true _
                    clear hcn
                    by_cases hs1 : st2 = 1
                    · have hsb : (st2 == 1) = true := by rw [hs1]; rfl
                      clear hs1
                      go_wp2_with (first | (go_at_call 36; (with_reducible refine (rmessage_calls w3.heap.size gr _ _ HNq.out.rcv).mono ?_); rintro e wm ⟨he, rfl⟩; rw [HMSG.out] at he; replace he : e = .returned (.tuple #[.string message, .bool true]) := he; subst he) | (go_at_call 38; (with_reducible refine (rstate_calls w3.heap.size gr _ _ HNq.out.rcv).mono ?_); rintro e wm ⟨he, rfl⟩; replace he : e = .returned (.int .i64 1) := he; subst he) | (go_at_call 29; (with_reducible refine (sstate_calls gs _ ws _ HNq.out.snd).mono ?_); rintro e wz ⟨he, rfl⟩; replace he : e = .returned (.int .i64 st2) := he; subst he))
                      go_roundg k1
                      case measure => omega
                      case rel => exact ⟨x + 1, nw, c, a2, nx2, st2, ak2, tries2, dl2, rdl, XL, (by first | rfl | (rw [hxw])), (by first | rfl | assumption), (by first | rfl | assumption), ⟨by have h1 := HXX.out; have h2 := HLT.out; skip; have h4 := HXLL.out; omega⟩, HSIt, HGLt, HLSq, HNq0⟩
                    · have hsb : (st2 == 1) = false := beq_false_of_ne hs1
                      clear hs1
                      go_wp2_with (first | (go_at_call 36; (with_reducible refine (rmessage_calls w3.heap.size gr _ _ HNq.out.rcv).mono ?_); rintro e wm ⟨he, rfl⟩; rw [HMSG.out] at he; replace he : e = .returned (.tuple #[.string message, .bool true]) := he; subst he) | (go_at_call 38; (with_reducible refine (rstate_calls w3.heap.size gr _ _ HNq.out.rcv).mono ?_); rintro e wm ⟨he, rfl⟩; replace he : e = .returned (.int .i64 1) := he; subst he) | (go_at_call 29; (with_reducible refine (sstate_calls gs _ ws _ HNq.out.snd).mono ?_); rintro e wz ⟨he, rfl⟩; replace he : e = .returned (.int .i64 st2) := he; subst he))
                      go_roundg k1
                      case measure => omega
                      case rel => exact ⟨x + 1, nw, c, a2, nx2, st2, ak2, tries2, dl2, rdl, XL, (by first | rfl | (rw [hxw])), (by first | rfl | assumption), (by first | rfl | assumption), ⟨by have h1 := HXX.out; have h2 := HLT.out; skip; have h4 := HXLL.out; omega⟩, HSIt, HGLt, HLSq, HNq0⟩
                  · have hsb : (st2 == 1) = false := beq_false_of_ne (fun e => hcn (by have h1 := HSIt.out.done e; have h2 := HSIt.out.ac; have h3 := HSIt.out.cn; omega))
                    rw [if_neg hcn] at HNq
                    have HMSG := Aside0.mk (show (if (cR 500 segs 0 c rdl).state = 1 then strOfNums (cR 500 segs 0 c rdl).msg else ⟨#[]⟩) = (⟨#[]⟩ : ByteArray) from rfl)
                    have HCN := Aside0.mk hcn
                    clear hcn
                    go_wp2_with (first | (go_at_call 36; (with_reducible refine (rmessage_calls w3.heap.size gr _ _ HNq.out.rcv).mono ?_); rintro e wm ⟨he, rfl⟩; rw [HMSG.out] at he; replace he : e = .returned (.tuple #[.string ⟨#[]⟩, .bool false]) := he; subst he) | (go_at_call 38; (with_reducible refine (rstate_calls w3.heap.size gr _ _ HNq.out.rcv).mono ?_); rintro e wm ⟨he, rfl⟩; replace he : e = .returned (.int .i64 0) := he; subst he) | (go_at_call 29; (with_reducible refine (sstate_calls gs _ ws _ HNq.out.snd).mono ?_); rintro e wz ⟨he, rfl⟩; replace he : e = .returned (.int .i64 st2) := he; subst he))
                    go_roundg k1
                    case measure => omega
                    case rel => exact ⟨x + 1, nw, c, a2, nx2, st2, ak2, tries2, dl2, rdl, XL, (by first | rfl | (rw [hxw])), (by first | rfl | assumption), (by first | rfl | assumption), ⟨by have h1 := HXX.out; have h2 := HLT.out; skip; have h4 := HXLL.out; omega⟩, HSIt, HGLt, HLSq, HNq0⟩
                | succ k2 =>
                  have hlt2 : y < (XL.length : Int) := by have h1 := HYY.out; omega
                  have q1 : decide (y < (XL.length : Int)) = true := decide_eq_true hlt2
                  have hyw : wrap64 (y + 1) = y + 1 := by have h1 := HYY.out; have h2 := HXLL.out; have h3 := HXX.out; have h4 := HLM.out; unfold wrap64; omega
                  obtain ⟨Aq, cq, eq_, hcq, hCq⟩ := HLSq.out.slice
                  obtain ⟨rfl, rfl⟩ : At = Aq ∧ ct = cq := by injection eq_ with e1 e2 e3; exact ⟨e1, e3⟩
                  obtain ⟨adq, eaq, z0, z1, z2, z3, z4, z5⟩ := at_T23 hCq y HYY.out.1 hlt2
                  subst eaq
                  have hgd := HGLt.out _ (rd23_mem HYY.out.1 hlt2)
                  have u1 : (0 ≤ y) = True := eq_true HYY.out.1
                  have u2 : (y < (XL.length : Int)) = True := eq_true hlt2
                  generalize rd_T23 XL y = pq at z0 z1 z2 z3 z4 z5 hgd
                  by_cases hq1 : pq.f0 = 1
                  · have hqb : (pq.f0 == 1) = true := by rw [hq1]; rfl
                    have hqc : decide (ak2 + window < pq.f2) = false := decide_eq_false (good_num hgd hq1)
                    clear hq1 hgd hlt2 hcq hCq z1 z3 z4 z5
                    go_wp2
                    go_roundg k2
                    case measure => omega
                    case rel => exact ⟨y + 1, (by first | rfl | (rw [hyw])), ⟨by have h1 := HYY.out; omega⟩, HLSq, HNq⟩
                  · have hqb : (pq.f0 == 1) = false := beq_false_of_ne hq1
                    clear hq1 hgd hlt2 hcq hCq z1 z2 z3 z4 z5
                    go_wp2
                    go_roundg k2
                    case measure => omega
                    case rel => exact ⟨y + 1, (by first | rfl | (rw [hyw])), ⟨by have h1 := HYY.out; omega⟩, HLSq, HNq⟩
          · as_aux_lemma =>
              obtain ⟨st2, hhd, hsi2⟩ := HSI.out.abort (tries := tries) (dl := dl) nw
              obtain ⟨ys, HYS⟩ : ∃ ys : List S23, Aside0 (([] : List S23) = ys) := ⟨_, ⟨rfl⟩⟩
              rw [HYS.out] at hhd
              have HSI2 := Aside0.mk hsi2
              have HYL := Aside0.mk (show ys.length ≤ 64 by rw [← HYS.out]; simp)
              have HGL2 := Aside0.mk (show GoodL window segs c ak ((xs) ++ ys) by rw [← HYS.out]; exact HGB.out.app GoodL.nil)
              have HH := Aside0.mk hhd
              clear hhd hsi2
              subst hp
              replace x0 : wr.cell? (ad.add (kk.toNat * 6)) = some (.int .i64 3) := by exact x0
              replace x1 : wr.cell? ⟨(ad.add (kk.toNat * 6)).block, (ad.add (kk.toNat * 6)).off + 1, none⟩ = some (.int .i64 7) := by exact x1
              replace x2 : wr.cell? ⟨(ad.add (kk.toNat * 6)).block, (ad.add (kk.toNat * 6)).off + 2, none⟩ = some (.int .i64 0) := by exact x2
              replace x3 : wr.cell? ⟨(ad.add (kk.toNat * 6)).block, (ad.add (kk.toNat * 6)).off + 3, none⟩ = some (.bool false) := by exact x3
              replace x4 : wr.cell? ⟨(ad.add (kk.toNat * 6)).block, (ad.add (kk.toNat * 6)).off + 4, none⟩ = some (.int .i64 0) := by exact x4
              replace x5 : wr.cell? ⟨(ad.add (kk.toNat * 6)).block, (ad.add (kk.toNat * 6)).off + 5, none⟩ = some (.string ⟨#[]⟩) := by exact x5
              go_wp2_with (first | (go_at_call 26; have hb := below_alloc (Below.refl wr.heap.size wr) (.cells #[.int .i64 3, .int .i64 7, .int .i64 0, .bool false, .int .i64 0, .string ⟨#[]⟩] 23); have HNg := Aside0.mk (HN.out.below hb); have HLg := Aside0.mk (Lst.keep HLS8.out (Keep23.of_below hb)); clear hb x0 x1 x2 x3 x4 x5; generalize wr.heap.size = g; generalize wr.alloc (.cells #[.int .i64 3, .int .i64 7, .int .i64 0, .bool false, .int .i64 0, .string ⟨#[]⟩] 23) = wg at HNg HLg ⊢; (with_reducible refine (Net.shandle HNg.out HSI.out.ok 3 7 0 false 0 ⟨#[]⟩ nw ys _ HH.out).mono ?_); rintro e w11 ⟨A11, he, hC11, hn11, hk11⟩; subst he; have HN11 := Aside0.mk hn11; have HC11 := Aside0.mk hC11; have HL11 := Aside0.mk (Lst.keep HLg.out hk11.k23); clear hn11 hC11 hk11) | ((with_reducible refine gate_builtin (b := .append) (xs := #[.tmp 122, .tmp 126]) rfl ?_); at_builtin; refine wpList_lst_append rfl (.tmp 122) (.tmp 126) rfl ws.heap.size _ A11 ys.length ys.length (xs) (ys) rfl rfl HL11.out HC11.out HN11.out.sb.size (by have h1 := HXX.out; have h2 := HLT.out; have h3 := HLL.out; have h4 := HYL.out; first | (rw [List.length_append]; omega) | omega) ?_; intro v12 w12 ho hg; have HL12 := Aside0.mk ho; have HN12 := Aside0.mk (HN11.out.gr hg); clear ho hg))
              obtain ⟨At, ct, et, hct, hCt⟩ := HL12.out.slice
              subst et
              clear hct hCt
              obtain ⟨XL, HXL⟩ : ∃ XL, Aside0 ((xs) ++ ys = XL) := ⟨_, ⟨rfl⟩⟩
              have HLSt := Aside0.mk HL12.out
              have HGLt := Aside0.mk HGL2.out
              rw [HXL.out] at HLSt HGLt ⊢
              have HXLL := Aside0.mk (show (XL.length : Int) ≤ 64 + 64 * (x + 1) by rw [← HXL.out]; have h1 := HXX.out; have h5 := HYL.out; have h6 := HLL.out; rw [List.length_append]; (try rw [List.length_append]); push_cast; omega)
              have HNt := HN12
              have HSIt := HSI2
              go_loopg [20] XL.length (fun kq v20 wq => ∃ (y : Int), v20 = .int .i64 y ∧ Aside0 (0 ≤ y ∧ y + (kq : Int) = (XL.length : Int)) ∧ Aside0 (Lst ws.heap.size wq (.slice At XL.length ct) XL) ∧ Aside0 (Net w ws w3.heap.size gs gr (cS window 10 segs st2 a nx tries dl) (cR 500 segs (if c = segs.length then 1 else 0) c rdl) wq))
              case atStart => exact ⟨0, rfl, ⟨by omega⟩, HLSt, HNt⟩
              case round =>
                obtain ⟨y, rfl, HYY, HLSq, HNq⟩ := hrel
                have HNq0 := HNq
                have hakw : wrap64 (ak + window) = ak + window := by have h1 := HSIt.out.ak1; have h2 := HSIt.out.akc; have h3 := HSIt.out.cn; have h4 := HSIt.out.n64; have h5 := HW.out; unfold wrap64; omega
                cases gk with
                | zero =>
                  have q1 : decide (y < (XL.length : Int)) = false := decide_eq_false (by have h1 := HYY.out; omega)
                  by_cases hcn : c = segs.length
                  · rw [if_pos hcn] at HNq
                    have HMSG := Aside0.mk (show (if (cR 500 segs 1 c rdl).state = 1 then strOfNums (cR 500 segs 1 c rdl).msg else ⟨#[]⟩) = message by show (if (1 : Int) = 1 then strOfNums (cat segs c) else ⟨#[]⟩) = message; rw [if_pos rfl, hcn, HSZ.out.2.2]; exact cat_all message sz HSZ.out.2.1)
                    have HCN := Aside0.mk hcn
                    have hmt : (message.toList == message.toList) = true := beq_self_eq_true _
                    clear hcn
                    by_cases hs1 : st2 = 1
                    · have hsb : (st2 == 1) = true := by rw [hs1]; rfl
                      clear hs1
                      go_wp2_with (first | (go_at_call 36; (with_reducible refine (rmessage_calls w3.heap.size gr _ _ HNq.out.rcv).mono ?_); rintro e wm ⟨he, rfl⟩; rw [HMSG.out] at he; replace he : e = .returned (.tuple #[.string message, .bool true]) := he; subst he) | (go_at_call 38; (with_reducible refine (rstate_calls w3.heap.size gr _ _ HNq.out.rcv).mono ?_); rintro e wm ⟨he, rfl⟩; replace he : e = .returned (.int .i64 1) := he; subst he) | (go_at_call 29; (with_reducible refine (sstate_calls gs _ ws _ HNq.out.snd).mono ?_); rintro e wz ⟨he, rfl⟩; replace he : e = .returned (.int .i64 st2) := he; subst he))
                      go_roundg k1
                      case measure => omega
                      case rel => exact ⟨x + 1, nw, c, a, nx, st2, ak, tries, dl, rdl, XL, (by first | rfl | (rw [hxw])), (by first | rfl | assumption), (by first | rfl | assumption), ⟨by have h1 := HXX.out; have h2 := HLT.out; skip; have h4 := HXLL.out; omega⟩, HSIt, HGLt, HLSq, HNq0⟩
                    · have hsb : (st2 == 1) = false := beq_false_of_ne hs1
                      clear hs1
                      go_wp2_with (first | (go_at_call 36; (with_reducible refine (rmessage_calls w3.heap.size gr _ _ HNq.out.rcv).mono ?_); rintro e wm ⟨he, rfl⟩; rw [HMSG.out] at he; replace he : e = .returned (.tuple #[.string message, .bool true]) := he; subst he) | (go_at_call 38; (with_reducible refine (rstate_calls w3.heap.size gr _ _ HNq.out.rcv).mono ?_); rintro e wm ⟨he, rfl⟩; replace he : e = .returned (.int .i64 1) := he; subst he) | (go_at_call 29; (with_reducible refine (sstate_calls gs _ ws _ HNq.out.snd).mono ?_); rintro e wz ⟨he, rfl⟩; replace he : e = .returned (.int .i64 st2) := he; subst he))
                      go_roundg k1
                      case measure => omega
                      case rel => exact ⟨x + 1, nw, c, a, nx, st2, ak, tries, dl, rdl, XL, (by first | rfl | (rw [hxw])), (by first | rfl | assumption), (by first | rfl | assumption), ⟨by have h1 := HXX.out; have h2 := HLT.out; skip; have h4 := HXLL.out; omega⟩, HSIt, HGLt, HLSq, HNq0⟩
                  · have hsb : (st2 == 1) = false := beq_false_of_ne (fun e => hcn (by have h1 := HSIt.out.done e; have h2 := HSIt.out.ac; have h3 := HSIt.out.cn; omega))
                    rw [if_neg hcn] at HNq
                    have HMSG := Aside0.mk (show (if (cR 500 segs 0 c rdl).state = 1 then strOfNums (cR 500 segs 0 c rdl).msg else ⟨#[]⟩) = (⟨#[]⟩ : ByteArray) from rfl)
                    have HCN := Aside0.mk hcn
                    clear hcn
                    go_wp2_with (first | (go_at_call 36; (with_reducible refine (rmessage_calls w3.heap.size gr _ _ HNq.out.rcv).mono ?_); rintro e wm ⟨he, rfl⟩; rw [HMSG.out] at he; replace he : e = .returned (.tuple #[.string ⟨#[]⟩, .bool false]) := he; subst he) | (go_at_call 38; (with_reducible refine (rstate_calls w3.heap.size gr _ _ HNq.out.rcv).mono ?_); rintro e wm ⟨he, rfl⟩; replace he : e = .returned (.int .i64 0) := he; subst he) | (go_at_call 29; (with_reducible refine (sstate_calls gs _ ws _ HNq.out.snd).mono ?_); rintro e wz ⟨he, rfl⟩; replace he : e = .returned (.int .i64 st2) := he; subst he))
                    go_roundg k1
                    case measure => omega
                    case rel => exact ⟨x + 1, nw, c, a, nx, st2, ak, tries, dl, rdl, XL, (by first | rfl | (rw [hxw])), (by first | rfl | assumption), (by first | rfl | assumption), ⟨by have h1 := HXX.out; have h2 := HLT.out; skip; have h4 := HXLL.out; omega⟩, HSIt, HGLt, HLSq, HNq0⟩
                | succ k2 =>
                  have hlt2 : y < (XL.length : Int) := by have h1 := HYY.out; omega
                  have q1 : decide (y < (XL.length : Int)) = true := decide_eq_true hlt2
                  have hyw : wrap64 (y + 1) = y + 1 := by have h1 := HYY.out; have h2 := HXLL.out; have h3 := HXX.out; have h4 := HLM.out; unfold wrap64; omega
                  obtain ⟨Aq, cq, eq_, hcq, hCq⟩ := HLSq.out.slice
                  obtain ⟨rfl, rfl⟩ : At = Aq ∧ ct = cq := by injection eq_ with e1 e2 e3; exact ⟨e1, e3⟩
                  obtain ⟨adq, eaq, z0, z1, z2, z3, z4, z5⟩ := at_T23 hCq y HYY.out.1 hlt2
                  subst eaq
                  have hgd := HGLt.out _ (rd23_mem HYY.out.1 hlt2)
                  have u1 : (0 ≤ y) = True := eq_true HYY.out.1
                  have u2 : (y < (XL.length : Int)) = True := eq_true hlt2
                  generalize rd_T23 XL y = pq at z0 z1 z2 z3 z4 z5 hgd
                  by_cases hq1 : pq.f0 = 1
                  · have hqb : (pq.f0 == 1) = true := by rw [hq1]; rfl
                    have hqc : decide (ak + window < pq.f2) = false := decide_eq_false (good_num hgd hq1)
                    clear hq1 hgd hlt2 hcq hCq z1 z3 z4 z5
                    go_wp2
                    go_roundg k2
                    case measure => omega
                    case rel => exact ⟨y + 1, (by first | rfl | (rw [hyw])), ⟨by have h1 := HYY.out; omega⟩, HLSq, HNq⟩
                  · have hqb : (pq.f0 == 1) = false := beq_false_of_ne hq1
                    clear hq1 hgd hlt2 hcq hCq z1 z2 z3 z4 z5
                    go_wp2
                    go_roundg k2
                    case measure => omega
                    case rel => exact ⟨y + 1, (by first | rfl | (rw [hyw])), ⟨by have h1 := HYY.out; omega⟩, HLSq, HNq⟩
        by_cases r2 : mm % 4 = 2
        · have g1 : (mm.tmod 4 != 1) = true := by rw [ht, r2]; rfl
          have g1b : (mm % 4 != 1) = true := by rw [r2]; rfl
          have g2 : (mm.tmod 4 != 2) = false := by rw [ht, r2]; rfl
          have g2b : (mm % 4 != 2) = false := by rw [r2]; rfl
          clear r1 r2 hr
          as_aux_lemma =>
            go_wp2
            have hbox := blk_new wr (.cells #[.int .i64 p.f0, .int .i64 p.f1, .int .i64 p.f2, .bool p.f3, .int .i64 p.f4, .string p.f5] 23)
            have hb := below_alloc (Below.refl wr.heap.size wr) (.cells #[.int .i64 p.f0, .int .i64 p.f1, .int .i64 p.f2, .bool p.f3, .int .i64 p.f4, .string p.f5] 23)
            have HN9 := Aside0.mk (HN.out.below hb)
            have HC9 := Aside0.mk (Kd.C_below HC8.out hb)
            have hgs := HN.out.sb.size
            have hsz : wr.heap.size + 1 ≤ (wr.alloc (.cells #[.int .i64 p.f0, .int .i64 p.f1, .int .i64 p.f2, .bool p.f3, .int .i64 p.f4, .string p.f5] 23)).heap.size := (by rw [alloc_size]; omega)
            clear hb
            generalize wr.heap.size = g at hbox hgs hsz ⊢
            generalize wr.alloc (.cells #[.int .i64 p.f0, .int .i64 p.f1, .int .i64 p.f2, .bool p.f3, .int .i64 p.f4, .string p.f5] 23) = w9 at hbox HN9 HC9 hsz ⊢
            have HP9 := Aside0.mk hbox
            clear hbox x0 x1 x2 x3 x4 x5
            have HNd := Aside0.mk (HN9.out.below (below_drew1 (Below.refl _ _)))
            have HCd := Aside0.mk (Kd.C_drew HC9.out)
            have HPd := Aside0.mk (blk_drew HP9.out)
            have hgd : g < w9.drew.heap.size := hsz
            have hgs2 : ws.heap.size ≤ w9.drew.heap.size := Nat.le_trans hgs (Nat.le_of_lt hgd)
            generalize hwd : w9.drew = wd at HNd HCd HPd hgd hgs2
            refine start_ (n := 11) (S := fun w' => True) (ds := []) #[Yn, Yn, Yn, Yn, Yn, Yn, Yn, Yn, Yn, Yn, Yn] (by kernel_rfl) rfl rfl trivial (fun hHeld => ?_)
            rw [hwd]
            refine pure_ (i := 1) (N := some 94) (v := ?_) (a' := ?_) #[Yn, Y, Yn, Yn, Yn, Yn, Yn, Yn, Yn, Yn, Yn] rfl rfl (by kernel_rfl) (fun _ _ _ h => h) (Or.inl ⟨by rfl, ?_⟩) ?_ ?_
            rotate_left
            · intro w'
              go_simp
              with_reducible rfl
            rotate_left
            · simp only [Act.put, List.setIfInBounds_toArray, List.set_cons_zero, List.set_cons_succ, i64_w, i32_w]
              rfl
            refine pure_ (i := 2) (N := some 95) (v := ?_) (a' := ?_) #[Yn, Y, Y, Yn, Yn, Yn, Yn, Yn, Yn, Yn, Yn] rfl rfl (by kernel_rfl) (fun _ _ _ h => h) (Or.inl ⟨by rfl, ?_⟩) ?_ ?_
            rotate_left
            · intro w'
              go_simp
              with_reducible rfl
            rotate_left
            · simp only [Act.put, List.setIfInBounds_toArray, List.set_cons_zero, List.set_cons_succ, i64_w, i32_w]
              rfl
            refine pure_ (i := 3) (N := some 96) (v := ?_) (a' := ?_) #[Yn, Y, Y, Y, Yn, Yn, Yn, Yn, Yn, Yn, Yn] rfl rfl (by kernel_rfl) (fun _ _ _ h => h) (Or.inl ⟨by rfl, ?_⟩) ?_ ?_
            rotate_left
            · intro w'
              go_simp
              with_reducible rfl
            rotate_left
            · simp only [Act.put, List.setIfInBounds_toArray, List.set_cons_zero, List.set_cons_succ, i64_w, i32_w]
              rfl
            refine pure_ (i := 5) (N := some 98) (v := ?_) (a' := ?_) #[Yn, Y, Y, Y, Yn, Y, Yn, Yn, Yn, Yn, Yn] rfl rfl (by kernel_rfl) (fun _ _ _ h => h) (Or.inl ⟨by rfl, ?_⟩) ?_ ?_
            rotate_left
            · intro w'
              go_simp
              with_reducible rfl
            rotate_left
            · simp only [Act.put, List.setIfInBounds_toArray, List.set_cons_zero, List.set_cons_succ, i64_w, i32_w]
              rfl
            refine pure_ (i := 6) (N := some 99) (v := ?_) (a' := ?_) #[Yn, Y, Y, Y, Yn, Y, Y, Yn, Yn, Yn, Yn] rfl rfl (by kernel_rfl) (fun _ _ _ h => h) (Or.inl ⟨by rfl, ?_⟩) ?_ ?_
            rotate_left
            · intro w'
              go_simp
              with_reducible rfl
            rotate_left
            · simp only [Act.put, List.setIfInBounds_toArray, List.set_cons_zero, List.set_cons_succ, i64_w, i32_w]
              rfl
            refine pure_ (i := 7) (N := some 100) (v := ?_) (a' := ?_) #[Yn, Y, Y, Y, Yn, Y, Y, Y, Yn, Yn, Yn] rfl rfl (by kernel_rfl) (fun _ _ _ h => h) (Or.inl ⟨by rfl, ?_⟩) ?_ ?_
            rotate_left
            · intro w'
              go_simp
              with_reducible rfl
            rotate_left
            · simp only [Act.put, List.setIfInBounds_toArray, List.set_cons_zero, List.set_cons_succ, i64_w, i32_w]
              rfl
            refine pure_ (i := 8) (N := some 101) (v := ?_) (a' := ?_) #[Yn, Y, Y, Y, Yn, Y, Y, Y, Y, Yn, Yn] rfl rfl (by kernel_rfl) (fun _ _ _ h => h) (Or.inl ⟨by rfl, ?_⟩) ?_ ?_
            rotate_left
            · intro w'
              go_simp
              with_reducible rfl
            rotate_left
            · simp only [Act.put, List.setIfInBounds_toArray, List.set_cons_zero, List.set_cons_succ, i64_w, i32_w]
              rfl
            refine one_ (i := 0) (N := some 93) #[Y, Y, Y, Y, Yn, Y, Y, Y, Y, Yn, Yn] rfl rfl (by kernel_rfl) (by decide) (fun K hK => ?_)
            refine value_ (w1 := ?_) (v := ?_) (by rfl) rfl ?_ ?_
            rotate_left 2
            · go_simp
              constructor
              · rfl
              · rfl
            have HNe := Aside0.mk (HNd.out.below (below_alloc (Below.refl _ _) (.cells #[] 23)))
            have HCe := Aside0.mk (Kd.C_alloc HCd.out (.cells #[] 23))
            have HPe := Aside0.mk (blk_below HPd.out (below_alloc (Below.refl _ _) (.cells #[] 23)))
            have HOe := Aside0.mk (own_empty wd.heap.size wd (Nat.le_refl _))
            have hse : wd.heap.size ≤ (wd.alloc (.cells #[] 23)).heap.size := (by rw [alloc_size]; omega)
            have we_low : ∀ k, k < wd.heap.size → (wd.alloc (.cells #[] 23)).heap[k]? = wd.heap[k]? := fun k hk => (below_alloc (Below.refl wd.heap.size wd) (.cells #[] 23)).block k hk
            generalize wd.alloc (.cells #[] 23) = we at HNe HCe HPe HOe hse we_low ⊢
            refine hK.out _ _ trivial (fun hHeld => ?_)
            clear hK K
            refine norm_ (a' := ?_) ?_ ?_
            rotate_left
            · show Act.put _ (some 93) _ = _
              simp only [Act.put, List.setIfInBounds_toArray, List.set_cons_zero, List.set_cons_succ, i64_w, i32_w]
              rfl
            refine one_ (i := 4) (N := some 97) #[Y, Y, Y, Y, Y, Y, Y, Y, Y, Yn, Yn] rfl rfl (by kernel_rfl) (by decide) (fun K hK => ?_)
            refine step_own_append (by rfl) (.tmp 93) (.tmp 96) rfl wd.heap.size _ (some ad) L1.length c8 [] L1 rfl rfl HOe.out (HD1.out _ HCe.out) hse (by have h1 := HXX.out; have h2 := HLT.out; have h3 := HLL.out; simp only [List.length_nil]; omega) ?_
            intro vf wf ho hg
            have HOf := Aside0.mk (show Own wd.heap.size wf vf L1 from ho)
            have HNf := Aside0.mk (HNe.out.gr (hg.mono hgs2))
            have HPf := Aside0.mk ((hg.low g hgd (blk_lt HPe.out)).trans HPe.out)
            have HCf := Aside0.mk (C_low HCd.out (fun k hk => (hg.low k hk (Nat.lt_of_lt_of_le hk hse)).trans ((we_low k hk))))
            clear ho
            have hsf := Nat.le_trans hse hg.size
            refine hK.out _ _ trivial (fun hHeld => ?_)
            clear hK K
            refine norm_ (a' := ?_) ?_ ?_
            rotate_left
            · show Act.put _ (some 97) _ = _
              simp only [Act.put, List.setIfInBounds_toArray, List.set_cons_zero, List.set_cons_succ, i64_w, i32_w]
              rfl
            refine one_ (i := 9) (N := some 102) #[Y, Y, Y, Y, Y, Y, Y, Y, Y, Y, Yn] rfl rfl (by kernel_rfl) (by decide) (fun K hK => ?_)
            refine step_own_append (by rfl) (.tmp 97) (.tmp 101) rfl wd.heap.size _ A9 L2.length c9 L1 L2 rfl rfl HOf.out (HD2.out _ HCf.out) hsf (by have h1 := HXX.out; have h2 := HLT.out; have h3 := HLL.out; omega) ?_
            intro vg wg ho hg2
            have HOg := Aside0.mk (show Own ws.heap.size wg vg (L1 ++ L2) from Kd.R_lower ho hgs2)
            have HNg := Aside0.mk (HNf.out.gr (hg2.mono hgs2))
            have HPg := Aside0.mk ((hg2.low g hgd (blk_lt HPf.out)).trans HPf.out)
            clear ho hg2
            refine hK.out _ _ trivial (fun hHeld => ?_)
            clear hK K
            refine norm_ (a' := ?_) ?_ ?_
            rotate_left
            · show Act.put _ (some 102) _ = _
              simp only [Act.put, List.setIfInBounds_toArray, List.set_cons_zero, List.set_cons_succ, i64_w, i32_w]
              rfl
            refine pure_ (i := 10) (N := some 10) (v := ?_) (a' := ?_) #[Y, Y, Y, Y, Y, Y, Y, Y, Y, Y, Y] rfl rfl (by kernel_rfl) (fun _ _ _ h => h) (Or.inl ⟨by rfl, ?_⟩) ?_ ?_
            rotate_left
            · intro w'
              go_simp
              with_reducible rfl
            rotate_left
            · simp only [Act.put, List.setIfInBounds_toArray, List.set_cons_zero, List.set_cons_succ, i64_w, i32_w]
              rfl
            refine done_ (by kernel_rfl) ?_
            clear hHeld
            have y0 := (blk_cell HPg.out 0).trans rfl
            have y1 := (blk_cell HPg.out 1).trans rfl
            have y2 := (blk_cell HPg.out 2).trans rfl
            have y3 := (blk_cell HPg.out 3).trans rfl
            have y4 := (blk_cell HPg.out 4).trans rfl
            have y5 := (blk_cell HPg.out 5).trans rfl
            have HLg := Aside0.mk (show Lst ws.heap.size wg vg (L1 ++ L2) from Or.inl HOg.out)
            go_wp2
            obtain ⟨At, ct, et, hct, hCt⟩ := HLg.out.slice
            subst et
            clear hct hCt
            obtain ⟨XL, HXL⟩ : ∃ XL, Aside0 (L1 ++ L2 = XL) := ⟨_, ⟨rfl⟩⟩
            have HLSt := Aside0.mk HLg.out
            have HGLt := Aside0.mk HGC.out
            rw [HXL.out] at HLSt HGLt ⊢
            have HXLL := Aside0.mk (show (XL.length : Int) ≤ 64 + 64 * (x + 1) by rw [← HXL.out]; have h1 := HXX.out; have h6 := HLL.out; rw [List.length_append]; push_cast; omega)
            have HNt := HNg
            have HSIt := HSI
            go_loopg [20] XL.length (fun kq v20 wq => ∃ (y : Int), v20 = .int .i64 y ∧ Aside0 (0 ≤ y ∧ y + (kq : Int) = (XL.length : Int)) ∧ Aside0 (Lst ws.heap.size wq (.slice At XL.length ct) XL) ∧ Aside0 (Net w ws w3.heap.size gs gr (cS window 10 segs st a nx tries dl) (cR 500 segs (if c = segs.length then 1 else 0) c rdl) wq))
            case atStart => exact ⟨0, rfl, ⟨by omega⟩, HLSt, HNt⟩
            case round =>
              obtain ⟨y, rfl, HYY, HLSq, HNq⟩ := hrel
              have HNq0 := HNq
              have hakw : wrap64 (ak + window) = ak + window := by have h1 := HSIt.out.ak1; have h2 := HSIt.out.akc; have h3 := HSIt.out.cn; have h4 := HSIt.out.n64; have h5 := HW.out; unfold wrap64; omega
              cases gk with
              | zero =>
                have q1 : decide (y < (XL.length : Int)) = false := decide_eq_false (by have h1 := HYY.out; omega)
                by_cases hcn : c = segs.length
                · rw [if_pos hcn] at HNq
                  have HMSG := Aside0.mk (show (if (cR 500 segs 1 c rdl).state = 1 then strOfNums (cR 500 segs 1 c rdl).msg else ⟨#[]⟩) = message by show (if (1 : Int) = 1 then strOfNums (cat segs c) else ⟨#[]⟩) = message; rw [if_pos rfl, hcn, HSZ.out.2.2]; exact cat_all message sz HSZ.out.2.1)
                  have HCN := Aside0.mk hcn
                  have hmt : (message.toList == message.toList) = true := beq_self_eq_true _
                  clear hcn
                  by_cases hs1 : st = 1
                  · have hsb : (st == 1) = true := by rw [hs1]; rfl
                    clear hs1
                    go_wp2_with (first | (go_at_call 36; (with_reducible refine (rmessage_calls w3.heap.size gr _ _ HNq.out.rcv).mono ?_); rintro e wm ⟨he, rfl⟩; rw [HMSG.out] at he; replace he : e = .returned (.tuple #[.string message, .bool true]) := he; subst he) | (go_at_call 38; (with_reducible refine (rstate_calls w3.heap.size gr _ _ HNq.out.rcv).mono ?_); rintro e wm ⟨he, rfl⟩; replace he : e = .returned (.int .i64 1) := he; subst he) | (go_at_call 29; (with_reducible refine (sstate_calls gs _ ws _ HNq.out.snd).mono ?_); rintro e wz ⟨he, rfl⟩; replace he : e = .returned (.int .i64 st) := he; subst he))
                    go_roundg k1
                    case measure => omega
                    case rel => exact ⟨x + 1, nw, c, a, nx, st, ak, tries, dl, rdl, XL, (by first | rfl | (rw [hxw])), (by first | rfl | assumption), (by first | rfl | assumption), ⟨by have h1 := HXX.out; have h2 := HLT.out; skip; have h4 := HXLL.out; omega⟩, HSIt, HGLt, HLSq, HNq0⟩
                  · have hsb : (st == 1) = false := beq_false_of_ne hs1
                    clear hs1
                    go_wp2_with (first | (go_at_call 36; (with_reducible refine (rmessage_calls w3.heap.size gr _ _ HNq.out.rcv).mono ?_); rintro e wm ⟨he, rfl⟩; rw [HMSG.out] at he; replace he : e = .returned (.tuple #[.string message, .bool true]) := he; subst he) | (go_at_call 38; (with_reducible refine (rstate_calls w3.heap.size gr _ _ HNq.out.rcv).mono ?_); rintro e wm ⟨he, rfl⟩; replace he : e = .returned (.int .i64 1) := he; subst he) | (go_at_call 29; (with_reducible refine (sstate_calls gs _ ws _ HNq.out.snd).mono ?_); rintro e wz ⟨he, rfl⟩; replace he : e = .returned (.int .i64 st) := he; subst he))
                    go_roundg k1
                    case measure => omega
                    case rel => exact ⟨x + 1, nw, c, a, nx, st, ak, tries, dl, rdl, XL, (by first | rfl | (rw [hxw])), (by first | rfl | assumption), (by first | rfl | assumption), ⟨by have h1 := HXX.out; have h2 := HLT.out; skip; have h4 := HXLL.out; omega⟩, HSIt, HGLt, HLSq, HNq0⟩
                · have hsb : (st == 1) = false := beq_false_of_ne (fun e => hcn (by have h1 := HSIt.out.done e; have h2 := HSIt.out.ac; have h3 := HSIt.out.cn; omega))
                  rw [if_neg hcn] at HNq
                  have HMSG := Aside0.mk (show (if (cR 500 segs 0 c rdl).state = 1 then strOfNums (cR 500 segs 0 c rdl).msg else ⟨#[]⟩) = (⟨#[]⟩ : ByteArray) from rfl)
                  have HCN := Aside0.mk hcn
                  clear hcn
                  go_wp2_with (first | (go_at_call 36; (with_reducible refine (rmessage_calls w3.heap.size gr _ _ HNq.out.rcv).mono ?_); rintro e wm ⟨he, rfl⟩; rw [HMSG.out] at he; replace he : e = .returned (.tuple #[.string ⟨#[]⟩, .bool false]) := he; subst he) | (go_at_call 38; (with_reducible refine (rstate_calls w3.heap.size gr _ _ HNq.out.rcv).mono ?_); rintro e wm ⟨he, rfl⟩; replace he : e = .returned (.int .i64 0) := he; subst he) | (go_at_call 29; (with_reducible refine (sstate_calls gs _ ws _ HNq.out.snd).mono ?_); rintro e wz ⟨he, rfl⟩; replace he : e = .returned (.int .i64 st) := he; subst he))
                  go_roundg k1
                  case measure => omega
                  case rel => exact ⟨x + 1, nw, c, a, nx, st, ak, tries, dl, rdl, XL, (by first | rfl | (rw [hxw])), (by first | rfl | assumption), (by first | rfl | assumption), ⟨by have h1 := HXX.out; have h2 := HLT.out; skip; have h4 := HXLL.out; omega⟩, HSIt, HGLt, HLSq, HNq0⟩
              | succ k2 =>
                have hlt2 : y < (XL.length : Int) := by have h1 := HYY.out; omega
                have q1 : decide (y < (XL.length : Int)) = true := decide_eq_true hlt2
                have hyw : wrap64 (y + 1) = y + 1 := by have h1 := HYY.out; have h2 := HXLL.out; have h3 := HXX.out; have h4 := HLM.out; unfold wrap64; omega
                obtain ⟨Aq, cq, eq_, hcq, hCq⟩ := HLSq.out.slice
                obtain ⟨rfl, rfl⟩ : At = Aq ∧ ct = cq := by injection eq_ with e1 e2 e3; exact ⟨e1, e3⟩
                obtain ⟨adq, eaq, z0, z1, z2, z3, z4, z5⟩ := at_T23 hCq y HYY.out.1 hlt2
                subst eaq
                have hgd := HGLt.out _ (rd23_mem HYY.out.1 hlt2)
                have u1 : (0 ≤ y) = True := eq_true HYY.out.1
                have u2 : (y < (XL.length : Int)) = True := eq_true hlt2
                generalize rd_T23 XL y = pq at z0 z1 z2 z3 z4 z5 hgd
                by_cases hq1 : pq.f0 = 1
                · have hqb : (pq.f0 == 1) = true := by rw [hq1]; rfl
                  have hqc : decide (ak + window < pq.f2) = false := decide_eq_false (good_num hgd hq1)
                  clear hq1 hgd hlt2 hcq hCq z1 z3 z4 z5
                  go_wp2
                  go_roundg k2
                  case measure => omega
                  case rel => exact ⟨y + 1, (by first | rfl | (rw [hyw])), ⟨by have h1 := HYY.out; omega⟩, HLSq, HNq⟩
                · have hqb : (pq.f0 == 1) = false := beq_false_of_ne hq1
                  clear hq1 hgd hlt2 hcq hCq z1 z2 z3 z4 z5
                  go_wp2
                  go_roundg k2
                  case measure => omega
                  case rel => exact ⟨y + 1, (by first | rfl | (rw [hyw])), ⟨by have h1 := HYY.out; omega⟩, HLSq, HNq⟩
        have g1 : (mm.tmod 4 != 1) = true := by rw [ht]; exact bne_iff_ne.mpr r1
        have g1b : (mm % 4 != 1) = true := bne_iff_ne.mpr r1
        have g2 : (mm.tmod 4 != 2) = true := by rw [ht]; exact bne_iff_ne.mpr r2
        have g2b : (mm % 4 != 2) = true := bne_iff_ne.mpr r2
        clear r1 r2 hr
        have HGB := HGC
        rcases HGD.out with ⟨i, hi, hp, _⟩ | ⟨JJ, hj0, hj1, hp⟩ | hp
        · as_aux_lemma =>
            obtain ⟨mo, HMO⟩ : ∃ mo, Aside0 (decide ((i : Int) < wrap64 ((segs.length : Int) - 1)) = mo) := ⟨_, ⟨rfl⟩⟩
            obtain ⟨es, HES⟩ : ∃ es, Aside0 (rdOf ByteArray.empty segs (i : Int) = es) := ⟨_, ⟨rfl⟩⟩
            obtain ⟨II, HII⟩ : ∃ II : Int, Aside0 ((i : Int) = II) := ⟨_, ⟨rfl⟩⟩
            obtain ⟨ys, c2, rd2, hhd, hsi2, hgl2, hyl, hcc, hrd2⟩ := HSI.out.data (rd := rdl) hi nw (by have h1 := HXX.out; omega) (by have h1 := HXX.out; have h2 := HLT.out; omega) (by have h1 := HXX.out; omega)
            rw [HMO.out, HES.out, HII.out] at hhd
            have HML := Aside0.mk (show (cR 500 segs (if c = segs.length then 1 else 0) c rdl).msg.length + es.size ≤ 140737488355328 by rw [← HES.out]; show (cat segs c).length + _ ≤ _; have h1 := HSI.out.cn; rw [HSZ.out.2.2] at h1 hi ⊢; have h2 := cat_len message sz c HSZ.out.2.1 (by unfold segsOf at h1; rw [pieces_len] at h1; exact h1); have h3 := seg_len message sz i HSZ.out.2.1 (by unfold segsOf at hi; rw [pieces_len] at hi; exact hi); have h4 := HMS.out; omega)
            have HSI2 := Aside0.mk hsi2
            have HYL := Aside0.mk hyl
            have HRD2 := Aside0.mk hrd2
            have HGL2 := Aside0.mk (show GoodL window segs c2 ak ((L1 ++ L2) ++ ys) from (HGB.out.mono hcc (Int.le_refl _)).app hgl2)
            have HH := Aside0.mk hhd
            have hk1 : ((1 : Int) == 1) = true := rfl
            clear hhd hsi2 hgl2 hyl hcc hrd2 hi
            subst hp
            replace x0 : wr.cell? (ad.add (kk.toNat * 6)) = some (.int .i64 1) := by exact x0
            replace x1 : wr.cell? ⟨(ad.add (kk.toNat * 6)).block, (ad.add (kk.toNat * 6)).off + 1, none⟩ = some (.int .i64 7) := by exact x1
            replace x2 : wr.cell? ⟨(ad.add (kk.toNat * 6)).block, (ad.add (kk.toNat * 6)).off + 2, none⟩ = some (.int .i64 II) := by rw [← HII.out]; exact x2
            replace x3 : wr.cell? ⟨(ad.add (kk.toNat * 6)).block, (ad.add (kk.toNat * 6)).off + 3, none⟩ = some (.bool mo) := by rw [← HMO.out]; exact x3
            replace x4 : wr.cell? ⟨(ad.add (kk.toNat * 6)).block, (ad.add (kk.toNat * 6)).off + 4, none⟩ = some (.int .i64 window) := by exact x4
            replace x5 : wr.cell? ⟨(ad.add (kk.toNat * 6)).block, (ad.add (kk.toNat * 6)).off + 5, none⟩ = some (.string es) := by rw [← HES.out]; exact x5
            go_wp2
            have hbox := blk_new wr (.cells #[.int .i64 1, .int .i64 7, .int .i64 II, .bool mo, .int .i64 window, .string es] 23)
            have hb := below_alloc (Below.refl wr.heap.size wr) (.cells #[.int .i64 1, .int .i64 7, .int .i64 II, .bool mo, .int .i64 window, .string es] 23)
            have HN9 := Aside0.mk (HN.out.below hb)
            have HC9 := Aside0.mk (Kd.C_below HC8.out hb)
            have hgs := HN.out.sb.size
            have hsz : wr.heap.size + 1 ≤ (wr.alloc (.cells #[.int .i64 1, .int .i64 7, .int .i64 II, .bool mo, .int .i64 window, .string es] 23)).heap.size := (by rw [alloc_size]; omega)
            clear hb
            generalize wr.heap.size = g at hbox hgs hsz ⊢
            generalize wr.alloc (.cells #[.int .i64 1, .int .i64 7, .int .i64 II, .bool mo, .int .i64 window, .string es] 23) = w9 at hbox HN9 HC9 hsz ⊢
            have HP9 := Aside0.mk hbox
            clear hbox x0 x1 x2 x3 x4 x5
            have HNd := Aside0.mk (HN9.out.below (below_drew1 (Below.refl _ _)))
            have HCd := Aside0.mk (Kd.C_drew HC9.out)
            have HPd := Aside0.mk (blk_drew HP9.out)
            have hgd : g < w9.drew.heap.size := hsz
            have hgs2 : ws.heap.size ≤ w9.drew.heap.size := Nat.le_trans hgs (Nat.le_of_lt hgd)
            generalize hwd : w9.drew = wd at HNd HCd HPd hgd hgs2
            refine start_ (n := 11) (S := fun w' => True) (ds := []) #[Yn, Yn, Yn, Yn, Yn, Yn, Yn, Yn, Yn, Yn, Yn] (by kernel_rfl) rfl rfl trivial (fun hHeld => ?_)
            rw [hwd]
            refine pure_ (i := 1) (N := some 94) (v := ?_) (a' := ?_) #[Yn, Y, Yn, Yn, Yn, Yn, Yn, Yn, Yn, Yn, Yn] rfl rfl (by kernel_rfl) (fun _ _ _ h => h) (Or.inl ⟨by rfl, ?_⟩) ?_ ?_
            rotate_left
            · intro w'
              go_simp
              with_reducible rfl
            rotate_left
            · simp only [Act.put, List.setIfInBounds_toArray, List.set_cons_zero, List.set_cons_succ, i64_w, i32_w]
              rfl
            refine pure_ (i := 2) (N := some 95) (v := ?_) (a' := ?_) #[Yn, Y, Y, Yn, Yn, Yn, Yn, Yn, Yn, Yn, Yn] rfl rfl (by kernel_rfl) (fun _ _ _ h => h) (Or.inl ⟨by rfl, ?_⟩) ?_ ?_
            rotate_left
            · intro w'
              go_simp
              with_reducible rfl
            rotate_left
            · simp only [Act.put, List.setIfInBounds_toArray, List.set_cons_zero, List.set_cons_succ, i64_w, i32_w]
              rfl
            refine pure_ (i := 3) (N := some 96) (v := ?_) (a' := ?_) #[Yn, Y, Y, Y, Yn, Yn, Yn, Yn, Yn, Yn, Yn] rfl rfl (by kernel_rfl) (fun _ _ _ h => h) (Or.inl ⟨by rfl, ?_⟩) ?_ ?_
            rotate_left
            · intro w'
              go_simp
              with_reducible rfl
            rotate_left
            · simp only [Act.put, List.setIfInBounds_toArray, List.set_cons_zero, List.set_cons_succ, i64_w, i32_w]
              rfl
            refine pure_ (i := 5) (N := some 98) (v := ?_) (a' := ?_) #[Yn, Y, Y, Y, Yn, Y, Yn, Yn, Yn, Yn, Yn] rfl rfl (by kernel_rfl) (fun _ _ _ h => h) (Or.inl ⟨by rfl, ?_⟩) ?_ ?_
            rotate_left
            · intro w'
              go_simp
              with_reducible rfl
            rotate_left
            · simp only [Act.put, List.setIfInBounds_toArray, List.set_cons_zero, List.set_cons_succ, i64_w, i32_w]
              rfl
            refine pure_ (i := 6) (N := some 99) (v := ?_) (a' := ?_) #[Yn, Y, Y, Y, Yn, Y, Y, Yn, Yn, Yn, Yn] rfl rfl (by kernel_rfl) (fun _ _ _ h => h) (Or.inl ⟨by rfl, ?_⟩) ?_ ?_
            rotate_left
            · intro w'
              go_simp
              with_reducible rfl
            rotate_left
            · simp only [Act.put, List.setIfInBounds_toArray, List.set_cons_zero, List.set_cons_succ, i64_w, i32_w]
              rfl
            refine pure_ (i := 7) (N := some 100) (v := ?_) (a' := ?_) #[Yn, Y, Y, Y, Yn, Y, Y, Y, Yn, Yn, Yn] rfl rfl (by kernel_rfl) (fun _ _ _ h => h) (Or.inl ⟨by rfl, ?_⟩) ?_ ?_
            rotate_left
            · intro w'
              go_simp
              with_reducible rfl
            rotate_left
            · simp only [Act.put, List.setIfInBounds_toArray, List.set_cons_zero, List.set_cons_succ, i64_w, i32_w]
              rfl
            refine pure_ (i := 8) (N := some 101) (v := ?_) (a' := ?_) #[Yn, Y, Y, Y, Yn, Y, Y, Y, Y, Yn, Yn] rfl rfl (by kernel_rfl) (fun _ _ _ h => h) (Or.inl ⟨by rfl, ?_⟩) ?_ ?_
            rotate_left
            · intro w'
              go_simp
              with_reducible rfl
            rotate_left
            · simp only [Act.put, List.setIfInBounds_toArray, List.set_cons_zero, List.set_cons_succ, i64_w, i32_w]
              rfl
            refine one_ (i := 0) (N := some 93) #[Y, Y, Y, Y, Yn, Y, Y, Y, Y, Yn, Yn] rfl rfl (by kernel_rfl) (by decide) (fun K hK => ?_)
            refine value_ (w1 := ?_) (v := ?_) (by rfl) rfl ?_ ?_
            rotate_left 2
            · go_simp
              constructor
              · rfl
              · rfl
            have HNe := Aside0.mk (HNd.out.below (below_alloc (Below.refl _ _) (.cells #[] 23)))
            have HCe := Aside0.mk (Kd.C_alloc HCd.out (.cells #[] 23))
            have HPe := Aside0.mk (blk_below HPd.out (below_alloc (Below.refl _ _) (.cells #[] 23)))
            have HOe := Aside0.mk (own_empty wd.heap.size wd (Nat.le_refl _))
            have hse : wd.heap.size ≤ (wd.alloc (.cells #[] 23)).heap.size := (by rw [alloc_size]; omega)
            have we_low : ∀ k, k < wd.heap.size → (wd.alloc (.cells #[] 23)).heap[k]? = wd.heap[k]? := fun k hk => (below_alloc (Below.refl wd.heap.size wd) (.cells #[] 23)).block k hk
            generalize wd.alloc (.cells #[] 23) = we at HNe HCe HPe HOe hse we_low ⊢
            refine hK.out _ _ trivial (fun hHeld => ?_)
            clear hK K
            refine norm_ (a' := ?_) ?_ ?_
            rotate_left
            · show Act.put _ (some 93) _ = _
              simp only [Act.put, List.setIfInBounds_toArray, List.set_cons_zero, List.set_cons_succ, i64_w, i32_w]
              rfl
            refine one_ (i := 4) (N := some 97) #[Y, Y, Y, Y, Y, Y, Y, Y, Y, Yn, Yn] rfl rfl (by kernel_rfl) (by decide) (fun K hK => ?_)
            refine step_own_append (by rfl) (.tmp 93) (.tmp 96) rfl wd.heap.size _ (some ad) L1.length c8 [] L1 rfl rfl HOe.out (HD1.out _ HCe.out) hse (by have h1 := HXX.out; have h2 := HLT.out; have h3 := HLL.out; simp only [List.length_nil]; omega) ?_
            intro vf wf ho hg
            have HOf := Aside0.mk (show Own wd.heap.size wf vf L1 from ho)
            have HNf := Aside0.mk (HNe.out.gr (hg.mono hgs2))
            have HPf := Aside0.mk ((hg.low g hgd (blk_lt HPe.out)).trans HPe.out)
            have HCf := Aside0.mk (C_low HCd.out (fun k hk => (hg.low k hk (Nat.lt_of_lt_of_le hk hse)).trans ((we_low k hk))))
            clear ho
            have hsf := Nat.le_trans hse hg.size
            refine hK.out _ _ trivial (fun hHeld => ?_)
            clear hK K
            refine norm_ (a' := ?_) ?_ ?_
            rotate_left
            · show Act.put _ (some 97) _ = _
              simp only [Act.put, List.setIfInBounds_toArray, List.set_cons_zero, List.set_cons_succ, i64_w, i32_w]
              rfl
            refine one_ (i := 9) (N := some 102) #[Y, Y, Y, Y, Y, Y, Y, Y, Y, Y, Yn] rfl rfl (by kernel_rfl) (by decide) (fun K hK => ?_)
            refine step_own_append (by rfl) (.tmp 97) (.tmp 101) rfl wd.heap.size _ A9 L2.length c9 L1 L2 rfl rfl HOf.out (HD2.out _ HCf.out) hsf (by have h1 := HXX.out; have h2 := HLT.out; have h3 := HLL.out; omega) ?_
            intro vg wg ho hg2
            have HOg := Aside0.mk (show Own ws.heap.size wg vg (L1 ++ L2) from Kd.R_lower ho hgs2)
            have HNg := Aside0.mk (HNf.out.gr (hg2.mono hgs2))
            have HPg := Aside0.mk ((hg2.low g hgd (blk_lt HPf.out)).trans HPf.out)
            clear ho hg2
            refine hK.out _ _ trivial (fun hHeld => ?_)
            clear hK K
            refine norm_ (a' := ?_) ?_ ?_
            rotate_left
            · show Act.put _ (some 102) _ = _
              simp only [Act.put, List.setIfInBounds_toArray, List.set_cons_zero, List.set_cons_succ, i64_w, i32_w]
              rfl
            refine pure_ (i := 10) (N := some 10) (v := ?_) (a' := ?_) #[Y, Y, Y, Y, Y, Y, Y, Y, Y, Y, Y] rfl rfl (by kernel_rfl) (fun _ _ _ h => h) (Or.inl ⟨by rfl, ?_⟩) ?_ ?_
            rotate_left
            · intro w'
              go_simp
              with_reducible rfl
            rotate_left
            · simp only [Act.put, List.setIfInBounds_toArray, List.set_cons_zero, List.set_cons_succ, i64_w, i32_w]
              rfl
            refine done_ (by kernel_rfl) ?_
            clear hHeld
            have y0 := (blk_cell HPg.out 0).trans rfl
            have y1 := (blk_cell HPg.out 1).trans rfl
            have y2 := (blk_cell HPg.out 2).trans rfl
            have y3 := (blk_cell HPg.out 3).trans rfl
            have y4 := (blk_cell HPg.out 4).trans rfl
            have y5 := (blk_cell HPg.out 5).trans rfl
            have HLg := Aside0.mk (show Lst ws.heap.size wg vg (L1 ++ L2) from Or.inl HOg.out)
            go_wp2_with (first | (go_at_call 34; (with_reducible refine (Net.rhandle HNg.out 1 7 II mo window es nw ys _ HH.out HML.out).mono ?_); rintro e w11 ⟨A11, he, hC11, hn11, hk11⟩; subst he; have HN11 := Aside0.mk hn11; have HC11 := Aside0.mk hC11; have HL11 := Aside0.mk (Lst.keep HLg.out hk11.k23); clear hn11 hC11 hk11) | ((with_reducible refine gate_builtin (b := .append) (xs := #[.tmp 109, .tmp 113]) rfl ?_); at_builtin; refine wpList_lst_append rfl (.tmp 109) (.tmp 113) rfl ws.heap.size _ A11 ys.length ys.length (L1 ++ L2) (ys) rfl rfl HL11.out HC11.out HN11.out.sb.size (by have h1 := HXX.out; have h2 := HLT.out; have h3 := HLL.out; have h4 := HYL.out; first | (rw [List.length_append]; omega) | omega) ?_; intro v12 w12 ho hg; have HL12 := Aside0.mk ho; have HN12 := Aside0.mk (HN11.out.gr hg); clear ho hg))
            obtain ⟨At, ct, et, hct, hCt⟩ := HL12.out.slice
            subst et
            clear hct hCt
            obtain ⟨XL, HXL⟩ : ∃ XL, Aside0 ((L1 ++ L2) ++ ys = XL) := ⟨_, ⟨rfl⟩⟩
            have HLSt := Aside0.mk HL12.out
            have HGLt := Aside0.mk HGL2.out
            rw [HXL.out] at HLSt HGLt ⊢
            have HXLL := Aside0.mk (show (XL.length : Int) ≤ 64 + 64 * (x + 1) by rw [← HXL.out]; have h1 := HXX.out; have h5 := HYL.out; have h6 := HLL.out; rw [List.length_append]; (try rw [List.length_append]); push_cast; omega)
            have HNt := HN12
            have HSIt := HSI2
            go_loopg [20] XL.length (fun kq v20 wq => ∃ (y : Int), v20 = .int .i64 y ∧ Aside0 (0 ≤ y ∧ y + (kq : Int) = (XL.length : Int)) ∧ Aside0 (Lst ws.heap.size wq (.slice At XL.length ct) XL) ∧ Aside0 (Net w ws w3.heap.size gs gr (cS window 10 segs st a nx tries dl) (cR 500 segs (if c2 = segs.length then 1 else 0) c2 rd2) wq))
            case atStart => exact ⟨0, rfl, ⟨by omega⟩, HLSt, HNt⟩
            case round =>
              obtain ⟨y, rfl, HYY, HLSq, HNq⟩ := hrel
              have HNq0 := HNq
              have hakw : wrap64 (ak + window) = ak + window := by have h1 := HSIt.out.ak1; have h2 := HSIt.out.akc; have h3 := HSIt.out.cn; have h4 := HSIt.out.n64; have h5 := HW.out; unfold wrap64; omega
              cases gk with
              | zero =>
                have q1 : decide (y < (XL.length : Int)) = false := decide_eq_false (by have h1 := HYY.out; omega)
                by_cases hcn : c2 = segs.length
                · rw [if_pos hcn] at HNq
                  have HMSG := Aside0.mk (show (if (cR 500 segs 1 c2 rd2).state = 1 then strOfNums (cR 500 segs 1 c2 rd2).msg else ⟨#[]⟩) = message by show (if (1 : Int) = 1 then strOfNums (cat segs c2) else ⟨#[]⟩) = message; rw [if_pos rfl, hcn, HSZ.out.2.2]; exact cat_all message sz HSZ.out.2.1)
                  have HCN := Aside0.mk hcn
                  have hmt : (message.toList == message.toList) = true := beq_self_eq_true _
                  clear hcn
                  by_cases hs1 : st = 1
                  · have hsb : (st == 1) = true := by rw [hs1]; rfl
                    clear hs1
                    go_wp2_with (first | (go_at_call 36; (with_reducible refine (rmessage_calls w3.heap.size gr _ _ HNq.out.rcv).mono ?_); rintro e wm ⟨he, rfl⟩; rw [HMSG.out] at he; replace he : e = .returned (.tuple #[.string message, .bool true]) := he; subst he) | (go_at_call 38; (with_reducible refine (rstate_calls w3.heap.size gr _ _ HNq.out.rcv).mono ?_); rintro e wm ⟨he, rfl⟩; replace he : e = .returned (.int .i64 1) := he; subst he) | (go_at_call 29; (with_reducible refine (sstate_calls gs _ ws _ HNq.out.snd).mono ?_); rintro e wz ⟨he, rfl⟩; replace he : e = .returned (.int .i64 st) := he; subst he))
                    go_roundg k1
                    case measure => omega
                    case rel => exact ⟨x + 1, nw, c2, a, nx, st, ak, tries, dl, rd2, XL, (by first | rfl | (rw [hxw])), (by first | rfl | assumption), (by first | rfl | assumption), ⟨by have h1 := HXX.out; have h2 := HLT.out; have h6 := HRD2.out; have h4 := HXLL.out; omega⟩, HSIt, HGLt, HLSq, HNq0⟩
                  · have hsb : (st == 1) = false := beq_false_of_ne hs1
                    clear hs1
                    go_wp2_with (first | (go_at_call 36; (with_reducible refine (rmessage_calls w3.heap.size gr _ _ HNq.out.rcv).mono ?_); rintro e wm ⟨he, rfl⟩; rw [HMSG.out] at he; replace he : e = .returned (.tuple #[.string message, .bool true]) := he; subst he) | (go_at_call 38; (with_reducible refine (rstate_calls w3.heap.size gr _ _ HNq.out.rcv).mono ?_); rintro e wm ⟨he, rfl⟩; replace he : e = .returned (.int .i64 1) := he; subst he) | (go_at_call 29; (with_reducible refine (sstate_calls gs _ ws _ HNq.out.snd).mono ?_); rintro e wz ⟨he, rfl⟩; replace he : e = .returned (.int .i64 st) := he; subst he))
                    go_roundg k1
                    case measure => omega
                    case rel => exact ⟨x + 1, nw, c2, a, nx, st, ak, tries, dl, rd2, XL, (by first | rfl | (rw [hxw])), (by first | rfl | assumption), (by first | rfl | assumption), ⟨by have h1 := HXX.out; have h2 := HLT.out; have h6 := HRD2.out; have h4 := HXLL.out; omega⟩, HSIt, HGLt, HLSq, HNq0⟩
                · have hsb : (st == 1) = false := beq_false_of_ne (fun e => hcn (by have h1 := HSIt.out.done e; have h2 := HSIt.out.ac; have h3 := HSIt.out.cn; omega))
                  rw [if_neg hcn] at HNq
                  have HMSG := Aside0.mk (show (if (cR 500 segs 0 c2 rd2).state = 1 then strOfNums (cR 500 segs 0 c2 rd2).msg else ⟨#[]⟩) = (⟨#[]⟩ : ByteArray) from rfl)
                  have HCN := Aside0.mk hcn
                  clear hcn
                  go_wp2_with (first | (go_at_call 36; (with_reducible refine (rmessage_calls w3.heap.size gr _ _ HNq.out.rcv).mono ?_); rintro e wm ⟨he, rfl⟩; rw [HMSG.out] at he; replace he : e = .returned (.tuple #[.string ⟨#[]⟩, .bool false]) := he; subst he) | (go_at_call 38; (with_reducible refine (rstate_calls w3.heap.size gr _ _ HNq.out.rcv).mono ?_); rintro e wm ⟨he, rfl⟩; replace he : e = .returned (.int .i64 0) := he; subst he) | (go_at_call 29; (with_reducible refine (sstate_calls gs _ ws _ HNq.out.snd).mono ?_); rintro e wz ⟨he, rfl⟩; replace he : e = .returned (.int .i64 st) := he; subst he))
                  go_roundg k1
                  case measure => omega
                  case rel => exact ⟨x + 1, nw, c2, a, nx, st, ak, tries, dl, rd2, XL, (by first | rfl | (rw [hxw])), (by first | rfl | assumption), (by first | rfl | assumption), ⟨by have h1 := HXX.out; have h2 := HLT.out; have h6 := HRD2.out; have h4 := HXLL.out; omega⟩, HSIt, HGLt, HLSq, HNq0⟩
              | succ k2 =>
                have hlt2 : y < (XL.length : Int) := by have h1 := HYY.out; omega
                have q1 : decide (y < (XL.length : Int)) = true := decide_eq_true hlt2
                have hyw : wrap64 (y + 1) = y + 1 := by have h1 := HYY.out; have h2 := HXLL.out; have h3 := HXX.out; have h4 := HLM.out; unfold wrap64; omega
                obtain ⟨Aq, cq, eq_, hcq, hCq⟩ := HLSq.out.slice
                obtain ⟨rfl, rfl⟩ : At = Aq ∧ ct = cq := by injection eq_ with e1 e2 e3; exact ⟨e1, e3⟩
                obtain ⟨adq, eaq, z0, z1, z2, z3, z4, z5⟩ := at_T23 hCq y HYY.out.1 hlt2
                subst eaq
                have hgd := HGLt.out _ (rd23_mem HYY.out.1 hlt2)
                have u1 : (0 ≤ y) = True := eq_true HYY.out.1
                have u2 : (y < (XL.length : Int)) = True := eq_true hlt2
                generalize rd_T23 XL y = pq at z0 z1 z2 z3 z4 z5 hgd
                by_cases hq1 : pq.f0 = 1
                · have hqb : (pq.f0 == 1) = true := by rw [hq1]; rfl
                  have hqc : decide (ak + window < pq.f2) = false := decide_eq_false (good_num hgd hq1)
                  clear hq1 hgd hlt2 hcq hCq z1 z3 z4 z5
                  go_wp2
                  go_roundg k2
                  case measure => omega
                  case rel => exact ⟨y + 1, (by first | rfl | (rw [hyw])), ⟨by have h1 := HYY.out; omega⟩, HLSq, HNq⟩
                · have hqb : (pq.f0 == 1) = false := beq_false_of_ne hq1
                  clear hq1 hgd hlt2 hcq hCq z1 z2 z3 z4 z5
                  go_wp2
                  go_roundg k2
                  case measure => omega
                  case rel => exact ⟨y + 1, (by first | rfl | (rw [hyw])), ⟨by have h1 := HYY.out; omega⟩, HLSq, HNq⟩
        · as_aux_lemma =>
            obtain ⟨ys, st2, a2, nx2, tries2, dl2, hhd, hsi2, hgl2, hyl⟩ := HSI.out.ack (tries := tries) (dl := dl) hj0 hj1 nw
            obtain ⟨ak2, HAK⟩ : ∃ ak2, Aside0 (mx ak JJ = ak2) := ⟨_, ⟨rfl⟩⟩
            have hak2 : (if ak < JJ then JJ else ak) = ak2 := HAK.out
            rw [HAK.out] at hsi2 hgl2
            have HSI2 := Aside0.mk hsi2
            have HYL := Aside0.mk hyl
            have HGL2 := Aside0.mk (show GoodL window segs c ak2 ((L1 ++ L2) ++ ys) from (HGB.out.mono (Nat.le_refl _) (by rw [← HAK.out]; unfold mx; split <;> omega)).app hgl2)
            have HH := Aside0.mk hhd
            clear hhd hsi2 hgl2 hyl hj0 hj1
            subst hp
            replace x0 : wr.cell? (ad.add (kk.toNat * 6)) = some (.int .i64 2) := by exact x0
            replace x1 : wr.cell? ⟨(ad.add (kk.toNat * 6)).block, (ad.add (kk.toNat * 6)).off + 1, none⟩ = some (.int .i64 7) := by exact x1
            replace x2 : wr.cell? ⟨(ad.add (kk.toNat * 6)).block, (ad.add (kk.toNat * 6)).off + 2, none⟩ = some (.int .i64 JJ) := by exact x2
            replace x3 : wr.cell? ⟨(ad.add (kk.toNat * 6)).block, (ad.add (kk.toNat * 6)).off + 3, none⟩ = some (.bool false) := by exact x3
            replace x4 : wr.cell? ⟨(ad.add (kk.toNat * 6)).block, (ad.add (kk.toNat * 6)).off + 4, none⟩ = some (.int .i64 0) := by exact x4
            replace x5 : wr.cell? ⟨(ad.add (kk.toNat * 6)).block, (ad.add (kk.toNat * 6)).off + 5, none⟩ = some (.string ⟨#[]⟩) := by exact x5
            go_wp2
            have hbox := blk_new wr (.cells #[.int .i64 2, .int .i64 7, .int .i64 JJ, .bool false, .int .i64 0, .string ⟨#[]⟩] 23)
            have hb := below_alloc (Below.refl wr.heap.size wr) (.cells #[.int .i64 2, .int .i64 7, .int .i64 JJ, .bool false, .int .i64 0, .string ⟨#[]⟩] 23)
            have HN9 := Aside0.mk (HN.out.below hb)
            have HC9 := Aside0.mk (Kd.C_below HC8.out hb)
            have hgs := HN.out.sb.size
            have hsz : wr.heap.size + 1 ≤ (wr.alloc (.cells #[.int .i64 2, .int .i64 7, .int .i64 JJ, .bool false, .int .i64 0, .string ⟨#[]⟩] 23)).heap.size := (by rw [alloc_size]; omega)
            clear hb
            generalize wr.heap.size = g at hbox hgs hsz ⊢
            generalize wr.alloc (.cells #[.int .i64 2, .int .i64 7, .int .i64 JJ, .bool false, .int .i64 0, .string ⟨#[]⟩] 23) = w9 at hbox HN9 HC9 hsz ⊢
            have HP9 := Aside0.mk hbox
            clear hbox x0 x1 x2 x3 x4 x5
            have HNd := Aside0.mk (HN9.out.below (below_drew1 (Below.refl _ _)))
            have HCd := Aside0.mk (Kd.C_drew HC9.out)
            have HPd := Aside0.mk (blk_drew HP9.out)
            have hgd : g < w9.drew.heap.size := hsz
            have hgs2 : ws.heap.size ≤ w9.drew.heap.size := Nat.le_trans hgs (Nat.le_of_lt hgd)
            generalize hwd : w9.drew = wd at HNd HCd HPd hgd hgs2
            refine start_ (n := 11) (S := fun w' => True) (ds := []) #[Yn, Yn, Yn, Yn, Yn, Yn, Yn, Yn, Yn, Yn, Yn] (by kernel_rfl) rfl rfl trivial (fun hHeld => ?_)
            rw [hwd]
            refine pure_ (i := 1) (N := some 94) (v := ?_) (a' := ?_) #[Yn, Y, Yn, Yn, Yn, Yn, Yn, Yn, Yn, Yn, Yn] rfl rfl (by kernel_rfl) (fun _ _ _ h => h) (Or.inl ⟨by rfl, ?_⟩) ?_ ?_
            rotate_left
            · intro w'
              go_simp
              with_reducible rfl
            rotate_left
            · simp only [Act.put, List.setIfInBounds_toArray, List.set_cons_zero, List.set_cons_succ, i64_w, i32_w]
              rfl
            refine pure_ (i := 2) (N := some 95) (v := ?_) (a' := ?_) #[Yn, Y, Y, Yn, Yn, Yn, Yn, Yn, Yn, Yn, Yn] rfl rfl (by kernel_rfl) (fun _ _ _ h => h) (Or.inl ⟨by rfl, ?_⟩) ?_ ?_
            rotate_left
            · intro w'
              go_simp
              with_reducible rfl
            rotate_left
            · simp only [Act.put, List.setIfInBounds_toArray, List.set_cons_zero, List.set_cons_succ, i64_w, i32_w]
              rfl
            refine pure_ (i := 3) (N := some 96) (v := ?_) (a' := ?_) #[Yn, Y, Y, Y, Yn, Yn, Yn, Yn, Yn, Yn, Yn] rfl rfl (by kernel_rfl) (fun _ _ _ h => h) (Or.inl ⟨by rfl, ?_⟩) ?_ ?_
            rotate_left
            · intro w'
              go_simp
              with_reducible rfl
            rotate_left
            · simp only [Act.put, List.setIfInBounds_toArray, List.set_cons_zero, List.set_cons_succ, i64_w, i32_w]
              rfl
            refine pure_ (i := 5) (N := some 98) (v := ?_) (a' := ?_) #[Yn, Y, Y, Y, Yn, Y, Yn, Yn, Yn, Yn, Yn] rfl rfl (by kernel_rfl) (fun _ _ _ h => h) (Or.inl ⟨by rfl, ?_⟩) ?_ ?_
            rotate_left
            · intro w'
              go_simp
              with_reducible rfl
            rotate_left
            · simp only [Act.put, List.setIfInBounds_toArray, List.set_cons_zero, List.set_cons_succ, i64_w, i32_w]
              rfl
            refine pure_ (i := 6) (N := some 99) (v := ?_) (a' := ?_) #[Yn, Y, Y, Y, Yn, Y, Y, Yn, Yn, Yn, Yn] rfl rfl (by kernel_rfl) (fun _ _ _ h => h) (Or.inl ⟨by rfl, ?_⟩) ?_ ?_
            rotate_left
            · intro w'
              go_simp
              with_reducible rfl
            rotate_left
            · simp only [Act.put, List.setIfInBounds_toArray, List.set_cons_zero, List.set_cons_succ, i64_w, i32_w]
              rfl
            refine pure_ (i := 7) (N := some 100) (v := ?_) (a' := ?_) #[Yn, Y, Y, Y, Yn, Y, Y, Y, Yn, Yn, Yn] rfl rfl (by kernel_rfl) (fun _ _ _ h => h) (Or.inl ⟨by rfl, ?_⟩) ?_ ?_
            rotate_left
            · intro w'
              go_simp
              with_reducible rfl
            rotate_left
            · simp only [Act.put, List.setIfInBounds_toArray, List.set_cons_zero, List.set_cons_succ, i64_w, i32_w]
              rfl
            refine pure_ (i := 8) (N := some 101) (v := ?_) (a' := ?_) #[Yn, Y, Y, Y, Yn, Y, Y, Y, Y, Yn, Yn] rfl rfl (by kernel_rfl) (fun _ _ _ h => h) (Or.inl ⟨by rfl, ?_⟩) ?_ ?_
            rotate_left
            · intro w'
              go_simp
              with_reducible rfl
            rotate_left
            · simp only [Act.put, List.setIfInBounds_toArray, List.set_cons_zero, List.set_cons_succ, i64_w, i32_w]
              rfl
            refine one_ (i := 0) (N := some 93) #[Y, Y, Y, Y, Yn, Y, Y, Y, Y, Yn, Yn] rfl rfl (by kernel_rfl) (by decide) (fun K hK => ?_)
            refine value_ (w1 := ?_) (v := ?_) (by rfl) rfl ?_ ?_
            rotate_left 2
            · go_simp
              constructor
              · rfl
              · rfl
            have HNe := Aside0.mk (HNd.out.below (below_alloc (Below.refl _ _) (.cells #[] 23)))
            have HCe := Aside0.mk (Kd.C_alloc HCd.out (.cells #[] 23))
            have HPe := Aside0.mk (blk_below HPd.out (below_alloc (Below.refl _ _) (.cells #[] 23)))
            have HOe := Aside0.mk (own_empty wd.heap.size wd (Nat.le_refl _))
            have hse : wd.heap.size ≤ (wd.alloc (.cells #[] 23)).heap.size := (by rw [alloc_size]; omega)
            have we_low : ∀ k, k < wd.heap.size → (wd.alloc (.cells #[] 23)).heap[k]? = wd.heap[k]? := fun k hk => (below_alloc (Below.refl wd.heap.size wd) (.cells #[] 23)).block k hk
            generalize wd.alloc (.cells #[] 23) = we at HNe HCe HPe HOe hse we_low ⊢
            refine hK.out _ _ trivial (fun hHeld => ?_)
            clear hK K
            refine norm_ (a' := ?_) ?_ ?_
            rotate_left
            · show Act.put _ (some 93) _ = _
              simp only [Act.put, List.setIfInBounds_toArray, List.set_cons_zero, List.set_cons_succ, i64_w, i32_w]
              rfl
            refine one_ (i := 4) (N := some 97) #[Y, Y, Y, Y, Y, Y, Y, Y, Y, Yn, Yn] rfl rfl (by kernel_rfl) (by decide) (fun K hK => ?_)
            refine step_own_append (by rfl) (.tmp 93) (.tmp 96) rfl wd.heap.size _ (some ad) L1.length c8 [] L1 rfl rfl HOe.out (HD1.out _ HCe.out) hse (by have h1 := HXX.out; have h2 := HLT.out; have h3 := HLL.out; simp only [List.length_nil]; omega) ?_
            intro vf wf ho hg
            have HOf := Aside0.mk (show Own wd.heap.size wf vf L1 from ho)
            have HNf := Aside0.mk (HNe.out.gr (hg.mono hgs2))
            have HPf := Aside0.mk ((hg.low g hgd (blk_lt HPe.out)).trans HPe.out)
            have HCf := Aside0.mk (C_low HCd.out (fun k hk => (hg.low k hk (Nat.lt_of_lt_of_le hk hse)).trans ((we_low k hk))))
            clear ho
            have hsf := Nat.le_trans hse hg.size
            refine hK.out _ _ trivial (fun hHeld => ?_)
            clear hK K
            refine norm_ (a' := ?_) ?_ ?_
            rotate_left
            · show Act.put _ (some 97) _ = _
              simp only [Act.put, List.setIfInBounds_toArray, List.set_cons_zero, List.set_cons_succ, i64_w, i32_w]
              rfl
            refine one_ (i := 9) (N := some 102) #[Y, Y, Y, Y, Y, Y, Y, Y, Y, Y, Yn] rfl rfl (by kernel_rfl) (by decide) (fun K hK => ?_)
            refine step_own_append (by rfl) (.tmp 97) (.tmp 101) rfl wd.heap.size _ A9 L2.length c9 L1 L2 rfl rfl HOf.out (HD2.out _ HCf.out) hsf (by have h1 := HXX.out; have h2 := HLT.out; have h3 := HLL.out; omega) ?_
            intro vg wg ho hg2
            have HOg := Aside0.mk (show Own ws.heap.size wg vg (L1 ++ L2) from Kd.R_lower ho hgs2)
            have HNg := Aside0.mk (HNf.out.gr (hg2.mono hgs2))
            have HPg := Aside0.mk ((hg2.low g hgd (blk_lt HPf.out)).trans HPf.out)
            clear ho hg2
            refine hK.out _ _ trivial (fun hHeld => ?_)
            clear hK K
            refine norm_ (a' := ?_) ?_ ?_
            rotate_left
            · show Act.put _ (some 102) _ = _
              simp only [Act.put, List.setIfInBounds_toArray, List.set_cons_zero, List.set_cons_succ, i64_w, i32_w]
              rfl
            refine pure_ (i := 10) (N := some 10) (v := ?_) (a' := ?_) #[Y, Y, Y, Y, Y, Y, Y, Y, Y, Y, Y] rfl rfl (by kernel_rfl) (fun _ _ _ h => h) (Or.inl ⟨by rfl, ?_⟩) ?_ ?_
            rotate_left
            · intro w'
              go_simp
              with_reducible rfl
            rotate_left
            · simp only [Act.put, List.setIfInBounds_toArray, List.set_cons_zero, List.set_cons_succ, i64_w, i32_w]
              rfl
            refine done_ (by kernel_rfl) ?_
            clear hHeld
            have y0 := (blk_cell HPg.out 0).trans rfl
            have y1 := (blk_cell HPg.out 1).trans rfl
            have y2 := (blk_cell HPg.out 2).trans rfl
            have y3 := (blk_cell HPg.out 3).trans rfl
            have y4 := (blk_cell HPg.out 4).trans rfl
            have y5 := (blk_cell HPg.out 5).trans rfl
            have HLg := Aside0.mk (show Lst ws.heap.size wg vg (L1 ++ L2) from Or.inl HOg.out)
            go_wp2_with (first | (go_at_call 26; (with_reducible refine (Net.shandle HNg.out HSI.out.ok 2 7 JJ false 0 ⟨#[]⟩ nw ys _ HH.out).mono ?_); rintro e w11 ⟨A11, he, hC11, hn11, hk11⟩; subst he; have HN11 := Aside0.mk hn11; have HC11 := Aside0.mk hC11; have HL11 := Aside0.mk (Lst.keep HLg.out hk11.k23); clear hn11 hC11 hk11) | ((with_reducible refine gate_builtin (b := .append) (xs := #[.tmp 122, .tmp 126]) rfl ?_); at_builtin; refine wpList_lst_append rfl (.tmp 122) (.tmp 126) rfl ws.heap.size _ A11 ys.length ys.length (L1 ++ L2) (ys) rfl rfl HL11.out HC11.out HN11.out.sb.size (by have h1 := HXX.out; have h2 := HLT.out; have h3 := HLL.out; have h4 := HYL.out; first | (rw [List.length_append]; omega) | omega) ?_; intro v12 w12 ho hg; have HL12 := Aside0.mk ho; have HN12 := Aside0.mk (HN11.out.gr hg); clear ho hg))
            obtain ⟨At, ct, et, hct, hCt⟩ := HL12.out.slice
            subst et
            clear hct hCt
            obtain ⟨XL, HXL⟩ : ∃ XL, Aside0 ((L1 ++ L2) ++ ys = XL) := ⟨_, ⟨rfl⟩⟩
            have HLSt := Aside0.mk HL12.out
            have HGLt := Aside0.mk HGL2.out
            rw [HXL.out] at HLSt HGLt ⊢
            have HXLL := Aside0.mk (show (XL.length : Int) ≤ 64 + 64 * (x + 1) by rw [← HXL.out]; have h1 := HXX.out; have h5 := HYL.out; have h6 := HLL.out; rw [List.length_append]; (try rw [List.length_append]); push_cast; omega)
            have HNt := HN12
            have HSIt := HSI2
            go_loopg [20] XL.length (fun kq v20 wq => ∃ (y : Int), v20 = .int .i64 y ∧ Aside0 (0 ≤ y ∧ y + (kq : Int) = (XL.length : Int)) ∧ Aside0 (Lst ws.heap.size wq (.slice At XL.length ct) XL) ∧ Aside0 (Net w ws w3.heap.size gs gr (cS window 10 segs st2 a2 nx2 tries2 dl2) (cR 500 segs (if c = segs.length then 1 else 0) c rdl) wq))
            case atStart => exact ⟨0, rfl, ⟨by omega⟩, HLSt, HNt⟩
            case round =>
              obtain ⟨y, rfl, HYY, HLSq, HNq⟩ := hrel
              have HNq0 := HNq
              have hakw : wrap64 (ak2 + window) = ak2 + window := by have h1 := HSIt.out.ak1; have h2 := HSIt.out.akc; have h3 := HSIt.out.cn; have h4 := HSIt.out.n64; have h5 := HW.out; unfold wrap64; omega
              cases gk with
              | zero =>
                have q1 : decide (y < (XL.length : Int)) = false := decide_eq_false (by have h1 := HYY.out; omega)
                by_cases hcn : c = segs.length
                · rw [if_pos hcn] at HNq
                  have HMSG := Aside0.mk (show (if (cR 500 segs 1 c rdl).state = 1 then strOfNums (cR 500 segs 1 c rdl).msg else ⟨#[]⟩) = message by show (if (1 : Int) = 1 then strOfNums (cat segs c) else ⟨#[]⟩) = message; rw [if_pos rfl, hcn, HSZ.out.2.2]; exact cat_all message sz HSZ.out.2.1)
                  have HCN := Aside0.mk hcn
                  have hmt : (message.toList == message.toList) = true := beq_self_eq_true _
                  clear hcn
                  by_cases hs1 : st2 = 1
                  · have hsb : (st2 == 1) = true := by rw [hs1]; rfl
                    clear hs1
                    go_wp2_with (first | (go_at_call 36; (with_reducible refine (rmessage_calls w3.heap.size gr _ _ HNq.out.rcv).mono ?_); rintro e wm ⟨he, rfl⟩; rw [HMSG.out] at he; replace he : e = .returned (.tuple #[.string message, .bool true]) := he; subst he) | (go_at_call 38; (with_reducible refine (rstate_calls w3.heap.size gr _ _ HNq.out.rcv).mono ?_); rintro e wm ⟨he, rfl⟩; replace he : e = .returned (.int .i64 1) := he; subst he) | (go_at_call 29; (with_reducible refine (sstate_calls gs _ ws _ HNq.out.snd).mono ?_); rintro e wz ⟨he, rfl⟩; replace he : e = .returned (.int .i64 st2) := he; subst he))
                    go_roundg k1
                    case measure => omega
                    case rel => exact ⟨x + 1, nw, c, a2, nx2, st2, ak2, tries2, dl2, rdl, XL, (by first | rfl | (rw [hxw])), (by first | rfl | assumption), (by first | rfl | assumption), ⟨by have h1 := HXX.out; have h2 := HLT.out; skip; have h4 := HXLL.out; omega⟩, HSIt, HGLt, HLSq, HNq0⟩
                  · have hsb : (st2 == 1) = false := beq_false_of_ne hs1
                    clear hs1
                    go_wp2_with (first | (go_at_call 36; (with_reducible refine (rmessage_calls w3.heap.size gr _ _ HNq.out.rcv).mono ?_); rintro e wm ⟨he, rfl⟩; rw [HMSG.out] at he; replace he : e = .returned (.tuple #[.string message, .bool true]) := he; subst he) | (go_at_call 38; (with_reducible refine (rstate_calls w3.heap.size gr _ _ HNq.out.rcv).mono ?_); rintro e wm ⟨he, rfl⟩; replace he : e = .returned (.int .i64 1) := he; subst he) | (go_at_call 29; (with_reducible refine (sstate_calls gs _ ws _ HNq.out.snd).mono ?_); rintro e wz ⟨he, rfl⟩; replace he : e = .returned (.int .i64 st2) := he; subst he))
                    go_roundg k1
                    case measure => omega
                    case rel => exact ⟨x + 1, nw, c, a2, nx2, st2, ak2, tries2, dl2, rdl, XL, (by first | rfl | (rw [hxw])), (by first | rfl | assumption), (by first | rfl | assumption), ⟨by have h1 := HXX.out; have h2 := HLT.out; skip; have h4 := HXLL.out; omega⟩, HSIt, HGLt, HLSq, HNq0⟩
                · have hsb : (st2 == 1) = false := beq_false_of_ne (fun e => hcn (by have h1 := HSIt.out.done e; have h2 := HSIt.out.ac; have h3 := HSIt.out.cn; omega))
                  rw [if_neg hcn] at HNq
                  have HMSG := Aside0.mk (show (if (cR 500 segs 0 c rdl).state = 1 then strOfNums (cR 500 segs 0 c rdl).msg else ⟨#[]⟩) = (⟨#[]⟩ : ByteArray) from rfl)
                  have HCN := Aside0.mk hcn
                  clear hcn
                  go_wp2_with (first | (go_at_call 36; (with_reducible refine (rmessage_calls w3.heap.size gr _ _ HNq.out.rcv).mono ?_); rintro e wm ⟨he, rfl⟩; rw [HMSG.out] at he; replace he : e = .returned (.tuple #[.string ⟨#[]⟩, .bool false]) := he; subst he) | (go_at_call 38; (with_reducible refine (rstate_calls w3.heap.size gr _ _ HNq.out.rcv).mono ?_); rintro e wm ⟨he, rfl⟩; replace he : e = .returned (.int .i64 0) := he; subst he) | (go_at_call 29; (with_reducible refine (sstate_calls gs _ ws _ HNq.out.snd).mono ?_); rintro e wz ⟨he, rfl⟩; replace he : e = .returned (.int .i64 st2) := he; subst he))
                  go_roundg k1
                  case measure => omega
                  case rel => exact ⟨x + 1, nw, c, a2, nx2, st2, ak2, tries2, dl2, rdl, XL, (by first | rfl | (rw [hxw])), (by first | rfl | assumption), (by first | rfl | assumption), ⟨by have h1 := HXX.out; have h2 := HLT.out; skip; have h4 := HXLL.out; omega⟩, HSIt, HGLt, HLSq, HNq0⟩
              | succ k2 =>
                have hlt2 : y < (XL.length : Int) := by have h1 := HYY.out; omega
                have q1 : decide (y < (XL.length : Int)) = true := decide_eq_true hlt2
                have hyw : wrap64 (y + 1) = y + 1 := by have h1 := HYY.out; have h2 := HXLL.out; have h3 := HXX.out; have h4 := HLM.out; unfold wrap64; omega
                obtain ⟨Aq, cq, eq_, hcq, hCq⟩ := HLSq.out.slice
                obtain ⟨rfl, rfl⟩ : At = Aq ∧ ct = cq := by injection eq_ with e1 e2 e3; exact ⟨e1, e3⟩
                obtain ⟨adq, eaq, z0, z1, z2, z3, z4, z5⟩ := at_T23 hCq y HYY.out.1 hlt2
                subst eaq
                have hgd := HGLt.out _ (rd23_mem HYY.out.1 hlt2)
                have u1 : (0 ≤ y) = True := eq_true HYY.out.1
                have u2 : (y < (XL.length : Int)) = True := eq_true hlt2
                generalize rd_T23 XL y = pq at z0 z1 z2 z3 z4 z5 hgd
                by_cases hq1 : pq.f0 = 1
                · have hqb : (pq.f0 == 1) = true := by rw [hq1]; rfl
                  have hqc : decide (ak2 + window < pq.f2) = false := decide_eq_false (good_num hgd hq1)
                  clear hq1 hgd hlt2 hcq hCq z1 z3 z4 z5
                  go_wp2
                  go_roundg k2
                  case measure => omega
                  case rel => exact ⟨y + 1, (by first | rfl | (rw [hyw])), ⟨by have h1 := HYY.out; omega⟩, HLSq, HNq⟩
                · have hqb : (pq.f0 == 1) = false := beq_false_of_ne hq1
                  clear hq1 hgd hlt2 hcq hCq z1 z2 z3 z4 z5
                  go_wp2
                  go_roundg k2
                  case measure => omega
                  case rel => exact ⟨y + 1, (by first | rfl | (rw [hyw])), ⟨by have h1 := HYY.out; omega⟩, HLSq, HNq⟩
        · as_aux_lemma =>
            obtain ⟨st2, hhd, hsi2⟩ := HSI.out.abort (tries := tries) (dl := dl) nw
            obtain ⟨ys, HYS⟩ : ∃ ys : List S23, Aside0 (([] : List S23) = ys) := ⟨_, ⟨rfl⟩⟩
            rw [HYS.out] at hhd
            have HSI2 := Aside0.mk hsi2
            have HYL := Aside0.mk (show ys.length ≤ 64 by rw [← HYS.out]; simp)
            have HGL2 := Aside0.mk (show GoodL window segs c ak ((L1 ++ L2) ++ ys) by rw [← HYS.out]; exact HGB.out.app GoodL.nil)
            have HH := Aside0.mk hhd
            clear hhd hsi2
            subst hp
            replace x0 : wr.cell? (ad.add (kk.toNat * 6)) = some (.int .i64 3) := by exact x0
            replace x1 : wr.cell? ⟨(ad.add (kk.toNat * 6)).block, (ad.add (kk.toNat * 6)).off + 1, none⟩ = some (.int .i64 7) := by exact x1
            replace x2 : wr.cell? ⟨(ad.add (kk.toNat * 6)).block, (ad.add (kk.toNat * 6)).off + 2, none⟩ = some (.int .i64 0) := by exact x2
            replace x3 : wr.cell? ⟨(ad.add (kk.toNat * 6)).block, (ad.add (kk.toNat * 6)).off + 3, none⟩ = some (.bool false) := by exact x3
            replace x4 : wr.cell? ⟨(ad.add (kk.toNat * 6)).block, (ad.add (kk.toNat * 6)).off + 4, none⟩ = some (.int .i64 0) := by exact x4
            replace x5 : wr.cell? ⟨(ad.add (kk.toNat * 6)).block, (ad.add (kk.toNat * 6)).off + 5, none⟩ = some (.string ⟨#[]⟩) := by exact x5
            go_wp2
            have hbox := blk_new wr (.cells #[.int .i64 3, .int .i64 7, .int .i64 0, .bool false, .int .i64 0, .string ⟨#[]⟩] 23)
            have hb := below_alloc (Below.refl wr.heap.size wr) (.cells #[.int .i64 3, .int .i64 7, .int .i64 0, .bool false, .int .i64 0, .string ⟨#[]⟩] 23)
            have HN9 := Aside0.mk (HN.out.below hb)
            have HC9 := Aside0.mk (Kd.C_below HC8.out hb)
            have hgs := HN.out.sb.size
            have hsz : wr.heap.size + 1 ≤ (wr.alloc (.cells #[.int .i64 3, .int .i64 7, .int .i64 0, .bool false, .int .i64 0, .string ⟨#[]⟩] 23)).heap.size := (by rw [alloc_size]; omega)
            clear hb
            generalize wr.heap.size = g at hbox hgs hsz ⊢
            generalize wr.alloc (.cells #[.int .i64 3, .int .i64 7, .int .i64 0, .bool false, .int .i64 0, .string ⟨#[]⟩] 23) = w9 at hbox HN9 HC9 hsz ⊢
            have HP9 := Aside0.mk hbox
            clear hbox x0 x1 x2 x3 x4 x5
            have HNd := Aside0.mk (HN9.out.below (below_drew1 (Below.refl _ _)))
            have HCd := Aside0.mk (Kd.C_drew HC9.out)
            have HPd := Aside0.mk (blk_drew HP9.out)
            have hgd : g < w9.drew.heap.size := hsz
            have hgs2 : ws.heap.size ≤ w9.drew.heap.size := Nat.le_trans hgs (Nat.le_of_lt hgd)
            generalize hwd : w9.drew = wd at HNd HCd HPd hgd hgs2
            refine start_ (n := 11) (S := fun w' => True) (ds := []) #[Yn, Yn, Yn, Yn, Yn, Yn, Yn, Yn, Yn, Yn, Yn] (by kernel_rfl) rfl rfl trivial (fun hHeld => ?_)
            rw [hwd]
            refine pure_ (i := 1) (N := some 94) (v := ?_) (a' := ?_) #[Yn, Y, Yn, Yn, Yn, Yn, Yn, Yn, Yn, Yn, Yn] rfl rfl (by kernel_rfl) (fun _ _ _ h => h) (Or.inl ⟨by rfl, ?_⟩) ?_ ?_
            rotate_left
            · intro w'
              go_simp
              with_reducible rfl
            rotate_left
            · simp only [Act.put, List.setIfInBounds_toArray, List.set_cons_zero, List.set_cons_succ, i64_w, i32_w]
              rfl
            refine pure_ (i := 2) (N := some 95) (v := ?_) (a' := ?_) #[Yn, Y, Y, Yn, Yn, Yn, Yn, Yn, Yn, Yn, Yn] rfl rfl (by kernel_rfl) (fun _ _ _ h => h) (Or.inl ⟨by rfl, ?_⟩) ?_ ?_
            rotate_left
            · intro w'
              go_simp
              with_reducible rfl
            rotate_left
            · simp only [Act.put, List.setIfInBounds_toArray, List.set_cons_zero, List.set_cons_succ, i64_w, i32_w]
              rfl
            refine pure_ (i := 3) (N := some 96) (v := ?_) (a' := ?_) #[Yn, Y, Y, Y, Yn, Yn, Yn, Yn, Yn, Yn, Yn] rfl rfl (by kernel_rfl) (fun _ _ _ h => h) (Or.inl ⟨by rfl, ?_⟩) ?_ ?_
            rotate_left
            · intro w'
              go_simp
              with_reducible rfl
            rotate_left
            · simp only [Act.put, List.setIfInBounds_toArray, List.set_cons_zero, List.set_cons_succ, i64_w, i32_w]
              rfl
            refine pure_ (i := 5) (N := some 98) (v := ?_) (a' := ?_) #[Yn, Y, Y, Y, Yn, Y, Yn, Yn, Yn, Yn, Yn] rfl rfl (by kernel_rfl) (fun _ _ _ h => h) (Or.inl ⟨by rfl, ?_⟩) ?_ ?_
            rotate_left
            · intro w'
              go_simp
              with_reducible rfl
            rotate_left
            · simp only [Act.put, List.setIfInBounds_toArray, List.set_cons_zero, List.set_cons_succ, i64_w, i32_w]
              rfl
            refine pure_ (i := 6) (N := some 99) (v := ?_) (a' := ?_) #[Yn, Y, Y, Y, Yn, Y, Y, Yn, Yn, Yn, Yn] rfl rfl (by kernel_rfl) (fun _ _ _ h => h) (Or.inl ⟨by rfl, ?_⟩) ?_ ?_
            rotate_left
            · intro w'
              go_simp
              with_reducible rfl
            rotate_left
            · simp only [Act.put, List.setIfInBounds_toArray, List.set_cons_zero, List.set_cons_succ, i64_w, i32_w]
              rfl
            refine pure_ (i := 7) (N := some 100) (v := ?_) (a' := ?_) #[Yn, Y, Y, Y, Yn, Y, Y, Y, Yn, Yn, Yn] rfl rfl (by kernel_rfl) (fun _ _ _ h => h) (Or.inl ⟨by rfl, ?_⟩) ?_ ?_
            rotate_left
            · intro w'
              go_simp
              with_reducible rfl
            rotate_left
            · simp only [Act.put, List.setIfInBounds_toArray, List.set_cons_zero, List.set_cons_succ, i64_w, i32_w]
              rfl
            refine pure_ (i := 8) (N := some 101) (v := ?_) (a' := ?_) #[Yn, Y, Y, Y, Yn, Y, Y, Y, Y, Yn, Yn] rfl rfl (by kernel_rfl) (fun _ _ _ h => h) (Or.inl ⟨by rfl, ?_⟩) ?_ ?_
            rotate_left
            · intro w'
              go_simp
              with_reducible rfl
            rotate_left
            · simp only [Act.put, List.setIfInBounds_toArray, List.set_cons_zero, List.set_cons_succ, i64_w, i32_w]
              rfl
            refine one_ (i := 0) (N := some 93) #[Y, Y, Y, Y, Yn, Y, Y, Y, Y, Yn, Yn] rfl rfl (by kernel_rfl) (by decide) (fun K hK => ?_)
            refine value_ (w1 := ?_) (v := ?_) (by rfl) rfl ?_ ?_
            rotate_left 2
            · go_simp
              constructor
              · rfl
              · rfl
            have HNe := Aside0.mk (HNd.out.below (below_alloc (Below.refl _ _) (.cells #[] 23)))
            have HCe := Aside0.mk (Kd.C_alloc HCd.out (.cells #[] 23))
            have HPe := Aside0.mk (blk_below HPd.out (below_alloc (Below.refl _ _) (.cells #[] 23)))
            have HOe := Aside0.mk (own_empty wd.heap.size wd (Nat.le_refl _))
            have hse : wd.heap.size ≤ (wd.alloc (.cells #[] 23)).heap.size := (by rw [alloc_size]; omega)
            have we_low : ∀ k, k < wd.heap.size → (wd.alloc (.cells #[] 23)).heap[k]? = wd.heap[k]? := fun k hk => (below_alloc (Below.refl wd.heap.size wd) (.cells #[] 23)).block k hk
            generalize wd.alloc (.cells #[] 23) = we at HNe HCe HPe HOe hse we_low ⊢
            refine hK.out _ _ trivial (fun hHeld => ?_)
            clear hK K
            refine norm_ (a' := ?_) ?_ ?_
            rotate_left
            · show Act.put _ (some 93) _ = _
              simp only [Act.put, List.setIfInBounds_toArray, List.set_cons_zero, List.set_cons_succ, i64_w, i32_w]
              rfl
            refine one_ (i := 4) (N := some 97) #[Y, Y, Y, Y, Y, Y, Y, Y, Y, Yn, Yn] rfl rfl (by kernel_rfl) (by decide) (fun K hK => ?_)
            refine step_own_append (by rfl) (.tmp 93) (.tmp 96) rfl wd.heap.size _ (some ad) L1.length c8 [] L1 rfl rfl HOe.out (HD1.out _ HCe.out) hse (by have h1 := HXX.out; have h2 := HLT.out; have h3 := HLL.out; simp only [List.length_nil]; omega) ?_
            intro vf wf ho hg
            have HOf := Aside0.mk (show Own wd.heap.size wf vf L1 from ho)
            have HNf := Aside0.mk (HNe.out.gr (hg.mono hgs2))
            have HPf := Aside0.mk ((hg.low g hgd (blk_lt HPe.out)).trans HPe.out)
            have HCf := Aside0.mk (C_low HCd.out (fun k hk => (hg.low k hk (Nat.lt_of_lt_of_le hk hse)).trans ((we_low k hk))))
            clear ho
            have hsf := Nat.le_trans hse hg.size
            refine hK.out _ _ trivial (fun hHeld => ?_)
            clear hK K
            refine norm_ (a' := ?_) ?_ ?_
            rotate_left
            · show Act.put _ (some 97) _ = _
              simp only [Act.put, List.setIfInBounds_toArray, List.set_cons_zero, List.set_cons_succ, i64_w, i32_w]
              rfl
            refine one_ (i := 9) (N := some 102) #[Y, Y, Y, Y, Y, Y, Y, Y, Y, Y, Yn] rfl rfl (by kernel_rfl) (by decide) (fun K hK => ?_)
            refine step_own_append (by rfl) (.tmp 97) (.tmp 101) rfl wd.heap.size _ A9 L2.length c9 L1 L2 rfl rfl HOf.out (HD2.out _ HCf.out) hsf (by have h1 := HXX.out; have h2 := HLT.out; have h3 := HLL.out; omega) ?_
            intro vg wg ho hg2
            have HOg := Aside0.mk (show Own ws.heap.size wg vg (L1 ++ L2) from Kd.R_lower ho hgs2)
            have HNg := Aside0.mk (HNf.out.gr (hg2.mono hgs2))
            have HPg := Aside0.mk ((hg2.low g hgd (blk_lt HPf.out)).trans HPf.out)
            clear ho hg2
            refine hK.out _ _ trivial (fun hHeld => ?_)
            clear hK K
            refine norm_ (a' := ?_) ?_ ?_
            rotate_left
            · show Act.put _ (some 102) _ = _
              simp only [Act.put, List.setIfInBounds_toArray, List.set_cons_zero, List.set_cons_succ, i64_w, i32_w]
              rfl
            refine pure_ (i := 10) (N := some 10) (v := ?_) (a' := ?_) #[Y, Y, Y, Y, Y, Y, Y, Y, Y, Y, Y] rfl rfl (by kernel_rfl) (fun _ _ _ h => h) (Or.inl ⟨by rfl, ?_⟩) ?_ ?_
            rotate_left
            · intro w'
              go_simp
              with_reducible rfl
            rotate_left
            · simp only [Act.put, List.setIfInBounds_toArray, List.set_cons_zero, List.set_cons_succ, i64_w, i32_w]
              rfl
            refine done_ (by kernel_rfl) ?_
            clear hHeld
            have y0 := (blk_cell HPg.out 0).trans rfl
            have y1 := (blk_cell HPg.out 1).trans rfl
            have y2 := (blk_cell HPg.out 2).trans rfl
            have y3 := (blk_cell HPg.out 3).trans rfl
            have y4 := (blk_cell HPg.out 4).trans rfl
            have y5 := (blk_cell HPg.out 5).trans rfl
            have HLg := Aside0.mk (show Lst ws.heap.size wg vg (L1 ++ L2) from Or.inl HOg.out)
            go_wp2_with (first | (go_at_call 26; (with_reducible refine (Net.shandle HNg.out HSI.out.ok 3 7 0 false 0 ⟨#[]⟩ nw ys _ HH.out).mono ?_); rintro e w11 ⟨A11, he, hC11, hn11, hk11⟩; subst he; have HN11 := Aside0.mk hn11; have HC11 := Aside0.mk hC11; have HL11 := Aside0.mk (Lst.keep HLg.out hk11.k23); clear hn11 hC11 hk11) | ((with_reducible refine gate_builtin (b := .append) (xs := #[.tmp 122, .tmp 126]) rfl ?_); at_builtin; refine wpList_lst_append rfl (.tmp 122) (.tmp 126) rfl ws.heap.size _ A11 ys.length ys.length (L1 ++ L2) (ys) rfl rfl HL11.out HC11.out HN11.out.sb.size (by have h1 := HXX.out; have h2 := HLT.out; have h3 := HLL.out; have h4 := HYL.out; first | (rw [List.length_append]; omega) | omega) ?_; intro v12 w12 ho hg; have HL12 := Aside0.mk ho; have HN12 := Aside0.mk (HN11.out.gr hg); clear ho hg))
            obtain ⟨At, ct, et, hct, hCt⟩ := HL12.out.slice
            subst et
            clear hct hCt
            obtain ⟨XL, HXL⟩ : ∃ XL, Aside0 ((L1 ++ L2) ++ ys = XL) := ⟨_, ⟨rfl⟩⟩
            have HLSt := Aside0.mk HL12.out
            have HGLt := Aside0.mk HGL2.out
            rw [HXL.out] at HLSt HGLt ⊢
            have HXLL := Aside0.mk (show (XL.length : Int) ≤ 64 + 64 * (x + 1) by rw [← HXL.out]; have h1 := HXX.out; have h5 := HYL.out; have h6 := HLL.out; rw [List.length_append]; (try rw [List.length_append]); push_cast; omega)
            have HNt := HN12
            have HSIt := HSI2
            go_loopg [20] XL.length (fun kq v20 wq => ∃ (y : Int), v20 = .int .i64 y ∧ Aside0 (0 ≤ y ∧ y + (kq : Int) = (XL.length : Int)) ∧ Aside0 (Lst ws.heap.size wq (.slice At XL.length ct) XL) ∧ Aside0 (Net w ws w3.heap.size gs gr (cS window 10 segs st2 a nx tries dl) (cR 500 segs (if c = segs.length then 1 else 0) c rdl) wq))
            case atStart => exact ⟨0, rfl, ⟨by omega⟩, HLSt, HNt⟩
            case round =>
              obtain ⟨y, rfl, HYY, HLSq, HNq⟩ := hrel
              have HNq0 := HNq
              have hakw : wrap64 (ak + window) = ak + window := by have h1 := HSIt.out.ak1; have h2 := HSIt.out.akc; have h3 := HSIt.out.cn; have h4 := HSIt.out.n64; have h5 := HW.out; unfold wrap64; omega
              cases gk with
              | zero =>
                have q1 : decide (y < (XL.length : Int)) = false := decide_eq_false (by have h1 := HYY.out; omega)
                by_cases hcn : c = segs.length
                · rw [if_pos hcn] at HNq
                  have HMSG := Aside0.mk (show (if (cR 500 segs 1 c rdl).state = 1 then strOfNums (cR 500 segs 1 c rdl).msg else ⟨#[]⟩) = message by show (if (1 : Int) = 1 then strOfNums (cat segs c) else ⟨#[]⟩) = message; rw [if_pos rfl, hcn, HSZ.out.2.2]; exact cat_all message sz HSZ.out.2.1)
                  have HCN := Aside0.mk hcn
                  have hmt : (message.toList == message.toList) = true := beq_self_eq_true _
                  clear hcn
                  by_cases hs1 : st2 = 1
                  · have hsb : (st2 == 1) = true := by rw [hs1]; rfl
                    clear hs1
                    go_wp2_with (first | (go_at_call 36; (with_reducible refine (rmessage_calls w3.heap.size gr _ _ HNq.out.rcv).mono ?_); rintro e wm ⟨he, rfl⟩; rw [HMSG.out] at he; replace he : e = .returned (.tuple #[.string message, .bool true]) := he; subst he) | (go_at_call 38; (with_reducible refine (rstate_calls w3.heap.size gr _ _ HNq.out.rcv).mono ?_); rintro e wm ⟨he, rfl⟩; replace he : e = .returned (.int .i64 1) := he; subst he) | (go_at_call 29; (with_reducible refine (sstate_calls gs _ ws _ HNq.out.snd).mono ?_); rintro e wz ⟨he, rfl⟩; replace he : e = .returned (.int .i64 st2) := he; subst he))
                    go_roundg k1
                    case measure => omega
                    case rel => exact ⟨x + 1, nw, c, a, nx, st2, ak, tries, dl, rdl, XL, (by first | rfl | (rw [hxw])), (by first | rfl | assumption), (by first | rfl | assumption), ⟨by have h1 := HXX.out; have h2 := HLT.out; skip; have h4 := HXLL.out; omega⟩, HSIt, HGLt, HLSq, HNq0⟩
                  · have hsb : (st2 == 1) = false := beq_false_of_ne hs1
                    clear hs1
                    go_wp2_with (first | (go_at_call 36; (with_reducible refine (rmessage_calls w3.heap.size gr _ _ HNq.out.rcv).mono ?_); rintro e wm ⟨he, rfl⟩; rw [HMSG.out] at he; replace he : e = .returned (.tuple #[.string message, .bool true]) := he; subst he) | (go_at_call 38; (with_reducible refine (rstate_calls w3.heap.size gr _ _ HNq.out.rcv).mono ?_); rintro e wm ⟨he, rfl⟩; replace he : e = .returned (.int .i64 1) := he; subst he) | (go_at_call 29; (with_reducible refine (sstate_calls gs _ ws _ HNq.out.snd).mono ?_); rintro e wz ⟨he, rfl⟩; replace he : e = .returned (.int .i64 st2) := he; subst he))
                    go_roundg k1
                    case measure => omega
                    case rel => exact ⟨x + 1, nw, c, a, nx, st2, ak, tries, dl, rdl, XL, (by first | rfl | (rw [hxw])), (by first | rfl | assumption), (by first | rfl | assumption), ⟨by have h1 := HXX.out; have h2 := HLT.out; skip; have h4 := HXLL.out; omega⟩, HSIt, HGLt, HLSq, HNq0⟩
                · have hsb : (st2 == 1) = false := beq_false_of_ne (fun e => hcn (by have h1 := HSIt.out.done e; have h2 := HSIt.out.ac; have h3 := HSIt.out.cn; omega))
                  rw [if_neg hcn] at HNq
                  have HMSG := Aside0.mk (show (if (cR 500 segs 0 c rdl).state = 1 then strOfNums (cR 500 segs 0 c rdl).msg else ⟨#[]⟩) = (⟨#[]⟩ : ByteArray) from rfl)
                  have HCN := Aside0.mk hcn
                  clear hcn
                  go_wp2_with (first | (go_at_call 36; (with_reducible refine (rmessage_calls w3.heap.size gr _ _ HNq.out.rcv).mono ?_); rintro e wm ⟨he, rfl⟩; rw [HMSG.out] at he; replace he : e = .returned (.tuple #[.string ⟨#[]⟩, .bool false]) := he; subst he) | (go_at_call 38; (with_reducible refine (rstate_calls w3.heap.size gr _ _ HNq.out.rcv).mono ?_); rintro e wm ⟨he, rfl⟩; replace he : e = .returned (.int .i64 0) := he; subst he) | (go_at_call 29; (with_reducible refine (sstate_calls gs _ ws _ HNq.out.snd).mono ?_); rintro e wz ⟨he, rfl⟩; replace he : e = .returned (.int .i64 st2) := he; subst he))
                  go_roundg k1
                  case measure => omega
                  case rel => exact ⟨x + 1, nw, c, a, nx, st2, ak, tries, dl, rdl, XL, (by first | rfl | (rw [hxw])), (by first | rfl | assumption), (by first | rfl | assumption), ⟨by have h1 := HXX.out; have h2 := HLT.out; skip; have h4 := HXLL.out; omega⟩, HSIt, HGLt, HLSq, HNq0⟩
              | succ k2 =>
                have hlt2 : y < (XL.length : Int) := by have h1 := HYY.out; omega
                have q1 : decide (y < (XL.length : Int)) = true := decide_eq_true hlt2
                have hyw : wrap64 (y + 1) = y + 1 := by have h1 := HYY.out; have h2 := HXLL.out; have h3 := HXX.out; have h4 := HLM.out; unfold wrap64; omega
                obtain ⟨Aq, cq, eq_, hcq, hCq⟩ := HLSq.out.slice
                obtain ⟨rfl, rfl⟩ : At = Aq ∧ ct = cq := by injection eq_ with e1 e2 e3; exact ⟨e1, e3⟩
                obtain ⟨adq, eaq, z0, z1, z2, z3, z4, z5⟩ := at_T23 hCq y HYY.out.1 hlt2
                subst eaq
                have hgd := HGLt.out _ (rd23_mem HYY.out.1 hlt2)
                have u1 : (0 ≤ y) = True := eq_true HYY.out.1
                have u2 : (y < (XL.length : Int)) = True := eq_true hlt2
                generalize rd_T23 XL y = pq at z0 z1 z2 z3 z4 z5 hgd
                by_cases hq1 : pq.f0 = 1
                · have hqb : (pq.f0 == 1) = true := by rw [hq1]; rfl
                  have hqc : decide (ak + window < pq.f2) = false := decide_eq_false (good_num hgd hq1)
                  clear hq1 hgd hlt2 hcq hCq z1 z3 z4 z5
                  go_wp2
                  go_roundg k2
                  case measure => omega
                  case rel => exact ⟨y + 1, (by first | rfl | (rw [hyw])), ⟨by have h1 := HYY.out; omega⟩, HLSq, HNq⟩
                · have hqb : (pq.f0 == 1) = false := beq_false_of_ne hq1
                  clear hq1 hgd hlt2 hcq hCq z1 z2 z3 z4 z5
                  go_wp2
                  go_roundg k2
                  case measure => omega
                  case rel => exact ⟨y + 1, (by first | rfl | (rw [hyw])), ⟨by have h1 := HYY.out; omega⟩, HLSq, HNq⟩
      · have hn : decide (m < 0) = false := decide_eq_false hneg
        have hmp : 0 ≤ m ∧ m ≤ 9223372036854775807 := ⟨by omega, hmr.2⟩
        clear hneg hmr
        have ht : m.tmod 4 = m % 4 := Int.tmod_eq_emod_of_nonneg hmp.1
        by_cases hr : m % 4 = 3
        · as_aux_lemma =>
            have f1 : (m.tmod 4 == 3) = true := by rw [ht, hr]; rfl
            have f1b : (m % 4 == 3) = true := by rw [hr]; rfl
            have hnw : wrap64 (nw + 3) = nw + 3 := by have h1 := HXX.out; have h2 := HLM.out; have h3 := HLT.out; unfold wrap64; omega
            obtain ⟨ys, st2, tries2, dl2, htk, hsi2, hgl2, hyl⟩ := HSI.out.tick (tries := tries) (dl := dl) (nw + 3)
            have HTK := Aside0.mk htk
            have HSI2 := Aside0.mk hsi2
            have HYL := Aside0.mk hyl
            have HGL2 := Aside0.mk (show GoodL window segs c ak ((xs ++ ys) ++ []) from (HGL.out.app hgl2).app GoodL.nil)
            clear htk hsi2 hgl2 hyl hr
            go_wp2_with (first | (go_at_call 24; (with_reducible refine (Net.stick HN.out HSI.out.ok (nw + 3) ys _ HTK.out).mono ?_); rintro e w11 ⟨A11, he, hC11, hn11, hk11⟩; subst he; have HN11 := Aside0.mk hn11; have HC11 := Aside0.mk hC11; have HL11 := Aside0.mk (Lst.keep HLS.out hk11.k23); clear hn11 hC11 hk11) | ((with_reducible refine gate_builtin (b := .append) (xs := #[.tmp 69, .tmp 72]) rfl ?_); at_builtin; refine wpList_lst_append rfl (.tmp 69) (.tmp 72) rfl ws.heap.size _ A11 ys.length ys.length (xs) (ys) rfl rfl HL11.out HC11.out HN11.out.sb.size (by have h1 := HXX.out; have h2 := HLM.out; have h3 := HLT.out; have h4 := HYL.out; omega) ?_; intro v12 w12 ho hg; have HL12 := Aside0.mk ho; have HN12 := Aside0.mk (HN11.out.gr hg); clear ho hg) | (go_at_call 32; (with_reducible refine (Net.rtick HN12.out (nw + 3) [] _ (rTick (nw + 3) (by have h1 := HXX.out; have h2 := HLM.out; have h3 := HLT.out; omega))).mono ?_); rintro e w13 ⟨A13, he, hC13, hn13, hk13⟩; replace he : e = .returned (.slice A13 0 0) := he; subst he; have HN13 := Aside0.mk hn13; have HC13 := Aside0.mk hC13; have HL13 := Aside0.mk (Lst.keep HL12.out hk13.k23); clear hn13 hC13 hk13) | ((with_reducible refine gate_builtin (b := .append) (xs := #[.tmp 73, .tmp 76]) rfl ?_); at_builtin; refine wpList_lst_append rfl (.tmp 73) (.tmp 76) rfl ws.heap.size v12 A13 0 0 (xs ++ ys) ([]) rfl rfl HL13.out HC13.out HN13.out.sb.size (by have h1 := HXX.out; have h2 := HLM.out; have h3 := HLT.out; have h4 := HYL.out; rw [List.length_append]; omega) ?_; intro v14 w14 ho hg; have HL14 := Aside0.mk ho; have HN14 := Aside0.mk (HN13.out.gr hg); clear ho hg))
            obtain ⟨At, ct, et, hct, hCt⟩ := HL14.out.slice
            subst et
            clear hct hCt
            obtain ⟨XL, HXL⟩ : ∃ XL, Aside0 (xs ++ ys ++ [] = XL) := ⟨_, ⟨rfl⟩⟩
            have HLSt := Aside0.mk HL14.out
            have HGLt := Aside0.mk HGL2.out
            rw [HXL.out] at HLSt HGLt ⊢
            have HXLL := Aside0.mk (show (XL.length : Int) ≤ 64 + 64 * (x + 1) by rw [← HXL.out]; have h1 := HXX.out; have h5 := HYL.out; rw [List.append_nil, List.length_append]; push_cast; omega)
            have HNt := HN14
            have HSIt := HSI2
            go_loopg [20] XL.length (fun kq v20 wq => ∃ (y : Int), v20 = .int .i64 y ∧ Aside0 (0 ≤ y ∧ y + (kq : Int) = (XL.length : Int)) ∧ Aside0 (Lst ws.heap.size wq (.slice At XL.length ct) XL) ∧ Aside0 (Net w ws w3.heap.size gs gr (cS window 10 segs st2 a nx tries2 dl2) (cR 500 segs (if c = segs.length then 1 else 0) c rdl) wq))
            case atStart => exact ⟨0, rfl, ⟨by omega⟩, HLSt, HNt⟩
            case round =>
              obtain ⟨y, rfl, HYY, HLSq, HNq⟩ := hrel
              have HNq0 := HNq
              have hakw : wrap64 (ak + window) = ak + window := by have h1 := HSIt.out.ak1; have h2 := HSIt.out.akc; have h3 := HSIt.out.cn; have h4 := HSIt.out.n64; have h5 := HW.out; unfold wrap64; omega
              cases gk with
              | zero =>
                have q1 : decide (y < (XL.length : Int)) = false := decide_eq_false (by have h1 := HYY.out; omega)
                by_cases hcn : c = segs.length
                · rw [if_pos hcn] at HNq
                  have HMSG := Aside0.mk (show (if (cR 500 segs 1 c rdl).state = 1 then strOfNums (cR 500 segs 1 c rdl).msg else ⟨#[]⟩) = message by show (if (1 : Int) = 1 then strOfNums (cat segs c) else ⟨#[]⟩) = message; rw [if_pos rfl, hcn, HSZ.out.2.2]; exact cat_all message sz HSZ.out.2.1)
                  have HCN := Aside0.mk hcn
                  have hmt : (message.toList == message.toList) = true := beq_self_eq_true _
                  clear hcn
                  by_cases hs1 : st2 = 1
                  · have hsb : (st2 == 1) = true := by rw [hs1]; rfl
                    clear hs1
                    go_wp2_with (first | (go_at_call 36; (with_reducible refine (rmessage_calls w3.heap.size gr _ _ HNq.out.rcv).mono ?_); rintro e wm ⟨he, rfl⟩; rw [HMSG.out] at he; replace he : e = .returned (.tuple #[.string message, .bool true]) := he; subst he) | (go_at_call 38; (with_reducible refine (rstate_calls w3.heap.size gr _ _ HNq.out.rcv).mono ?_); rintro e wm ⟨he, rfl⟩; replace he : e = .returned (.int .i64 1) := he; subst he) | (go_at_call 29; (with_reducible refine (sstate_calls gs _ ws _ HNq.out.snd).mono ?_); rintro e wz ⟨he, rfl⟩; replace he : e = .returned (.int .i64 st2) := he; subst he))
                    go_roundg k1
                    case measure => omega
                    case rel => exact ⟨x + 1, (nw + 3), c, a, nx, st2, ak, tries2, dl2, rdl, XL, (by first | rfl | (rw [hxw])), (by first | rfl | assumption), (by first | rfl | assumption), ⟨by have h1 := HXX.out; have h2 := HLT.out; skip; have h4 := HXLL.out; omega⟩, HSIt, HGLt, HLSq, HNq0⟩
                  · have hsb : (st2 == 1) = false := beq_false_of_ne hs1
                    clear hs1
                    go_wp2_with (first | (go_at_call 36; (with_reducible refine (rmessage_calls w3.heap.size gr _ _ HNq.out.rcv).mono ?_); rintro e wm ⟨he, rfl⟩; rw [HMSG.out] at he; replace he : e = .returned (.tuple #[.string message, .bool true]) := he; subst he) | (go_at_call 38; (with_reducible refine (rstate_calls w3.heap.size gr _ _ HNq.out.rcv).mono ?_); rintro e wm ⟨he, rfl⟩; replace he : e = .returned (.int .i64 1) := he; subst he) | (go_at_call 29; (with_reducible refine (sstate_calls gs _ ws _ HNq.out.snd).mono ?_); rintro e wz ⟨he, rfl⟩; replace he : e = .returned (.int .i64 st2) := he; subst he))
                    go_roundg k1
                    case measure => omega
                    case rel => exact ⟨x + 1, (nw + 3), c, a, nx, st2, ak, tries2, dl2, rdl, XL, (by first | rfl | (rw [hxw])), (by first | rfl | assumption), (by first | rfl | assumption), ⟨by have h1 := HXX.out; have h2 := HLT.out; skip; have h4 := HXLL.out; omega⟩, HSIt, HGLt, HLSq, HNq0⟩
                · have hsb : (st2 == 1) = false := beq_false_of_ne (fun e => hcn (by have h1 := HSIt.out.done e; have h2 := HSIt.out.ac; have h3 := HSIt.out.cn; omega))
                  rw [if_neg hcn] at HNq
                  have HMSG := Aside0.mk (show (if (cR 500 segs 0 c rdl).state = 1 then strOfNums (cR 500 segs 0 c rdl).msg else ⟨#[]⟩) = (⟨#[]⟩ : ByteArray) from rfl)
                  have HCN := Aside0.mk hcn
                  clear hcn
                  go_wp2_with (first | (go_at_call 36; (with_reducible refine (rmessage_calls w3.heap.size gr _ _ HNq.out.rcv).mono ?_); rintro e wm ⟨he, rfl⟩; rw [HMSG.out] at he; replace he : e = .returned (.tuple #[.string ⟨#[]⟩, .bool false]) := he; subst he) | (go_at_call 38; (with_reducible refine (rstate_calls w3.heap.size gr _ _ HNq.out.rcv).mono ?_); rintro e wm ⟨he, rfl⟩; replace he : e = .returned (.int .i64 0) := he; subst he) | (go_at_call 29; (with_reducible refine (sstate_calls gs _ ws _ HNq.out.snd).mono ?_); rintro e wz ⟨he, rfl⟩; replace he : e = .returned (.int .i64 st2) := he; subst he))
                  go_roundg k1
                  case measure => omega
                  case rel => exact ⟨x + 1, (nw + 3), c, a, nx, st2, ak, tries2, dl2, rdl, XL, (by first | rfl | (rw [hxw])), (by first | rfl | assumption), (by first | rfl | assumption), ⟨by have h1 := HXX.out; have h2 := HLT.out; skip; have h4 := HXLL.out; omega⟩, HSIt, HGLt, HLSq, HNq0⟩
              | succ k2 =>
                have hlt2 : y < (XL.length : Int) := by have h1 := HYY.out; omega
                have q1 : decide (y < (XL.length : Int)) = true := decide_eq_true hlt2
                have hyw : wrap64 (y + 1) = y + 1 := by have h1 := HYY.out; have h2 := HXLL.out; have h3 := HXX.out; have h4 := HLM.out; unfold wrap64; omega
                obtain ⟨Aq, cq, eq_, hcq, hCq⟩ := HLSq.out.slice
                obtain ⟨rfl, rfl⟩ : At = Aq ∧ ct = cq := by injection eq_ with e1 e2 e3; exact ⟨e1, e3⟩
                obtain ⟨adq, eaq, z0, z1, z2, z3, z4, z5⟩ := at_T23 hCq y HYY.out.1 hlt2
                subst eaq
                have hgd := HGLt.out _ (rd23_mem HYY.out.1 hlt2)
                have u1 : (0 ≤ y) = True := eq_true HYY.out.1
                have u2 : (y < (XL.length : Int)) = True := eq_true hlt2
                generalize rd_T23 XL y = pq at z0 z1 z2 z3 z4 z5 hgd
                by_cases hq1 : pq.f0 = 1
                · have hqb : (pq.f0 == 1) = true := by rw [hq1]; rfl
                  have hqc : decide (ak + window < pq.f2) = false := decide_eq_false (good_num hgd hq1)
                  clear hq1 hgd hlt2 hcq hCq z1 z3 z4 z5
                  go_wp2
                  go_roundg k2
                  case measure => omega
                  case rel => exact ⟨y + 1, (by first | rfl | (rw [hyw])), ⟨by have h1 := HYY.out; omega⟩, HLSq, HNq⟩
                · have hqb : (pq.f0 == 1) = false := beq_false_of_ne hq1
                  clear hq1 hgd hlt2 hcq hCq z1 z2 z3 z4 z5
                  go_wp2
                  go_roundg k2
                  case measure => omega
                  case rel => exact ⟨y + 1, (by first | rfl | (rw [hyw])), ⟨by have h1 := HYY.out; omega⟩, HLSq, HNq⟩
        have f1 : (m.tmod 4 == 3) = false := by rw [ht]; exact beq_false_of_ne hr
        have f1b : (m % 4 == 3) = false := beq_false_of_ne hr
        by_cases hxs : xs = []
        · as_aux_lemma =>
            have hL0 : xs = [] := hxs
            subst hL0
            obtain ⟨At, ct, et, hct, hCt⟩ := HLS.out.slice
            subst et
            clear hct hCt
            obtain ⟨XL, HXL⟩ : ∃ XL, Aside0 (([] : List S23) = XL) := ⟨_, ⟨rfl⟩⟩
            have HLSt := Aside0.mk HLS.out
            have HGLt := Aside0.mk HGL.out
            rw [HXL.out] at HLSt HGLt ⊢
            have HXLL := Aside0.mk (show (XL.length : Int) ≤ 64 + 64 * (x + 1) by rw [← HXL.out]; have h1 := HXX.out; simp; omega)
            have HNt := HN
            have HSIt := HSI
            have g1 : decide (0 < (XL.length : Int)) = false := decide_eq_false (by rw [← HXL.out]; decide)
            have g2 : decide (0 < XL.length) = false := decide_eq_false (by rw [← HXL.out]; decide)
            go_wp2
            go_loopg [20] XL.length (fun kq v20 wq => ∃ (y : Int), v20 = .int .i64 y ∧ Aside0 (0 ≤ y ∧ y + (kq : Int) = (XL.length : Int)) ∧ Aside0 (Lst ws.heap.size wq (.slice At XL.length ct) XL) ∧ Aside0 (Net w ws w3.heap.size gs gr (cS window 10 segs st a nx tries dl) (cR 500 segs (if c = segs.length then 1 else 0) c rdl) wq))
            case atStart => exact ⟨0, rfl, ⟨by omega⟩, HLSt, HNt⟩
            case round =>
              obtain ⟨y, rfl, HYY, HLSq, HNq⟩ := hrel
              have HNq0 := HNq
              have hakw : wrap64 (ak + window) = ak + window := by have h1 := HSIt.out.ak1; have h2 := HSIt.out.akc; have h3 := HSIt.out.cn; have h4 := HSIt.out.n64; have h5 := HW.out; unfold wrap64; omega
              cases gk with
              | zero =>
                have q1 : decide (y < (XL.length : Int)) = false := decide_eq_false (by have h1 := HYY.out; omega)
                by_cases hcn : c = segs.length
                · rw [if_pos hcn] at HNq
                  have HMSG := Aside0.mk (show (if (cR 500 segs 1 c rdl).state = 1 then strOfNums (cR 500 segs 1 c rdl).msg else ⟨#[]⟩) = message by show (if (1 : Int) = 1 then strOfNums (cat segs c) else ⟨#[]⟩) = message; rw [if_pos rfl, hcn, HSZ.out.2.2]; exact cat_all message sz HSZ.out.2.1)
                  have HCN := Aside0.mk hcn
                  have hmt : (message.toList == message.toList) = true := beq_self_eq_true _
                  clear hcn
                  by_cases hs1 : st = 1
                  · have hsb : (st == 1) = true := by rw [hs1]; rfl
                    clear hs1
                    go_wp2_with (first | (go_at_call 36; (with_reducible refine (rmessage_calls w3.heap.size gr _ _ HNq.out.rcv).mono ?_); rintro e wm ⟨he, rfl⟩; rw [HMSG.out] at he; replace he : e = .returned (.tuple #[.string message, .bool true]) := he; subst he) | (go_at_call 38; (with_reducible refine (rstate_calls w3.heap.size gr _ _ HNq.out.rcv).mono ?_); rintro e wm ⟨he, rfl⟩; replace he : e = .returned (.int .i64 1) := he; subst he) | (go_at_call 29; (with_reducible refine (sstate_calls gs _ ws _ HNq.out.snd).mono ?_); rintro e wz ⟨he, rfl⟩; replace he : e = .returned (.int .i64 st) := he; subst he))
                    go_roundg k1
                    case measure => omega
                    case rel => exact ⟨x + 1, nw, c, a, nx, st, ak, tries, dl, rdl, XL, (by first | rfl | (rw [hxw])), (by first | rfl | assumption), (by first | rfl | assumption), ⟨by have h1 := HXX.out; have h2 := HLT.out; skip; have h4 := HXLL.out; omega⟩, HSIt, HGLt, HLSq, HNq0⟩
                  · have hsb : (st == 1) = false := beq_false_of_ne hs1
                    clear hs1
                    go_wp2_with (first | (go_at_call 36; (with_reducible refine (rmessage_calls w3.heap.size gr _ _ HNq.out.rcv).mono ?_); rintro e wm ⟨he, rfl⟩; rw [HMSG.out] at he; replace he : e = .returned (.tuple #[.string message, .bool true]) := he; subst he) | (go_at_call 38; (with_reducible refine (rstate_calls w3.heap.size gr _ _ HNq.out.rcv).mono ?_); rintro e wm ⟨he, rfl⟩; replace he : e = .returned (.int .i64 1) := he; subst he) | (go_at_call 29; (with_reducible refine (sstate_calls gs _ ws _ HNq.out.snd).mono ?_); rintro e wz ⟨he, rfl⟩; replace he : e = .returned (.int .i64 st) := he; subst he))
                    go_roundg k1
                    case measure => omega
                    case rel => exact ⟨x + 1, nw, c, a, nx, st, ak, tries, dl, rdl, XL, (by first | rfl | (rw [hxw])), (by first | rfl | assumption), (by first | rfl | assumption), ⟨by have h1 := HXX.out; have h2 := HLT.out; skip; have h4 := HXLL.out; omega⟩, HSIt, HGLt, HLSq, HNq0⟩
                · have hsb : (st == 1) = false := beq_false_of_ne (fun e => hcn (by have h1 := HSIt.out.done e; have h2 := HSIt.out.ac; have h3 := HSIt.out.cn; omega))
                  rw [if_neg hcn] at HNq
                  have HMSG := Aside0.mk (show (if (cR 500 segs 0 c rdl).state = 1 then strOfNums (cR 500 segs 0 c rdl).msg else ⟨#[]⟩) = (⟨#[]⟩ : ByteArray) from rfl)
                  have HCN := Aside0.mk hcn
                  clear hcn
                  go_wp2_with (first | (go_at_call 36; (with_reducible refine (rmessage_calls w3.heap.size gr _ _ HNq.out.rcv).mono ?_); rintro e wm ⟨he, rfl⟩; rw [HMSG.out] at he; replace he : e = .returned (.tuple #[.string ⟨#[]⟩, .bool false]) := he; subst he) | (go_at_call 38; (with_reducible refine (rstate_calls w3.heap.size gr _ _ HNq.out.rcv).mono ?_); rintro e wm ⟨he, rfl⟩; replace he : e = .returned (.int .i64 0) := he; subst he) | (go_at_call 29; (with_reducible refine (sstate_calls gs _ ws _ HNq.out.snd).mono ?_); rintro e wz ⟨he, rfl⟩; replace he : e = .returned (.int .i64 st) := he; subst he))
                  go_roundg k1
                  case measure => omega
                  case rel => exact ⟨x + 1, nw, c, a, nx, st, ak, tries, dl, rdl, XL, (by first | rfl | (rw [hxw])), (by first | rfl | assumption), (by first | rfl | assumption), ⟨by have h1 := HXX.out; have h2 := HLT.out; skip; have h4 := HXLL.out; omega⟩, HSIt, HGLt, HLSq, HNq0⟩
              | succ k2 =>
                have hlt2 : y < (XL.length : Int) := by have h1 := HYY.out; omega
                have q1 : decide (y < (XL.length : Int)) = true := decide_eq_true hlt2
                have hyw : wrap64 (y + 1) = y + 1 := by have h1 := HYY.out; have h2 := HXLL.out; have h3 := HXX.out; have h4 := HLM.out; unfold wrap64; omega
                obtain ⟨Aq, cq, eq_, hcq, hCq⟩ := HLSq.out.slice
                obtain ⟨rfl, rfl⟩ : At = Aq ∧ ct = cq := by injection eq_ with e1 e2 e3; exact ⟨e1, e3⟩
                obtain ⟨adq, eaq, z0, z1, z2, z3, z4, z5⟩ := at_T23 hCq y HYY.out.1 hlt2
                subst eaq
                have hgd := HGLt.out _ (rd23_mem HYY.out.1 hlt2)
                have u1 : (0 ≤ y) = True := eq_true HYY.out.1
                have u2 : (y < (XL.length : Int)) = True := eq_true hlt2
                generalize rd_T23 XL y = pq at z0 z1 z2 z3 z4 z5 hgd
                by_cases hq1 : pq.f0 = 1
                · have hqb : (pq.f0 == 1) = true := by rw [hq1]; rfl
                  have hqc : decide (ak + window < pq.f2) = false := decide_eq_false (good_num hgd hq1)
                  clear hq1 hgd hlt2 hcq hCq z1 z3 z4 z5
                  go_wp2
                  go_roundg k2
                  case measure => omega
                  case rel => exact ⟨y + 1, (by first | rfl | (rw [hyw])), ⟨by have h1 := HYY.out; omega⟩, HLSq, HNq⟩
                · have hqb : (pq.f0 == 1) = false := beq_false_of_ne hq1
                  clear hq1 hgd hlt2 hcq hCq z1 z2 z3 z4 z5
                  go_wp2
                  go_roundg k2
                  case measure => omega
                  case rel => exact ⟨y + 1, (by first | rfl | (rw [hyw])), ⟨by have h1 := HYY.out; omega⟩, HLSq, HNq⟩
        have hLp : 0 < xs.length := by cases xs with | nil => exact absurd rfl hxs | cons _ _ => simp
        obtain ⟨A8, c8, e8, hc8, hC8⟩ := HLS.out.slice
        subst e8
        have HLS8 := Aside0.mk HLS.out
        have HC8 := Aside0.mk hC8
        obtain ⟨qd, hqd⟩ : ∃ qd, m.tdiv 4 = qd := ⟨_, rfl⟩
        have hqd2 : m / 4 = qd := by rw [← hqd]; exact (Int.tdiv_eq_ediv_of_nonneg hmp.1).symm
        have hqr : 0 ≤ qd ∧ qd ≤ 9223372036854775807 := by rw [← hqd2]; omega
        have hwq : wrap64 qd = qd := by unfold wrap64; omega
        obtain ⟨kk, hkk⟩ : ∃ kk, qd.tmod (xs.length : Int) = kk := ⟨_, rfl⟩
        have hkk2 : qd % (xs.length : Int) = kk := by rw [← hkk]; exact (Int.tmod_eq_emod_of_nonneg hqr.1).symm
        have hkr : 0 ≤ kk ∧ kk < (xs.length : Int) := by rw [← hkk2]; exact ⟨Int.emod_nonneg _ (by omega), Int.emod_lt_of_pos _ (by omega)⟩
        have HKR := Aside0.mk hkr
        obtain ⟨ad, ea, x0, x1, x2, x3, x4, x5⟩ := at_T23 hC8 kk hkr.1 hkr.2
        subst ea
        have HGD := Aside0.mk (HGL.out _ (rd23_mem hkr.1 hkr.2))
        obtain ⟨A9, c9, hcut2, hC9⟩ := lst_from hC8 hc8 (kk.toNat + 1) (by omega)
        obtain ⟨hcut1, hC9b⟩ := lst_to hC8 hc8 kk.toNat (by omega)
        obtain ⟨L1, HL1⟩ : ∃ L1, Aside0 (xs.take kk.toNat = L1) := ⟨_, ⟨rfl⟩⟩
        obtain ⟨L2, HL2⟩ : ∃ L2, Aside0 (xs.drop (kk.toNat + 1) = L2) := ⟨_, ⟨rfl⟩⟩
        have HLL := Aside0.mk (show L1.length + L2.length + 1 = xs.length by rw [← HL1.out, ← HL2.out, List.length_take, List.length_drop]; omega)
        have HGC := Aside0.mk (show GoodL window segs c ak (L1 ++ L2) by rw [← HL1.out, ← HL2.out]; exact HGL.out.cut kk.toNat)
        rw [HL1.out, show ((kk.toNat : Nat) : Int) = kk by omega] at hcut1
        rw [HL2.out, show ((kk.toNat + 1 : Nat) : Int) = kk + 1 by omega] at hcut2
        have HD1 := Aside0.mk (show ∀ w1, Kd.C k23 w1 (some ad) xs.length xs → Kd.C k23 w1 (some ad) L1.length L1 by rw [← HL1.out]; exact hC9b)
        have HD2 := Aside0.mk (show ∀ w1, Kd.C k23 w1 (some ad) xs.length xs → Kd.C k23 w1 A9 L2.length L2 by rw [← HL2.out]; exact hC9)
        have hkw : wrap64 (kk + 1) = kk + 1 := by have h1 := HXX.out; have h2 := HLT.out; unfold wrap64; omega
        obtain ⟨L, HLq⟩ : ∃ L : Nat, Aside0 (xs.length = L) := ⟨_, ⟨rfl⟩⟩
        rw [HLq.out] at hcut1 hcut2 hkk hkk2 hkr hLp HLS8 ⊢
        have kf0 : (0 ≤ kk) = True := eq_true hkr.1
        have kf1 : (kk < (L : Int)) = True := eq_true hkr.2
        have l0 : decide (0 < (L : Int)) = true := decide_eq_true (by omega)
        have l1 : decide (0 < L) = true := decide_eq_true hLp
        have l2 : ((L : Int) == 0) = false := beq_false_of_ne (by omega)
        have l3' : ((L : Int) = 0) = False := eq_false (by omega)
        have l4 : (L = 0) = False := eq_false (by omega)
        have l5 : (L == 0) = false := beq_false_of_ne (by omega)
        clear hLp hkr hC8 hc8 hC9 hC9b hqr hxs
        generalize rd_T23 xs kk = p at x0 x1 x2 x3 x4 x5 HGD
        by_cases r1 : m % 4 = 1
        · have g1 : (m.tmod 4 != 1) = false := by rw [ht, r1]; rfl
          have g1b : (m % 4 != 1) = false := by rw [r1]; rfl
          have g2 : (m.tmod 4 != 2) = true := by rw [ht, r1]; rfl
          have g2b : (m % 4 != 2) = true := by rw [r1]; rfl
          clear r1 hr
          have HGB := HGL
          rcases HGD.out with ⟨i, hi, hp, _⟩ | ⟨JJ, hj0, hj1, hp⟩ | hp
          · as_aux_lemma =>
              obtain ⟨mo, HMO⟩ : ∃ mo, Aside0 (decide ((i : Int) < wrap64 ((segs.length : Int) - 1)) = mo) := ⟨_, ⟨rfl⟩⟩
              obtain ⟨es, HES⟩ : ∃ es, Aside0 (rdOf ByteArray.empty segs (i : Int) = es) := ⟨_, ⟨rfl⟩⟩
              obtain ⟨II, HII⟩ : ∃ II : Int, Aside0 ((i : Int) = II) := ⟨_, ⟨rfl⟩⟩
              obtain ⟨ys, c2, rd2, hhd, hsi2, hgl2, hyl, hcc, hrd2⟩ := HSI.out.data (rd := rdl) hi nw (by have h1 := HXX.out; omega) (by have h1 := HXX.out; have h2 := HLT.out; omega) (by have h1 := HXX.out; omega)
              rw [HMO.out, HES.out, HII.out] at hhd
              have HML := Aside0.mk (show (cR 500 segs (if c = segs.length then 1 else 0) c rdl).msg.length + es.size ≤ 140737488355328 by rw [← HES.out]; show (cat segs c).length + _ ≤ _; have h1 := HSI.out.cn; rw [HSZ.out.2.2] at h1 hi ⊢; have h2 := cat_len message sz c HSZ.out.2.1 (by unfold segsOf at h1; rw [pieces_len] at h1; exact h1); have h3 := seg_len message sz i HSZ.out.2.1 (by unfold segsOf at hi; rw [pieces_len] at hi; exact hi); have h4 := HMS.out; omega)
              have HSI2 := Aside0.mk hsi2
              have HYL := Aside0.mk hyl
              have HRD2 := Aside0.mk hrd2
              have HGL2 := Aside0.mk (show GoodL window segs c2 ak ((xs) ++ ys) from (HGB.out.mono hcc (Int.le_refl _)).app hgl2)
              have HH := Aside0.mk hhd
              have hk1 : ((1 : Int) == 1) = true := rfl
              clear hhd hsi2 hgl2 hyl hcc hrd2 hi
              subst hp
              replace x0 : wr.cell? (ad.add (kk.toNat * 6)) = some (.int .i64 1) := by exact x0
              replace x1 : wr.cell? ⟨(ad.add (kk.toNat * 6)).block, (ad.add (kk.toNat * 6)).off + 1, none⟩ = some (.int .i64 7) := by exact x1
              replace x2 : wr.cell? ⟨(ad.add (kk.toNat * 6)).block, (ad.add (kk.toNat * 6)).off + 2, none⟩ = some (.int .i64 II) := by rw [← HII.out]; exact x2
              replace x3 : wr.cell? ⟨(ad.add (kk.toNat * 6)).block, (ad.add (kk.toNat * 6)).off + 3, none⟩ = some (.bool mo) := by rw [← HMO.out]; exact x3
              replace x4 : wr.cell? ⟨(ad.add (kk.toNat * 6)).block, (ad.add (kk.toNat * 6)).off + 4, none⟩ = some (.int .i64 window) := by exact x4
              replace x5 : wr.cell? ⟨(ad.add (kk.toNat * 6)).block, (ad.add (kk.toNat * 6)).off + 5, none⟩ = some (.string es) := by rw [← HES.out]; exact x5
              go_wp2_with (first | (go_at_call 34; have hb := below_alloc (Below.refl wr.heap.size wr) (.cells #[.int .i64 1, .int .i64 7, .int .i64 II, .bool mo, .int .i64 window, .string es] 23); have HNg := Aside0.mk (HN.out.below hb); have HLg := Aside0.mk (Lst.keep HLS8.out (Keep23.of_below hb)); clear hb x0 x1 x2 x3 x4 x5; generalize wr.heap.size = g; generalize wr.alloc (.cells #[.int .i64 1, .int .i64 7, .int .i64 II, .bool mo, .int .i64 window, .string es] 23) = wg at HNg HLg ⊢; (with_reducible refine (Net.rhandle HNg.out 1 7 II mo window es nw ys _ HH.out HML.out).mono ?_); rintro e w11 ⟨A11, he, hC11, hn11, hk11⟩; subst he; have HN11 := Aside0.mk hn11; have HC11 := Aside0.mk hC11; have HL11 := Aside0.mk (Lst.keep HLg.out hk11.k23); clear hn11 hC11 hk11) | ((with_reducible refine gate_builtin (b := .append) (xs := #[.tmp 109, .tmp 113]) rfl ?_); at_builtin; refine wpList_lst_append rfl (.tmp 109) (.tmp 113) rfl ws.heap.size _ A11 ys.length ys.length (xs) (ys) rfl rfl HL11.out HC11.out HN11.out.sb.size (by have h1 := HXX.out; have h2 := HLT.out; have h3 := HLL.out; have h4 := HYL.out; first | (rw [List.length_append]; omega) | omega) ?_; intro v12 w12 ho hg; have HL12 := Aside0.mk ho; have HN12 := Aside0.mk (HN11.out.gr hg); clear ho hg))
              obtain ⟨At, ct, et, hct, hCt⟩ := HL12.out.slice
              subst et
              clear hct hCt
              obtain ⟨XL, HXL⟩ : ∃ XL, Aside0 ((xs) ++ ys = XL) := ⟨_, ⟨rfl⟩⟩
              have HLSt := Aside0.mk HL12.out
              have HGLt := Aside0.mk HGL2.out
              rw [HXL.out] at HLSt HGLt ⊢
              have HXLL := Aside0.mk (show (XL.length : Int) ≤ 64 + 64 * (x + 1) by rw [← HXL.out]; have h1 := HXX.out; have h5 := HYL.out; have h6 := HLL.out; rw [List.length_append]; (try rw [List.length_append]); push_cast; omega)
              have HNt := HN12
              have HSIt := HSI2
              go_loopg [20] XL.length (fun kq v20 wq => ∃ (y : Int), v20 = .int .i64 y ∧ Aside0 (0 ≤ y ∧ y + (kq : Int) = (XL.length : Int)) ∧ Aside0 (Lst ws.heap.size wq (.slice At XL.length ct) XL) ∧ Aside0 (Net w ws w3.heap.size gs gr (cS window 10 segs st a nx tries dl) (cR 500 segs (if c2 = segs.length then 1 else 0) c2 rd2) wq))
              case atStart => exact ⟨0, rfl, ⟨by omega⟩, HLSt, HNt⟩
              case round =>
                obtain ⟨y, rfl, HYY, HLSq, HNq⟩ := hrel
                have HNq0 := HNq
                have hakw : wrap64 (ak + window) = ak + window := by have h1 := HSIt.out.ak1; have h2 := HSIt.out.akc; have h3 := HSIt.out.cn; have h4 := HSIt.out.n64; have h5 := HW.out; unfold wrap64; omega
                cases gk with
                | zero =>
                  have q1 : decide (y < (XL.length : Int)) = false := decide_eq_false (by have h1 := HYY.out; omega)
                  by_cases hcn : c2 = segs.length
                  · rw [if_pos hcn] at HNq
                    have HMSG := Aside0.mk (show (if (cR 500 segs 1 c2 rd2).state = 1 then strOfNums (cR 500 segs 1 c2 rd2).msg else ⟨#[]⟩) = message by show (if (1 : Int) = 1 then strOfNums (cat segs c2) else ⟨#[]⟩) = message; rw [if_pos rfl, hcn, HSZ.out.2.2]; exact cat_all message sz HSZ.out.2.1)
                    have HCN := Aside0.mk hcn
                    have hmt : (message.toList == message.toList) = true := beq_self_eq_true _
                    clear hcn
                    by_cases hs1 : st = 1
                    · have hsb : (st == 1) = true := by rw [hs1]; rfl
                      clear hs1
                      go_wp2_with (first | (go_at_call 36; (with_reducible refine (rmessage_calls w3.heap.size gr _ _ HNq.out.rcv).mono ?_); rintro e wm ⟨he, rfl⟩; rw [HMSG.out] at he; replace he : e = .returned (.tuple #[.string message, .bool true]) := he; subst he) | (go_at_call 38; (with_reducible refine (rstate_calls w3.heap.size gr _ _ HNq.out.rcv).mono ?_); rintro e wm ⟨he, rfl⟩; replace he : e = .returned (.int .i64 1) := he; subst he) | (go_at_call 29; (with_reducible refine (sstate_calls gs _ ws _ HNq.out.snd).mono ?_); rintro e wz ⟨he, rfl⟩; replace he : e = .returned (.int .i64 st) := he; subst he))
                      go_roundg k1
                      case measure => omega
                      case rel => exact ⟨x + 1, nw, c2, a, nx, st, ak, tries, dl, rd2, XL, (by first | rfl | (rw [hxw])), (by first | rfl | assumption), (by first | rfl | assumption), ⟨by have h1 := HXX.out; have h2 := HLT.out; have h6 := HRD2.out; have h4 := HXLL.out; omega⟩, HSIt, HGLt, HLSq, HNq0⟩
                    · have hsb : (st == 1) = false := beq_false_of_ne hs1
                      clear hs1
                      go_wp2_with (first | (go_at_call 36; (with_reducible refine (rmessage_calls w3.heap.size gr _ _ HNq.out.rcv).mono ?_); rintro e wm ⟨he, rfl⟩; rw [HMSG.out] at he; replace he : e = .returned (.tuple #[.string message, .bool true]) := he; subst he) | (go_at_call 38; (with_reducible refine (rstate_calls w3.heap.size gr _ _ HNq.out.rcv).mono ?_); rintro e wm ⟨he, rfl⟩; replace he : e = .returned (.int .i64 1) := he; subst he) | (go_at_call 29; (with_reducible refine (sstate_calls gs _ ws _ HNq.out.snd).mono ?_); rintro e wz ⟨he, rfl⟩; replace he : e = .returned (.int .i64 st) := he; subst he))
                      go_roundg k1
                      case measure => omega
                      case rel => exact ⟨x + 1, nw, c2, a, nx, st, ak, tries, dl, rd2, XL, (by first | rfl | (rw [hxw])), (by first | rfl | assumption), (by first | rfl | assumption), ⟨by have h1 := HXX.out; have h2 := HLT.out; have h6 := HRD2.out; have h4 := HXLL.out; omega⟩, HSIt, HGLt, HLSq, HNq0⟩
                  · have hsb : (st == 1) = false := beq_false_of_ne (fun e => hcn (by have h1 := HSIt.out.done e; have h2 := HSIt.out.ac; have h3 := HSIt.out.cn; omega))
                    rw [if_neg hcn] at HNq
                    have HMSG := Aside0.mk (show (if (cR 500 segs 0 c2 rd2).state = 1 then strOfNums (cR 500 segs 0 c2 rd2).msg else ⟨#[]⟩) = (⟨#[]⟩ : ByteArray) from rfl)
                    have HCN := Aside0.mk hcn
                    clear hcn
                    go_wp2_with (first | (go_at_call 36; (with_reducible refine (rmessage_calls w3.heap.size gr _ _ HNq.out.rcv).mono ?_); rintro e wm ⟨he, rfl⟩; rw [HMSG.out] at he; replace he : e = .returned (.tuple #[.string ⟨#[]⟩, .bool false]) := he; subst he) | (go_at_call 38; (with_reducible refine (rstate_calls w3.heap.size gr _ _ HNq.out.rcv).mono ?_); rintro e wm ⟨he, rfl⟩; replace he : e = .returned (.int .i64 0) := he; subst he) | (go_at_call 29; (with_reducible refine (sstate_calls gs _ ws _ HNq.out.snd).mono ?_); rintro e wz ⟨he, rfl⟩; replace he : e = .returned (.int .i64 st) := he; subst he))
                    go_roundg k1
                    case measure => omega
                    case rel => exact ⟨x + 1, nw, c2, a, nx, st, ak, tries, dl, rd2, XL, (by first | rfl | (rw [hxw])), (by first | rfl | assumption), (by first | rfl | assumption), ⟨by have h1 := HXX.out; have h2 := HLT.out; have h6 := HRD2.out; have h4 := HXLL.out; omega⟩, HSIt, HGLt, HLSq, HNq0⟩
                | succ k2 =>
                  have hlt2 : y < (XL.length : Int) := by have h1 := HYY.out; omega
                  have q1 : decide (y < (XL.length : Int)) = true := decide_eq_true hlt2
                  have hyw : wrap64 (y + 1) = y + 1 := by have h1 := HYY.out; have h2 := HXLL.out; have h3 := HXX.out; have h4 := HLM.out; unfold wrap64; omega
                  obtain ⟨Aq, cq, eq_, hcq, hCq⟩ := HLSq.out.slice
                  obtain ⟨rfl, rfl⟩ : At = Aq ∧ ct = cq := by injection eq_ with e1 e2 e3; exact ⟨e1, e3⟩
                  obtain ⟨adq, eaq, z0, z1, z2, z3, z4, z5⟩ := at_T23 hCq y HYY.out.1 hlt2
                  subst eaq
                  have hgd := HGLt.out _ (rd23_mem HYY.out.1 hlt2)
                  have u1 : (0 ≤ y) = True := eq_true HYY.out.1
                  have u2 : (y < (XL.length : Int)) = True := eq_true hlt2
                  generalize rd_T23 XL y = pq at z0 z1 z2 z3 z4 z5 hgd
                  by_cases hq1 : pq.f0 = 1
                  · have hqb : (pq.f0 == 1) = true := by rw [hq1]; rfl
                    have hqc : decide (ak + window < pq.f2) = false := decide_eq_false (good_num hgd hq1)
                    clear hq1 hgd hlt2 hcq hCq z1 z3 z4 z5
                    go_wp2
                    go_roundg k2
                    case measure => omega
                    case rel => exact ⟨y + 1, (by first | rfl | (rw [hyw])), ⟨by have h1 := HYY.out; omega⟩, HLSq, HNq⟩
                  · have hqb : (pq.f0 == 1) = false := beq_false_of_ne hq1
                    clear hq1 hgd hlt2 hcq hCq z1 z2 z3 z4 z5
                    go_wp2
                    go_roundg k2
                    case measure => omega
                    case rel => exact ⟨y + 1, (by first | rfl | (rw [hyw])), ⟨by have h1 := HYY.out; omega⟩, HLSq, HNq⟩
          · as_aux_lemma =>
              obtain ⟨ys, st2, a2, nx2, tries2, dl2, hhd, hsi2, hgl2, hyl⟩ := HSI.out.ack (tries := tries) (dl := dl) hj0 hj1 nw
              obtain ⟨ak2, HAK⟩ : ∃ ak2, Aside0 (mx ak JJ = ak2) := ⟨_, ⟨rfl⟩⟩
              have hak2 : (if ak < JJ then JJ else ak) = ak2 := HAK.out
              rw [HAK.out] at hsi2 hgl2
              have HSI2 := Aside0.mk hsi2
              have HYL := Aside0.mk hyl
              have HGL2 := Aside0.mk (show GoodL window segs c ak2 ((xs) ++ ys) from (HGB.out.mono (Nat.le_refl _) (by rw [← HAK.out]; unfold mx; split <;> omega)).app hgl2)
              have HH := Aside0.mk hhd
              clear hhd hsi2 hgl2 hyl hj0 hj1
              subst hp
              replace x0 : wr.cell? (ad.add (kk.toNat * 6)) = some (.int .i64 2) := by exact x0
              replace x1 : wr.cell? ⟨(ad.add (kk.toNat * 6)).block, (ad.add (kk.toNat * 6)).off + 1, none⟩ = some (.int .i64 7) := by exact x1
              replace x2 : wr.cell? ⟨(ad.add (kk.toNat * 6)).block, (ad.add (kk.toNat * 6)).off + 2, none⟩ = some (.int .i64 JJ) := by exact x2
              replace x3 : wr.cell? ⟨(ad.add (kk.toNat * 6)).block, (ad.add (kk.toNat * 6)).off + 3, none⟩ = some (.bool false) := by exact x3
              replace x4 : wr.cell? ⟨(ad.add (kk.toNat * 6)).block, (ad.add (kk.toNat * 6)).off + 4, none⟩ = some (.int .i64 0) := by exact x4
              replace x5 : wr.cell? ⟨(ad.add (kk.toNat * 6)).block, (ad.add (kk.toNat * 6)).off + 5, none⟩ = some (.string ⟨#[]⟩) := by exact x5
              go_wp2_with (first | (go_at_call 26; have hb := below_alloc (Below.refl wr.heap.size wr) (.cells #[.int .i64 2, .int .i64 7, .int .i64 JJ, .bool false, .int .i64 0, .string ⟨#[]⟩] 23); have HNg := Aside0.mk (HN.out.below hb); have HLg := Aside0.mk (Lst.keep HLS8.out (Keep23.of_below hb)); clear hb x0 x1 x2 x3 x4 x5; generalize wr.heap.size = g; generalize wr.alloc (.cells #[.int .i64 2, .int .i64 7, .int .i64 JJ, .bool false, .int .i64 0, .string ⟨#[]⟩] 23) = wg at HNg HLg ⊢; (with_reducible refine (Net.shandle HNg.out HSI.out.ok 2 7 JJ false 0 ⟨#[]⟩ nw ys _ HH.out).mono ?_); rintro e w11 ⟨A11, he, hC11, hn11, hk11⟩; subst he; have HN11 := Aside0.mk hn11; have HC11 := Aside0.mk hC11; have HL11 := Aside0.mk (Lst.keep HLg.out hk11.k23); clear hn11 hC11 hk11) | ((with_reducible refine gate_builtin (b := .append) (xs := #[.tmp 122, .tmp 126]) rfl ?_); at_builtin; refine wpList_lst_append rfl (.tmp 122) (.tmp 126) rfl ws.heap.size _ A11 ys.length ys.length (xs) (ys) rfl rfl HL11.out HC11.out HN11.out.sb.size (by have h1 := HXX.out; have h2 := HLT.out; have h3 := HLL.out; have h4 := HYL.out; first | (rw [List.length_append]; omega) | omega) ?_; intro v12 w12 ho hg; have HL12 := Aside0.mk ho; have HN12 := Aside0.mk (HN11.out.gr hg); clear ho hg))
              obtain ⟨At, ct, et, hct, hCt⟩ := HL12.out.slice
              subst et
              clear hct hCt
              obtain ⟨XL, HXL⟩ : ∃ XL, Aside0 ((xs) ++ ys = XL) := ⟨_, ⟨rfl⟩⟩
              have HLSt := Aside0.mk HL12.out
              have HGLt := Aside0.mk HGL2.out
              rw [HXL.out] at HLSt HGLt ⊢
              have HXLL := Aside0.mk (show (XL.length : Int) ≤ 64 + 64 * (x + 1) by rw [← HXL.out]; have h1 := HXX.out; have h5 := HYL.out; have h6 := HLL.out; rw [List.length_append]; (try rw [List.length_append]); push_cast; omega)
              have HNt := HN12
              have HSIt := HSI2
              go_loopg [20] XL.length (fun kq v20 wq => ∃ (y : Int), v20 = .int .i64 y ∧ Aside0 (0 ≤ y ∧ y + (kq : Int) = (XL.length : Int)) ∧ Aside0 (Lst ws.heap.size wq (.slice At XL.length ct) XL) ∧ Aside0 (Net w ws w3.heap.size gs gr (cS window 10 segs st2 a2 nx2 tries2 dl2) (cR 500 segs (if c = segs.length then 1 else 0) c rdl) wq))
              case atStart => exact ⟨0, rfl, ⟨by omega⟩, HLSt, HNt⟩
              case round =>
                obtain ⟨y, rfl, HYY, HLSq, HNq⟩ := hrel
                have HNq0 := HNq
                have hakw : wrap64 (ak2 + window) = ak2 + window := by have h1 := HSIt.out.ak1; have h2 := HSIt.out.akc; have h3 := HSIt.out.cn; have h4 := HSIt.out.n64; have h5 := HW.out; unfold wrap64; omega
                cases gk with
                | zero =>
                  have q1 : decide (y < (XL.length : Int)) = false := decide_eq_false (by have h1 := HYY.out; omega)
                  by_cases hcn : c = segs.length
                  · rw [if_pos hcn] at HNq
                    have HMSG := Aside0.mk (show (if (cR 500 segs 1 c rdl).state = 1 then strOfNums (cR 500 segs 1 c rdl).msg else ⟨#[]⟩) = message by show (if (1 : Int) = 1 then strOfNums (cat segs c) else ⟨#[]⟩) = message; rw [if_pos rfl, hcn, HSZ.out.2.2]; exact cat_all message sz HSZ.out.2.1)
                    have HCN := Aside0.mk hcn
                    have hmt : (message.toList == message.toList) = true := beq_self_eq_true _
                    clear hcn
                    by_cases hs1 : st2 = 1
                    · have hsb : (st2 == 1) = true := by rw [hs1]; rfl
                      clear hs1
                      go_wp2_with (first | (go_at_call 36; (with_reducible refine (rmessage_calls w3.heap.size gr _ _ HNq.out.rcv).mono ?_); rintro e wm ⟨he, rfl⟩; rw [HMSG.out] at he; replace he : e = .returned (.tuple #[.string message, .bool true]) := he; subst he) | (go_at_call 38; (with_reducible refine (rstate_calls w3.heap.size gr _ _ HNq.out.rcv).mono ?_); rintro e wm ⟨he, rfl⟩; replace he : e = .returned (.int .i64 1) := he; subst he) | (go_at_call 29; (with_reducible refine (sstate_calls gs _ ws _ HNq.out.snd).mono ?_); rintro e wz ⟨he, rfl⟩; replace he : e = .returned (.int .i64 st2) := he; subst he))
                      go_roundg k1
                      case measure => omega
                      case rel => exact ⟨x + 1, nw, c, a2, nx2, st2, ak2, tries2, dl2, rdl, XL, (by first | rfl | (rw [hxw])), (by first | rfl | assumption), (by first | rfl | assumption), ⟨by have h1 := HXX.out; have h2 := HLT.out; skip; have h4 := HXLL.out; omega⟩, HSIt, HGLt, HLSq, HNq0⟩
                    · have hsb : (st2 == 1) = false := beq_false_of_ne hs1
                      clear hs1
                      go_wp2_with (first | (go_at_call 36; (with_reducible refine (rmessage_calls w3.heap.size gr _ _ HNq.out.rcv).mono ?_); rintro e wm ⟨he, rfl⟩; rw [HMSG.out] at he; replace he : e = .returned (.tuple #[.string message, .bool true]) := he; subst he) | (go_at_call 38; (with_reducible refine (rstate_calls w3.heap.size gr _ _ HNq.out.rcv).mono ?_); rintro e wm ⟨he, rfl⟩; replace he : e = .returned (.int .i64 1) := he; subst he) | (go_at_call 29; (with_reducible refine (sstate_calls gs _ ws _ HNq.out.snd).mono ?_); rintro e wz ⟨he, rfl⟩; replace he : e = .returned (.int .i64 st2) := he; subst he))
                      go_roundg k1
                      case measure => omega
                      case rel => exact ⟨x + 1, nw, c, a2, nx2, st2, ak2, tries2, dl2, rdl, XL, (by first | rfl | (rw [hxw])), (by first | rfl | assumption), (by first | rfl | assumption), ⟨by have h1 := HXX.out; have h2 := HLT.out; skip; have h4 := HXLL.out; omega⟩, HSIt, HGLt, HLSq, HNq0⟩
                  · have hsb : (st2 == 1) = false := beq_false_of_ne (fun e => hcn (by have h1 := HSIt.out.done e; have h2 := HSIt.out.ac; have h3 := HSIt.out.cn; omega))
                    rw [if_neg hcn] at HNq
                    have HMSG := Aside0.mk (show (if (cR 500 segs 0 c rdl).state = 1 then strOfNums (cR 500 segs 0 c rdl).msg else ⟨#[]⟩) = (⟨#[]⟩ : ByteArray) from rfl)
                    have HCN := Aside0.mk hcn
                    clear hcn
                    go_wp2_with (first | (go_at_call 36; (with_reducible refine (rmessage_calls w3.heap.size gr _ _ HNq.out.rcv).mono ?_); rintro e wm ⟨he, rfl⟩; rw [HMSG.out] at he; replace he : e = .returned (.tuple #[.string ⟨#[]⟩, .bool false]) := he; subst he) | (go_at_call 38; (with_reducible refine (rstate_calls w3.heap.size gr _ _ HNq.out.rcv).mono ?_); rintro e wm ⟨he, rfl⟩; replace he : e = .returned (.int .i64 0) := he; subst he) | (go_at_call 29; (with_reducible refine (sstate_calls gs _ ws _ HNq.out.snd).mono ?_); rintro e wz ⟨he, rfl⟩; replace he : e = .returned (.int .i64 st2) := he; subst he))
                    go_roundg k1
                    case measure => omega
                    case rel => exact ⟨x + 1, nw, c, a2, nx2, st2, ak2, tries2, dl2, rdl, XL, (by first | rfl | (rw [hxw])), (by first | rfl | assumption), (by first | rfl | assumption), ⟨by have h1 := HXX.out; have h2 := HLT.out; skip; have h4 := HXLL.out; omega⟩, HSIt, HGLt, HLSq, HNq0⟩
                | succ k2 =>
                  have hlt2 : y < (XL.length : Int) := by have h1 := HYY.out; omega
                  have q1 : decide (y < (XL.length : Int)) = true := decide_eq_true hlt2
                  have hyw : wrap64 (y + 1) = y + 1 := by have h1 := HYY.out; have h2 := HXLL.out; have h3 := HXX.out; have h4 := HLM.out; unfold wrap64; omega
                  obtain ⟨Aq, cq, eq_, hcq, hCq⟩ := HLSq.out.slice
                  obtain ⟨rfl, rfl⟩ : At = Aq ∧ ct = cq := by injection eq_ with e1 e2 e3; exact ⟨e1, e3⟩
                  obtain ⟨adq, eaq, z0, z1, z2, z3, z4, z5⟩ := at_T23 hCq y HYY.out.1 hlt2
                  subst eaq
                  have hgd := HGLt.out _ (rd23_mem HYY.out.1 hlt2)
                  have u1 : (0 ≤ y) = True := eq_true HYY.out.1
                  have u2 : (y < (XL.length : Int)) = True := eq_true hlt2
                  generalize rd_T23 XL y = pq at z0 z1 z2 z3 z4 z5 hgd
                  by_cases hq1 : pq.f0 = 1
                  · have hqb : (pq.f0 == 1) = true := by rw [hq1]; rfl
                    have hqc : decide (ak2 + window < pq.f2) = false := decide_eq_false (good_num hgd hq1)
                    clear hq1 hgd hlt2 hcq hCq z1 z3 z4 z5
                    go_wp2
                    go_roundg k2
                    case measure => omega
                    case rel => exact ⟨y + 1, (by first | rfl | (rw [hyw])), ⟨by have h1 := HYY.out; omega⟩, HLSq, HNq⟩
                  · have hqb : (pq.f0 == 1) = false := beq_false_of_ne hq1
                    clear hq1 hgd hlt2 hcq hCq z1 z2 z3 z4 z5
                    go_wp2
                    go_roundg k2
                    case measure => omega
                    case rel => exact ⟨y + 1, (by first | rfl | (rw [hyw])), ⟨by have h1 := HYY.out; omega⟩, HLSq, HNq⟩
          · as_aux_lemma =>
              obtain ⟨st2, hhd, hsi2⟩ := HSI.out.abort (tries := tries) (dl := dl) nw
              obtain ⟨ys, HYS⟩ : ∃ ys : List S23, Aside0 (([] : List S23) = ys) := ⟨_, ⟨rfl⟩⟩
              rw [HYS.out] at hhd
              have HSI2 := Aside0.mk hsi2
              have HYL := Aside0.mk (show ys.length ≤ 64 by rw [← HYS.out]; simp)
              have HGL2 := Aside0.mk (show GoodL window segs c ak ((xs) ++ ys) by rw [← HYS.out]; exact HGB.out.app GoodL.nil)
              have HH := Aside0.mk hhd
              clear hhd hsi2
              subst hp
              replace x0 : wr.cell? (ad.add (kk.toNat * 6)) = some (.int .i64 3) := by exact x0
              replace x1 : wr.cell? ⟨(ad.add (kk.toNat * 6)).block, (ad.add (kk.toNat * 6)).off + 1, none⟩ = some (.int .i64 7) := by exact x1
              replace x2 : wr.cell? ⟨(ad.add (kk.toNat * 6)).block, (ad.add (kk.toNat * 6)).off + 2, none⟩ = some (.int .i64 0) := by exact x2
              replace x3 : wr.cell? ⟨(ad.add (kk.toNat * 6)).block, (ad.add (kk.toNat * 6)).off + 3, none⟩ = some (.bool false) := by exact x3
              replace x4 : wr.cell? ⟨(ad.add (kk.toNat * 6)).block, (ad.add (kk.toNat * 6)).off + 4, none⟩ = some (.int .i64 0) := by exact x4
              replace x5 : wr.cell? ⟨(ad.add (kk.toNat * 6)).block, (ad.add (kk.toNat * 6)).off + 5, none⟩ = some (.string ⟨#[]⟩) := by exact x5
              go_wp2_with (first | (go_at_call 26; have hb := below_alloc (Below.refl wr.heap.size wr) (.cells #[.int .i64 3, .int .i64 7, .int .i64 0, .bool false, .int .i64 0, .string ⟨#[]⟩] 23); have HNg := Aside0.mk (HN.out.below hb); have HLg := Aside0.mk (Lst.keep HLS8.out (Keep23.of_below hb)); clear hb x0 x1 x2 x3 x4 x5; generalize wr.heap.size = g; generalize wr.alloc (.cells #[.int .i64 3, .int .i64 7, .int .i64 0, .bool false, .int .i64 0, .string ⟨#[]⟩] 23) = wg at HNg HLg ⊢; (with_reducible refine (Net.shandle HNg.out HSI.out.ok 3 7 0 false 0 ⟨#[]⟩ nw ys _ HH.out).mono ?_); rintro e w11 ⟨A11, he, hC11, hn11, hk11⟩; subst he; have HN11 := Aside0.mk hn11; have HC11 := Aside0.mk hC11; have HL11 := Aside0.mk (Lst.keep HLg.out hk11.k23); clear hn11 hC11 hk11) | ((with_reducible refine gate_builtin (b := .append) (xs := #[.tmp 122, .tmp 126]) rfl ?_); at_builtin; refine wpList_lst_append rfl (.tmp 122) (.tmp 126) rfl ws.heap.size _ A11 ys.length ys.length (xs) (ys) rfl rfl HL11.out HC11.out HN11.out.sb.size (by have h1 := HXX.out; have h2 := HLT.out; have h3 := HLL.out; have h4 := HYL.out; first | (rw [List.length_append]; omega) | omega) ?_; intro v12 w12 ho hg; have HL12 := Aside0.mk ho; have HN12 := Aside0.mk (HN11.out.gr hg); clear ho hg))
              obtain ⟨At, ct, et, hct, hCt⟩ := HL12.out.slice
              subst et
              clear hct hCt
              obtain ⟨XL, HXL⟩ : ∃ XL, Aside0 ((xs) ++ ys = XL) := ⟨_, ⟨rfl⟩⟩
              have HLSt := Aside0.mk HL12.out
              have HGLt := Aside0.mk HGL2.out
              rw [HXL.out] at HLSt HGLt ⊢
              have HXLL := Aside0.mk (show (XL.length : Int) ≤ 64 + 64 * (x + 1) by rw [← HXL.out]; have h1 := HXX.out; have h5 := HYL.out; have h6 := HLL.out; rw [List.length_append]; (try rw [List.length_append]); push_cast; omega)
              have HNt := HN12
              have HSIt := HSI2
              go_loopg [20] XL.length (fun kq v20 wq => ∃ (y : Int), v20 = .int .i64 y ∧ Aside0 (0 ≤ y ∧ y + (kq : Int) = (XL.length : Int)) ∧ Aside0 (Lst ws.heap.size wq (.slice At XL.length ct) XL) ∧ Aside0 (Net w ws w3.heap.size gs gr (cS window 10 segs st2 a nx tries dl) (cR 500 segs (if c = segs.length then 1 else 0) c rdl) wq))
              case atStart => exact ⟨0, rfl, ⟨by omega⟩, HLSt, HNt⟩
              case round =>
                obtain ⟨y, rfl, HYY, HLSq, HNq⟩ := hrel
                have HNq0 := HNq
                have hakw : wrap64 (ak + window) = ak + window := by have h1 := HSIt.out.ak1; have h2 := HSIt.out.akc; have h3 := HSIt.out.cn; have h4 := HSIt.out.n64; have h5 := HW.out; unfold wrap64; omega
                cases gk with
                | zero =>
                  have q1 : decide (y < (XL.length : Int)) = false := decide_eq_false (by have h1 := HYY.out; omega)
                  by_cases hcn : c = segs.length
                  · rw [if_pos hcn] at HNq
                    have HMSG := Aside0.mk (show (if (cR 500 segs 1 c rdl).state = 1 then strOfNums (cR 500 segs 1 c rdl).msg else ⟨#[]⟩) = message by show (if (1 : Int) = 1 then strOfNums (cat segs c) else ⟨#[]⟩) = message; rw [if_pos rfl, hcn, HSZ.out.2.2]; exact cat_all message sz HSZ.out.2.1)
                    have HCN := Aside0.mk hcn
                    have hmt : (message.toList == message.toList) = true := beq_self_eq_true _
                    clear hcn
                    by_cases hs1 : st2 = 1
                    · have hsb : (st2 == 1) = true := by rw [hs1]; rfl
                      clear hs1
                      go_wp2_with (first | (go_at_call 36; (with_reducible refine (rmessage_calls w3.heap.size gr _ _ HNq.out.rcv).mono ?_); rintro e wm ⟨he, rfl⟩; rw [HMSG.out] at he; replace he : e = .returned (.tuple #[.string message, .bool true]) := he; subst he) | (go_at_call 38; (with_reducible refine (rstate_calls w3.heap.size gr _ _ HNq.out.rcv).mono ?_); rintro e wm ⟨he, rfl⟩; replace he : e = .returned (.int .i64 1) := he; subst he) | (go_at_call 29; (with_reducible refine (sstate_calls gs _ ws _ HNq.out.snd).mono ?_); rintro e wz ⟨he, rfl⟩; replace he : e = .returned (.int .i64 st2) := he; subst he))
                      go_roundg k1
                      case measure => omega
                      case rel => exact ⟨x + 1, nw, c, a, nx, st2, ak, tries, dl, rdl, XL, (by first | rfl | (rw [hxw])), (by first | rfl | assumption), (by first | rfl | assumption), ⟨by have h1 := HXX.out; have h2 := HLT.out; skip; have h4 := HXLL.out; omega⟩, HSIt, HGLt, HLSq, HNq0⟩
                    · have hsb : (st2 == 1) = false := beq_false_of_ne hs1
                      clear hs1
                      go_wp2_with (first | (go_at_call 36; (with_reducible refine (rmessage_calls w3.heap.size gr _ _ HNq.out.rcv).mono ?_); rintro e wm ⟨he, rfl⟩; rw [HMSG.out] at he; replace he : e = .returned (.tuple #[.string message, .bool true]) := he; subst he) | (go_at_call 38; (with_reducible refine (rstate_calls w3.heap.size gr _ _ HNq.out.rcv).mono ?_); rintro e wm ⟨he, rfl⟩; replace he : e = .returned (.int .i64 1) := he; subst he) | (go_at_call 29; (with_reducible refine (sstate_calls gs _ ws _ HNq.out.snd).mono ?_); rintro e wz ⟨he, rfl⟩; replace he : e = .returned (.int .i64 st2) := he; subst he))
                      go_roundg k1
                      case measure => omega
                      case rel => exact ⟨x + 1, nw, c, a, nx, st2, ak, tries, dl, rdl, XL, (by first | rfl | (rw [hxw])), (by first | rfl | assumption), (by first | rfl | assumption), ⟨by have h1 := HXX.out; have h2 := HLT.out; skip; have h4 := HXLL.out; omega⟩, HSIt, HGLt, HLSq, HNq0⟩
                  · have hsb : (st2 == 1) = false := beq_false_of_ne (fun e => hcn (by have h1 := HSIt.out.done e; have h2 := HSIt.out.ac; have h3 := HSIt.out.cn; omega))
                    rw [if_neg hcn] at HNq
                    have HMSG := Aside0.mk (show (if (cR 500 segs 0 c rdl).state = 1 then strOfNums (cR 500 segs 0 c rdl).msg else ⟨#[]⟩) = (⟨#[]⟩ : ByteArray) from rfl)
                    have HCN := Aside0.mk hcn
                    clear hcn
                    go_wp2_with (first | (go_at_call 36; (with_reducible refine (rmessage_calls w3.heap.size gr _ _ HNq.out.rcv).mono ?_); rintro e wm ⟨he, rfl⟩; rw [HMSG.out] at he; replace he : e = .returned (.tuple #[.string ⟨#[]⟩, .bool false]) := he; subst he) | (go_at_call 38; (with_reducible refine (rstate_calls w3.heap.size gr _ _ HNq.out.rcv).mono ?_); rintro e wm ⟨he, rfl⟩; replace he : e = .returned (.int .i64 0) := he; subst he) | (go_at_call 29; (with_reducible refine (sstate_calls gs _ ws _ HNq.out.snd).mono ?_); rintro e wz ⟨he, rfl⟩; replace he : e = .returned (.int .i64 st2) := he; subst he))
                    go_roundg k1
                    case measure => omega
                    case rel => exact ⟨x + 1, nw, c, a, nx, st2, ak, tries, dl, rdl, XL, (by first | rfl | (rw [hxw])), (by first | rfl | assumption), (by first | rfl | assumption), ⟨by have h1 := HXX.out; have h2 := HLT.out; skip; have h4 := HXLL.out; omega⟩, HSIt, HGLt, HLSq, HNq0⟩
                | succ k2 =>
                  have hlt2 : y < (XL.length : Int) := by have h1 := HYY.out; omega
                  have q1 : decide (y < (XL.length : Int)) = true := decide_eq_true hlt2
                  have hyw : wrap64 (y + 1) = y + 1 := by have h1 := HYY.out; have h2 := HXLL.out; have h3 := HXX.out; have h4 := HLM.out; unfold wrap64; omega
                  obtain ⟨Aq, cq, eq_, hcq, hCq⟩ := HLSq.out.slice
                  obtain ⟨rfl, rfl⟩ : At = Aq ∧ ct = cq := by injection eq_ with e1 e2 e3; exact ⟨e1, e3⟩
                  obtain ⟨adq, eaq, z0, z1, z2, z3, z4, z5⟩ := at_T23 hCq y HYY.out.1 hlt2
                  subst eaq
                  have hgd := HGLt.out _ (rd23_mem HYY.out.1 hlt2)
                  have u1 : (0 ≤ y) = True := eq_true HYY.out.1
                  have u2 : (y < (XL.length : Int)) = True := eq_true hlt2
                  generalize rd_T23 XL y = pq at z0 z1 z2 z3 z4 z5 hgd
                  by_cases hq1 : pq.f0 = 1
                  · have hqb : (pq.f0 == 1) = true := by rw [hq1]; rfl
                    have hqc : decide (ak + window < pq.f2) = false := decide_eq_false (good_num hgd hq1)
                    clear hq1 hgd hlt2 hcq hCq z1 z3 z4 z5
                    go_wp2
                    go_roundg k2
                    case measure => omega
                    case rel => exact ⟨y + 1, (by first | rfl | (rw [hyw])), ⟨by have h1 := HYY.out; omega⟩, HLSq, HNq⟩
                  · have hqb : (pq.f0 == 1) = false := beq_false_of_ne hq1
                    clear hq1 hgd hlt2 hcq hCq z1 z2 z3 z4 z5
                    go_wp2
                    go_roundg k2
                    case measure => omega
                    case rel => exact ⟨y + 1, (by first | rfl | (rw [hyw])), ⟨by have h1 := HYY.out; omega⟩, HLSq, HNq⟩
        by_cases r2 : m % 4 = 2
        · have g1 : (m.tmod 4 != 1) = true := by rw [ht, r2]; rfl
          have g1b : (m % 4 != 1) = true := by rw [r2]; rfl
          have g2 : (m.tmod 4 != 2) = false := by rw [ht, r2]; rfl
          have g2b : (m % 4 != 2) = false := by rw [r2]; rfl
          clear r1 r2 hr
          as_aux_lemma =>
            go_wp2
            have hbox := blk_new wr (.cells #[.int .i64 p.f0, .int .i64 p.f1, .int .i64 p.f2, .bool p.f3, .int .i64 p.f4, .string p.f5] 23)
            have hb := below_alloc (Below.refl wr.heap.size wr) (.cells #[.int .i64 p.f0, .int .i64 p.f1, .int .i64 p.f2, .bool p.f3, .int .i64 p.f4, .string p.f5] 23)
            have HN9 := Aside0.mk (HN.out.below hb)
            have HC9 := Aside0.mk (Kd.C_below HC8.out hb)
            have hgs := HN.out.sb.size
            have hsz : wr.heap.size + 1 ≤ (wr.alloc (.cells #[.int .i64 p.f0, .int .i64 p.f1, .int .i64 p.f2, .bool p.f3, .int .i64 p.f4, .string p.f5] 23)).heap.size := (by rw [alloc_size]; omega)
            clear hb
            generalize wr.heap.size = g at hbox hgs hsz ⊢
            generalize wr.alloc (.cells #[.int .i64 p.f0, .int .i64 p.f1, .int .i64 p.f2, .bool p.f3, .int .i64 p.f4, .string p.f5] 23) = w9 at hbox HN9 HC9 hsz ⊢
            have HP9 := Aside0.mk hbox
            clear hbox x0 x1 x2 x3 x4 x5
            have HNd := Aside0.mk (HN9.out.below (below_drew1 (Below.refl _ _)))
            have HCd := Aside0.mk (Kd.C_drew HC9.out)
            have HPd := Aside0.mk (blk_drew HP9.out)
            have hgd : g < w9.drew.heap.size := hsz
            have hgs2 : ws.heap.size ≤ w9.drew.heap.size := Nat.le_trans hgs (Nat.le_of_lt hgd)
            generalize hwd : w9.drew = wd at HNd HCd HPd hgd hgs2
            refine start_ (n := 11) (S := fun w' => True) (ds := []) #[Yn, Yn, Yn, Yn, Yn, Yn, Yn, Yn, Yn, Yn, Yn] (by kernel_rfl) rfl rfl trivial (fun hHeld => ?_)
            rw [hwd]
            refine pure_ (i := 1) (N := some 94) (v := ?_) (a' := ?_) #[Yn, Y, Yn, Yn, Yn, Yn, Yn, Yn, Yn, Yn, Yn] rfl rfl (by kernel_rfl) (fun _ _ _ h => h) (Or.inl ⟨by rfl, ?_⟩) ?_ ?_
            rotate_left
            · intro w'
              go_simp
              with_reducible rfl
            rotate_left
            · simp only [Act.put, List.setIfInBounds_toArray, List.set_cons_zero, List.set_cons_succ, i64_w, i32_w]
              rfl
            refine pure_ (i := 2) (N := some 95) (v := ?_) (a' := ?_) #[Yn, Y, Y, Yn, Yn, Yn, Yn, Yn, Yn, Yn, Yn] rfl rfl (by kernel_rfl) (fun _ _ _ h => h) (Or.inl ⟨by rfl, ?_⟩) ?_ ?_
            rotate_left
            · intro w'
              go_simp
              with_reducible rfl
            rotate_left
            · simp only [Act.put, List.setIfInBounds_toArray, List.set_cons_zero, List.set_cons_succ, i64_w, i32_w]
              rfl
            refine pure_ (i := 3) (N := some 96) (v := ?_) (a' := ?_) #[Yn, Y, Y, Y, Yn, Yn, Yn, Yn, Yn, Yn, Yn] rfl rfl (by kernel_rfl) (fun _ _ _ h => h) (Or.inl ⟨by rfl, ?_⟩) ?_ ?_
            rotate_left
            · intro w'
              go_simp
              with_reducible rfl
            rotate_left
            · simp only [Act.put, List.setIfInBounds_toArray, List.set_cons_zero, List.set_cons_succ, i64_w, i32_w]
              rfl
            refine pure_ (i := 5) (N := some 98) (v := ?_) (a' := ?_) #[Yn, Y, Y, Y, Yn, Y, Yn, Yn, Yn, Yn, Yn] rfl rfl (by kernel_rfl) (fun _ _ _ h => h) (Or.inl ⟨by rfl, ?_⟩) ?_ ?_
            rotate_left
            · intro w'
              go_simp
              with_reducible rfl
            rotate_left
            · simp only [Act.put, List.setIfInBounds_toArray, List.set_cons_zero, List.set_cons_succ, i64_w, i32_w]
              rfl
            refine pure_ (i := 6) (N := some 99) (v := ?_) (a' := ?_) #[Yn, Y, Y, Y, Yn, Y, Y, Yn, Yn, Yn, Yn] rfl rfl (by kernel_rfl) (fun _ _ _ h => h) (Or.inl ⟨by rfl, ?_⟩) ?_ ?_
            rotate_left
            · intro w'
              go_simp
              with_reducible rfl
            rotate_left
            · simp only [Act.put, List.setIfInBounds_toArray, List.set_cons_zero, List.set_cons_succ, i64_w, i32_w]
              rfl
            refine pure_ (i := 7) (N := some 100) (v := ?_) (a' := ?_) #[Yn, Y, Y, Y, Yn, Y, Y, Y, Yn, Yn, Yn] rfl rfl (by kernel_rfl) (fun _ _ _ h => h) (Or.inl ⟨by rfl, ?_⟩) ?_ ?_
            rotate_left
            · intro w'
              go_simp
              with_reducible rfl
            rotate_left
            · simp only [Act.put, List.setIfInBounds_toArray, List.set_cons_zero, List.set_cons_succ, i64_w, i32_w]
              rfl
            refine pure_ (i := 8) (N := some 101) (v := ?_) (a' := ?_) #[Yn, Y, Y, Y, Yn, Y, Y, Y, Y, Yn, Yn] rfl rfl (by kernel_rfl) (fun _ _ _ h => h) (Or.inl ⟨by rfl, ?_⟩) ?_ ?_
            rotate_left
            · intro w'
              go_simp
              with_reducible rfl
            rotate_left
            · simp only [Act.put, List.setIfInBounds_toArray, List.set_cons_zero, List.set_cons_succ, i64_w, i32_w]
              rfl
            refine one_ (i := 0) (N := some 93) #[Y, Y, Y, Y, Yn, Y, Y, Y, Y, Yn, Yn] rfl rfl (by kernel_rfl) (by decide) (fun K hK => ?_)
            refine value_ (w1 := ?_) (v := ?_) (by rfl) rfl ?_ ?_
            rotate_left 2
            · go_simp
              constructor
              · rfl
              · rfl
            have HNe := Aside0.mk (HNd.out.below (below_alloc (Below.refl _ _) (.cells #[] 23)))
            have HCe := Aside0.mk (Kd.C_alloc HCd.out (.cells #[] 23))
            have HPe := Aside0.mk (blk_below HPd.out (below_alloc (Below.refl _ _) (.cells #[] 23)))
            have HOe := Aside0.mk (own_empty wd.heap.size wd (Nat.le_refl _))
            have hse : wd.heap.size ≤ (wd.alloc (.cells #[] 23)).heap.size := (by rw [alloc_size]; omega)
            have we_low : ∀ k, k < wd.heap.size → (wd.alloc (.cells #[] 23)).heap[k]? = wd.heap[k]? := fun k hk => (below_alloc (Below.refl wd.heap.size wd) (.cells #[] 23)).block k hk
            generalize wd.alloc (.cells #[] 23) = we at HNe HCe HPe HOe hse we_low ⊢
            refine hK.out _ _ trivial (fun hHeld => ?_)
            clear hK K
            refine norm_ (a' := ?_) ?_ ?_
            rotate_left
            · show Act.put _ (some 93) _ = _
              simp only [Act.put, List.setIfInBounds_toArray, List.set_cons_zero, List.set_cons_succ, i64_w, i32_w]
              rfl
            refine one_ (i := 4) (N := some 97) #[Y, Y, Y, Y, Y, Y, Y, Y, Y, Yn, Yn] rfl rfl (by kernel_rfl) (by decide) (fun K hK => ?_)
            refine step_own_append (by rfl) (.tmp 93) (.tmp 96) rfl wd.heap.size _ (some ad) L1.length c8 [] L1 rfl rfl HOe.out (HD1.out _ HCe.out) hse (by have h1 := HXX.out; have h2 := HLT.out; have h3 := HLL.out; simp only [List.length_nil]; omega) ?_
            intro vf wf ho hg
            have HOf := Aside0.mk (show Own wd.heap.size wf vf L1 from ho)
            have HNf := Aside0.mk (HNe.out.gr (hg.mono hgs2))
            have HPf := Aside0.mk ((hg.low g hgd (blk_lt HPe.out)).trans HPe.out)
            have HCf := Aside0.mk (C_low HCd.out (fun k hk => (hg.low k hk (Nat.lt_of_lt_of_le hk hse)).trans ((we_low k hk))))
            clear ho
            have hsf := Nat.le_trans hse hg.size
            refine hK.out _ _ trivial (fun hHeld => ?_)
            clear hK K
            refine norm_ (a' := ?_) ?_ ?_
            rotate_left
            · show Act.put _ (some 97) _ = _
              simp only [Act.put, List.setIfInBounds_toArray, List.set_cons_zero, List.set_cons_succ, i64_w, i32_w]
              rfl
            refine one_ (i := 9) (N := some 102) #[Y, Y, Y, Y, Y, Y, Y, Y, Y, Y, Yn] rfl rfl (by kernel_rfl) (by decide) (fun K hK => ?_)
            refine step_own_append (by rfl) (.tmp 97) (.tmp 101) rfl wd.heap.size _ A9 L2.length c9 L1 L2 rfl rfl HOf.out (HD2.out _ HCf.out) hsf (by have h1 := HXX.out; have h2 := HLT.out; have h3 := HLL.out; omega) ?_
            intro vg wg ho hg2
            have HOg := Aside0.mk (show Own ws.heap.size wg vg (L1 ++ L2) from Kd.R_lower ho hgs2)
            have HNg := Aside0.mk (HNf.out.gr (hg2.mono hgs2))
            have HPg := Aside0.mk ((hg2.low g hgd (blk_lt HPf.out)).trans HPf.out)
            clear ho hg2
            refine hK.out _ _ trivial (fun hHeld => ?_)
            clear hK K
            refine norm_ (a' := ?_) ?_ ?_
            rotate_left
            · show Act.put _ (some 102) _ = _
              simp only [Act.put, List.setIfInBounds_toArray, List.set_cons_zero, List.set_cons_succ, i64_w, i32_w]
              rfl
            refine pure_ (i := 10) (N := some 10) (v := ?_) (a' := ?_) #[Y, Y, Y, Y, Y, Y, Y, Y, Y, Y, Y] rfl rfl (by kernel_rfl) (fun _ _ _ h => h) (Or.inl ⟨by rfl, ?_⟩) ?_ ?_
            rotate_left
            · intro w'
              go_simp
              with_reducible rfl
            rotate_left
            · simp only [Act.put, List.setIfInBounds_toArray, List.set_cons_zero, List.set_cons_succ, i64_w, i32_w]
              rfl
            refine done_ (by kernel_rfl) ?_
            clear hHeld
            have y0 := (blk_cell HPg.out 0).trans rfl
            have y1 := (blk_cell HPg.out 1).trans rfl
            have y2 := (blk_cell HPg.out 2).trans rfl
            have y3 := (blk_cell HPg.out 3).trans rfl
            have y4 := (blk_cell HPg.out 4).trans rfl
            have y5 := (blk_cell HPg.out 5).trans rfl
            have HLg := Aside0.mk (show Lst ws.heap.size wg vg (L1 ++ L2) from Or.inl HOg.out)
            go_wp2
            obtain ⟨At, ct, et, hct, hCt⟩ := HLg.out.slice
            subst et
            clear hct hCt
            obtain ⟨XL, HXL⟩ : ∃ XL, Aside0 (L1 ++ L2 = XL) := ⟨_, ⟨rfl⟩⟩
            have HLSt := Aside0.mk HLg.out
            have HGLt := Aside0.mk HGC.out
            rw [HXL.out] at HLSt HGLt ⊢
            have HXLL := Aside0.mk (show (XL.length : Int) ≤ 64 + 64 * (x + 1) by rw [← HXL.out]; have h1 := HXX.out; have h6 := HLL.out; rw [List.length_append]; push_cast; omega)
            have HNt := HNg
            have HSIt := HSI
            go_loopg [20] XL.length (fun kq v20 wq => ∃ (y : Int), v20 = .int .i64 y ∧ Aside0 (0 ≤ y ∧ y + (kq : Int) = (XL.length : Int)) ∧ Aside0 (Lst ws.heap.size wq (.slice At XL.length ct) XL) ∧ Aside0 (Net w ws w3.heap.size gs gr (cS window 10 segs st a nx tries dl) (cR 500 segs (if c = segs.length then 1 else 0) c rdl) wq))
            case atStart => exact ⟨0, rfl, ⟨by omega⟩, HLSt, HNt⟩
            case round =>
              obtain ⟨y, rfl, HYY, HLSq, HNq⟩ := hrel
              have HNq0 := HNq
              have hakw : wrap64 (ak + window) = ak + window := by have h1 := HSIt.out.ak1; have h2 := HSIt.out.akc; have h3 := HSIt.out.cn; have h4 := HSIt.out.n64; have h5 := HW.out; unfold wrap64; omega
              cases gk with
              | zero =>
                have q1 : decide (y < (XL.length : Int)) = false := decide_eq_false (by have h1 := HYY.out; omega)
                by_cases hcn : c = segs.length
                · rw [if_pos hcn] at HNq
                  have HMSG := Aside0.mk (show (if (cR 500 segs 1 c rdl).state = 1 then strOfNums (cR 500 segs 1 c rdl).msg else ⟨#[]⟩) = message by show (if (1 : Int) = 1 then strOfNums (cat segs c) else ⟨#[]⟩) = message; rw [if_pos rfl, hcn, HSZ.out.2.2]; exact cat_all message sz HSZ.out.2.1)
                  have HCN := Aside0.mk hcn
                  have hmt : (message.toList == message.toList) = true := beq_self_eq_true _
                  clear hcn
                  by_cases hs1 : st = 1
                  · have hsb : (st == 1) = true := by rw [hs1]; rfl
                    clear hs1
                    go_wp2_with (first | (go_at_call 36; (with_reducible refine (rmessage_calls w3.heap.size gr _ _ HNq.out.rcv).mono ?_); rintro e wm ⟨he, rfl⟩; rw [HMSG.out] at he; replace he : e = .returned (.tuple #[.string message, .bool true]) := he; subst he) | (go_at_call 38; (with_reducible refine (rstate_calls w3.heap.size gr _ _ HNq.out.rcv).mono ?_); rintro e wm ⟨he, rfl⟩; replace he : e = .returned (.int .i64 1) := he; subst he) | (go_at_call 29; (with_reducible refine (sstate_calls gs _ ws _ HNq.out.snd).mono ?_); rintro e wz ⟨he, rfl⟩; replace he : e = .returned (.int .i64 st) := he; subst he))
                    go_roundg k1
                    case measure => omega
                    case rel => exact ⟨x + 1, nw, c, a, nx, st, ak, tries, dl, rdl, XL, (by first | rfl | (rw [hxw])), (by first | rfl | assumption), (by first | rfl | assumption), ⟨by have h1 := HXX.out; have h2 := HLT.out; skip; have h4 := HXLL.out; omega⟩, HSIt, HGLt, HLSq, HNq0⟩
                  · have hsb : (st == 1) = false := beq_false_of_ne hs1
                    clear hs1
                    go_wp2_with (first | (go_at_call 36; (with_reducible refine (rmessage_calls w3.heap.size gr _ _ HNq.out.rcv).mono ?_); rintro e wm ⟨he, rfl⟩; rw [HMSG.out] at he; replace he : e = .returned (.tuple #[.string message, .bool true]) := he; subst he) | (go_at_call 38; (with_reducible refine (rstate_calls w3.heap.size gr _ _ HNq.out.rcv).mono ?_); rintro e wm ⟨he, rfl⟩; replace he : e = .returned (.int .i64 1) := he; subst he) | (go_at_call 29; (with_reducible refine (sstate_calls gs _ ws _ HNq.out.snd).mono ?_); rintro e wz ⟨he, rfl⟩; replace he : e = .returned (.int .i64 st) := he; subst he))
                    go_roundg k1
                    case measure => omega
                    case rel => exact ⟨x + 1, nw, c, a, nx, st, ak, tries, dl, rdl, XL, (by first | rfl | (rw [hxw])), (by first | rfl | assumption), (by first | rfl | assumption), ⟨by have h1 := HXX.out; have h2 := HLT.out; skip; have h4 := HXLL.out; omega⟩, HSIt, HGLt, HLSq, HNq0⟩
                · have hsb : (st == 1) = false := beq_false_of_ne (fun e => hcn (by have h1 := HSIt.out.done e; have h2 := HSIt.out.ac; have h3 := HSIt.out.cn; omega))
                  rw [if_neg hcn] at HNq
                  have HMSG := Aside0.mk (show (if (cR 500 segs 0 c rdl).state = 1 then strOfNums (cR 500 segs 0 c rdl).msg else ⟨#[]⟩) = (⟨#[]⟩ : ByteArray) from rfl)
                  have HCN := Aside0.mk hcn
                  clear hcn
                  go_wp2_with (first | (go_at_call 36; (with_reducible refine (rmessage_calls w3.heap.size gr _ _ HNq.out.rcv).mono ?_); rintro e wm ⟨he, rfl⟩; rw [HMSG.out] at he; replace he : e = .returned (.tuple #[.string ⟨#[]⟩, .bool false]) := he; subst he) | (go_at_call 38; (with_reducible refine (rstate_calls w3.heap.size gr _ _ HNq.out.rcv).mono ?_); rintro e wm ⟨he, rfl⟩; replace he : e = .returned (.int .i64 0) := he; subst he) | (go_at_call 29; (with_reducible refine (sstate_calls gs _ ws _ HNq.out.snd).mono ?_); rintro e wz ⟨he, rfl⟩; replace he : e = .returned (.int .i64 st) := he; subst he))
                  go_roundg k1
                  case measure => omega
                  case rel => exact ⟨x + 1, nw, c, a, nx, st, ak, tries, dl, rdl, XL, (by first | rfl | (rw [hxw])), (by first | rfl | assumption), (by first | rfl | assumption), ⟨by have h1 := HXX.out; have h2 := HLT.out; skip; have h4 := HXLL.out; omega⟩, HSIt, HGLt, HLSq, HNq0⟩
              | succ k2 =>
                have hlt2 : y < (XL.length : Int) := by have h1 := HYY.out; omega
                have q1 : decide (y < (XL.length : Int)) = true := decide_eq_true hlt2
                have hyw : wrap64 (y + 1) = y + 1 := by have h1 := HYY.out; have h2 := HXLL.out; have h3 := HXX.out; have h4 := HLM.out; unfold wrap64; omega
                obtain ⟨Aq, cq, eq_, hcq, hCq⟩ := HLSq.out.slice
                obtain ⟨rfl, rfl⟩ : At = Aq ∧ ct = cq := by injection eq_ with e1 e2 e3; exact ⟨e1, e3⟩
                obtain ⟨adq, eaq, z0, z1, z2, z3, z4, z5⟩ := at_T23 hCq y HYY.out.1 hlt2
                subst eaq
                have hgd := HGLt.out _ (rd23_mem HYY.out.1 hlt2)
                have u1 : (0 ≤ y) = True := eq_true HYY.out.1
                have u2 : (y < (XL.length : Int)) = True := eq_true hlt2
                generalize rd_T23 XL y = pq at z0 z1 z2 z3 z4 z5 hgd
                by_cases hq1 : pq.f0 = 1
                · have hqb : (pq.f0 == 1) = true := by rw [hq1]; rfl
                  have hqc : decide (ak + window < pq.f2) = false := decide_eq_false (good_num hgd hq1)
                  clear hq1 hgd hlt2 hcq hCq z1 z3 z4 z5
                  go_wp2
                  go_roundg k2
                  case measure => omega
                  case rel => exact ⟨y + 1, (by first | rfl | (rw [hyw])), ⟨by have h1 := HYY.out; omega⟩, HLSq, HNq⟩
                · have hqb : (pq.f0 == 1) = false := beq_false_of_ne hq1
                  clear hq1 hgd hlt2 hcq hCq z1 z2 z3 z4 z5
                  go_wp2
                  go_roundg k2
                  case measure => omega
                  case rel => exact ⟨y + 1, (by first | rfl | (rw [hyw])), ⟨by have h1 := HYY.out; omega⟩, HLSq, HNq⟩
        have g1 : (m.tmod 4 != 1) = true := by rw [ht]; exact bne_iff_ne.mpr r1
        have g1b : (m % 4 != 1) = true := bne_iff_ne.mpr r1
        have g2 : (m.tmod 4 != 2) = true := by rw [ht]; exact bne_iff_ne.mpr r2
        have g2b : (m % 4 != 2) = true := bne_iff_ne.mpr r2
        clear r1 r2 hr
        have HGB := HGC
        rcases HGD.out with ⟨i, hi, hp, _⟩ | ⟨JJ, hj0, hj1, hp⟩ | hp
        · as_aux_lemma =>
            obtain ⟨mo, HMO⟩ : ∃ mo, Aside0 (decide ((i : Int) < wrap64 ((segs.length : Int) - 1)) = mo) := ⟨_, ⟨rfl⟩⟩
            obtain ⟨es, HES⟩ : ∃ es, Aside0 (rdOf ByteArray.empty segs (i : Int) = es) := ⟨_, ⟨rfl⟩⟩
            obtain ⟨II, HII⟩ : ∃ II : Int, Aside0 ((i : Int) = II) := ⟨_, ⟨rfl⟩⟩
            obtain ⟨ys, c2, rd2, hhd, hsi2, hgl2, hyl, hcc, hrd2⟩ := HSI.out.data (rd := rdl) hi nw (by have h1 := HXX.out; omega) (by have h1 := HXX.out; have h2 := HLT.out; omega) (by have h1 := HXX.out; omega)
            rw [HMO.out, HES.out, HII.out] at hhd
            have HML := Aside0.mk (show (cR 500 segs (if c = segs.length then 1 else 0) c rdl).msg.length + es.size ≤ 140737488355328 by rw [← HES.out]; show (cat segs c).length + _ ≤ _; have h1 := HSI.out.cn; rw [HSZ.out.2.2] at h1 hi ⊢; have h2 := cat_len message sz c HSZ.out.2.1 (by unfold segsOf at h1; rw [pieces_len] at h1; exact h1); have h3 := seg_len message sz i HSZ.out.2.1 (by unfold segsOf at hi; rw [pieces_len] at hi; exact hi); have h4 := HMS.out; omega)
            have HSI2 := Aside0.mk hsi2
            have HYL := Aside0.mk hyl
            have HRD2 := Aside0.mk hrd2
            have HGL2 := Aside0.mk (show GoodL window segs c2 ak ((L1 ++ L2) ++ ys) from (HGB.out.mono hcc (Int.le_refl _)).app hgl2)
            have HH := Aside0.mk hhd
            have hk1 : ((1 : Int) == 1) = true := rfl
            clear hhd hsi2 hgl2 hyl hcc hrd2 hi
            subst hp
            replace x0 : wr.cell? (ad.add (kk.toNat * 6)) = some (.int .i64 1) := by exact x0
            replace x1 : wr.cell? ⟨(ad.add (kk.toNat * 6)).block, (ad.add (kk.toNat * 6)).off + 1, none⟩ = some (.int .i64 7) := by exact x1
            replace x2 : wr.cell? ⟨(ad.add (kk.toNat * 6)).block, (ad.add (kk.toNat * 6)).off + 2, none⟩ = some (.int .i64 II) := by rw [← HII.out]; exact x2
            replace x3 : wr.cell? ⟨(ad.add (kk.toNat * 6)).block, (ad.add (kk.toNat * 6)).off + 3, none⟩ = some (.bool mo) := by rw [← HMO.out]; exact x3
            replace x4 : wr.cell? ⟨(ad.add (kk.toNat * 6)).block, (ad.add (kk.toNat * 6)).off + 4, none⟩ = some (.int .i64 window) := by exact x4
            replace x5 : wr.cell? ⟨(ad.add (kk.toNat * 6)).block, (ad.add (kk.toNat * 6)).off + 5, none⟩ = some (.string es) := by rw [← HES.out]; exact x5
            go_wp2
            have hbox := blk_new wr (.cells #[.int .i64 1, .int .i64 7, .int .i64 II, .bool mo, .int .i64 window, .string es] 23)
            have hb := below_alloc (Below.refl wr.heap.size wr) (.cells #[.int .i64 1, .int .i64 7, .int .i64 II, .bool mo, .int .i64 window, .string es] 23)
            have HN9 := Aside0.mk (HN.out.below hb)
            have HC9 := Aside0.mk (Kd.C_below HC8.out hb)
            have hgs := HN.out.sb.size
            have hsz : wr.heap.size + 1 ≤ (wr.alloc (.cells #[.int .i64 1, .int .i64 7, .int .i64 II, .bool mo, .int .i64 window, .string es] 23)).heap.size := (by rw [alloc_size]; omega)
            clear hb
            generalize wr.heap.size = g at hbox hgs hsz ⊢
            generalize wr.alloc (.cells #[.int .i64 1, .int .i64 7, .int .i64 II, .bool mo, .int .i64 window, .string es] 23) = w9 at hbox HN9 HC9 hsz ⊢
            have HP9 := Aside0.mk hbox
            clear hbox x0 x1 x2 x3 x4 x5
            have HNd := Aside0.mk (HN9.out.below (below_drew1 (Below.refl _ _)))
            have HCd := Aside0.mk (Kd.C_drew HC9.out)
            have HPd := Aside0.mk (blk_drew HP9.out)
            have hgd : g < w9.drew.heap.size := hsz
            have hgs2 : ws.heap.size ≤ w9.drew.heap.size := Nat.le_trans hgs (Nat.le_of_lt hgd)
            generalize hwd : w9.drew = wd at HNd HCd HPd hgd hgs2
            refine start_ (n := 11) (S := fun w' => True) (ds := []) #[Yn, Yn, Yn, Yn, Yn, Yn, Yn, Yn, Yn, Yn, Yn] (by kernel_rfl) rfl rfl trivial (fun hHeld => ?_)
            rw [hwd]
            refine pure_ (i := 1) (N := some 94) (v := ?_) (a' := ?_) #[Yn, Y, Yn, Yn, Yn, Yn, Yn, Yn, Yn, Yn, Yn] rfl rfl (by kernel_rfl) (fun _ _ _ h => h) (Or.inl ⟨by rfl, ?_⟩) ?_ ?_
            rotate_left
            · intro w'
              go_simp
              with_reducible rfl
            rotate_left
            · simp only [Act.put, List.setIfInBounds_toArray, List.set_cons_zero, List.set_cons_succ, i64_w, i32_w]
              rfl
            refine pure_ (i := 2) (N := some 95) (v := ?_) (a' := ?_) #[Yn, Y, Y, Yn, Yn, Yn, Yn, Yn, Yn, Yn, Yn] rfl rfl (by kernel_rfl) (fun _ _ _ h => h) (Or.inl ⟨by rfl, ?_⟩) ?_ ?_
            rotate_left
            · intro w'
              go_simp
              with_reducible rfl
            rotate_left
            · simp only [Act.put, List.setIfInBounds_toArray, List.set_cons_zero, List.set_cons_succ, i64_w, i32_w]
              rfl
            refine pure_ (i := 3) (N := some 96) (v := ?_) (a' := ?_) #[Yn, Y, Y, Y, Yn, Yn, Yn, Yn, Yn, Yn, Yn] rfl rfl (by kernel_rfl) (fun _ _ _ h => h) (Or.inl ⟨by rfl, ?_⟩) ?_ ?_
            rotate_left
            · intro w'
              go_simp
              with_reducible rfl
            rotate_left
            · simp only [Act.put, List.setIfInBounds_toArray, List.set_cons_zero, List.set_cons_succ, i64_w, i32_w]
              rfl
            refine pure_ (i := 5) (N := some 98) (v := ?_) (a' := ?_) #[Yn, Y, Y, Y, Yn, Y, Yn, Yn, Yn, Yn, Yn] rfl rfl (by kernel_rfl) (fun _ _ _ h => h) (Or.inl ⟨by rfl, ?_⟩) ?_ ?_
            rotate_left
            · intro w'
              go_simp
              with_reducible rfl
            rotate_left
            · simp only [Act.put, List.setIfInBounds_toArray, List.set_cons_zero, List.set_cons_succ, i64_w, i32_w]
              rfl
            refine pure_ (i := 6) (N := some 99) (v := ?_) (a' := ?_) #[Yn, Y, Y, Y, Yn, Y, Y, Yn, Yn, Yn, Yn] rfl rfl (by kernel_rfl) (fun _ _ _ h => h) (Or.inl ⟨by rfl, ?_⟩) ?_ ?_
            rotate_left
            · intro w'
              go_simp
              with_reducible rfl
            rotate_left
            · simp only [Act.put, List.setIfInBounds_toArray, List.set_cons_zero, List.set_cons_succ, i64_w, i32_w]
              rfl
            refine pure_ (i := 7) (N := some 100) (v := ?_) (a' := ?_) #[Yn, Y, Y, Y, Yn, Y, Y, Y, Yn, Yn, Yn] rfl rfl (by kernel_rfl) (fun _ _ _ h => h) (Or.inl ⟨by rfl, ?_⟩) ?_ ?_
            rotate_left
            · intro w'
              go_simp
              with_reducible rfl
            rotate_left
            · simp only [Act.put, List.setIfInBounds_toArray, List.set_cons_zero, List.set_cons_succ, i64_w, i32_w]
              rfl
            refine pure_ (i := 8) (N := some 101) (v := ?_) (a' := ?_) #[Yn, Y, Y, Y, Yn, Y, Y, Y, Y, Yn, Yn] rfl rfl (by kernel_rfl) (fun _ _ _ h => h) (Or.inl ⟨by rfl, ?_⟩) ?_ ?_
            rotate_left
            · intro w'
              go_simp
              with_reducible rfl
            rotate_left
            · simp only [Act.put, List.setIfInBounds_toArray, List.set_cons_zero, List.set_cons_succ, i64_w, i32_w]
              rfl
            refine one_ (i := 0) (N := some 93) #[Y, Y, Y, Y, Yn, Y, Y, Y, Y, Yn, Yn] rfl rfl (by kernel_rfl) (by decide) (fun K hK => ?_)
            refine value_ (w1 := ?_) (v := ?_) (by rfl) rfl ?_ ?_
            rotate_left 2
            · go_simp
              constructor
              · rfl
              · rfl
            have HNe := Aside0.mk (HNd.out.below (below_alloc (Below.refl _ _) (.cells #[] 23)))
            have HCe := Aside0.mk (Kd.C_alloc HCd.out (.cells #[] 23))
            have HPe := Aside0.mk (blk_below HPd.out (below_alloc (Below.refl _ _) (.cells #[] 23)))
            have HOe := Aside0.mk (own_empty wd.heap.size wd (Nat.le_refl _))
            have hse : wd.heap.size ≤ (wd.alloc (.cells #[] 23)).heap.size := (by rw [alloc_size]; omega)
            have we_low : ∀ k, k < wd.heap.size → (wd.alloc (.cells #[] 23)).heap[k]? = wd.heap[k]? := fun k hk => (below_alloc (Below.refl wd.heap.size wd) (.cells #[] 23)).block k hk
            generalize wd.alloc (.cells #[] 23) = we at HNe HCe HPe HOe hse we_low ⊢
            refine hK.out _ _ trivial (fun hHeld => ?_)
            clear hK K
            refine norm_ (a' := ?_) ?_ ?_
            rotate_left
            · show Act.put _ (some 93) _ = _
              simp only [Act.put, List.setIfInBounds_toArray, List.set_cons_zero, List.set_cons_succ, i64_w, i32_w]
              rfl
            refine one_ (i := 4) (N := some 97) #[Y, Y, Y, Y, Y, Y, Y, Y, Y, Yn, Yn] rfl rfl (by kernel_rfl) (by decide) (fun K hK => ?_)
            refine step_own_append (by rfl) (.tmp 93) (.tmp 96) rfl wd.heap.size _ (some ad) L1.length c8 [] L1 rfl rfl HOe.out (HD1.out _ HCe.out) hse (by have h1 := HXX.out; have h2 := HLT.out; have h3 := HLL.out; simp only [List.length_nil]; omega) ?_
            intro vf wf ho hg
            have HOf := Aside0.mk (show Own wd.heap.size wf vf L1 from ho)
            have HNf := Aside0.mk (HNe.out.gr (hg.mono hgs2))
            have HPf := Aside0.mk ((hg.low g hgd (blk_lt HPe.out)).trans HPe.out)
            have HCf := Aside0.mk (C_low HCd.out (fun k hk => (hg.low k hk (Nat.lt_of_lt_of_le hk hse)).trans ((we_low k hk))))
            clear ho
            have hsf := Nat.le_trans hse hg.size
            refine hK.out _ _ trivial (fun hHeld => ?_)
            clear hK K
            refine norm_ (a' := ?_) ?_ ?_
            rotate_left
            · show Act.put _ (some 97) _ = _
              simp only [Act.put, List.setIfInBounds_toArray, List.set_cons_zero, List.set_cons_succ, i64_w, i32_w]
              rfl
            refine one_ (i := 9) (N := some 102) #[Y, Y, Y, Y, Y, Y, Y, Y, Y, Y, Yn] rfl rfl (by kernel_rfl) (by decide) (fun K hK => ?_)
            refine step_own_append (by rfl) (.tmp 97) (.tmp 101) rfl wd.heap.size _ A9 L2.length c9 L1 L2 rfl rfl HOf.out (HD2.out _ HCf.out) hsf (by have h1 := HXX.out; have h2 := HLT.out; have h3 := HLL.out; omega) ?_
            intro vg wg ho hg2
            have HOg := Aside0.mk (show Own ws.heap.size wg vg (L1 ++ L2) from Kd.R_lower ho hgs2)
            have HNg := Aside0.mk (HNf.out.gr (hg2.mono hgs2))
            have HPg := Aside0.mk ((hg2.low g hgd (blk_lt HPf.out)).trans HPf.out)
            clear ho hg2
            refine hK.out _ _ trivial (fun hHeld => ?_)
            clear hK K
            refine norm_ (a' := ?_) ?_ ?_
            rotate_left
            · show Act.put _ (some 102) _ = _
              simp only [Act.put, List.setIfInBounds_toArray, List.set_cons_zero, List.set_cons_succ, i64_w, i32_w]
              rfl
            refine pure_ (i := 10) (N := some 10) (v := ?_) (a' := ?_) #[Y, Y, Y, Y, Y, Y, Y, Y, Y, Y, Y] rfl rfl (by kernel_rfl) (fun _ _ _ h => h) (Or.inl ⟨by rfl, ?_⟩) ?_ ?_
            rotate_left
            · intro w'
              go_simp
              with_reducible rfl
            rotate_left
            · simp only [Act.put, List.setIfInBounds_toArray, List.set_cons_zero, List.set_cons_succ, i64_w, i32_w]
              rfl
            refine done_ (by kernel_rfl) ?_
            clear hHeld
            have y0 := (blk_cell HPg.out 0).trans rfl
            have y1 := (blk_cell HPg.out 1).trans rfl
            have y2 := (blk_cell HPg.out 2).trans rfl
            have y3 := (blk_cell HPg.out 3).trans rfl
            have y4 := (blk_cell HPg.out 4).trans rfl
            have y5 := (blk_cell HPg.out 5).trans rfl
            have HLg := Aside0.mk (show Lst ws.heap.size wg vg (L1 ++ L2) from Or.inl HOg.out)
            go_wp2_with (first | (go_at_call 34; (with_reducible refine (Net.rhandle HNg.out 1 7 II mo window es nw ys _ HH.out HML.out).mono ?_); rintro e w11 ⟨A11, he, hC11, hn11, hk11⟩; subst he; have HN11 := Aside0.mk hn11; have HC11 := Aside0.mk hC11; have HL11 := Aside0.mk (Lst.keep HLg.out hk11.k23); clear hn11 hC11 hk11) | ((with_reducible refine gate_builtin (b := .append) (xs := #[.tmp 109, .tmp 113]) rfl ?_); at_builtin; refine wpList_lst_append rfl (.tmp 109) (.tmp 113) rfl ws.heap.size _ A11 ys.length ys.length (L1 ++ L2) (ys) rfl rfl HL11.out HC11.out HN11.out.sb.size (by have h1 := HXX.out; have h2 := HLT.out; have h3 := HLL.out; have h4 := HYL.out; first | (rw [List.length_append]; omega) | omega) ?_; intro v12 w12 ho hg; have HL12 := Aside0.mk ho; have HN12 := Aside0.mk (HN11.out.gr hg); clear ho hg))
            obtain ⟨At, ct, et, hct, hCt⟩ := HL12.out.slice
            subst et
            clear hct hCt
            obtain ⟨XL, HXL⟩ : ∃ XL, Aside0 ((L1 ++ L2) ++ ys = XL) := ⟨_, ⟨rfl⟩⟩
            have HLSt := Aside0.mk HL12.out
            have HGLt := Aside0.mk HGL2.out
            rw [HXL.out] at HLSt HGLt ⊢
            have HXLL := Aside0.mk (show (XL.length : Int) ≤ 64 + 64 * (x + 1) by rw [← HXL.out]; have h1 := HXX.out; have h5 := HYL.out; have h6 := HLL.out; rw [List.length_append]; (try rw [List.length_append]); push_cast; omega)
            have HNt := HN12
            have HSIt := HSI2
            go_loopg [20] XL.length (fun kq v20 wq => ∃ (y : Int), v20 = .int .i64 y ∧ Aside0 (0 ≤ y ∧ y + (kq : Int) = (XL.length : Int)) ∧ Aside0 (Lst ws.heap.size wq (.slice At XL.length ct) XL) ∧ Aside0 (Net w ws w3.heap.size gs gr (cS window 10 segs st a nx tries dl) (cR 500 segs (if c2 = segs.length then 1 else 0) c2 rd2) wq))
            case atStart => exact ⟨0, rfl, ⟨by omega⟩, HLSt, HNt⟩
            case round =>
              obtain ⟨y, rfl, HYY, HLSq, HNq⟩ := hrel
              have HNq0 := HNq
              have hakw : wrap64 (ak + window) = ak + window := by have h1 := HSIt.out.ak1; have h2 := HSIt.out.akc; have h3 := HSIt.out.cn; have h4 := HSIt.out.n64; have h5 := HW.out; unfold wrap64; omega
              cases gk with
              | zero =>
                have q1 : decide (y < (XL.length : Int)) = false := decide_eq_false (by have h1 := HYY.out; omega)
                by_cases hcn : c2 = segs.length
                · rw [if_pos hcn] at HNq
                  have HMSG := Aside0.mk (show (if (cR 500 segs 1 c2 rd2).state = 1 then strOfNums (cR 500 segs 1 c2 rd2).msg else ⟨#[]⟩) = message by show (if (1 : Int) = 1 then strOfNums (cat segs c2) else ⟨#[]⟩) = message; rw [if_pos rfl, hcn, HSZ.out.2.2]; exact cat_all message sz HSZ.out.2.1)
                  have HCN := Aside0.mk hcn
                  have hmt : (message.toList == message.toList) = true := beq_self_eq_true _
                  clear hcn
                  by_cases hs1 : st = 1
                  · have hsb : (st == 1) = true := by rw [hs1]; rfl
                    clear hs1
                    go_wp2_with (first | (go_at_call 36; (with_reducible refine (rmessage_calls w3.heap.size gr _ _ HNq.out.rcv).mono ?_); rintro e wm ⟨he, rfl⟩; rw [HMSG.out] at he; replace he : e = .returned (.tuple #[.string message, .bool true]) := he; subst he) | (go_at_call 38; (with_reducible refine (rstate_calls w3.heap.size gr _ _ HNq.out.rcv).mono ?_); rintro e wm ⟨he, rfl⟩; replace he : e = .returned (.int .i64 1) := he; subst he) | (go_at_call 29; (with_reducible refine (sstate_calls gs _ ws _ HNq.out.snd).mono ?_); rintro e wz ⟨he, rfl⟩; replace he : e = .returned (.int .i64 st) := he; subst he))
                    go_roundg k1
                    case measure => omega
                    case rel => exact ⟨x + 1, nw, c2, a, nx, st, ak, tries, dl, rd2, XL, (by first | rfl | (rw [hxw])), (by first | rfl | assumption), (by first | rfl | assumption), ⟨by have h1 := HXX.out; have h2 := HLT.out; have h6 := HRD2.out; have h4 := HXLL.out; omega⟩, HSIt, HGLt, HLSq, HNq0⟩
                  · have hsb : (st == 1) = false := beq_false_of_ne hs1
                    clear hs1
                    go_wp2_with (first | (go_at_call 36; (with_reducible refine (rmessage_calls w3.heap.size gr _ _ HNq.out.rcv).mono ?_); rintro e wm ⟨he, rfl⟩; rw [HMSG.out] at he; replace he : e = .returned (.tuple #[.string message, .bool true]) := he; subst he) | (go_at_call 38; (with_reducible refine (rstate_calls w3.heap.size gr _ _ HNq.out.rcv).mono ?_); rintro e wm ⟨he, rfl⟩; replace he : e = .returned (.int .i64 1) := he; subst he) | (go_at_call 29; (with_reducible refine (sstate_calls gs _ ws _ HNq.out.snd).mono ?_); rintro e wz ⟨he, rfl⟩; replace he : e = .returned (.int .i64 st) := he; subst he))
                    go_roundg k1
                    case measure => omega
                    case rel => exact ⟨x + 1, nw, c2, a, nx, st, ak, tries, dl, rd2, XL, (by first | rfl | (rw [hxw])), (by first | rfl | assumption), (by first | rfl | assumption), ⟨by have h1 := HXX.out; have h2 := HLT.out; have h6 := HRD2.out; have h4 := HXLL.out; omega⟩, HSIt, HGLt, HLSq, HNq0⟩
                · have hsb : (st == 1) = false := beq_false_of_ne (fun e => hcn (by have h1 := HSIt.out.done e; have h2 := HSIt.out.ac; have h3 := HSIt.out.cn; omega))
                  rw [if_neg hcn] at HNq
                  have HMSG := Aside0.mk (show (if (cR 500 segs 0 c2 rd2).state = 1 then strOfNums (cR 500 segs 0 c2 rd2).msg else ⟨#[]⟩) = (⟨#[]⟩ : ByteArray) from rfl)
                  have HCN := Aside0.mk hcn
                  clear hcn
                  go_wp2_with (first | (go_at_call 36; (with_reducible refine (rmessage_calls w3.heap.size gr _ _ HNq.out.rcv).mono ?_); rintro e wm ⟨he, rfl⟩; rw [HMSG.out] at he; replace he : e = .returned (.tuple #[.string ⟨#[]⟩, .bool false]) := he; subst he) | (go_at_call 38; (with_reducible refine (rstate_calls w3.heap.size gr _ _ HNq.out.rcv).mono ?_); rintro e wm ⟨he, rfl⟩; replace he : e = .returned (.int .i64 0) := he; subst he) | (go_at_call 29; (with_reducible refine (sstate_calls gs _ ws _ HNq.out.snd).mono ?_); rintro e wz ⟨he, rfl⟩; replace he : e = .returned (.int .i64 st) := he; subst he))
                  go_roundg k1
                  case measure => omega
                  case rel => exact ⟨x + 1, nw, c2, a, nx, st, ak, tries, dl, rd2, XL, (by first | rfl | (rw [hxw])), (by first | rfl | assumption), (by first | rfl | assumption), ⟨by have h1 := HXX.out; have h2 := HLT.out; have h6 := HRD2.out; have h4 := HXLL.out; omega⟩, HSIt, HGLt, HLSq, HNq0⟩
              | succ k2 =>
                have hlt2 : y < (XL.length : Int) := by have h1 := HYY.out; omega
                have q1 : decide (y < (XL.length : Int)) = true := decide_eq_true hlt2
                have hyw : wrap64 (y + 1) = y + 1 := by have h1 := HYY.out; have h2 := HXLL.out; have h3 := HXX.out; have h4 := HLM.out; unfold wrap64; omega
                obtain ⟨Aq, cq, eq_, hcq, hCq⟩ := HLSq.out.slice
                obtain ⟨rfl, rfl⟩ : At = Aq ∧ ct = cq := by injection eq_ with e1 e2 e3; exact ⟨e1, e3⟩
                obtain ⟨adq, eaq, z0, z1, z2, z3, z4, z5⟩ := at_T23 hCq y HYY.out.1 hlt2
                subst eaq
                have hgd := HGLt.out _ (rd23_mem HYY.out.1 hlt2)
                have u1 : (0 ≤ y) = True := eq_true HYY.out.1
                have u2 : (y < (XL.length : Int)) = True := eq_true hlt2
                generalize rd_T23 XL y = pq at z0 z1 z2 z3 z4 z5 hgd
                by_cases hq1 : pq.f0 = 1
                · have hqb : (pq.f0 == 1) = true := by rw [hq1]; rfl
                  have hqc : decide (ak + window < pq.f2) = false := decide_eq_false (good_num hgd hq1)
                  clear hq1 hgd hlt2 hcq hCq z1 z3 z4 z5
                  go_wp2
                  go_roundg k2
                  case measure => omega
                  case rel => exact ⟨y + 1, (by first | rfl | (rw [hyw])), ⟨by have h1 := HYY.out; omega⟩, HLSq, HNq⟩
                · have hqb : (pq.f0 == 1) = false := beq_false_of_ne hq1
                  clear hq1 hgd hlt2 hcq hCq z1 z2 z3 z4 z5
                  go_wp2
                  go_roundg k2
                  case measure => omega
                  case rel => exact ⟨y + 1, (by first | rfl | (rw [hyw])), ⟨by have h1 := HYY.out; omega⟩, HLSq, HNq⟩
        · as_aux_lemma =>
            obtain ⟨ys, st2, a2, nx2, tries2, dl2, hhd, hsi2, hgl2, hyl⟩ := HSI.out.ack (tries := tries) (dl := dl) hj0 hj1 nw
            obtain ⟨ak2, HAK⟩ : ∃ ak2, Aside0 (mx ak JJ = ak2) := ⟨_, ⟨rfl⟩⟩
            have hak2 : (if ak < JJ then JJ else ak) = ak2 := HAK.out
            rw [HAK.out] at hsi2 hgl2
            have HSI2 := Aside0.mk hsi2
            have HYL := Aside0.mk hyl
            have HGL2 := Aside0.mk (show GoodL window segs c ak2 ((L1 ++ L2) ++ ys) from (HGB.out.mono (Nat.le_refl _) (by rw [← HAK.out]; unfold mx; split <;> omega)).app hgl2)
            have HH := Aside0.mk hhd
            clear hhd hsi2 hgl2 hyl hj0 hj1
            subst hp
            replace x0 : wr.cell? (ad.add (kk.toNat * 6)) = some (.int .i64 2) := by exact x0
            replace x1 : wr.cell? ⟨(ad.add (kk.toNat * 6)).block, (ad.add (kk.toNat * 6)).off + 1, none⟩ = some (.int .i64 7) := by exact x1
            replace x2 : wr.cell? ⟨(ad.add (kk.toNat * 6)).block, (ad.add (kk.toNat * 6)).off + 2, none⟩ = some (.int .i64 JJ) := by exact x2
            replace x3 : wr.cell? ⟨(ad.add (kk.toNat * 6)).block, (ad.add (kk.toNat * 6)).off + 3, none⟩ = some (.bool false) := by exact x3
            replace x4 : wr.cell? ⟨(ad.add (kk.toNat * 6)).block, (ad.add (kk.toNat * 6)).off + 4, none⟩ = some (.int .i64 0) := by exact x4
            replace x5 : wr.cell? ⟨(ad.add (kk.toNat * 6)).block, (ad.add (kk.toNat * 6)).off + 5, none⟩ = some (.string ⟨#[]⟩) := by exact x5
            go_wp2
            have hbox := blk_new wr (.cells #[.int .i64 2, .int .i64 7, .int .i64 JJ, .bool false, .int .i64 0, .string ⟨#[]⟩] 23)
            have hb := below_alloc (Below.refl wr.heap.size wr) (.cells #[.int .i64 2, .int .i64 7, .int .i64 JJ, .bool false, .int .i64 0, .string ⟨#[]⟩] 23)
            have HN9 := Aside0.mk (HN.out.below hb)
            have HC9 := Aside0.mk (Kd.C_below HC8.out hb)
            have hgs := HN.out.sb.size
            have hsz : wr.heap.size + 1 ≤ (wr.alloc (.cells #[.int .i64 2, .int .i64 7, .int .i64 JJ, .bool false, .int .i64 0, .string ⟨#[]⟩] 23)).heap.size := (by rw [alloc_size]; omega)
            clear hb
            generalize wr.heap.size = g at hbox hgs hsz ⊢
            generalize wr.alloc (.cells #[.int .i64 2, .int .i64 7, .int .i64 JJ, .bool false, .int .i64 0, .string ⟨#[]⟩] 23) = w9 at hbox HN9 HC9 hsz ⊢
            have HP9 := Aside0.mk hbox
            clear hbox x0 x1 x2 x3 x4 x5
            have HNd := Aside0.mk (HN9.out.below (below_drew1 (Below.refl _ _)))
            have HCd := Aside0.mk (Kd.C_drew HC9.out)
            have HPd := Aside0.mk (blk_drew HP9.out)
            have hgd : g < w9.drew.heap.size := hsz
            have hgs2 : ws.heap.size ≤ w9.drew.heap.size := Nat.le_trans hgs (Nat.le_of_lt hgd)
            generalize hwd : w9.drew = wd at HNd HCd HPd hgd hgs2
            refine start_ (n := 11) (S := fun w' => True) (ds := []) #[Yn, Yn, Yn, Yn, Yn, Yn, Yn, Yn, Yn, Yn, Yn] (by kernel_rfl) rfl rfl trivial (fun hHeld => ?_)
            rw [hwd]
            refine pure_ (i := 1) (N := some 94) (v := ?_) (a' := ?_) #[Yn, Y, Yn, Yn, Yn, Yn, Yn, Yn, Yn, Yn, Yn] rfl rfl (by kernel_rfl) (fun _ _ _ h => h) (Or.inl ⟨by rfl, ?_⟩) ?_ ?_
            rotate_left
            · intro w'
              go_simp
              with_reducible rfl
            rotate_left
            · simp only [Act.put, List.setIfInBounds_toArray, List.set_cons_zero, List.set_cons_succ, i64_w, i32_w]
              rfl
            refine pure_ (i := 2) (N := some 95) (v := ?_) (a' := ?_) #[Yn, Y, Y, Yn, Yn, Yn, Yn, Yn, Yn, Yn, Yn] rfl rfl (by kernel_rfl) (fun _ _ _ h => h) (Or.inl ⟨by rfl, ?_⟩) ?_ ?_
            rotate_left
            · intro w'
              go_simp
              with_reducible rfl
            rotate_left
            · simp only [Act.put, List.setIfInBounds_toArray, List.set_cons_zero, List.set_cons_succ, i64_w, i32_w]
              rfl
            refine pure_ (i := 3) (N := some 96) (v := ?_) (a' := ?_) #[Yn, Y, Y, Y, Yn, Yn, Yn, Yn, Yn, Yn, Yn] rfl rfl (by kernel_rfl) (fun _ _ _ h => h) (Or.inl ⟨by rfl, ?_⟩) ?_ ?_
            rotate_left
            · intro w'
              go_simp
              with_reducible rfl
            rotate_left
            · simp only [Act.put, List.setIfInBounds_toArray, List.set_cons_zero, List.set_cons_succ, i64_w, i32_w]
              rfl
            refine pure_ (i := 5) (N := some 98) (v := ?_) (a' := ?_) #[Yn, Y, Y, Y, Yn, Y, Yn, Yn, Yn, Yn, Yn] rfl rfl (by kernel_rfl) (fun _ _ _ h => h) (Or.inl ⟨by rfl, ?_⟩) ?_ ?_
            rotate_left
            · intro w'
              go_simp
              with_reducible rfl
            rotate_left
            · simp only [Act.put, List.setIfInBounds_toArray, List.set_cons_zero, List.set_cons_succ, i64_w, i32_w]
              rfl
            refine pure_ (i := 6) (N := some 99) (v := ?_) (a' := ?_) #[Yn, Y, Y, Y, Yn, Y, Y, Yn, Yn, Yn, Yn] rfl rfl (by kernel_rfl) (fun _ _ _ h => h) (Or.inl ⟨by rfl, ?_⟩) ?_ ?_
            rotate_left
            · intro w'
              go_simp
              with_reducible rfl
            rotate_left
            · simp only [Act.put, List.setIfInBounds_toArray, List.set_cons_zero, List.set_cons_succ, i64_w, i32_w]
              rfl
            refine pure_ (i := 7) (N := some 100) (v := ?_) (a' := ?_) #[Yn, Y, Y, Y, Yn, Y, Y, Y, Yn, Yn, Yn] rfl rfl (by kernel_rfl) (fun _ _ _ h => h) (Or.inl ⟨by rfl, ?_⟩) ?_ ?_
            rotate_left
            · intro w'
              go_simp
              with_reducible rfl
            rotate_left
            · simp only [Act.put, List.setIfInBounds_toArray, List.set_cons_zero, List.set_cons_succ, i64_w, i32_w]
              rfl
            refine pure_ (i := 8) (N := some 101) (v := ?_) (a' := ?_) #[Yn, Y, Y, Y, Yn, Y, Y, Y, Y, Yn, Yn] rfl rfl (by kernel_rfl) (fun _ _ _ h => h) (Or.inl ⟨by rfl, ?_⟩) ?_ ?_
            rotate_left
            · intro w'
              go_simp
              with_reducible rfl
            rotate_left
            · simp only [Act.put, List.setIfInBounds_toArray, List.set_cons_zero, List.set_cons_succ, i64_w, i32_w]
              rfl
            refine one_ (i := 0) (N := some 93) #[Y, Y, Y, Y, Yn, Y, Y, Y, Y, Yn, Yn] rfl rfl (by kernel_rfl) (by decide) (fun K hK => ?_)
            refine value_ (w1 := ?_) (v := ?_) (by rfl) rfl ?_ ?_
            rotate_left 2
            · go_simp
              constructor
              · rfl
              · rfl
            have HNe := Aside0.mk (HNd.out.below (below_alloc (Below.refl _ _) (.cells #[] 23)))
            have HCe := Aside0.mk (Kd.C_alloc HCd.out (.cells #[] 23))
            have HPe := Aside0.mk (blk_below HPd.out (below_alloc (Below.refl _ _) (.cells #[] 23)))
            have HOe := Aside0.mk (own_empty wd.heap.size wd (Nat.le_refl _))
            have hse : wd.heap.size ≤ (wd.alloc (.cells #[] 23)).heap.size := (by rw [alloc_size]; omega)
            have we_low : ∀ k, k < wd.heap.size → (wd.alloc (.cells #[] 23)).heap[k]? = wd.heap[k]? := fun k hk => (below_alloc (Below.refl wd.heap.size wd) (.cells #[] 23)).block k hk
            generalize wd.alloc (.cells #[] 23) = we at HNe HCe HPe HOe hse we_low ⊢
            refine hK.out _ _ trivial (fun hHeld => ?_)
            clear hK K
            refine norm_ (a' := ?_) ?_ ?_
            rotate_left
            · show Act.put _ (some 93) _ = _
              simp only [Act.put, List.setIfInBounds_toArray, List.set_cons_zero, List.set_cons_succ, i64_w, i32_w]
              rfl
            refine one_ (i := 4) (N := some 97) #[Y, Y, Y, Y, Y, Y, Y, Y, Y, Yn, Yn] rfl rfl (by kernel_rfl) (by decide) (fun K hK => ?_)
            refine step_own_append (by rfl) (.tmp 93) (.tmp 96) rfl wd.heap.size _ (some ad) L1.length c8 [] L1 rfl rfl HOe.out (HD1.out _ HCe.out) hse (by have h1 := HXX.out; have h2 := HLT.out; have h3 := HLL.out; simp only [List.length_nil]; omega) ?_
            intro vf wf ho hg
            have HOf := Aside0.mk (show Own wd.heap.size wf vf L1 from ho)
            have HNf := Aside0.mk (HNe.out.gr (hg.mono hgs2))
            have HPf := Aside0.mk ((hg.low g hgd (blk_lt HPe.out)).trans HPe.out)
            have HCf := Aside0.mk (C_low HCd.out (fun k hk => (hg.low k hk (Nat.lt_of_lt_of_le hk hse)).trans ((we_low k hk))))
            clear ho
            have hsf := Nat.le_trans hse hg.size
            refine hK.out _ _ trivial (fun hHeld => ?_)
            clear hK K
            refine norm_ (a' := ?_) ?_ ?_
            rotate_left
            · show Act.put _ (some 97) _ = _
              simp only [Act.put, List.setIfInBounds_toArray, List.set_cons_zero, List.set_cons_succ, i64_w, i32_w]
              rfl
            refine one_ (i := 9) (N := some 102) #[Y, Y, Y, Y, Y, Y, Y, Y, Y, Y, Yn] rfl rfl (by kernel_rfl) (by decide) (fun K hK => ?_)
            refine step_own_append (by rfl) (.tmp 97) (.tmp 101) rfl wd.heap.size _ A9 L2.length c9 L1 L2 rfl rfl HOf.out (HD2.out _ HCf.out) hsf (by have h1 := HXX.out; have h2 := HLT.out; have h3 := HLL.out; omega) ?_
            intro vg wg ho hg2
            have HOg := Aside0.mk (show Own ws.heap.size wg vg (L1 ++ L2) from Kd.R_lower ho hgs2)
            have HNg := Aside0.mk (HNf.out.gr (hg2.mono hgs2))
            have HPg := Aside0.mk ((hg2.low g hgd (blk_lt HPf.out)).trans HPf.out)
            clear ho hg2
            refine hK.out _ _ trivial (fun hHeld => ?_)
            clear hK K
            refine norm_ (a' := ?_) ?_ ?_
            rotate_left
            · show Act.put _ (some 102) _ = _
              simp only [Act.put, List.setIfInBounds_toArray, List.set_cons_zero, List.set_cons_succ, i64_w, i32_w]
              rfl
            refine pure_ (i := 10) (N := some 10) (v := ?_) (a' := ?_) #[Y, Y, Y, Y, Y, Y, Y, Y, Y, Y, Y] rfl rfl (by kernel_rfl) (fun _ _ _ h => h) (Or.inl ⟨by rfl, ?_⟩) ?_ ?_
            rotate_left
            · intro w'
              go_simp
              with_reducible rfl
            rotate_left
            · simp only [Act.put, List.setIfInBounds_toArray, List.set_cons_zero, List.set_cons_succ, i64_w, i32_w]
              rfl
            refine done_ (by kernel_rfl) ?_
            clear hHeld
            have y0 := (blk_cell HPg.out 0).trans rfl
            have y1 := (blk_cell HPg.out 1).trans rfl
            have y2 := (blk_cell HPg.out 2).trans rfl
            have y3 := (blk_cell HPg.out 3).trans rfl
            have y4 := (blk_cell HPg.out 4).trans rfl
            have y5 := (blk_cell HPg.out 5).trans rfl
            have HLg := Aside0.mk (show Lst ws.heap.size wg vg (L1 ++ L2) from Or.inl HOg.out)
            go_wp2_with (first | (go_at_call 26; (with_reducible refine (Net.shandle HNg.out HSI.out.ok 2 7 JJ false 0 ⟨#[]⟩ nw ys _ HH.out).mono ?_); rintro e w11 ⟨A11, he, hC11, hn11, hk11⟩; subst he; have HN11 := Aside0.mk hn11; have HC11 := Aside0.mk hC11; have HL11 := Aside0.mk (Lst.keep HLg.out hk11.k23); clear hn11 hC11 hk11) | ((with_reducible refine gate_builtin (b := .append) (xs := #[.tmp 122, .tmp 126]) rfl ?_); at_builtin; refine wpList_lst_append rfl (.tmp 122) (.tmp 126) rfl ws.heap.size _ A11 ys.length ys.length (L1 ++ L2) (ys) rfl rfl HL11.out HC11.out HN11.out.sb.size (by have h1 := HXX.out; have h2 := HLT.out; have h3 := HLL.out; have h4 := HYL.out; first | (rw [List.length_append]; omega) | omega) ?_; intro v12 w12 ho hg; have HL12 := Aside0.mk ho; have HN12 := Aside0.mk (HN11.out.gr hg); clear ho hg))
            obtain ⟨At, ct, et, hct, hCt⟩ := HL12.out.slice
            subst et
            clear hct hCt
            obtain ⟨XL, HXL⟩ : ∃ XL, Aside0 ((L1 ++ L2) ++ ys = XL) := ⟨_, ⟨rfl⟩⟩
            have HLSt := Aside0.mk HL12.out
            have HGLt := Aside0.mk HGL2.out
            rw [HXL.out] at HLSt HGLt ⊢
            have HXLL := Aside0.mk (show (XL.length : Int) ≤ 64 + 64 * (x + 1) by rw [← HXL.out]; have h1 := HXX.out; have h5 := HYL.out; have h6 := HLL.out; rw [List.length_append]; (try rw [List.length_append]); push_cast; omega)
            have HNt := HN12
            have HSIt := HSI2
            go_loopg [20] XL.length (fun kq v20 wq => ∃ (y : Int), v20 = .int .i64 y ∧ Aside0 (0 ≤ y ∧ y + (kq : Int) = (XL.length : Int)) ∧ Aside0 (Lst ws.heap.size wq (.slice At XL.length ct) XL) ∧ Aside0 (Net w ws w3.heap.size gs gr (cS window 10 segs st2 a2 nx2 tries2 dl2) (cR 500 segs (if c = segs.length then 1 else 0) c rdl) wq))
            case atStart => exact ⟨0, rfl, ⟨by omega⟩, HLSt, HNt⟩
            case round =>
              obtain ⟨y, rfl, HYY, HLSq, HNq⟩ := hrel
              have HNq0 := HNq
              have hakw : wrap64 (ak2 + window) = ak2 + window := by have h1 := HSIt.out.ak1; have h2 := HSIt.out.akc; have h3 := HSIt.out.cn; have h4 := HSIt.out.n64; have h5 := HW.out; unfold wrap64; omega
              cases gk with
              | zero =>
                have q1 : decide (y < (XL.length : Int)) = false := decide_eq_false (by have h1 := HYY.out; omega)
                by_cases hcn : c = segs.length
                · rw [if_pos hcn] at HNq
                  have HMSG := Aside0.mk (show (if (cR 500 segs 1 c rdl).state = 1 then strOfNums (cR 500 segs 1 c rdl).msg else ⟨#[]⟩) = message by show (if (1 : Int) = 1 then strOfNums (cat segs c) else ⟨#[]⟩) = message; rw [if_pos rfl, hcn, HSZ.out.2.2]; exact cat_all message sz HSZ.out.2.1)
                  have HCN := Aside0.mk hcn
                  have hmt : (message.toList == message.toList) = true := beq_self_eq_true _
                  clear hcn
                  by_cases hs1 : st2 = 1
                  · have hsb : (st2 == 1) = true := by rw [hs1]; rfl
                    clear hs1
                    go_wp2_with (first | (go_at_call 36; (with_reducible refine (rmessage_calls w3.heap.size gr _ _ HNq.out.rcv).mono ?_); rintro e wm ⟨he, rfl⟩; rw [HMSG.out] at he; replace he : e = .returned (.tuple #[.string message, .bool true]) := he; subst he) | (go_at_call 38; (with_reducible refine (rstate_calls w3.heap.size gr _ _ HNq.out.rcv).mono ?_); rintro e wm ⟨he, rfl⟩; replace he : e = .returned (.int .i64 1) := he; subst he) | (go_at_call 29; (with_reducible refine (sstate_calls gs _ ws _ HNq.out.snd).mono ?_); rintro e wz ⟨he, rfl⟩; replace he : e = .returned (.int .i64 st2) := he; subst he))
                    go_roundg k1
                    case measure => omega
                    case rel => exact ⟨x + 1, nw, c, a2, nx2, st2, ak2, tries2, dl2, rdl, XL, (by first | rfl | (rw [hxw])), (by first | rfl | assumption), (by first | rfl | assumption), ⟨by have h1 := HXX.out; have h2 := HLT.out; skip; have h4 := HXLL.out; omega⟩, HSIt, HGLt, HLSq, HNq0⟩
                  · have hsb : (st2 == 1) = false := beq_false_of_ne hs1
                    clear hs1
                    go_wp2_with (first | (go_at_call 36; (with_reducible refine (rmessage_calls w3.heap.size gr _ _ HNq.out.rcv).mono ?_); rintro e wm ⟨he, rfl⟩; rw [HMSG.out] at he; replace he : e = .returned (.tuple #[.string message, .bool true]) := he; subst he) | (go_at_call 38; (with_reducible refine (rstate_calls w3.heap.size gr _ _ HNq.out.rcv).mono ?_); rintro e wm ⟨he, rfl⟩; replace he : e = .returned (.int .i64 1) := he; subst he) | (go_at_call 29; (with_reducible refine (sstate_calls gs _ ws _ HNq.out.snd).mono ?_); rintro e wz ⟨he, rfl⟩; replace he : e = .returned (.int .i64 st2) := he; subst he))
                    go_roundg k1
                    case measure => omega
                    case rel => exact ⟨x + 1, nw, c, a2, nx2, st2, ak2, tries2, dl2, rdl, XL, (by first | rfl | (rw [hxw])), (by first | rfl | assumption), (by first | rfl | assumption), ⟨by have h1 := HXX.out; have h2 := HLT.out; skip; have h4 := HXLL.out; omega⟩, HSIt, HGLt, HLSq, HNq0⟩
                · have hsb : (st2 == 1) = false := beq_false_of_ne (fun e => hcn (by have h1 := HSIt.out.done e; have h2 := HSIt.out.ac; have h3 := HSIt.out.cn; omega))
                  rw [if_neg hcn] at HNq
                  have HMSG := Aside0.mk (show (if (cR 500 segs 0 c rdl).state = 1 then strOfNums (cR 500 segs 0 c rdl).msg else ⟨#[]⟩) = (⟨#[]⟩ : ByteArray) from rfl)
                  have HCN := Aside0.mk hcn
                  clear hcn
                  go_wp2_with (first | (go_at_call 36; (with_reducible refine (rmessage_calls w3.heap.size gr _ _ HNq.out.rcv).mono ?_); rintro e wm ⟨he, rfl⟩; rw [HMSG.out] at he; replace he : e = .returned (.tuple #[.string ⟨#[]⟩, .bool false]) := he; subst he) | (go_at_call 38; (with_reducible refine (rstate_calls w3.heap.size gr _ _ HNq.out.rcv).mono ?_); rintro e wm ⟨he, rfl⟩; replace he : e = .returned (.int .i64 0) := he; subst he) | (go_at_call 29; (with_reducible refine (sstate_calls gs _ ws _ HNq.out.snd).mono ?_); rintro e wz ⟨he, rfl⟩; replace he : e = .returned (.int .i64 st2) := he; subst he))
                  go_roundg k1
                  case measure => omega
                  case rel => exact ⟨x + 1, nw, c, a2, nx2, st2, ak2, tries2, dl2, rdl, XL, (by first | rfl | (rw [hxw])), (by first | rfl | assumption), (by first | rfl | assumption), ⟨by have h1 := HXX.out; have h2 := HLT.out; skip; have h4 := HXLL.out; omega⟩, HSIt, HGLt, HLSq, HNq0⟩
              | succ k2 =>
                have hlt2 : y < (XL.length : Int) := by have h1 := HYY.out; omega
                have q1 : decide (y < (XL.length : Int)) = true := decide_eq_true hlt2
                have hyw : wrap64 (y + 1) = y + 1 := by have h1 := HYY.out; have h2 := HXLL.out; have h3 := HXX.out; have h4 := HLM.out; unfold wrap64; omega
                obtain ⟨Aq, cq, eq_, hcq, hCq⟩ := HLSq.out.slice
                obtain ⟨rfl, rfl⟩ : At = Aq ∧ ct = cq := by injection eq_ with e1 e2 e3; exact ⟨e1, e3⟩
                obtain ⟨adq, eaq, z0, z1, z2, z3, z4, z5⟩ := at_T23 hCq y HYY.out.1 hlt2
                subst eaq
                have hgd := HGLt.out _ (rd23_mem HYY.out.1 hlt2)
                have u1 : (0 ≤ y) = True := eq_true HYY.out.1
                have u2 : (y < (XL.length : Int)) = True := eq_true hlt2
                generalize rd_T23 XL y = pq at z0 z1 z2 z3 z4 z5 hgd
                by_cases hq1 : pq.f0 = 1
                · have hqb : (pq.f0 == 1) = true := by rw [hq1]; rfl
                  have hqc : decide (ak2 + window < pq.f2) = false := decide_eq_false (good_num hgd hq1)
                  clear hq1 hgd hlt2 hcq hCq z1 z3 z4 z5
                  go_wp2
                  go_roundg k2
                  case measure => omega
                  case rel => exact ⟨y + 1, (by first | rfl | (rw [hyw])), ⟨by have h1 := HYY.out; omega⟩, HLSq, HNq⟩
                · have hqb : (pq.f0 == 1) = false := beq_false_of_ne hq1
                  clear hq1 hgd hlt2 hcq hCq z1 z2 z3 z4 z5
                  go_wp2
                  go_roundg k2
                  case measure => omega
                  case rel => exact ⟨y + 1, (by first | rfl | (rw [hyw])), ⟨by have h1 := HYY.out; omega⟩, HLSq, HNq⟩
        · as_aux_lemma =>
            obtain ⟨st2, hhd, hsi2⟩ := HSI.out.abort (tries := tries) (dl := dl) nw
            obtain ⟨ys, HYS⟩ : ∃ ys : List S23, Aside0 (([] : List S23) = ys) := ⟨_, ⟨rfl⟩⟩
            rw [HYS.out] at hhd
            have HSI2 := Aside0.mk hsi2
            have HYL := Aside0.mk (show ys.length ≤ 64 by rw [← HYS.out]; simp)
            have HGL2 := Aside0.mk (show GoodL window segs c ak ((L1 ++ L2) ++ ys) by rw [← HYS.out]; exact HGB.out.app GoodL.nil)
            have HH := Aside0.mk hhd
            clear hhd hsi2
            subst hp
            replace x0 : wr.cell? (ad.add (kk.toNat * 6)) = some (.int .i64 3) := by exact x0
            replace x1 : wr.cell? ⟨(ad.add (kk.toNat * 6)).block, (ad.add (kk.toNat * 6)).off + 1, none⟩ = some (.int .i64 7) := by exact x1
            replace x2 : wr.cell? ⟨(ad.add (kk.toNat * 6)).block, (ad.add (kk.toNat * 6)).off + 2, none⟩ = some (.int .i64 0) := by exact x2
            replace x3 : wr.cell? ⟨(ad.add (kk.toNat * 6)).block, (ad.add (kk.toNat * 6)).off + 3, none⟩ = some (.bool false) := by exact x3
            replace x4 : wr.cell? ⟨(ad.add (kk.toNat * 6)).block, (ad.add (kk.toNat * 6)).off + 4, none⟩ = some (.int .i64 0) := by exact x4
            replace x5 : wr.cell? ⟨(ad.add (kk.toNat * 6)).block, (ad.add (kk.toNat * 6)).off + 5, none⟩ = some (.string ⟨#[]⟩) := by exact x5
            go_wp2
            have hbox := blk_new wr (.cells #[.int .i64 3, .int .i64 7, .int .i64 0, .bool false, .int .i64 0, .string ⟨#[]⟩] 23)
            have hb := below_alloc (Below.refl wr.heap.size wr) (.cells #[.int .i64 3, .int .i64 7, .int .i64 0, .bool false, .int .i64 0, .string ⟨#[]⟩] 23)
            have HN9 := Aside0.mk (HN.out.below hb)
            have HC9 := Aside0.mk (Kd.C_below HC8.out hb)
            have hgs := HN.out.sb.size
            have hsz : wr.heap.size + 1 ≤ (wr.alloc (.cells #[.int .i64 3, .int .i64 7, .int .i64 0, .bool false, .int .i64 0, .string ⟨#[]⟩] 23)).heap.size := (by rw [alloc_size]; omega)
            clear hb
            generalize wr.heap.size = g at hbox hgs hsz ⊢
            generalize wr.alloc (.cells #[.int .i64 3, .int .i64 7, .int .i64 0, .bool false, .int .i64 0, .string ⟨#[]⟩] 23) = w9 at hbox HN9 HC9 hsz ⊢
            have HP9 := Aside0.mk hbox
            clear hbox x0 x1 x2 x3 x4 x5
            have HNd := Aside0.mk (HN9.out.below (below_drew1 (Below.refl _ _)))
            have HCd := Aside0.mk (Kd.C_drew HC9.out)
            have HPd := Aside0.mk (blk_drew HP9.out)
            have hgd : g < w9.drew.heap.size := hsz
            have hgs2 : ws.heap.size ≤ w9.drew.heap.size := Nat.le_trans hgs (Nat.le_of_lt hgd)
            generalize hwd : w9.drew = wd at HNd HCd HPd hgd hgs2
            refine start_ (n := 11) (S := fun w' => True) (ds := []) #[Yn, Yn, Yn, Yn, Yn, Yn, Yn, Yn, Yn, Yn, Yn] (by kernel_rfl) rfl rfl trivial (fun hHeld => ?_)
            rw [hwd]
            refine pure_ (i := 1) (N := some 94) (v := ?_) (a' := ?_) #[Yn, Y, Yn, Yn, Yn, Yn, Yn, Yn, Yn, Yn, Yn] rfl rfl (by kernel_rfl) (fun _ _ _ h => h) (Or.inl ⟨by rfl, ?_⟩) ?_ ?_
            rotate_left
            · intro w'
              go_simp
              with_reducible rfl
            rotate_left
            · simp only [Act.put, List.setIfInBounds_toArray, List.set_cons_zero, List.set_cons_succ, i64_w, i32_w]
              rfl
            refine pure_ (i := 2) (N := some 95) (v := ?_) (a' := ?_) #[Yn, Y, Y, Yn, Yn, Yn, Yn, Yn, Yn, Yn, Yn] rfl rfl (by kernel_rfl) (fun _ _ _ h => h) (Or.inl ⟨by rfl, ?_⟩) ?_ ?_
            rotate_left
            · intro w'
              go_simp
              with_reducible rfl
            rotate_left
            · simp only [Act.put, List.setIfInBounds_toArray, List.set_cons_zero, List.set_cons_succ, i64_w, i32_w]
              rfl
            refine pure_ (i := 3) (N := some 96) (v := ?_) (a' := ?_) #[Yn, Y, Y, Y, Yn, Yn, Yn, Yn, Yn, Yn, Yn] rfl rfl (by kernel_rfl) (fun _ _ _ h => h) (Or.inl ⟨by rfl, ?_⟩) ?_ ?_
            rotate_left
            · intro w'
              go_simp
              with_reducible rfl
            rotate_left
            · simp only [Act.put, List.setIfInBounds_toArray, List.set_cons_zero, List.set_cons_succ, i64_w, i32_w]
              rfl
            refine pure_ (i := 5) (N := some 98) (v := ?_) (a' := ?_) #[Yn, Y, Y, Y, Yn, Y, Yn, Yn, Yn, Yn, Yn] rfl rfl (by kernel_rfl) (fun _ _ _ h => h) (Or.inl ⟨by rfl, ?_⟩) ?_ ?_
            rotate_left
            · intro w'
              go_simp
              with_reducible rfl
            rotate_left
            · simp only [Act.put, List.setIfInBounds_toArray, List.set_cons_zero, List.set_cons_succ, i64_w, i32_w]
              rfl
            refine pure_ (i := 6) (N := some 99) (v := ?_) (a' := ?_) #[Yn, Y, Y, Y, Yn, Y, Y, Yn, Yn, Yn, Yn] rfl rfl (by kernel_rfl) (fun _ _ _ h => h) (Or.inl ⟨by rfl, ?_⟩) ?_ ?_
            rotate_left
            · intro w'
              go_simp
              with_reducible rfl
            rotate_left
            · simp only [Act.put, List.setIfInBounds_toArray, List.set_cons_zero, List.set_cons_succ, i64_w, i32_w]
              rfl
            refine pure_ (i := 7) (N := some 100) (v := ?_) (a' := ?_) #[Yn, Y, Y, Y, Yn, Y, Y, Y, Yn, Yn, Yn] rfl rfl (by kernel_rfl) (fun _ _ _ h => h) (Or.inl ⟨by rfl, ?_⟩) ?_ ?_
            rotate_left
            · intro w'
              go_simp
              with_reducible rfl
            rotate_left
            · simp only [Act.put, List.setIfInBounds_toArray, List.set_cons_zero, List.set_cons_succ, i64_w, i32_w]
              rfl
            refine pure_ (i := 8) (N := some 101) (v := ?_) (a' := ?_) #[Yn, Y, Y, Y, Yn, Y, Y, Y, Y, Yn, Yn] rfl rfl (by kernel_rfl) (fun _ _ _ h => h) (Or.inl ⟨by rfl, ?_⟩) ?_ ?_
            rotate_left
            · intro w'
              go_simp
              with_reducible rfl
            rotate_left
            · simp only [Act.put, List.setIfInBounds_toArray, List.set_cons_zero, List.set_cons_succ, i64_w, i32_w]
              rfl
            refine one_ (i := 0) (N := some 93) #[Y, Y, Y, Y, Yn, Y, Y, Y, Y, Yn, Yn] rfl rfl (by kernel_rfl) (by decide) (fun K hK => ?_)
            refine value_ (w1 := ?_) (v := ?_) (by rfl) rfl ?_ ?_
            rotate_left 2
            · go_simp
              constructor
              · rfl
              · rfl
            have HNe := Aside0.mk (HNd.out.below (below_alloc (Below.refl _ _) (.cells #[] 23)))
            have HCe := Aside0.mk (Kd.C_alloc HCd.out (.cells #[] 23))
            have HPe := Aside0.mk (blk_below HPd.out (below_alloc (Below.refl _ _) (.cells #[] 23)))
            have HOe := Aside0.mk (own_empty wd.heap.size wd (Nat.le_refl _))
            have hse : wd.heap.size ≤ (wd.alloc (.cells #[] 23)).heap.size := (by rw [alloc_size]; omega)
            have we_low : ∀ k, k < wd.heap.size → (wd.alloc (.cells #[] 23)).heap[k]? = wd.heap[k]? := fun k hk => (below_alloc (Below.refl wd.heap.size wd) (.cells #[] 23)).block k hk
            generalize wd.alloc (.cells #[] 23) = we at HNe HCe HPe HOe hse we_low ⊢
            refine hK.out _ _ trivial (fun hHeld => ?_)
            clear hK K
            refine norm_ (a' := ?_) ?_ ?_
            rotate_left
            · show Act.put _ (some 93) _ = _
              simp only [Act.put, List.setIfInBounds_toArray, List.set_cons_zero, List.set_cons_succ, i64_w, i32_w]
              rfl
            refine one_ (i := 4) (N := some 97) #[Y, Y, Y, Y, Y, Y, Y, Y, Y, Yn, Yn] rfl rfl (by kernel_rfl) (by decide) (fun K hK => ?_)
            refine step_own_append (by rfl) (.tmp 93) (.tmp 96) rfl wd.heap.size _ (some ad) L1.length c8 [] L1 rfl rfl HOe.out (HD1.out _ HCe.out) hse (by have h1 := HXX.out; have h2 := HLT.out; have h3 := HLL.out; simp only [List.length_nil]; omega) ?_
            intro vf wf ho hg
            have HOf := Aside0.mk (show Own wd.heap.size wf vf L1 from ho)
            have HNf := Aside0.mk (HNe.out.gr (hg.mono hgs2))
            have HPf := Aside0.mk ((hg.low g hgd (blk_lt HPe.out)).trans HPe.out)
            have HCf := Aside0.mk (C_low HCd.out (fun k hk => (hg.low k hk (Nat.lt_of_lt_of_le hk hse)).trans ((we_low k hk))))
            clear ho
            have hsf := Nat.le_trans hse hg.size
            refine hK.out _ _ trivial (fun hHeld => ?_)
            clear hK K
            refine norm_ (a' := ?_) ?_ ?_
            rotate_left
            · show Act.put _ (some 97) _ = _
              simp only [Act.put, List.setIfInBounds_toArray, List.set_cons_zero, List.set_cons_succ, i64_w, i32_w]
              rfl
            refine one_ (i := 9) (N := some 102) #[Y, Y, Y, Y, Y, Y, Y, Y, Y, Y, Yn] rfl rfl (by kernel_rfl) (by decide) (fun K hK => ?_)
            refine step_own_append (by rfl) (.tmp 97) (.tmp 101) rfl wd.heap.size _ A9 L2.length c9 L1 L2 rfl rfl HOf.out (HD2.out _ HCf.out) hsf (by have h1 := HXX.out; have h2 := HLT.out; have h3 := HLL.out; omega) ?_
            intro vg wg ho hg2
            have HOg := Aside0.mk (show Own ws.heap.size wg vg (L1 ++ L2) from Kd.R_lower ho hgs2)
            have HNg := Aside0.mk (HNf.out.gr (hg2.mono hgs2))
            have HPg := Aside0.mk ((hg2.low g hgd (blk_lt HPf.out)).trans HPf.out)
            clear ho hg2
            refine hK.out _ _ trivial (fun hHeld => ?_)
            clear hK K
            refine norm_ (a' := ?_) ?_ ?_
            rotate_left
            · show Act.put _ (some 102) _ = _
              simp only [Act.put, List.setIfInBounds_toArray, List.set_cons_zero, List.set_cons_succ, i64_w, i32_w]
              rfl
            refine pure_ (i := 10) (N := some 10) (v := ?_) (a' := ?_) #[Y, Y, Y, Y, Y, Y, Y, Y, Y, Y, Y] rfl rfl (by kernel_rfl) (fun _ _ _ h => h) (Or.inl ⟨by rfl, ?_⟩) ?_ ?_
            rotate_left
            · intro w'
              go_simp
              with_reducible rfl
            rotate_left
            · simp only [Act.put, List.setIfInBounds_toArray, List.set_cons_zero, List.set_cons_succ, i64_w, i32_w]
              rfl
            refine done_ (by kernel_rfl) ?_
            clear hHeld
            have y0 := (blk_cell HPg.out 0).trans rfl
            have y1 := (blk_cell HPg.out 1).trans rfl
            have y2 := (blk_cell HPg.out 2).trans rfl
            have y3 := (blk_cell HPg.out 3).trans rfl
            have y4 := (blk_cell HPg.out 4).trans rfl
            have y5 := (blk_cell HPg.out 5).trans rfl
            have HLg := Aside0.mk (show Lst ws.heap.size wg vg (L1 ++ L2) from Or.inl HOg.out)
            go_wp2_with (first | (go_at_call 26; (with_reducible refine (Net.shandle HNg.out HSI.out.ok 3 7 0 false 0 ⟨#[]⟩ nw ys _ HH.out).mono ?_); rintro e w11 ⟨A11, he, hC11, hn11, hk11⟩; subst he; have HN11 := Aside0.mk hn11; have HC11 := Aside0.mk hC11; have HL11 := Aside0.mk (Lst.keep HLg.out hk11.k23); clear hn11 hC11 hk11) | ((with_reducible refine gate_builtin (b := .append) (xs := #[.tmp 122, .tmp 126]) rfl ?_); at_builtin; refine wpList_lst_append rfl (.tmp 122) (.tmp 126) rfl ws.heap.size _ A11 ys.length ys.length (L1 ++ L2) (ys) rfl rfl HL11.out HC11.out HN11.out.sb.size (by have h1 := HXX.out; have h2 := HLT.out; have h3 := HLL.out; have h4 := HYL.out; first | (rw [List.length_append]; omega) | omega) ?_; intro v12 w12 ho hg; have HL12 := Aside0.mk ho; have HN12 := Aside0.mk (HN11.out.gr hg); clear ho hg))
            obtain ⟨At, ct, et, hct, hCt⟩ := HL12.out.slice
            subst et
            clear hct hCt
            obtain ⟨XL, HXL⟩ : ∃ XL, Aside0 ((L1 ++ L2) ++ ys = XL) := ⟨_, ⟨rfl⟩⟩
            have HLSt := Aside0.mk HL12.out
            have HGLt := Aside0.mk HGL2.out
            rw [HXL.out] at HLSt HGLt ⊢
            have HXLL := Aside0.mk (show (XL.length : Int) ≤ 64 + 64 * (x + 1) by rw [← HXL.out]; have h1 := HXX.out; have h5 := HYL.out; have h6 := HLL.out; rw [List.length_append]; (try rw [List.length_append]); push_cast; omega)
            have HNt := HN12
            have HSIt := HSI2
            go_loopg [20] XL.length (fun kq v20 wq => ∃ (y : Int), v20 = .int .i64 y ∧ Aside0 (0 ≤ y ∧ y + (kq : Int) = (XL.length : Int)) ∧ Aside0 (Lst ws.heap.size wq (.slice At XL.length ct) XL) ∧ Aside0 (Net w ws w3.heap.size gs gr (cS window 10 segs st2 a nx tries dl) (cR 500 segs (if c = segs.length then 1 else 0) c rdl) wq))
            case atStart => exact ⟨0, rfl, ⟨by omega⟩, HLSt, HNt⟩
            case round =>
              obtain ⟨y, rfl, HYY, HLSq, HNq⟩ := hrel
              have HNq0 := HNq
              have hakw : wrap64 (ak + window) = ak + window := by have h1 := HSIt.out.ak1; have h2 := HSIt.out.akc; have h3 := HSIt.out.cn; have h4 := HSIt.out.n64; have h5 := HW.out; unfold wrap64; omega
              cases gk with
              | zero =>
                have q1 : decide (y < (XL.length : Int)) = false := decide_eq_false (by have h1 := HYY.out; omega)
                by_cases hcn : c = segs.length
                · rw [if_pos hcn] at HNq
                  have HMSG := Aside0.mk (show (if (cR 500 segs 1 c rdl).state = 1 then strOfNums (cR 500 segs 1 c rdl).msg else ⟨#[]⟩) = message by show (if (1 : Int) = 1 then strOfNums (cat segs c) else ⟨#[]⟩) = message; rw [if_pos rfl, hcn, HSZ.out.2.2]; exact cat_all message sz HSZ.out.2.1)
                  have HCN := Aside0.mk hcn
                  have hmt : (message.toList == message.toList) = true := beq_self_eq_true _
                  clear hcn
                  by_cases hs1 : st2 = 1
                  · have hsb : (st2 == 1) = true := by rw [hs1]; rfl
                    clear hs1
                    go_wp2_with (first | (go_at_call 36; (with_reducible refine (rmessage_calls w3.heap.size gr _ _ HNq.out.rcv).mono ?_); rintro e wm ⟨he, rfl⟩; rw [HMSG.out] at he; replace he : e = .returned (.tuple #[.string message, .bool true]) := he; subst he) | (go_at_call 38; (with_reducible refine (rstate_calls w3.heap.size gr _ _ HNq.out.rcv).mono ?_); rintro e wm ⟨he, rfl⟩; replace he : e = .returned (.int .i64 1) := he; subst he) | (go_at_call 29; (with_reducible refine (sstate_calls gs _ ws _ HNq.out.snd).mono ?_); rintro e wz ⟨he, rfl⟩; replace he : e = .returned (.int .i64 st2) := he; subst he))
                    go_roundg k1
                    case measure => omega
                    case rel => exact ⟨x + 1, nw, c, a, nx, st2, ak, tries, dl, rdl, XL, (by first | rfl | (rw [hxw])), (by first | rfl | assumption), (by first | rfl | assumption), ⟨by have h1 := HXX.out; have h2 := HLT.out; skip; have h4 := HXLL.out; omega⟩, HSIt, HGLt, HLSq, HNq0⟩
                  · have hsb : (st2 == 1) = false := beq_false_of_ne hs1
                    clear hs1
                    go_wp2_with (first | (go_at_call 36; (with_reducible refine (rmessage_calls w3.heap.size gr _ _ HNq.out.rcv).mono ?_); rintro e wm ⟨he, rfl⟩; rw [HMSG.out] at he; replace he : e = .returned (.tuple #[.string message, .bool true]) := he; subst he) | (go_at_call 38; (with_reducible refine (rstate_calls w3.heap.size gr _ _ HNq.out.rcv).mono ?_); rintro e wm ⟨he, rfl⟩; replace he : e = .returned (.int .i64 1) := he; subst he) | (go_at_call 29; (with_reducible refine (sstate_calls gs _ ws _ HNq.out.snd).mono ?_); rintro e wz ⟨he, rfl⟩; replace he : e = .returned (.int .i64 st2) := he; subst he))
                    go_roundg k1
                    case measure => omega
                    case rel => exact ⟨x + 1, nw, c, a, nx, st2, ak, tries, dl, rdl, XL, (by first | rfl | (rw [hxw])), (by first | rfl | assumption), (by first | rfl | assumption), ⟨by have h1 := HXX.out; have h2 := HLT.out; skip; have h4 := HXLL.out; omega⟩, HSIt, HGLt, HLSq, HNq0⟩
                · have hsb : (st2 == 1) = false := beq_false_of_ne (fun e => hcn (by have h1 := HSIt.out.done e; have h2 := HSIt.out.ac; have h3 := HSIt.out.cn; omega))
                  rw [if_neg hcn] at HNq
                  have HMSG := Aside0.mk (show (if (cR 500 segs 0 c rdl).state = 1 then strOfNums (cR 500 segs 0 c rdl).msg else ⟨#[]⟩) = (⟨#[]⟩ : ByteArray) from rfl)
                  have HCN := Aside0.mk hcn
                  clear hcn
                  go_wp2_with (first | (go_at_call 36; (with_reducible refine (rmessage_calls w3.heap.size gr _ _ HNq.out.rcv).mono ?_); rintro e wm ⟨he, rfl⟩; rw [HMSG.out] at he; replace he : e = .returned (.tuple #[.string ⟨#[]⟩, .bool false]) := he; subst he) | (go_at_call 38; (with_reducible refine (rstate_calls w3.heap.size gr _ _ HNq.out.rcv).mono ?_); rintro e wm ⟨he, rfl⟩; replace he : e = .returned (.int .i64 0) := he; subst he) | (go_at_call 29; (with_reducible refine (sstate_calls gs _ ws _ HNq.out.snd).mono ?_); rintro e wz ⟨he, rfl⟩; replace he : e = .returned (.int .i64 st2) := he; subst he))
                  go_roundg k1
                  case measure => omega
                  case rel => exact ⟨x + 1, nw, c, a, nx, st2, ak, tries, dl, rdl, XL, (by first | rfl | (rw [hxw])), (by first | rfl | assumption), (by first | rfl | assumption), ⟨by have h1 := HXX.out; have h2 := HLT.out; skip; have h4 := HXLL.out; omega⟩, HSIt, HGLt, HLSq, HNq0⟩
              | succ k2 =>
                have hlt2 : y < (XL.length : Int) := by have h1 := HYY.out; omega
                have q1 : decide (y < (XL.length : Int)) = true := decide_eq_true hlt2
                have hyw : wrap64 (y + 1) = y + 1 := by have h1 := HYY.out; have h2 := HXLL.out; have h3 := HXX.out; have h4 := HLM.out; unfold wrap64; omega
                obtain ⟨Aq, cq, eq_, hcq, hCq⟩ := HLSq.out.slice
                obtain ⟨rfl, rfl⟩ : At = Aq ∧ ct = cq := by injection eq_ with e1 e2 e3; exact ⟨e1, e3⟩
                obtain ⟨adq, eaq, z0, z1, z2, z3, z4, z5⟩ := at_T23 hCq y HYY.out.1 hlt2
                subst eaq
                have hgd := HGLt.out _ (rd23_mem HYY.out.1 hlt2)
                have u1 : (0 ≤ y) = True := eq_true HYY.out.1
                have u2 : (y < (XL.length : Int)) = True := eq_true hlt2
                generalize rd_T23 XL y = pq at z0 z1 z2 z3 z4 z5 hgd
                by_cases hq1 : pq.f0 = 1
                · have hqb : (pq.f0 == 1) = true := by rw [hq1]; rfl
                  have hqc : decide (ak + window < pq.f2) = false := decide_eq_false (good_num hgd hq1)
                  clear hq1 hgd hlt2 hcq hCq z1 z3 z4 z5
                  go_wp2
                  go_roundg k2
                  case measure => omega
                  case rel => exact ⟨y + 1, (by first | rfl | (rw [hyw])), ⟨by have h1 := HYY.out; omega⟩, HLSq, HNq⟩
                · have hqb : (pq.f0 == 1) = false := beq_false_of_ne hq1
                  clear hq1 hgd hlt2 hcq hCq z1 z2 z3 z4 z5
                  go_wp2
                  go_roundg k2
                  case measure => omega
                  case rel => exact ⟨y + 1, (by first | rfl | (rw [hyw])), ⟨by have h1 := HYY.out; omega⟩, HLSq, HNq⟩
def plenumlaw49_SegmentSafe.f (k : Nat) (a0 : ByteArray) (a1 : Int) (a2 : Int) (l3 : List Int) : Option (Bool) := if (∀ y ∈ l3, -9223372036854775808 ≤ y ∧ y ≤ 9223372036854775807) then some true else none
theorem plenumlaw49_SegmentSafe.calls (k : Nat) (a0 : ByteArray) (a1 : Int) (a2 : Int) (A3 : Option Addr) (c3 : Nat) (l3 : List Int) (r : Bool) (w : World) (hG : Glob w) (hr3 : Kd.C (Kd.int .i64) w A3 l3.length l3) (hc3 : l3.length ≤ c3) (h : plenumlaw49_SegmentSafe.f k a0 a1 a2 l3 = some r) :
    Calls Tryd.prog 7 #[.string a0, .int .i64 a1, .int .i64 a2, .slice A3 l3.length c3] w fun e w' => e = .returned (.bool r) ∧ Below w.heap.size w w' := by
  unfold plenumlaw49_SegmentSafe.f at h
  split at h
  · rename_i hwf
    injection h with h
    subst h
    exact safe_walk a0 a1 a2 A3 c3 l3 w hG hr3 hc3 hwf
  · cases h
end Go.Proofs.YtbgabhknmpbgiaaDoor.S
end
section
namespace Go.Proofs.YtbgabhknmpbgiaaDoor.Opn
open Go.RowKit Go.Proofs.YtbgabhknmpbgiaaDoorW.PrintWords
def Opn (P : Program) (t : TypeId) {α : Type} (d : Kd α) (V : α → Prop) : Prop :=
  ∀ (H : Type) (enc : TypeId × Value → H) (w : World) (fuel : Nat) (cs : List Value) (x : DataW H × List MemPlace),
    DataW.trod enc P w 0 (fun _ => true) true fuel t cs = some x → (∀ n ∈ DataW.weights P t x.1, n ≤ 140737488351232) → ∃ y, d.K w y cs ∧ V y
theorem opn_int {P : Program} {t : TypeId} {k : IntKind} (ht : P.underlying t = some (.int k)) : Opn P t (Kd.int k) (fun y => (Lit.int k y).wf = true) := by
  intro H enc w fuel cs x h _
  obtain ⟨n, rfl, _, hw⟩ := DataW.trod_int ht h
  exact ⟨n, rfl, hw⟩
theorem weights_all {H : Type} {P : Program} {e : TypeId} {d : DataW H} {n : Nat} (hn : n ∈ DataW.weights P e d) : ∀ {l : List (DataW H)}, d ∈ l → n ∈ DataW.weightsAll P e l
  | [], h => by simp at h
  | a :: r, h => by
    simp only [DataW.weightsAll, List.mem_append]
    rcases List.mem_cons.1 h with rfl | h
    · exact .inl hn
    · exact .inr (weights_all hn h)
theorem list_of {α : Type} (Q : Nat → α → Prop) : ∀ n, (∀ i, i < n → ∃ y, Q i y) → ∃ l : List α, l.length = n ∧ ∀ i y, l[i]? = some y → Q i y
  | 0, _ => ⟨[], rfl, fun i y h => by simp at h⟩
  | n + 1, h => by
    obtain ⟨l, hl, hq⟩ := list_of Q n (fun i hi => h i (by omega))
    obtain ⟨y, hy⟩ := h n (by omega)
    refine ⟨l ++ [y], by simp [hl], fun i z hz => ?_⟩
    rcases Nat.lt_or_ge i n with hi | hi
    · rw [List.getElem?_append_left (by omega)] at hz
      exact hq i z hz
    · have : i = n := by
        have := (List.getElem?_eq_some_iff.1 hz).1
        simp [hl] at this
        omega
      subst this
      rw [List.getElem?_append_right (by omega), hl, Nat.sub_self] at hz
      simp at hz
      subst hz
      exact hy
theorem opn_slice {P : Program} {t e : TypeId} {α : Type} {d : Kd α} {V : α → Prop} {B : Nat} (ht : P.underlying t = some (.slice e)) (hs : P.cellsOf e = d.sz) (hB : P.bytesOf e = B) (he : Opn P e d V) :
    Opn P t (Kd.slice e d) (fun xs => xs.length * B ≤ 140737488351232 ∧ ∀ x ∈ xs, V x) := by
  intro H enc w fuel cs x h hw
  rcases Go.Deep.open_slice ht h with ⟨rfl, rfl⟩ | ⟨a, len, cap, m, n, D, Pl, rfl, _, hl, hm, hmm, rfl, hi⟩
  · exact ⟨[], ⟨none, 0, rfl, by simp, rfl, by simp, fun hn => absurd hn (by simp)⟩, by simp, by simp⟩
  have hmm' : m = cap := by simpa using hmm
  subst hmm'
  have hw' : (len + (m - len)) * B ≤ 140737488351232 := by
    have := hw ((len + (m - len)) * B) (by simp [DataW.weights, ht, hB])
    exact this
  obtain ⟨l, hlen, hq⟩ := list_of (fun i y => ∃ c, w.cells? 0 (a.add (i * P.cellsOf e)) (P.cellsOf e) = some c ∧ d.K w y c ∧ V y) len (fun i hil => by
    obtain ⟨c, hc, htr⟩ := hi i (by omega)
    obtain ⟨y, hy, hV⟩ := he H enc w n c _ htr (fun k hk => hw k (by
      simp only [DataW.weights, ht, List.mem_cons, List.mem_append]
      exact .inr (.inl (weights_all hk (List.mem_map.2 ⟨i, List.mem_range.2 hil, rfl⟩)))))
    exact ⟨y, c, hc, hy, hV⟩)
  refine ⟨l, ⟨some a, m, by rw [hlen], by omega, ?_⟩, ?_, ?_⟩
  · refine ⟨rfl, by simp only [maxLen] at hm; omega, fun _ => ⟨a, rfl, fun j p hj => ?_⟩⟩
    obtain ⟨c, hc, hK, _⟩ := hq j p hj
    obtain ⟨_, hcl, hat⟩ := World.cells?_some hc
    refine ⟨c, by rw [hcl, hs], hK, fun i u hu => ?_⟩
    have hil : i < P.cellsOf e := by
      have := (List.getElem?_eq_some_iff.1 hu).1
      omega
    rw [← hs, ← Go.Deep.add_add, hat i hil, hu]
  · rw [hlen]
    exact Nat.le_trans (Nat.mul_le_mul_right _ (by omega)) hw'
  · intro y hy
    obtain ⟨i, hi2⟩ := List.mem_iff_getElem?.1 hy
    exact (hq i y hi2).elim fun c h => h.2.2
theorem arg_slice {H : Type} {enc : TypeId × Value → H} {P : Program} {t e : TypeId} {α : Type} {d : Kd α} {V : List α → Prop} {W : World} {v : Value} {x : DataW H} {ps : List MemPlace} (ho : Opn P t (Kd.slice e d) V) (a : Option Addr) (len cap : Nat) (hv : v = .slice a len cap)
    (h : DataW.Trod enc P W 0 (fun _ => true) true t v x ps) (hw : ∀ n ∈ DataW.weights P t x, n ≤ 140737488351232) : ∃ (A : Option Addr) (c : Nat) (l : List α), v = .slice A l.length c ∧ l.length ≤ c ∧ Kd.C d W A l.length l ∧ V l := by
  obtain ⟨fuel, hf⟩ := h
  obtain ⟨l, ⟨A, c, hc, hl, hC⟩, hV⟩ := ho H enc W fuel _ _ hf hw
  subst hv
  have he : Value.slice a len cap = .slice A l.length c := by simpa [Value.cells] using hc
  exact ⟨A, c, l, he, hl, hC, hV⟩
theorem arg_weights {H : Type} {P : Program} {ts : List TypeId} {ds : List (DataW H)} (h : (DataW.weightsEach P ts ds).all (· ≤ reachBytes) = true) {j : Nat} {t : TypeId} {d : DataW H} (ht : ts[j]? = some t) (hd : ds[j]? = some d) : ∀ n ∈ DataW.weights P t d, n ≤ 140737488351232 := by
  intro n hn
  have := List.all_eq_true.1 h n (DataW.weights_mem_each ht hd n hn)
  exact of_decide_eq_true this
end Go.Proofs.YtbgabhknmpbgiaaDoor.Opn
end
section
namespace Go.Proofs.YtbgabhknmpbgiaaDoor.S
open Go.RowKit Go.Proofs.YtbgabhknmpbgiaaDoorW.PrintWords Go.Proofs.YtbgabhknmpbgiaaDoor.Opn
end Go.Proofs.YtbgabhknmpbgiaaDoor.S
end
section
namespace Go.Proofs.YtbgabhknmpbgiaaDoor.S
open Go.RowKit Go.Proofs.YtbgabhknmpbgiaaDoorW.PrintWords
def plenumlaw49_SegmentSafe.Pure : Prop := ∀ (a0 : ByteArray) (a1 : Int) (a2 : Int) (l3 : List Int), (a0.size ≤ 140737488351232) → ((Lit.int .i64 a1).wf = true) → ((Lit.int .i64 a2).wf = true) → (l3.length * 8 ≤ 140737488351232 ∧ ∀ y ∈ l3, (Lit.int .i64 y).wf = true) → ∃ k, plenumlaw49_SegmentSafe.f k a0 a1 a2 l3 = some true
end Go.Proofs.YtbgabhknmpbgiaaDoor.S
end
section
namespace Go.Proofs.YtbgabhknmpbgiaaDoor.Pure
open Go.RowKit Go.Proofs.YtbgabhknmpbgiaaDoor.S
theorem SegmentSafe : plenumlaw49_SegmentSafe.Pure := by
  unfold plenumlaw49_SegmentSafe.Pure
  intro a0 a1 a2 l3 _ _ _ h3
  refine ⟨0, ?_⟩
  unfold plenumlaw49_SegmentSafe.f
  rw [if_pos]
  intro y hy
  have h := h3.2 y hy
  have h2 : (decide (-9223372036854775808 ≤ y) && decide (y ≤ 9223372036854775807)) = true := h
  simpa using h2
end Go.Proofs.YtbgabhknmpbgiaaDoor.Pure
end
section
namespace Go.Proofs.YtbgabhknmpbgiaaDoor.segmentSafe
open Go.ChangeShapes Go.WideShapes Go.ChangeAt Go.RowKit
open Go.ChangeMaps (open_string shut_string)
open Go.Proofs.YtbgabhknmpbgiaaDoor.Opn Go.Proofs.YtbgabhknmpbgiaaDoorW.PrintWords Go.Proofs.YtbgabhknmpbgiaaDoor.S
set_option linter.unusedVariables false
theorem own : ownKnob Tryd.prog.godebug = none := by kernel_rfl
theorem laidOut : laidOutB Tryd.prog = true := by kernel_rfl
set_option maxHeartbeats 2000000 in
set_option maxRecDepth 100000 in
theorem lifted (os : Os) (started : os.Started) (H : Type) (enc : TypeId × Value → H) :
    ReturnsInHanded {} Tryd.checked os 7 .any (fun w args => (Rows.segmentSafeSpec.pre enc Tryd.prog Tryd.f7 Rows.segmentSafeRow.domain false w args ∧ laidMet Tryd.prog theLaid w) ∧ sizedMet enc Tryd.prog Tryd.f7 (OpenSpec.ofChange Rows.segmentSafeSpec) false w args) (Rows.segmentSafeSpec.post enc Tryd.prog Tryd.f7 false true false false) := by
  refine returnsInHanded_of_change_and (C := Tryd.checked) (X := fun w _ => laidMet Tryd.prog theLaid w) (fun _ _ _ hh h => h.of_heap hh) own started (by kernel_rfl) Tryd.func7
    (ChangeSpec.witness_at (enc := enc) (C := Tryd.checked) (os := os) (X := fun w _ => laidMet Tryd.prog theLaid w) false (laidWorld os) #[.string ByteArray.empty, .int .i64 0, .int .i64 0, .slice none 0 0] 8 rfl (by kernel_rfl) (by kernel_rfl) (by kernel_rfl) (by kernel_rfl) (by kernel_rfl) (laidWorld_met os _)) ?_
  intro W base args ds gs before hval0 hW hcnd hsz0 hL0 _
  have hGl := glob_of_laid hL0
  have hsz : (DataW.weightsEach Tryd.prog (Tryd.f7.params.toList ++ Rows.segmentSafeSpec.plain.varTypes Tryd.prog) (ds ++ gs)).all (· ≤ reachBytes) = true := hsz0
  have hval : ∀ (j : Nat) t v, Tryd.f7.params[j]? = some t → args[j]? = some v → Value.okWide Tryd.prog W .any base t v := hval0
  have hW' := hW
  obtain ⟨p, q, hA0, hV, rfl, hfz, hnd⟩ := hW
  have hA : DataW.TrodAll enc Tryd.prog W 0 (fun _ => true) true Tryd.f7.params.toList args.toList ds p := hA0
  rw [Tryd.params7] at hA hval hsz
  obtain ⟨v0, vs0, d0, ds0, p0, q0, hargs, rfl, rfl, h0, r0⟩ := trodAll_cons hA
  obtain ⟨v1, vs1, d1, ds1, p1, q1, rfl, rfl, rfl, h1, r1⟩ := trodAll_cons r0
  obtain ⟨v2, vs2, d2, ds2, p2, q2, rfl, rfl, rfl, h2, r2⟩ := trodAll_cons r1
  obtain ⟨v3, vs3, d3, ds3, p3, q3, rfl, rfl, rfl, h3, r3⟩ := trodAll_cons r2
  obtain ⟨rfl, rfl, rfl⟩ := trodAll_nil r3
  obtain rfl : args = #[v0, v1, v2, v3] := by cases args; simp_all
  obtain ⟨rfl, rfl⟩ := trodVars_none hV
  obtain ⟨a0, rfl, rfl, rfl, y0⟩ := open_string Tryd.underlying9 (hval 0 9 v0 rfl rfl) h0
  have hV0 : a0.size ≤ 140737488351232 := by
    have z := sized_string hsz (j := 0) (t := 9) rfl rfl
    rw [Array.length_toList] at z
    exact z
  obtain ⟨a1, rfl, rfl, rfl, w1⟩ := open_int Tryd.underlying3 (hval 1 3 v1 rfl rfl) h1
  obtain ⟨a2, rfl, rfl, rfl, w2⟩ := open_int Tryd.underlying3 (hval 2 3 v2 rfl rfl) h2
  have k3 := h3
  have lt3 : ∀ x ∈ p3, x.block < W.heap.size := by obtain ⟨m, hm⟩ := k3; exact DataW.trod_lt m _ _ _ hm
  obtain ⟨b3, len3, cap3, hb3⟩ := okWide_slice Tryd.underlying75 (hval 3 75 v3 rfl rfl)
  obtain ⟨A3, c3, l3, hv3, hc3, hr3, hV3⟩ := arg_slice (opn_slice (B := 8) Tryd.underlying75 (by kernel_rfl) (by kernel_rfl) (opn_int Tryd.underlying3)) b3 len3 cap3 hb3 h3 (arg_weights hsz (j := 3) (t := 75) rfl rfl)
  clear hb3
  subst hv3
  clear hA0 hval0 hsz0 hsz
  obtain ⟨k, h⟩ := Pure.SegmentSafe a0 a1 a2 l3 hV0 w1 w2 hV3
  refine (S.plenumlaw49_SegmentSafe.calls k a0 a1 a2 A3 c3 l3 true W hGl hr3 hc3 h).mono fun e W' ⟨he, bel0⟩ => ?_
  have bel : Below W.heap.size W W' := bel0
  subst he
  exact ⟨_, rfl, _, _, _, [], _, [], hW', trodAll_mk1 (shut_bool Tryd.underlying4 _), (trodAll_cons_mk (shut_string Tryd.underlying9 y0) (trodAll_cons_mk (shut_int Tryd.underlying3 w1) (trodAll_cons_mk (shut_int Tryd.underlying3 w2) (trodAll_cons_mk (Below.trod laidOut (by kernel_rfl) (of_decide_eq_true (by kernel_rfl)) k3 bel lt3) trodAll_mk0)))), rfl, bel.frame _, fun h => by cases h⟩
theorem over : Rows.segmentSafeRow.holds Tryd.pinned (OpenSpec.ofChange Rows.segmentSafeSpec) :=
  OpenClaim.holds_of_wide 7 Tryd.f7 rfl rfl rfl rfl rfl rfl rfl ⟨rfl, rfl, rfl, rfl, rfl⟩ rfl rfl rfl rfl rfl (by kernel_rfl) Tryd.func7 (by kernel_rfl)
    (of_decide_eq_true (by kernel_rfl)) (by unfold Func.isWrapper; first | (rw [if_pos (by decide +kernel)]; kernel_rfl) | (rw [if_neg (by decide +kernel)]; exact ⟨rfl, rfl⟩))
    (fun os started H enc _ => lifted os started H enc)
theorem card_holds : Rows.SegmentSafeCardSaid :=
  Claim7.holds_tied_plain_at .later [] [.data] true (true, "890f3340eab410ca07798f741ff427d8fc963afe88bbea7d7902dec58a10bb18") false
    over (fun _ h => by cases h) (by kernel_rfl) (fun _ h => by cases h) segmentSafe_row_tie rfl ⟨rfl, rfl⟩ (by kernel_rfl) rfl
    (fun f fn hf hfn => by
      obtain rfl : f = 7 := Option.some.inj ((show Tryd.prog.funcNamed "plenum/plenumlaw49.SegmentSafe" = some 7 by kernel_rfl).symm.trans hf) |>.symm
      obtain rfl : fn = Tryd.f7 := (Option.some.inj (Tryd.func7.symm.trans hfn)).symm
      exact ⟨by kernel_rfl, fun j t ht => by
        rw [Tryd.params7] at ht
        have ho : t = 3 ∨ t = 9 ∨ t = 75 := by
          rcases j with _ | _ | _ | _ | j
          all_goals simp at ht
          all_goals subst ht; simp
        obtain rfl | rfl | rfl := ho
        · exact (show Tryd.prog.wantsStandIn 3 = false by kernel_rfl)
        · exact (show Tryd.prog.wantsStandIn 9 = false by kernel_rfl)
        · exact (show Tryd.prog.wantsStandIn 75 = false by kernel_rfl)⟩)
    (by kernel_rfl)
#print axioms card_holds
end Go.Proofs.YtbgabhknmpbgiaaDoor.segmentSafe
namespace Go.Proofs.YtbgabhknmpbgiaaDoor
theorem segmentSafe_holds : Rows.SegmentSafeCardSaid := segmentSafe.card_holds
end Go.Proofs.YtbgabhknmpbgiaaDoor
end
