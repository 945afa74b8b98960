/- CodecReadsCard: one part of the proof that the law answers true for every input, and that its arguments read afterwards as before. No condition. -/
import Derived.Test.YtndeikikeeeigaaDoorCReads0
import Derived.Test.YtndeikikeeeigaaDoorProg
import Derived.Below
import Derived.Deep.Draws
import Derived.Deep.AppendLies
import Derived.Maps.AppendAt
import Derived.OwnWalk
import Derived.Laws.BytesArg
import Derived.Laws.MakeOwn
import Derived.Laws.OwnMore
import Derived.Deep.OwnRows
import Derived.Tactics
import Derived.Lib.ConvBytes
import Derived.Laws.Slices
import Derived.WalkKit
import Derived.KernelRfl
import Derived.RowKit3
import Derived.Deep.LoopGhost
import Derived.Deep.QuietTactic
import Derived.BigQuiet
import Derived.WideLaws
import Derived.Deep.DeepCutAuto
import Derived.Deep.CutBlock
import Derived.Deep.RegionHeld3
import Derived.Laws.Rows
import Derived.Lib.AppendStr
import Derived.ArgAppend
import Derived.Laws.IdiomCopy
import Derived.OrdersHeld
import Derived.Laws.BitsLemmas
import Derived.RowKit
import Derived.ChangeSame
import Derived.ChangeVars
import Derived.JoinedOf
import Derived.Handed
import Derived.Outline
import Derived.Test.YtndeikikeeeigaaDoorRows
section
namespace Go.Proofs.YtndeikikeeeigaaDoor.Q
open Go.RowKit Go.Proofs.YtndeikikeeeigaaDoorW.PrintWords Go.Proofs.YtndeikikeeeigaaDoorW.PrintLast Go.Proofs.YtndeikikeeeigaaDoorW.PrintMore
attribute [local go_sem] max2_int min2_int max_two min_two max_three min_three max_four min_four
set_option linter.unusedVariables false
set_option linter.unusedSimpArgs false
def Glob (w : World) : Prop := ∃ t, w.heap[0]? = some (.cells #[.int .i64 2, .int .i64 3, .int .i64 4, .int .i64 5, .int .i64 6] t (0, 0))
def gtab : List Int := [2, 3, 4, 5, 6]
theorem gt_at {w : World} (h : Glob w) {i : Int} (h0 : 0 ≤ i) (h1 : i < 5) : w.cell? ⟨0, i.toNat, none⟩ = some (.int .i64 (rd gtab i)) := by
  obtain ⟨t, h⟩ := h
  rw [blk_cell h]
  obtain rfl | rfl | rfl | rfl | rfl : i = 0 ∨ i = 1 ∨ i = 2 ∨ i = 3 ∨ i = 4 := by omega
  all_goals rfl
theorem goesT_ {P : Program} {ops : Array Oper} {Q : Exit → Act → World → Prop} {oi : Oper} {N : Option Tmp} {a : Act} {w : World} {K : Act → World → Prop} {f : FuncId} {fn : Func} {x : Operand} {xs : Array Operand} {ts : Array TypeId} (hf : P.funcs[f]? = some fn) (hname : (fn.name == "runtime.NumGoroutine") = false) (hb : fn.body.isSome = true) (args : Array Value)
    (hw : Region.wanted oi (yielded ops a.tmps) = true) (hN : oi.dst = N) (hop : oi.op = .call { callee := .value x, args := xs, argTypes := ts }) (hv : a.eval x = .func (.func f) #[] #[]) (hargs : xs.map a.eval = args)
    (h : Calls P f args w fun e w' => ∃ v, e = .returned v ∧ K (a.put N v) w') : if Region.wanted oi (yielded ops a.tmps) = true then Oper.wp P oi a w K Q else K (a.put N undef) w := by
  refine call_ f args hw hN ?_ h
  have he := enters_ hf hname hb args w
  unfold execOp
  simp [hop, resolve, Deferred.ofValue, invoke, hv, hargs, he]
theorem Glob.below {w w1 : World} (h : Glob w) (hb : Below w.heap.size w w1) : Glob w1 := h.imp fun _ h => blk_below h hb
theorem info5 : (Tryd.prog.info? 5).map (fun i => (i.zero, i.size, i.bytes)) = some (some (.int .u8 0), 1, 1) := by kernel_rfl
theorem info43 : (Tryd.prog.info? 43).map (fun i => (i.zero, i.size, i.bytes)) = some (some (.agg #[(.int .i64 0), (.bool false), (.int .u64 0), (.int .i64 0), (.string ⟨#[]⟩)]), 5, 48) := by kernel_rfl
structure S43 where
  f0 : Int
  f1 : Bool
  f2 : Int
  f3 : Int
  f4 : ByteArray
def z43 : S43 := ⟨(0 : Int), false, (0 : Int), (0 : Int), (⟨#[]⟩ : ByteArray)⟩
def k43 : Kd S43 := Kd.iso (Kd.pair (Kd.int .i64) (Kd.pair Kd.bool (Kd.pair (Kd.int .u64) (Kd.pair (Kd.int .i64) Kd.string)))) (fun x : S43 => (x.f0, x.f1, x.f2, x.f3, x.f4))
theorem k43_open {w : World} {x : S43} {cs : List Value} (h : k43.K w x cs) : cs = [.int .i64 x.f0, .bool x.f1, .int .u64 x.f2, .int .i64 x.f3, .string x.f4] := by
  obtain ⟨_, _, rfl, rfl, ⟨_, _, rfl, rfl, ⟨_, _, rfl, rfl, ⟨_, _, rfl, rfl, rfl⟩⟩⟩⟩ := h
  exact rfl
theorem k43_mkM (w : World) (base : Nat) (ok : Nat → Prop) (x : S43)  : k43.M w base ok x [.int .i64 x.f0, .bool x.f1, .int .u64 x.f2, .int .i64 x.f3, .string x.f4] := ⟨[.int .i64 x.f0], [.bool x.f1, .int .u64 x.f2, .int .i64 x.f3, .string x.f4], rfl, rfl, ⟨[.bool x.f1], [.int .u64 x.f2, .int .i64 x.f3, .string x.f4], rfl, rfl, ⟨[.int .u64 x.f2], [.int .i64 x.f3, .string x.f4], rfl, rfl, ⟨[.int .i64 x.f3], [.string x.f4], rfl, rfl, rfl⟩⟩⟩⟩
def rd_T43 (xs : List S43) (i : Int) : S43 := xs.getD i.toNat z43
theorem at_T43 {w : World} {A : Option Addr} {n : Nat} {xs : List S43} (h : Kd.C k43 w A n xs) (i : Int) (h0 : 0 ≤ i) (h1 : i < n) : ∃ ad , A = some ad ∧ w.cell? (ad.add (i.toNat * 5)) = some (.int .i64 (rd_T43 xs i).f0) ∧ w.cell? ⟨(ad.add (i.toNat * 5)).block, (ad.add (i.toNat * 5)).off + 1, none⟩ = some (.bool (rd_T43 xs i).f1) ∧ w.cell? ⟨(ad.add (i.toNat * 5)).block, (ad.add (i.toNat * 5)).off + 2, none⟩ = some (.int .u64 (rd_T43 xs i).f2) ∧ w.cell? ⟨(ad.add (i.toNat * 5)).block, (ad.add (i.toNat * 5)).off + 3, none⟩ = some (.int .i64 (rd_T43 xs i).f3) ∧ w.cell? ⟨(ad.add (i.toNat * 5)).block, (ad.add (i.toNat * 5)).off + 4, none⟩ = some (.string (rd_T43 xs i).f4) := by
  obtain ⟨ad, c, e, _, hK, hc0⟩ := Kd.C_get h z43 i h0 h1
  have hc : ∀ j u, c[j]? = some u → w.cell? (ad.add (i.toNat * 5 + j)) = some u := hc0
  obtain rfl := k43_open hK
  exact ⟨ad, e, hc 0 _ rfl, by rw [← add_field _ _ 1 (by omega)]; exact hc 1 _ rfl, by rw [← add_field _ _ 2 (by omega)]; exact hc 2 _ rfl, by rw [← add_field _ _ 3 (by omega)]; exact hc 3 _ rfl, by rw [← add_field _ _ 4 (by omega)]; exact hc 4 _ rfl⟩
end Go.Proofs.YtndeikikeeeigaaDoor.Q
end
section
namespace Go.Proofs.YtndeikikeeeigaaDoor.Q
open Go.ChangeShapes Go.WideShapes Go.RowKit
abbrev theLaid : List (String × DataW Unit) := [("plenum/codec.kinds", Rows.laid_plenum_codec_kinds)]
theorem lvName : Tryd.prog.globalNamed "plenum/codec.kinds" = some 0 := by kernel_rfl
theorem lvType : (Tryd.prog.globals[0]?).map (·.type) = some 89 := by kernel_rfl
theorem lvUnder : Tryd.prog.underlying 89 = some (.array 5 3) := by kernel_rfl
theorem lvUnderE : Tryd.prog.underlying 3 = some (.int .i64) := by kernel_rfl
theorem lvCells : Tryd.prog.cellsOf 89 = 5 := by kernel_rfl
theorem lvCellsE : Tryd.prog.cellsOf 3 = 1 := by kernel_rfl
theorem int_of_trod {H : Type} {enc : TypeId × Value → H} {P : Program} {w : World} {base : Nat} {sp : Nat → Bool} {held : Bool} {fuel : Nat} {t : TypeId} {k : IntKind} {c : Value} {y : DataW H × List MemPlace}
    (ht : P.underlying t = some (.int k)) (h : DataW.trod enc P w base sp held fuel t [c] = some y) : ∃ n, c = .int k n ∧ y = (.lit (.int k n), []) := by
  cases fuel with
  | zero => simp [DataW.trod] at h
  | succ fuel =>
    cases c <;> simp [DataW.trod, ht] at h
    rename_i k' n
    obtain ⟨⟨rfl, _⟩, rfl⟩ := h
    exact ⟨n, rfl, rfl⟩
def cellsL : Array Value := #[.int .i64 2, .int .i64 3, .int .i64 4, .int .i64 5, .int .i64 6]
theorem cells_of_laid {W : World} (h : laidMet Tryd.prog theLaid W) : W.var? Tryd.prog "plenum/codec.kinds" = some cellsL := by
  obtain ⟨ps, ⟨g, t, cs, fuel, p, q, hg, ht, hvar, hd, _, _⟩, _⟩ := h
  obtain rfl := Option.some.inj (lvName.symm.trans hg)
  obtain rfl := Option.some.inj (lvType.symm.trans ht)
  rw [hvar]
  congr 1
  obtain ⟨l⟩ := cs
  cases fuel with
  | zero => simp [DataW.trod] at hd
  | succ fuel =>
    simp only [DataW.trod, lvUnder, lvCells, lvCellsE] at hd
    split at hd
    · rename_i hl
      obtain ⟨c0, c1, c2, c3, c4, rfl⟩ : ∃ c0 c1 c2 c3 c4, l = [c0, c1, c2, c3, c4] := by
        match l, hl with
        | [a, b, c, d, e], _ => exact ⟨a, b, c, d, e, rfl⟩
      have e : List.range 5 = [0, 1, 2, 3, 4] := rfl
      rw [e] at hd
      simp only [Option.map_eq_some_iff, List.mapM_cons, List.mapM_nil, Option.bind_eq_bind, Option.bind_eq_some_iff, Option.pure_def, Option.some.injEq] at hd
      obtain ⟨xs, ⟨y0, h0, _, ⟨y1, h1, _, ⟨y2, h2, _, ⟨y3, h3, _, ⟨y4, h4, _, rfl, rfl⟩, rfl⟩, rfl⟩, rfl⟩, rfl⟩, hx⟩ := hd
      obtain ⟨n0, rfl, rfl⟩ := int_of_trod lvUnderE h0
      obtain ⟨n1, rfl, rfl⟩ := int_of_trod lvUnderE h1
      obtain ⟨n2, rfl, rfl⟩ := int_of_trod lvUnderE h2
      obtain ⟨n3, rfl, rfl⟩ := int_of_trod lvUnderE h3
      obtain ⟨n4, rfl, rfl⟩ := int_of_trod lvUnderE h4
      simp [Rows.laid_plenum_codec_kinds] at hx
      obtain ⟨⟨rfl, rfl, rfl, rfl, rfl⟩, _⟩ := hx
      rfl
    · cases hd
theorem glob_of_laid {W : World} (h : laidMet Tryd.prog theLaid W) : Glob W := by
  have hv := cells_of_laid h
  obtain ⟨ps, ⟨g, t, cs, fuel, p, q, hg, ht, hvar, hd, hq, hps⟩, _, hrow⟩ := h
  obtain rfl := Option.some.inj (lvName.symm.trans hg)
  obtain rfl := Option.some.inj (hvar.symm.trans hv)
  subst hps
  obtain ⟨⟨c, t', hc⟩, _⟩ := hrow 0 0 (List.mem_append_left _ (List.mem_append_left _ (by decide)))
  have hv' := hv
  unfold World.var? at hv'
  rw [lvName] at hv'
  simp only [Option.bind_some, hc] at hv'
  obtain rfl := Option.some.inj hv'
  exact ⟨t', hc⟩
noncomputable def laidWorld (os : Os) : World :=
  { World.holding Tryd.prog os ⟨#[], #[], []⟩ with heap := (World.holding Tryd.prog os ⟨#[], #[], []⟩).heap.modify 0 fun
      | .cells _ t frozen => .cells cellsL t frozen
      | o => o }
theorem laidWorld_row (os : Os) (args : Array Value) : ((laidWorld os).forCall (fun _ _ => 0) ⟨#[], args, []⟩).memory.heap[0]? = some (.cells cellsL 89 (0, 0)) := by kernel_rfl
theorem laidWorld_met (os : Os) (args : Array Value) : laidMet Tryd.prog theLaid ((laidWorld os).forCall (fun _ _ => 0) ⟨#[], args, []⟩).memory := by
  refine ⟨_, ⟨0, 89, cellsL, 8, [], [], lvName, lvType, ?_, ?_, rfl, rfl⟩, by decide, fun b off h => ?_⟩
  · unfold World.var?
    rw [lvName]
    simp only [Option.bind_some, laidWorld_row os args]
  · kernel_rfl
  · have h' : MemPlace.cell b off ∈ [MemPlace.cell 0 0, .cell 0 1, .cell 0 2, .cell 0 3, .cell 0 4] := h
    have hb : b = 0 := by
      simp at h'
      omega
    subst hb
    refine ⟨⟨_, _, laidWorld_row os args⟩, fun u v hc => ?_⟩
    simp only [World.cell?, laidWorld_row os args] at hc
    simp at h'
    rcases h' with rfl | rfl | rfl | rfl | rfl <;> simp [cellsL] at hc
end Go.Proofs.YtndeikikeeeigaaDoor.Q
end
section
namespace Go.Proofs.YtndeikikeeeigaaDoor.Q
open Go.RowKit Go.Proofs.YtndeikikeeeigaaDoorW.PrintWords Go.Proofs.YtndeikikeeeigaaDoorW.PrintLast Go.Proofs.YtndeikikeeeigaaDoorW.PrintMore
attribute [local go_sem] max2_int min2_int max_two min_two max_three min_three max_four min_four
set_option linter.unusedVariables false
set_option linter.unusedSimpArgs false
def codec_number.l0 : Nat → Int → List Int → Int → Option (List Int)
  | 0, _, _, _ => none
  | k + 1, x1, x7, x8 => if x8 ≥ 0 then (if 0 ≤ (wrap64 (8 * x8)) then (if x7.length < 140737488355328 then (codec_number.l0 k x1 (x7 ++ [(shr .u64 x1 (wrap64 (8 * x8))) % 256]) (wrap64 (x8 - 1))) else (none)) else (none)) else (some x7)
def codec_number.f (k : Nat) (a0 : Int) (a1 : Int) (a2 : Int) : Option (List Int) := codec_number.l0 k a1 (([(a0 + ((a2) % 256)) % 256] : List Int)) (wrap64 (a2 - 1))
theorem codec_number.mono_l : ∀ k, (∀ y0 y1 y2, LeO (codec_number.l0 k y0 y1 y2) (codec_number.l0 (k + 1) y0 y1 y2))
  | 0 => fun _ _ _ r h => by simp [codec_number.l0] at h
  | k + 1 => by
    have ih0 := codec_number.mono_l k
    · intro y0 y1 y2
      unfold codec_number.l0
      repeat' first
      | (with_reducible exact ih0 _ _ _)
      | (with_reducible exact LeO.refl _)
      | (with_reducible exact LeO.none _)
      | (with_reducible refine LeO.ite ?_ ?_)
      | (with_reducible refine LeO.bind ?_ (fun _ => ?_))
      | exact ih0 _ _ _
      | exact LeO.none _
      | refine LeO.ite ?_ ?_
      | refine LeO.bind ?_ (fun _ => ?_)
theorem codec_number.mono : ∀ a0 a1 a2 k, LeO (codec_number.f k a0 a1 a2) (codec_number.f (k + 1) a0 a1 a2) := by
  intro a0 a1 a2 k
  have ih0 := codec_number.mono_l k
  unfold codec_number.f
  repeat' first
      | (with_reducible exact ih0 _ _ _)
      | (with_reducible exact LeO.refl _)
      | (with_reducible exact LeO.none _)
      | (with_reducible refine LeO.ite ?_ ?_)
      | (with_reducible refine LeO.bind ?_ (fun _ => ?_))
      | exact ih0 _ _ _
      | exact LeO.none _
      | refine LeO.ite ?_ ?_
      | refine LeO.bind ?_ (fun _ => ?_)
set_option maxHeartbeats 8000000 in
set_option maxRecDepth 100000 in
theorem codec_number.calls (k : Nat) (a0 : Int) (a1 : Int) (a2 : Int) (r : List Int) (w : World) (hG : Glob w) (h : codec_number.f k a0 a1 a2 = some r) :
    Calls Tryd.prog 62 #[.int .u8 a0, .int .u64 a1, .int .i64 a2] w fun e w' => ∃ v0_ : Value, e = .returned (v0_) ∧ Kd.R (Kd.int .u8) 5 w' w.heap.size (fun _ => True) v0_ r ∧ Below w.heap.size w w' := by
  have HG := Aside0.mk hG
  clear hG
  have HB := Aside0.mk (Below.refl w.heap.size w)
  have H : (codec_number.l0 k a1 (([(a0 + ((a2) % 256)) % 256] : List Int)) (wrap64 (a2 - 1))) = some r := h
  clear h
  obtain ⟨y132, hy132⟩ : ∃ y_ : List Int, y_ = (([(a0 + ((a2) % 256)) % 256] : List Int)) := ⟨_, rfl⟩
  replace H : (codec_number.l0 k a1 y132 (wrap64 (a2 - 1))) = some r := by first | (rw [hy132]; with_reducible exact H) | (have H2_ := (Option.bind_some _ _).symm.trans H; rw [hy132]; with_reducible exact H2_) | (have H2_ := (Option.bind_some _ _).symm.trans H; with_reducible exact H2_) | with_reducible exact H | (rw [hy132]; exact H) | exact H
  have Ny132 := Aside0.mk hy132
  clear hy132
  have H' := Aside0.mk H
  clear H
  go_enter Tryd.func62, Tryd.ntmps62
  go_wp2_with (first | ((with_reducible refine gate_dst (N := 13) rfl ?_); refine Kd.R_lit (Kd.int .u8) _ 5 ?hg (N := 13) ?hd (xs := ([(a0 + ((a2) % 256)) % 256] : List Int)) (inner := [.int .u8 ((a0 + ((a2) % 256)) % 256)]) (ok := fun _ => True) (okp := fun _ => True) ?hr ?hp (fun _ hk => hk) trivial (Below.refl _ _) (Nat.le_refl _) (by simp) ?_; (case hd => rfl); (case hg => rfl); (case hr => first | (go_simp; done) | (go_simp; rfl)); (case hp => exact (Reps.one (show Kd.M (Kd.int .u8) _ _ _ ((a0 + ((a2) % 256)) % 256) [.int .u8 ((a0 + ((a2) % 256)) % 256)] from rfl) (Reps.none _ _))); intro v133 w4 ho5 hb hg_ hnew_; clear hg_ hnew_; (first | rw [← Ny132.out] at ho5 | (simp only [Int.reduceToNat] at ho5; rw [← Ny132.out] at ho5)); have n0_ := Aside0.mk (Kd.R_lower ho5 (below_size (by repeat (first | (with_reducible first | exact HB.out | apply below_alloc | apply pw_below_drewN | apply below_drew1) | exact HB.out)))); have n1_ := Aside0.mk (below_step (by repeat (first | (with_reducible first | exact HB.out | apply below_alloc | apply pw_below_drewN | apply below_drew1) | exact HB.out)) hb); clear HB; have HO134 := n0_; have HB := n1_; clear n0_ n1_; clear hb ho5))
  go_loopg [7, 8] k (fun kq v7 v8 w' => ∃ (x7_1 : List Int) (x8_1 : Int), v8 = .int .i64 x8_1 ∧ Aside0 (codec_number.l0 kq a1 x7_1 x8_1 = some r) ∧ Aside0 (kq ≤ k) ∧ Aside0 (Kd.R (Kd.int .u8) 5 w' w.heap.size (fun _ => True) v7 x7_1) ∧ Aside0 (Below w.heap.size w w'))
  case atStart => exact ⟨(y132), (wrap64 (a2 - 1)), (by first | rfl | (simp; done) | (simp [*]; done)), H', ⟨Nat.le_refl _⟩, ⟨by (with_reducible repeat (first | apply Kd.R_alloc | apply Kd.R_drewN | apply Kd.R_drew)); exact HO134.out⟩, ⟨by repeat (first | (with_reducible first | exact HB.out | apply below_alloc | apply pw_below_drewN | apply below_drew1) | exact HB.out)⟩⟩
  case round =>
    clear H'
    try clear p2
    obtain ⟨x7_1, x8_1, rfl, HA, HK1, HO_7, HB⟩ := hrel
    cases gk with
    | zero => exact absurd HA.out (by simp [codec_number.l0])
    | succ k1 =>
      have H := HA.out
      clear HA
      simp only [codec_number.l0] at H
      by_cases c6 : x8_1 ≥ 0
      · rw [if_pos c6] at H
        have c6b0 : decide (0 ≤ x8_1) = true := decide_eq_true c6
        clear c6
        obtain ⟨ji7, hji7⟩ : ∃ j_ : Int, (wrap64 (8 * x8_1)) = j_ := ⟨_, rfl⟩
        replace H : (if 0 ≤ (ji7) then (if x7_1.length < 140737488355328 then (codec_number.l0 k1 a1 (x7_1 ++ [(shr .u64 a1 (ji7)) % 256]) (wrap64 (x8_1 - 1))) else (none)) else (none)) = some r := by first | (rw [hji7] at H; exact H) | (simp only [hji7] at H ⊢; exact H)
        have hji7w : (IntKind.i64.wrap (8 * x8_1)) = ji7 := (i64_w _).trans hji7
        by_cases c8 : 0 ≤ (ji7)
        · rw [if_pos c8] at H
          have c8b0 := eq_true c8
          have c8b1 : decide (0 ≤ (ji7)) = true := decide_eq_true c8
          clear c8
          obtain ⟨ji9, hji9⟩ : ∃ j_ : Int, (shr .u64 a1 (ji7)) = j_ := ⟨_, rfl⟩
          replace H : (if x7_1.length < 140737488355328 then (codec_number.l0 k1 a1 (x7_1 ++ [(ji9) % 256]) (wrap64 (x8_1 - 1))) else (none)) = some r := by first | (rw [hji9] at H; exact H) | (simp only [hji9] at H ⊢; exact H)
          have hji9_ : (a1 / 2 ^ min (ji7).toNat 64) = ji9 := hji9
          have hji9z : (ji7) ≤ 64 → (a1 / 2 ^ (ji7).toNat) = ji9 := shr_small hji9
          by_cases c10 : x7_1.length < 140737488355328
          · rw [if_pos c10] at H
            have LMc10 := Aside0.mk c10
            clear c10
            obtain ⟨y135, hy135⟩ : ∃ y_ : List Int, y_ = (x7_1 ++ [(ji9) % 256]) := ⟨_, rfl⟩
            replace H : (codec_number.l0 k1 a1 y135 (wrap64 (x8_1 - 1))) = some r := by first | (rw [hy135]; with_reducible exact H) | (have H2_ := (Option.bind_some _ _).symm.trans H; rw [hy135]; with_reducible exact H2_) | (have H2_ := (Option.bind_some _ _).symm.trans H; with_reducible exact H2_) | with_reducible exact H | (rw [hy135]; exact H) | exact H
            have Ny135 := Aside0.mk hy135
            clear hy135
            have H' := Aside0.mk H
            clear H
            go_wp2_with (first | ((with_reducible refine gate_builtin (b := .append) (xs := #[.tmp 20, .tmp 26]) rfl ?_); at_builtin; refine Kd.R_append (Kd.int .u8) (w0 := w) w.heap.size rfl (.tmp 20) (.tmp 26) 28 5 (.int .u8 0) 1 rfl Tryd.underlying28 info5 rfl (by decide) (by omega) u7 x7_1 ((ji9) % 256) [.int .u8 ((ji9) % 256)] (fun _ => True) (fun _ => False) rfl rfl ?aP (fun _ hk => hk.elim) ?aF ?aO ?aB ?aS ?aL ?_; (case aP => exact rfl); (case aB => exact (by repeat (first | (with_reducible first | exact HB.out | apply below_alloc | apply pw_below_drewN | apply below_drew1) | exact HB.out))); (case aF => exact (fun _ _ => trivial)); (case aO => exact (by (with_reducible repeat (first | apply Kd.R_alloc | apply Kd.R_drewN | apply Kd.R_drew)); exact HO_7.out)); (case aS => exact (below_size (by repeat (first | (with_reducible first | exact HB.out | apply below_alloc | apply pw_below_drewN | apply below_drew1) | exact HB.out)))); (case aL => have := LMc10.out; first | omega | (simp only [ByteArray.size, List.size_toArray, List.length_cons, List.length_nil] at this ⊢; omega)); intro v136 w11 ho hb hg hat; rw [← Ny135.out] at ho; have n0_ := Aside0.mk (hb); have n1_ := Aside0.mk (ho); clear HB; clear HO_7; have HB := n0_; have HO137 := n1_; clear n0_ n1_; clear ho hb hg hat))
            go_roundg k1
            case measure => have := HK1.out; omega
            case rel => exact ⟨(y135), (wrap64 (x8_1 - 1)), (by first | rfl | (simp; done) | (simp [*]; done)), H', ⟨by have := HK1.out; omega⟩, ⟨by (with_reducible repeat (first | apply Kd.R_alloc | apply Kd.R_drewN | apply Kd.R_drew)); exact HO137.out⟩, ⟨by repeat (first | (with_reducible first | exact HB.out | apply below_alloc | apply pw_below_drewN | apply below_drew1) | exact HB.out)⟩⟩
          · rw [if_neg c10] at H
            exact absurd H (by simp)
        · rw [if_neg c8] at H
          exact absurd H (by simp)
      · rw [if_neg c6] at H
        have c6b0 : decide (0 ≤ x8_1) = false := decide_eq_false c6
        clear c6
        obtain rfl := Option.some.inj H
        go_wp2
        go_ret
        exact ⟨_, by first | rfl | (simp [errW_none, errW_some] <;> rfl) | (simp [*, errW_none, errW_some] <;> rfl), by (with_reducible repeat (first | apply Kd.R_alloc | apply Kd.R_drewN | apply Kd.R_drew)); exact HO_7.out, by repeat (first | (with_reducible first | exact HB.out | apply below_alloc | apply pw_below_drewN | apply below_drew1) | exact HB.out)⟩
end Go.Proofs.YtndeikikeeeigaaDoor.Q
end
section
namespace Go.Proofs.YtndeikikeeeigaaDoor.Q
open Go.RowKit Go.Proofs.YtndeikikeeeigaaDoorW.PrintWords Go.Proofs.YtndeikikeeeigaaDoorW.PrintLast Go.Proofs.YtndeikikeeeigaaDoorW.PrintMore
attribute [local go_sem] max2_int min2_int max_two min_two max_three min_three max_four min_four
set_option linter.unusedVariables false
set_option linter.unusedSimpArgs false
def bits_Len64.j0 : Nat → Int → Int → Option (Int)
  | 0, _, _ => none
  | k + 1, x0, x2 => if x0 ≥ 65536 then (if (x0 / 65536) ≥ 256 then (if 0 ≤ (((x0 / 65536) / 256) % 256) then (if (((x0 / 65536) / 256) % 256) < 256 then (some (wrap64 ((wrap64 ((wrap64 (x2 + 16)) + 8)) + (wrap64 (bt (⟨#[0, 1, 2, 2, 3, 3, 3, 3, 4, 4, 4, 4, 4, 4, 4, 4, 5, 5, 5, 5, 5, 5, 5, 5, 5, 5, 5, 5, 5, 5, 5, 5, 6, 6, 6, 6, 6, 6, 6, 6, 6, 6, 6, 6, 6, 6, 6, 6, 6, 6, 6, 6, 6, 6, 6, 6, 6, 6, 6, 6, 6, 6, 6, 6, 7, 7, 7, 7, 7, 7, 7, 7, 7, 7, 7, 7, 7, 7, 7, 7, 7, 7, 7, 7, 7, 7, 7, 7, 7, 7, 7, 7, 7, 7, 7, 7, 7, 7, 7, 7, 7, 7, 7, 7, 7, 7, 7, 7, 7, 7, 7, 7, 7, 7, 7, 7, 7, 7, 7, 7, 7, 7, 7, 7, 7, 7, 7, 7, 8, 8, 8, 8, 8, 8, 8, 8, 8, 8, 8, 8, 8, 8, 8, 8, 8, 8, 8, 8, 8, 8, 8, 8, 8, 8, 8, 8, 8, 8, 8, 8, 8, 8, 8, 8, 8, 8, 8, 8, 8, 8, 8, 8, 8, 8, 8, 8, 8, 8, 8, 8, 8, 8, 8, 8, 8, 8, 8, 8, 8, 8, 8, 8, 8, 8, 8, 8, 8, 8, 8, 8, 8, 8, 8, 8, 8, 8, 8, 8, 8, 8, 8, 8, 8, 8, 8, 8, 8, 8, 8, 8, 8, 8, 8, 8, 8, 8, 8, 8, 8, 8, 8, 8, 8, 8, 8, 8, 8, 8, 8, 8, 8, 8, 8, 8, 8, 8, 8, 8, 8, 8, 8, 8, 8, 8, 8, 8]⟩ : ByteArray) (((x0 / 65536) / 256) % 256)))))) else (none)) else (none)) else (if 0 ≤ ((x0 / 65536) % 256) then (if ((x0 / 65536) % 256) < 256 then (some (wrap64 ((wrap64 (x2 + 16)) + (wrap64 (bt (⟨#[0, 1, 2, 2, 3, 3, 3, 3, 4, 4, 4, 4, 4, 4, 4, 4, 5, 5, 5, 5, 5, 5, 5, 5, 5, 5, 5, 5, 5, 5, 5, 5, 6, 6, 6, 6, 6, 6, 6, 6, 6, 6, 6, 6, 6, 6, 6, 6, 6, 6, 6, 6, 6, 6, 6, 6, 6, 6, 6, 6, 6, 6, 6, 6, 7, 7, 7, 7, 7, 7, 7, 7, 7, 7, 7, 7, 7, 7, 7, 7, 7, 7, 7, 7, 7, 7, 7, 7, 7, 7, 7, 7, 7, 7, 7, 7, 7, 7, 7, 7, 7, 7, 7, 7, 7, 7, 7, 7, 7, 7, 7, 7, 7, 7, 7, 7, 7, 7, 7, 7, 7, 7, 7, 7, 7, 7, 7, 7, 8, 8, 8, 8, 8, 8, 8, 8, 8, 8, 8, 8, 8, 8, 8, 8, 8, 8, 8, 8, 8, 8, 8, 8, 8, 8, 8, 8, 8, 8, 8, 8, 8, 8, 8, 8, 8, 8, 8, 8, 8, 8, 8, 8, 8, 8, 8, 8, 8, 8, 8, 8, 8, 8, 8, 8, 8, 8, 8, 8, 8, 8, 8, 8, 8, 8, 8, 8, 8, 8, 8, 8, 8, 8, 8, 8, 8, 8, 8, 8, 8, 8, 8, 8, 8, 8, 8, 8, 8, 8, 8, 8, 8, 8, 8, 8, 8, 8, 8, 8, 8, 8, 8, 8, 8, 8, 8, 8, 8, 8, 8, 8, 8, 8, 8, 8, 8, 8, 8, 8, 8, 8, 8, 8, 8, 8, 8, 8]⟩ : ByteArray) ((x0 / 65536) % 256)))))) else (none)) else (none))) else (if x0 ≥ 256 then (if 0 ≤ ((x0 / 256) % 256) then (if ((x0 / 256) % 256) < 256 then (some (wrap64 ((wrap64 (x2 + 8)) + (wrap64 (bt (⟨#[0, 1, 2, 2, 3, 3, 3, 3, 4, 4, 4, 4, 4, 4, 4, 4, 5, 5, 5, 5, 5, 5, 5, 5, 5, 5, 5, 5, 5, 5, 5, 5, 6, 6, 6, 6, 6, 6, 6, 6, 6, 6, 6, 6, 6, 6, 6, 6, 6, 6, 6, 6, 6, 6, 6, 6, 6, 6, 6, 6, 6, 6, 6, 6, 7, 7, 7, 7, 7, 7, 7, 7, 7, 7, 7, 7, 7, 7, 7, 7, 7, 7, 7, 7, 7, 7, 7, 7, 7, 7, 7, 7, 7, 7, 7, 7, 7, 7, 7, 7, 7, 7, 7, 7, 7, 7, 7, 7, 7, 7, 7, 7, 7, 7, 7, 7, 7, 7, 7, 7, 7, 7, 7, 7, 7, 7, 7, 7, 8, 8, 8, 8, 8, 8, 8, 8, 8, 8, 8, 8, 8, 8, 8, 8, 8, 8, 8, 8, 8, 8, 8, 8, 8, 8, 8, 8, 8, 8, 8, 8, 8, 8, 8, 8, 8, 8, 8, 8, 8, 8, 8, 8, 8, 8, 8, 8, 8, 8, 8, 8, 8, 8, 8, 8, 8, 8, 8, 8, 8, 8, 8, 8, 8, 8, 8, 8, 8, 8, 8, 8, 8, 8, 8, 8, 8, 8, 8, 8, 8, 8, 8, 8, 8, 8, 8, 8, 8, 8, 8, 8, 8, 8, 8, 8, 8, 8, 8, 8, 8, 8, 8, 8, 8, 8, 8, 8, 8, 8, 8, 8, 8, 8, 8, 8, 8, 8, 8, 8, 8, 8, 8, 8, 8, 8, 8, 8]⟩ : ByteArray) ((x0 / 256) % 256)))))) else (none)) else (none)) else (if 0 ≤ ((x0) % 256) then (if ((x0) % 256) < 256 then (some (wrap64 (x2 + (wrap64 (bt (⟨#[0, 1, 2, 2, 3, 3, 3, 3, 4, 4, 4, 4, 4, 4, 4, 4, 5, 5, 5, 5, 5, 5, 5, 5, 5, 5, 5, 5, 5, 5, 5, 5, 6, 6, 6, 6, 6, 6, 6, 6, 6, 6, 6, 6, 6, 6, 6, 6, 6, 6, 6, 6, 6, 6, 6, 6, 6, 6, 6, 6, 6, 6, 6, 6, 7, 7, 7, 7, 7, 7, 7, 7, 7, 7, 7, 7, 7, 7, 7, 7, 7, 7, 7, 7, 7, 7, 7, 7, 7, 7, 7, 7, 7, 7, 7, 7, 7, 7, 7, 7, 7, 7, 7, 7, 7, 7, 7, 7, 7, 7, 7, 7, 7, 7, 7, 7, 7, 7, 7, 7, 7, 7, 7, 7, 7, 7, 7, 7, 8, 8, 8, 8, 8, 8, 8, 8, 8, 8, 8, 8, 8, 8, 8, 8, 8, 8, 8, 8, 8, 8, 8, 8, 8, 8, 8, 8, 8, 8, 8, 8, 8, 8, 8, 8, 8, 8, 8, 8, 8, 8, 8, 8, 8, 8, 8, 8, 8, 8, 8, 8, 8, 8, 8, 8, 8, 8, 8, 8, 8, 8, 8, 8, 8, 8, 8, 8, 8, 8, 8, 8, 8, 8, 8, 8, 8, 8, 8, 8, 8, 8, 8, 8, 8, 8, 8, 8, 8, 8, 8, 8, 8, 8, 8, 8, 8, 8, 8, 8, 8, 8, 8, 8, 8, 8, 8, 8, 8, 8, 8, 8, 8, 8, 8, 8, 8, 8, 8, 8, 8, 8, 8, 8, 8, 8, 8, 8]⟩ : ByteArray) ((x0) % 256)))))) else (none)) else (none)))
def bits_Len64.f (k : Nat) (a0 : Int) : Option (Int) := if a0 ≥ 4294967296 then (bits_Len64.j0 k (a0 / 4294967296) 32) else (bits_Len64.j0 k a0 0)
theorem bits_Len64.mono_l : ∀ k, (∀ y0 y1, LeO (bits_Len64.j0 k y0 y1) (bits_Len64.j0 (k + 1) y0 y1))
  | 0 => fun _ _ r h => by simp [bits_Len64.j0] at h
  | k + 1 => by
    have ih0 := bits_Len64.mono_l k
    · intro y0 y1
      unfold bits_Len64.j0
      repeat' first
      | (with_reducible exact ih0 _ _)
      | (with_reducible exact LeO.refl _)
      | (with_reducible exact LeO.none _)
      | (with_reducible refine LeO.ite ?_ ?_)
      | (with_reducible refine LeO.bind ?_ (fun _ => ?_))
      | exact ih0 _ _
      | exact LeO.none _
      | refine LeO.ite ?_ ?_
      | refine LeO.bind ?_ (fun _ => ?_)
theorem bits_Len64.mono : ∀ a0 k, LeO (bits_Len64.f k a0) (bits_Len64.f (k + 1) a0) := by
  intro a0 k
  have ih0 := bits_Len64.mono_l k
  unfold bits_Len64.f
  repeat' first
      | (with_reducible exact ih0 _ _)
      | (with_reducible exact LeO.refl _)
      | (with_reducible exact LeO.none _)
      | (with_reducible refine LeO.ite ?_ ?_)
      | (with_reducible refine LeO.bind ?_ (fun _ => ?_))
      | exact ih0 _ _
      | exact LeO.none _
      | refine LeO.ite ?_ ?_
      | refine LeO.bind ?_ (fun _ => ?_)
set_option maxHeartbeats 8000000 in
set_option maxRecDepth 100000 in
theorem bits_Len64.calls (k : Nat) (a0 : Int) (r : Int) (w : World) (hG : Glob w) (h : bits_Len64.f k a0 = some r) :
    Calls Tryd.prog 66 #[.int .u64 a0] w fun e w' => e = .returned (.int .i64 r) ∧ Drawn0 w w' := by
  have HG := Aside0.mk hG
  clear hG
  have H : (if a0 ≥ 4294967296 then (bits_Len64.j0 k (a0 / 4294967296) 32) else (bits_Len64.j0 k a0 0)) = some r := h
  clear h
  have HC2 := Aside0.mk H
  clear H
  go_enter Tryd.func66, Tryd.ntmps66
  go_upto_if 4 with (fail)
  go_cut [0, 2] (fun v0 v2 wc => ∃ (kq : Nat) (x0_1 : Int) (x2_1 : Int), v0 = .int .u64 x0_1 ∧ v2 = .int .i64 x2_1 ∧ Aside0 (bits_Len64.j0 kq x0_1 x2_1 = some r) ∧ Aside0 (kq ≤ k) ∧ Drawn0 w wc)
  case first =>
    have H := HC2.out
    clear HC2
    by_cases c3 : a0 ≥ 4294967296
    · rw [if_pos c3] at H
      have c3b0 : decide (4294967296 ≤ a0) = true := decide_eq_true c3
      clear c3
      (first | rw [c3b0] | (simp only [i64_w, i32_w]; rw [c3b0]) | skip)
      have H' := Aside0.mk H
      clear H
      go_wp2
      go_meet
      case rel => exact ⟨_, (a0 / 4294967296), (32), (by first | rfl | (simp; done) | (simp [*]; done)), (by first | rfl | (simp; done) | (simp [*]; done)), H', ⟨by first | omega | exact Nat.le_refl _⟩, by repeat (first | exact Drawn0.refl _ | apply Drawn0.step)⟩
    · rw [if_neg c3] at H
      have c3b0 : decide (4294967296 ≤ a0) = false := decide_eq_false c3
      clear c3
      (first | rw [c3b0] | (simp only [i64_w, i32_w]; rw [c3b0]) | skip)
      have H' := Aside0.mk H
      clear H
      go_wp2
      go_meet
      case rel => exact ⟨_, (a0), (0), (by first | rfl | (simp; done) | (simp [*]; done)), (by first | rfl | (simp; done) | (simp [*]; done)), H', ⟨by first | omega | exact Nat.le_refl _⟩, by repeat (first | exact Drawn0.refl _ | apply Drawn0.step)⟩
  case rest =>
    clear HC2
    try clear p2
    try clear c3
    try clear c3b0
    obtain ⟨kq, x0_1, x2_1, rfl, rfl, HA, HJ1, ⟨mc1, rfl⟩⟩ := hcut
    cases kq with
    | zero => exact absurd HA.out (by simp [bits_Len64.j0])
    | succ kj1 =>
      have H := HA.out
      clear HA
      simp only [bits_Len64.j0] at H
      by_cases c4 : x0_1 ≥ 65536
      · rw [if_pos c4] at H
        have c4b0 : decide (65536 ≤ x0_1) = true := decide_eq_true c4
        clear c4
        by_cases c5 : (x0_1 / 65536) ≥ 256
        · rw [if_pos c5] at H
          have c5b0 : decide (256 ≤ (x0_1 / 65536)) = true := decide_eq_true c5
          clear c5
          obtain ⟨ji6, hji6⟩ : ∃ j_ : Int, (((x0_1 / 65536) / 256) % 256) = j_ := ⟨_, rfl⟩
          replace H : (if 0 ≤ (ji6) then (if (ji6) < 256 then (some (wrap64 ((wrap64 ((wrap64 (x2_1 + 16)) + 8)) + (wrap64 (bt (⟨#[0, 1, 2, 2, 3, 3, 3, 3, 4, 4, 4, 4, 4, 4, 4, 4, 5, 5, 5, 5, 5, 5, 5, 5, 5, 5, 5, 5, 5, 5, 5, 5, 6, 6, 6, 6, 6, 6, 6, 6, 6, 6, 6, 6, 6, 6, 6, 6, 6, 6, 6, 6, 6, 6, 6, 6, 6, 6, 6, 6, 6, 6, 6, 6, 7, 7, 7, 7, 7, 7, 7, 7, 7, 7, 7, 7, 7, 7, 7, 7, 7, 7, 7, 7, 7, 7, 7, 7, 7, 7, 7, 7, 7, 7, 7, 7, 7, 7, 7, 7, 7, 7, 7, 7, 7, 7, 7, 7, 7, 7, 7, 7, 7, 7, 7, 7, 7, 7, 7, 7, 7, 7, 7, 7, 7, 7, 7, 7, 8, 8, 8, 8, 8, 8, 8, 8, 8, 8, 8, 8, 8, 8, 8, 8, 8, 8, 8, 8, 8, 8, 8, 8, 8, 8, 8, 8, 8, 8, 8, 8, 8, 8, 8, 8, 8, 8, 8, 8, 8, 8, 8, 8, 8, 8, 8, 8, 8, 8, 8, 8, 8, 8, 8, 8, 8, 8, 8, 8, 8, 8, 8, 8, 8, 8, 8, 8, 8, 8, 8, 8, 8, 8, 8, 8, 8, 8, 8, 8, 8, 8, 8, 8, 8, 8, 8, 8, 8, 8, 8, 8, 8, 8, 8, 8, 8, 8, 8, 8, 8, 8, 8, 8, 8, 8, 8, 8, 8, 8, 8, 8, 8, 8, 8, 8, 8, 8, 8, 8, 8, 8, 8, 8, 8, 8, 8, 8]⟩ : ByteArray) (ji6)))))) else (none)) else (none)) = some r := by first | (rw [hji6] at H; exact H) | (simp only [hji6] at H ⊢; exact H)
          by_cases c7 : 0 ≤ (ji6)
          · rw [if_pos c7] at H
            have c7b0 : decide (0 ≤ (ji6)) = true := decide_eq_true c7
            clear c7
            by_cases c8 : (ji6) < 256
            · rw [if_pos c8] at H
              have c8b0 : decide ((ji6) < 256) = true := decide_eq_true c8
              clear c8
              obtain rfl := Option.some.inj H
              have p9 : 0 ≤ ((ji6) : Int) := of_decide_eq_true (by first | (with_reducible assumption) | assumption)
              have q9 : (ji6) < (256 : Int) := of_decide_eq_true (by first | (with_reducible assumption) | assumption)
              have hx9 := bt_at (⟨#[0, 1, 2, 2, 3, 3, 3, 3, 4, 4, 4, 4, 4, 4, 4, 4, 5, 5, 5, 5, 5, 5, 5, 5, 5, 5, 5, 5, 5, 5, 5, 5, 6, 6, 6, 6, 6, 6, 6, 6, 6, 6, 6, 6, 6, 6, 6, 6, 6, 6, 6, 6, 6, 6, 6, 6, 6, 6, 6, 6, 6, 6, 6, 6, 7, 7, 7, 7, 7, 7, 7, 7, 7, 7, 7, 7, 7, 7, 7, 7, 7, 7, 7, 7, 7, 7, 7, 7, 7, 7, 7, 7, 7, 7, 7, 7, 7, 7, 7, 7, 7, 7, 7, 7, 7, 7, 7, 7, 7, 7, 7, 7, 7, 7, 7, 7, 7, 7, 7, 7, 7, 7, 7, 7, 7, 7, 7, 7, 8, 8, 8, 8, 8, 8, 8, 8, 8, 8, 8, 8, 8, 8, 8, 8, 8, 8, 8, 8, 8, 8, 8, 8, 8, 8, 8, 8, 8, 8, 8, 8, 8, 8, 8, 8, 8, 8, 8, 8, 8, 8, 8, 8, 8, 8, 8, 8, 8, 8, 8, 8, 8, 8, 8, 8, 8, 8, 8, 8, 8, 8, 8, 8, 8, 8, 8, 8, 8, 8, 8, 8, 8, 8, 8, 8, 8, 8, 8, 8, 8, 8, 8, 8, 8, 8, 8, 8, 8, 8, 8, 8, 8, 8, 8, 8, 8, 8, 8, 8, 8, 8, 8, 8, 8, 8, 8, 8, 8, 8, 8, 8, 8, 8, 8, 8, 8, 8, 8, 8, 8, 8, 8, 8, 8, 8, 8, 8]⟩ : ByteArray) (ji6)
              replace p9 := eq_true p9
              replace q9 := eq_true q9
              go_wp2
              go_ret
              exact ⟨by first | rfl | (simp; done) | (simp only [← hji6] <;> (first | rfl | simp)) | (simp [*]; done), by repeat (first | exact Drawn0.refl _ | apply Drawn0.step)⟩
            · rw [if_neg c8] at H
              exact absurd H (by simp)
          · rw [if_neg c7] at H
            exact absurd H (by simp)
        · rw [if_neg c5] at H
          have c5b0 : decide (256 ≤ (x0_1 / 65536)) = false := decide_eq_false c5
          clear c5
          obtain ⟨ji10, hji10⟩ : ∃ j_ : Int, ((x0_1 / 65536) % 256) = j_ := ⟨_, rfl⟩
          replace H : (if 0 ≤ (ji10) then (if (ji10) < 256 then (some (wrap64 ((wrap64 (x2_1 + 16)) + (wrap64 (bt (⟨#[0, 1, 2, 2, 3, 3, 3, 3, 4, 4, 4, 4, 4, 4, 4, 4, 5, 5, 5, 5, 5, 5, 5, 5, 5, 5, 5, 5, 5, 5, 5, 5, 6, 6, 6, 6, 6, 6, 6, 6, 6, 6, 6, 6, 6, 6, 6, 6, 6, 6, 6, 6, 6, 6, 6, 6, 6, 6, 6, 6, 6, 6, 6, 6, 7, 7, 7, 7, 7, 7, 7, 7, 7, 7, 7, 7, 7, 7, 7, 7, 7, 7, 7, 7, 7, 7, 7, 7, 7, 7, 7, 7, 7, 7, 7, 7, 7, 7, 7, 7, 7, 7, 7, 7, 7, 7, 7, 7, 7, 7, 7, 7, 7, 7, 7, 7, 7, 7, 7, 7, 7, 7, 7, 7, 7, 7, 7, 7, 8, 8, 8, 8, 8, 8, 8, 8, 8, 8, 8, 8, 8, 8, 8, 8, 8, 8, 8, 8, 8, 8, 8, 8, 8, 8, 8, 8, 8, 8, 8, 8, 8, 8, 8, 8, 8, 8, 8, 8, 8, 8, 8, 8, 8, 8, 8, 8, 8, 8, 8, 8, 8, 8, 8, 8, 8, 8, 8, 8, 8, 8, 8, 8, 8, 8, 8, 8, 8, 8, 8, 8, 8, 8, 8, 8, 8, 8, 8, 8, 8, 8, 8, 8, 8, 8, 8, 8, 8, 8, 8, 8, 8, 8, 8, 8, 8, 8, 8, 8, 8, 8, 8, 8, 8, 8, 8, 8, 8, 8, 8, 8, 8, 8, 8, 8, 8, 8, 8, 8, 8, 8, 8, 8, 8, 8, 8, 8]⟩ : ByteArray) (ji10)))))) else (none)) else (none)) = some r := by first | (rw [hji10] at H; exact H) | (simp only [hji10] at H ⊢; exact H)
          by_cases c11 : 0 ≤ (ji10)
          · rw [if_pos c11] at H
            have c11b0 : decide (0 ≤ (ji10)) = true := decide_eq_true c11
            clear c11
            by_cases c12 : (ji10) < 256
            · rw [if_pos c12] at H
              have c12b0 : decide ((ji10) < 256) = true := decide_eq_true c12
              clear c12
              obtain rfl := Option.some.inj H
              have p13 : 0 ≤ ((ji10) : Int) := of_decide_eq_true (by first | (with_reducible assumption) | assumption)
              have q13 : (ji10) < (256 : Int) := of_decide_eq_true (by first | (with_reducible assumption) | assumption)
              have hx13 := bt_at (⟨#[0, 1, 2, 2, 3, 3, 3, 3, 4, 4, 4, 4, 4, 4, 4, 4, 5, 5, 5, 5, 5, 5, 5, 5, 5, 5, 5, 5, 5, 5, 5, 5, 6, 6, 6, 6, 6, 6, 6, 6, 6, 6, 6, 6, 6, 6, 6, 6, 6, 6, 6, 6, 6, 6, 6, 6, 6, 6, 6, 6, 6, 6, 6, 6, 7, 7, 7, 7, 7, 7, 7, 7, 7, 7, 7, 7, 7, 7, 7, 7, 7, 7, 7, 7, 7, 7, 7, 7, 7, 7, 7, 7, 7, 7, 7, 7, 7, 7, 7, 7, 7, 7, 7, 7, 7, 7, 7, 7, 7, 7, 7, 7, 7, 7, 7, 7, 7, 7, 7, 7, 7, 7, 7, 7, 7, 7, 7, 7, 8, 8, 8, 8, 8, 8, 8, 8, 8, 8, 8, 8, 8, 8, 8, 8, 8, 8, 8, 8, 8, 8, 8, 8, 8, 8, 8, 8, 8, 8, 8, 8, 8, 8, 8, 8, 8, 8, 8, 8, 8, 8, 8, 8, 8, 8, 8, 8, 8, 8, 8, 8, 8, 8, 8, 8, 8, 8, 8, 8, 8, 8, 8, 8, 8, 8, 8, 8, 8, 8, 8, 8, 8, 8, 8, 8, 8, 8, 8, 8, 8, 8, 8, 8, 8, 8, 8, 8, 8, 8, 8, 8, 8, 8, 8, 8, 8, 8, 8, 8, 8, 8, 8, 8, 8, 8, 8, 8, 8, 8, 8, 8, 8, 8, 8, 8, 8, 8, 8, 8, 8, 8, 8, 8, 8, 8, 8, 8]⟩ : ByteArray) (ji10)
              replace p13 := eq_true p13
              replace q13 := eq_true q13
              go_wp2
              go_ret
              exact ⟨by first | rfl | (simp; done) | (simp only [← hji10] <;> (first | rfl | simp)) | (simp [*]; done), by repeat (first | exact Drawn0.refl _ | apply Drawn0.step)⟩
            · rw [if_neg c12] at H
              exact absurd H (by simp)
          · rw [if_neg c11] at H
            exact absurd H (by simp)
      · rw [if_neg c4] at H
        have c4b0 : decide (65536 ≤ x0_1) = false := decide_eq_false c4
        clear c4
        by_cases c14 : x0_1 ≥ 256
        · rw [if_pos c14] at H
          have c14b0 : decide (256 ≤ x0_1) = true := decide_eq_true c14
          clear c14
          obtain ⟨ji15, hji15⟩ : ∃ j_ : Int, ((x0_1 / 256) % 256) = j_ := ⟨_, rfl⟩
          replace H : (if 0 ≤ (ji15) then (if (ji15) < 256 then (some (wrap64 ((wrap64 (x2_1 + 8)) + (wrap64 (bt (⟨#[0, 1, 2, 2, 3, 3, 3, 3, 4, 4, 4, 4, 4, 4, 4, 4, 5, 5, 5, 5, 5, 5, 5, 5, 5, 5, 5, 5, 5, 5, 5, 5, 6, 6, 6, 6, 6, 6, 6, 6, 6, 6, 6, 6, 6, 6, 6, 6, 6, 6, 6, 6, 6, 6, 6, 6, 6, 6, 6, 6, 6, 6, 6, 6, 7, 7, 7, 7, 7, 7, 7, 7, 7, 7, 7, 7, 7, 7, 7, 7, 7, 7, 7, 7, 7, 7, 7, 7, 7, 7, 7, 7, 7, 7, 7, 7, 7, 7, 7, 7, 7, 7, 7, 7, 7, 7, 7, 7, 7, 7, 7, 7, 7, 7, 7, 7, 7, 7, 7, 7, 7, 7, 7, 7, 7, 7, 7, 7, 8, 8, 8, 8, 8, 8, 8, 8, 8, 8, 8, 8, 8, 8, 8, 8, 8, 8, 8, 8, 8, 8, 8, 8, 8, 8, 8, 8, 8, 8, 8, 8, 8, 8, 8, 8, 8, 8, 8, 8, 8, 8, 8, 8, 8, 8, 8, 8, 8, 8, 8, 8, 8, 8, 8, 8, 8, 8, 8, 8, 8, 8, 8, 8, 8, 8, 8, 8, 8, 8, 8, 8, 8, 8, 8, 8, 8, 8, 8, 8, 8, 8, 8, 8, 8, 8, 8, 8, 8, 8, 8, 8, 8, 8, 8, 8, 8, 8, 8, 8, 8, 8, 8, 8, 8, 8, 8, 8, 8, 8, 8, 8, 8, 8, 8, 8, 8, 8, 8, 8, 8, 8, 8, 8, 8, 8, 8, 8]⟩ : ByteArray) (ji15)))))) else (none)) else (none)) = some r := by first | (rw [hji15] at H; exact H) | (simp only [hji15] at H ⊢; exact H)
          by_cases c16 : 0 ≤ (ji15)
          · rw [if_pos c16] at H
            have c16b0 : decide (0 ≤ (ji15)) = true := decide_eq_true c16
            clear c16
            by_cases c17 : (ji15) < 256
            · rw [if_pos c17] at H
              have c17b0 : decide ((ji15) < 256) = true := decide_eq_true c17
              clear c17
              obtain rfl := Option.some.inj H
              have p18 : 0 ≤ ((ji15) : Int) := of_decide_eq_true (by first | (with_reducible assumption) | assumption)
              have q18 : (ji15) < (256 : Int) := of_decide_eq_true (by first | (with_reducible assumption) | assumption)
              have hx18 := bt_at (⟨#[0, 1, 2, 2, 3, 3, 3, 3, 4, 4, 4, 4, 4, 4, 4, 4, 5, 5, 5, 5, 5, 5, 5, 5, 5, 5, 5, 5, 5, 5, 5, 5, 6, 6, 6, 6, 6, 6, 6, 6, 6, 6, 6, 6, 6, 6, 6, 6, 6, 6, 6, 6, 6, 6, 6, 6, 6, 6, 6, 6, 6, 6, 6, 6, 7, 7, 7, 7, 7, 7, 7, 7, 7, 7, 7, 7, 7, 7, 7, 7, 7, 7, 7, 7, 7, 7, 7, 7, 7, 7, 7, 7, 7, 7, 7, 7, 7, 7, 7, 7, 7, 7, 7, 7, 7, 7, 7, 7, 7, 7, 7, 7, 7, 7, 7, 7, 7, 7, 7, 7, 7, 7, 7, 7, 7, 7, 7, 7, 8, 8, 8, 8, 8, 8, 8, 8, 8, 8, 8, 8, 8, 8, 8, 8, 8, 8, 8, 8, 8, 8, 8, 8, 8, 8, 8, 8, 8, 8, 8, 8, 8, 8, 8, 8, 8, 8, 8, 8, 8, 8, 8, 8, 8, 8, 8, 8, 8, 8, 8, 8, 8, 8, 8, 8, 8, 8, 8, 8, 8, 8, 8, 8, 8, 8, 8, 8, 8, 8, 8, 8, 8, 8, 8, 8, 8, 8, 8, 8, 8, 8, 8, 8, 8, 8, 8, 8, 8, 8, 8, 8, 8, 8, 8, 8, 8, 8, 8, 8, 8, 8, 8, 8, 8, 8, 8, 8, 8, 8, 8, 8, 8, 8, 8, 8, 8, 8, 8, 8, 8, 8, 8, 8, 8, 8, 8, 8]⟩ : ByteArray) (ji15)
              replace p18 := eq_true p18
              replace q18 := eq_true q18
              go_wp2
              go_ret
              exact ⟨by first | rfl | (simp; done) | (simp only [← hji15] <;> (first | rfl | simp)) | (simp [*]; done), by repeat (first | exact Drawn0.refl _ | apply Drawn0.step)⟩
            · rw [if_neg c17] at H
              exact absurd H (by simp)
          · rw [if_neg c16] at H
            exact absurd H (by simp)
        · rw [if_neg c14] at H
          have c14b0 : decide (256 ≤ x0_1) = false := decide_eq_false c14
          clear c14
          obtain ⟨ji19, hji19⟩ : ∃ j_ : Int, ((x0_1) % 256) = j_ := ⟨_, rfl⟩
          replace H : (if 0 ≤ (ji19) then (if (ji19) < 256 then (some (wrap64 (x2_1 + (wrap64 (bt (⟨#[0, 1, 2, 2, 3, 3, 3, 3, 4, 4, 4, 4, 4, 4, 4, 4, 5, 5, 5, 5, 5, 5, 5, 5, 5, 5, 5, 5, 5, 5, 5, 5, 6, 6, 6, 6, 6, 6, 6, 6, 6, 6, 6, 6, 6, 6, 6, 6, 6, 6, 6, 6, 6, 6, 6, 6, 6, 6, 6, 6, 6, 6, 6, 6, 7, 7, 7, 7, 7, 7, 7, 7, 7, 7, 7, 7, 7, 7, 7, 7, 7, 7, 7, 7, 7, 7, 7, 7, 7, 7, 7, 7, 7, 7, 7, 7, 7, 7, 7, 7, 7, 7, 7, 7, 7, 7, 7, 7, 7, 7, 7, 7, 7, 7, 7, 7, 7, 7, 7, 7, 7, 7, 7, 7, 7, 7, 7, 7, 8, 8, 8, 8, 8, 8, 8, 8, 8, 8, 8, 8, 8, 8, 8, 8, 8, 8, 8, 8, 8, 8, 8, 8, 8, 8, 8, 8, 8, 8, 8, 8, 8, 8, 8, 8, 8, 8, 8, 8, 8, 8, 8, 8, 8, 8, 8, 8, 8, 8, 8, 8, 8, 8, 8, 8, 8, 8, 8, 8, 8, 8, 8, 8, 8, 8, 8, 8, 8, 8, 8, 8, 8, 8, 8, 8, 8, 8, 8, 8, 8, 8, 8, 8, 8, 8, 8, 8, 8, 8, 8, 8, 8, 8, 8, 8, 8, 8, 8, 8, 8, 8, 8, 8, 8, 8, 8, 8, 8, 8, 8, 8, 8, 8, 8, 8, 8, 8, 8, 8, 8, 8, 8, 8, 8, 8, 8, 8]⟩ : ByteArray) (ji19)))))) else (none)) else (none)) = some r := by first | (rw [hji19] at H; exact H) | (simp only [hji19] at H ⊢; exact H)
          by_cases c20 : 0 ≤ (ji19)
          · rw [if_pos c20] at H
            have c20b0 : decide (0 ≤ (ji19)) = true := decide_eq_true c20
            clear c20
            by_cases c21 : (ji19) < 256
            · rw [if_pos c21] at H
              have c21b0 : decide ((ji19) < 256) = true := decide_eq_true c21
              clear c21
              obtain rfl := Option.some.inj H
              have p22 : 0 ≤ ((ji19) : Int) := of_decide_eq_true (by first | (with_reducible assumption) | assumption)
              have q22 : (ji19) < (256 : Int) := of_decide_eq_true (by first | (with_reducible assumption) | assumption)
              have hx22 := bt_at (⟨#[0, 1, 2, 2, 3, 3, 3, 3, 4, 4, 4, 4, 4, 4, 4, 4, 5, 5, 5, 5, 5, 5, 5, 5, 5, 5, 5, 5, 5, 5, 5, 5, 6, 6, 6, 6, 6, 6, 6, 6, 6, 6, 6, 6, 6, 6, 6, 6, 6, 6, 6, 6, 6, 6, 6, 6, 6, 6, 6, 6, 6, 6, 6, 6, 7, 7, 7, 7, 7, 7, 7, 7, 7, 7, 7, 7, 7, 7, 7, 7, 7, 7, 7, 7, 7, 7, 7, 7, 7, 7, 7, 7, 7, 7, 7, 7, 7, 7, 7, 7, 7, 7, 7, 7, 7, 7, 7, 7, 7, 7, 7, 7, 7, 7, 7, 7, 7, 7, 7, 7, 7, 7, 7, 7, 7, 7, 7, 7, 8, 8, 8, 8, 8, 8, 8, 8, 8, 8, 8, 8, 8, 8, 8, 8, 8, 8, 8, 8, 8, 8, 8, 8, 8, 8, 8, 8, 8, 8, 8, 8, 8, 8, 8, 8, 8, 8, 8, 8, 8, 8, 8, 8, 8, 8, 8, 8, 8, 8, 8, 8, 8, 8, 8, 8, 8, 8, 8, 8, 8, 8, 8, 8, 8, 8, 8, 8, 8, 8, 8, 8, 8, 8, 8, 8, 8, 8, 8, 8, 8, 8, 8, 8, 8, 8, 8, 8, 8, 8, 8, 8, 8, 8, 8, 8, 8, 8, 8, 8, 8, 8, 8, 8, 8, 8, 8, 8, 8, 8, 8, 8, 8, 8, 8, 8, 8, 8, 8, 8, 8, 8, 8, 8, 8, 8, 8, 8]⟩ : ByteArray) (ji19)
              replace p22 := eq_true p22
              replace q22 := eq_true q22
              go_wp2
              go_ret
              exact ⟨by first | rfl | (simp; done) | (simp only [← hji19] <;> (first | rfl | simp)) | (simp [*]; done), by repeat (first | exact Drawn0.refl _ | apply Drawn0.step)⟩
            · rw [if_neg c21] at H
              exact absurd H (by simp)
          · rw [if_neg c20] at H
            exact absurd H (by simp)
end Go.Proofs.YtndeikikeeeigaaDoor.Q
end
section
namespace Go.Proofs.YtndeikikeeeigaaDoor.Q
open Go.RowKit Go.Proofs.YtndeikikeeeigaaDoorW.PrintWords Go.Proofs.YtndeikikeeeigaaDoorW.PrintLast Go.Proofs.YtndeikikeeeigaaDoorW.PrintMore
attribute [local go_sem] max2_int min2_int max_two min_two max_three min_three max_four min_four
set_option linter.unusedVariables false
set_option linter.unusedSimpArgs false
def codec_width.f (k : Nat) (a0 : Int) : Option (Int) := (bits_Len64.f k a0).bind fun t101 => (some (mx 1 (wrap64 (Int.tdiv (wrap64 (t101 + 7)) 8))))
theorem codec_width.mono : ∀ a0 k, LeO (codec_width.f k a0) (codec_width.f (k + 1) a0) := by
  intro a0 k
  unfold codec_width.f
  repeat' first
      | (with_reducible exact bits_Len64.mono _ _)
      | (with_reducible exact LeO.refl _)
      | (with_reducible exact LeO.none _)
      | (with_reducible refine LeO.ite ?_ ?_)
      | (with_reducible refine LeO.bind ?_ (fun _ => ?_))
      | exact bits_Len64.mono _ _
      | exact LeO.none _
      | refine LeO.ite ?_ ?_
      | refine LeO.bind ?_ (fun _ => ?_)
set_option maxHeartbeats 8000000 in
set_option maxRecDepth 100000 in
theorem codec_width.calls (k : Nat) (a0 : Int) (r : Int) (w : World) (hG : Glob w) (h : codec_width.f k a0 = some r) :
    Calls Tryd.prog 63 #[.int .u64 a0] w fun e w' => e = .returned (.int .i64 r) ∧ Below w.heap.size w w' := by
  have HG := Aside0.mk hG
  clear hG
  have HB := Aside0.mk (Below.refl w.heap.size w)
  have H : ((bits_Len64.f k a0).bind fun t101 => (some (mx 1 (wrap64 (Int.tdiv (wrap64 (t101 + 7)) 8))))) = some r := h
  clear h
  replace H := Option.bind_eq_some_iff.mp H
  obtain ⟨t101, A20, H⟩ := H
  replace H : (some (mx 1 (wrap64 (Int.tdiv (wrap64 (t101 + 7)) 8)))) = some r := H
  have A2 := Aside0.mk A20
  clear A20
  obtain ⟨ji3, hji3⟩ : ∃ j_ : Int, (mx 1 (wrap64 (Int.tdiv (wrap64 (t101 + 7)) 8))) = j_ := ⟨_, rfl⟩
  replace H : (some ji3) = some r := by first | (rw [hji3] at H; exact H) | (simp only [hji3] at H ⊢; exact H)
  (try rw [hji3] at A2)
  (try (have hji3l : 1 ≤ ji3 := by (rw [← hji3]; unfold mx; (repeat' split) <;> omega)))
  (try (have hji3m : 0 ≤ ji3 := by omega))
  have hji3_ : (if 1 < (wrap64 (Int.tdiv (wrap64 (t101 + 7)) 8)) then (wrap64 (Int.tdiv (wrap64 (t101 + 7)) 8)) else 1) = ji3 := hji3
  obtain rfl := Option.some.inj H
  go_enter Tryd.func63, Tryd.ntmps63
  go_wp2_with (first | ((with_reducible refine gate_callee (f := 66) rfl ?_); refine goesL_ (some 4) rfl rfl Tryd.func66 (by kernel_rfl) rfl #[.int .u64 a0] rfl (by (try simp only [List.map_toArray, List.map_cons, List.map_nil]); first | done | rfl | (simp only [List.length_drop, List.length_take]; rfl)) ?_; (with_reducible refine (bits_Len64.calls k a0 t101 _ ?side99  A2.out).mono ?_); (case side99 => first | exact HG.out | exact Glob.below HG.out (by repeat (first | (with_reducible first | exact HB.out | apply below_alloc | apply pw_below_drewN | apply below_drew1) | exact HB.out))); rintro e w' ⟨rfl, ⟨nd, rfl⟩⟩; refine ⟨_, rfl, ?_⟩))
  go_ret
  exact ⟨by first | rfl | (simp [errW_none, errW_some] <;> rfl) | (simp only [← hji3]; first | rfl | (simp [errW_none, errW_some] <;> rfl)) | (simp [*, errW_none, errW_some] <;> rfl), by repeat (first | (with_reducible first | exact HB.out | apply below_alloc | apply pw_below_drewN | apply below_drew1) | exact HB.out)⟩
end Go.Proofs.YtndeikikeeeigaaDoor.Q
end
section
namespace Go.Proofs.YtndeikikeeeigaaDoor.Q
open Go.RowKit Go.Proofs.YtndeikikeeeigaaDoorW.PrintWords Go.Proofs.YtndeikikeeeigaaDoorW.PrintLast Go.Proofs.YtndeikikeeeigaaDoorW.PrintMore
attribute [local go_sem] max2_int min2_int max_two min_two max_three min_three max_four min_four
set_option linter.unusedVariables false
set_option linter.unusedSimpArgs false
def codec_spread.f (k : Nat) (a0 : Int) : Option (Int) := if a0 < 0 then ((bits_Len64.f k (IntKind.u64.wrap (Go.bits .xor .i64 (-1) a0))).bind fun t102 => (some (wrap64 (Int.tdiv (wrap64 (t102 + 8)) 8)))) else ((bits_Len64.f k (IntKind.u64.wrap (a0))).bind fun t103 => (some (wrap64 (Int.tdiv (wrap64 (t103 + 8)) 8))))
theorem codec_spread.mono : ∀ a0 k, LeO (codec_spread.f k a0) (codec_spread.f (k + 1) a0) := by
  intro a0 k
  unfold codec_spread.f
  repeat' first
      | (with_reducible exact bits_Len64.mono _ _)
      | (with_reducible exact LeO.refl _)
      | (with_reducible exact LeO.none _)
      | (with_reducible refine LeO.ite ?_ ?_)
      | (with_reducible refine LeO.bind ?_ (fun _ => ?_))
      | exact bits_Len64.mono _ _
      | exact LeO.none _
      | refine LeO.ite ?_ ?_
      | refine LeO.bind ?_ (fun _ => ?_)
set_option maxHeartbeats 8000000 in
set_option maxRecDepth 100000 in
theorem codec_spread.calls (k : Nat) (a0 : Int) (r : Int) (w : World) (hG : Glob w) (h : codec_spread.f k a0 = some r) :
    Calls Tryd.prog 64 #[.int .i64 a0] w fun e w' => e = .returned (.int .i64 r) ∧ Drawn0 w w' := by
  have HG := Aside0.mk hG
  clear hG
  have H : (if a0 < 0 then ((bits_Len64.f k (IntKind.u64.wrap (Go.bits .xor .i64 (-1) a0))).bind fun t102 => (some (wrap64 (Int.tdiv (wrap64 (t102 + 8)) 8)))) else ((bits_Len64.f k (IntKind.u64.wrap (a0))).bind fun t103 => (some (wrap64 (Int.tdiv (wrap64 (t103 + 8)) 8))))) = some r := h
  clear h
  by_cases c2 : a0 < 0
  · rw [if_pos c2] at H
    have c2b0 : decide (a0 < 0) = true := decide_eq_true c2
    clear c2
    replace H := Option.bind_eq_some_iff.mp H
    obtain ⟨t102, A30, H⟩ := H
    replace H : (some (wrap64 (Int.tdiv (wrap64 (t102 + 8)) 8))) = some r := H
    have A3 := Aside0.mk A30
    clear A30
    obtain rfl := Option.some.inj H
    go_enter Tryd.func64, Tryd.ntmps64
    go_wp2_with (first | ((with_reducible refine gate_callee (f := 66) rfl ?_); refine goesL_ (some 9) rfl rfl Tryd.func66 (by kernel_rfl) rfl #[.int .u64 (IntKind.u64.wrap (Go.bits .xor .i64 (-1) a0))] rfl (by (try simp only [List.map_toArray, List.map_cons, List.map_nil]); first | done | rfl | (simp only [List.length_drop, List.length_take]; rfl)) ?_; (with_reducible refine (bits_Len64.calls k (IntKind.u64.wrap (Go.bits .xor .i64 (-1) a0)) t102 _ ?side99  A3.out).mono ?_); (case side99 => first | exact HG.out | exact Glob.below HG.out (by repeat (first | (with_reducible first | exact HB.out | apply below_alloc | apply pw_below_drewN | apply below_drew1) | exact HB.out))); rintro e w' ⟨rfl, ⟨nd, rfl⟩⟩; refine ⟨_, rfl, ?_⟩))
    go_ret
    exact ⟨by first | rfl | (simp; done) | (simp [*]; done), by repeat (first | exact Drawn0.refl _ | apply Drawn0.step)⟩
  · rw [if_neg c2] at H
    have c2b0 : decide (a0 < 0) = false := decide_eq_false c2
    clear c2
    replace H := Option.bind_eq_some_iff.mp H
    obtain ⟨t103, A40, H⟩ := H
    replace H : (some (wrap64 (Int.tdiv (wrap64 (t103 + 8)) 8))) = some r := H
    have A4 := Aside0.mk A40
    clear A40
    obtain rfl := Option.some.inj H
    go_enter Tryd.func64, Tryd.ntmps64
    go_wp2_with (first | ((with_reducible refine gate_callee (f := 66) rfl ?_); refine goesL_ (some 9) rfl rfl Tryd.func66 (by kernel_rfl) rfl #[.int .u64 (IntKind.u64.wrap (a0))] rfl (by (try simp only [List.map_toArray, List.map_cons, List.map_nil]); first | done | rfl | (simp only [List.length_drop, List.length_take]; rfl)) ?_; (with_reducible refine (bits_Len64.calls k (IntKind.u64.wrap (a0)) t103 _ ?side99  A4.out).mono ?_); (case side99 => first | exact HG.out | exact Glob.below HG.out (by repeat (first | (with_reducible first | exact HB.out | apply below_alloc | apply pw_below_drewN | apply below_drew1) | exact HB.out))); rintro e w' ⟨rfl, ⟨nd, rfl⟩⟩; refine ⟨_, rfl, ?_⟩))
    go_ret
    exact ⟨by first | rfl | (simp; done) | (simp [*]; done), by repeat (first | exact Drawn0.refl _ | apply Drawn0.step)⟩
end Go.Proofs.YtndeikikeeeigaaDoor.Q
end
section
namespace Go.Proofs.YtndeikikeeeigaaDoor.Q
open Go.RowKit Go.Proofs.YtndeikikeeeigaaDoorW.PrintWords Go.Proofs.YtndeikikeeeigaaDoorW.PrintLast Go.Proofs.YtndeikikeeeigaaDoorW.PrintMore
set_option linter.unusedVariables false
set_option linter.unusedSimpArgs false
def WrAt (B g : Nat) (l : List Int) (w : World) : Prop := ∃ v, w.heap[g]? = some (.cells #[v] 38 (0, 0)) ∧ B ≤ g ∧ Kd.R (Kd.int .u8) 5 w B (fun _ => True) v l
structure KeepT (w w' : World) : Prop where
  size : w.heap.size ≤ w'.heap.size
  keep : ∀ (k : Nat) cs t, w.heap[k]? = some (.cells cs t (0, 0)) → t ≠ 5 → t ≠ 38 → w'.heap[k]? = some (.cells cs t (0, 0))
theorem KeepT.refl (w : World) : KeepT w w := ⟨Nat.le_refl _, fun _ _ _ h _ _ => h⟩
theorem KeepT.trans {w w1 w2 : World} (h : KeepT w w1) (k : KeepT w1 w2) : KeepT w w2 := ⟨Nat.le_trans h.size k.size, fun j cs t hj h1 h2 => k.keep j cs t (h.keep j cs t hj h1 h2) h1 h2⟩
theorem KeepT.of_below {w w1 : World} (h : Below w.heap.size w w1) : KeepT w w1 := ⟨h.size, fun j cs t hj _ _ => blk_below hj h⟩
theorem KeepT.drewN {w w1 : World} (h : KeepT w w1) (n : Nat) : KeepT w (w1.drewN n) := ⟨h.size, h.keep⟩
theorem WrAt.below {B g : Nat} {l : List Int} {w w1 : World} (h : WrAt B g l w) (hb : Below w.heap.size w w1) : WrAt B g l w1 := by
  obtain ⟨v, hv, hg, ho⟩ := h
  exact ⟨v, blk_below hv hb, hg, Kd.R_below ho hb⟩
theorem WrAt.drewN {B g : Nat} {l : List Int} {w : World} (h : WrAt B g l w) (n : Nat) : WrAt B g l (w.drewN n) := by
  obtain ⟨v, hv, hg, ho⟩ := h
  exact ⟨v, blk_drewN hv n, hg, Kd.R_drewN ho n⟩
structure WrStep (B g : Nat) (l' : List Int) (w w1 : World) (v v1 : Value) : Prop where
  at_ : WrAt B g l' (w1.setCell ⟨g, 0, none⟩ v1)
  bel : Below B w (w1.setCell ⟨g, 0, none⟩ v1)
  keep : KeepT w (w1.setCell ⟨g, 0, none⟩ v1)
  cell : w1.cell? ⟨g, 0, none⟩ = some v
  free : w1.frozen? ⟨g, 0, none⟩ = false
theorem wr_step {B g : Nat} {l l' : List Int} {w W1 w1 : World} {v v1 : Value} (hv : w.heap[g]? = some (.cells #[v] 38 (0, 0))) (hg : B ≤ g) (ho : Kd.R (Kd.int .u8) 5 w B (fun _ => True) v l)
    (hb1 : Below w.heap.size w W1) (ho1 : Kd.R (Kd.int .u8) 5 w1 B (fun _ => True) v1 l') (hbel : Below B w w1) (hgr : W1.grownBy w1 v.ownBlock) : WrStep B g l' w w1 v v1 := by
  have hne : ∀ (k : Nat) cs t, w.heap[k]? = some (.cells cs t (0, 0)) → t ≠ 5 → some k ≠ v.ownBlock := fun k cs t hk ht => Kd.R_ne ho hk (Ne.symm ht)
  have h1 : w1.heap[g]? = some (.cells #[v] 38 (0, 0)) := blk_grown (blk_below hv hb1) hgr (hne g _ _ hv (by decide))
  have hsz : w.heap.size ≤ w1.heap.size := Nat.le_trans hb1.size hgr.size
  refine ⟨⟨v1, blk_put h1 0 v1 rfl, hg, ?_⟩, hbel.setCell hg _, ⟨by simpa [World.setCell] using hsz, fun k cs t hk t1 t2 => ?_⟩, (blk_cell h1 0).trans rfl, blk_frozen h1 0⟩
  · have ha := Kd.R_types ho1 h1 (fun q hq => by
      rcases List.mem_cons.1 hq with rfl | hq
      · decide
      · cases hq)
    exact Kd.R_mono (Kd.R_far ha (p := ⟨g, 0, none⟩) (fun _ h => h.2) v1) (fun _ _ => trivial)
  · exact blk_far (blk_grown (blk_below hk hb1) hgr (hne k _ _ hk t1)) (by rintro rfl; rw [hv] at hk; injection hk with hk; injection hk with _ hk _; exact t2 hk.symm) _
def WrPost (B g : Nat) (l' : List Int) (w : World) (r : Value) (e : Ending) (w' : World) : Prop := e = .returned r ∧ WrAt B g l' w' ∧ Below B w w' ∧ KeepT w w'
def wrMax : Nat := 1000000000000
set_option maxHeartbeats 8000000 in
set_option maxRecDepth 100000 in
theorem wr_null (B g : Nat) (l : List Int) (w : World) (hB : B ≤ w.heap.size) (h : WrAt B g l w) (hl : l.length ≤ wrMax) :
    Calls Tryd.prog 34 #[.pointer (some ⟨g, 0, none⟩)] w fun e w' => WrPost B g (l ++ [0]) w (.tuple #[]) e w' := by
  obtain ⟨v, hv, hg, ho⟩ := h
  unfold wrMax at hl
  have HV := Aside0.mk hv
  have HO := Aside0.mk ho
  have HG := Aside0.mk hg
  have HS := Aside0.mk hB
  have hc := (blk_cell hv 0).trans rfl
  clear hv ho hg hB
  obtain ⟨ls, LS⟩ : ∃ ls, Aside0 (l ++ [0] = ls) := ⟨_, ⟨rfl⟩⟩
  rw [LS.out]
  go_enter Tryd.func34, Tryd.ntmps34
  go_wp2_with (at_builtin; refine Kd.R_append (Kd.int .u8) (w0 := w) B rfl (.tmp 6) (.tmp 7) 28 5 (.int .u8 0) 1 rfl Tryd.underlying28 info5 rfl (by decide) (by omega) v l 0 [.int .u8 0] (fun _ => True) (fun _ => False) rfl rfl rfl (fun _ hk => hk.elim) (fun _ _ => trivial) HO.out (Below.refl _ _) HS.out (by omega) ?_; intro v1 w9 ho hb hg hat; rw [LS.out] at ho; obtain ⟨A1, c1, e1⟩ := Kd.R_slice ho; subst e1; have HW := Aside0.mk (wr_step HV.out HG.out HO.out (Below.refl _ _) ho hb hg); have hcc := HW.out.cell; have hff := HW.out.free; clear ho hb hg hat hc)
  refine bodyPost_end (results_none rfl _ _ _) rfl ?_
  exact ⟨rfl, HW.out.at_, HW.out.bel, HW.out.keep⟩
set_option maxHeartbeats 8000000 in
set_option maxRecDepth 100000 in
theorem wr_bool_true (B g : Nat) (l : List Int) (w : World) (hB : B ≤ w.heap.size) (h : WrAt B g l w) (hl : l.length ≤ wrMax) :
    Calls Tryd.prog 41 #[.pointer (some ⟨g, 0, none⟩), .bool true] w fun e w' => WrPost B g (l ++ [2]) w (.tuple #[]) e w' := by
  obtain ⟨v, hv, hg, ho⟩ := h
  unfold wrMax at hl
  have HV := Aside0.mk hv
  have HO := Aside0.mk ho
  have HG := Aside0.mk hg
  have HS := Aside0.mk hB
  have hc := (blk_cell hv 0).trans rfl
  clear hv ho hg hB
  obtain ⟨ls, LS⟩ : ∃ ls, Aside0 (l ++ [2] = ls) := ⟨_, ⟨rfl⟩⟩
  rw [LS.out]
  go_enter Tryd.func41, Tryd.ntmps41
  go_wp2_with (at_builtin; refine Kd.R_append (Kd.int .u8) (w0 := w) B rfl (.tmp 9) (.tmp 10) 28 5 (.int .u8 0) 1 rfl Tryd.underlying28 info5 rfl (by decide) (by omega) v l 2 [.int .u8 2] (fun _ => True) (fun _ => False) rfl rfl rfl (fun _ hk => hk.elim) (fun _ _ => trivial) HO.out (Below.refl _ _) HS.out (by omega) ?_; intro v1 w9 ho hb hg hat; rw [LS.out] at ho; obtain ⟨A1, c1, e1⟩ := Kd.R_slice ho; subst e1; have HW := Aside0.mk (wr_step HV.out HG.out HO.out (Below.refl _ _) ho hb hg); have hcc := HW.out.cell; have hff := HW.out.free; clear ho hb hg hat hc)
  refine bodyPost_end (results_none rfl _ _ _) rfl ?_
  exact ⟨rfl, HW.out.at_, HW.out.bel, HW.out.keep⟩
set_option maxHeartbeats 8000000 in
set_option maxRecDepth 100000 in
theorem wr_bool_false (B g : Nat) (l : List Int) (w : World) (hB : B ≤ w.heap.size) (h : WrAt B g l w) (hl : l.length ≤ wrMax) :
    Calls Tryd.prog 41 #[.pointer (some ⟨g, 0, none⟩), .bool false] w fun e w' => WrPost B g (l ++ [1]) w (.tuple #[]) e w' := by
  obtain ⟨v, hv, hg, ho⟩ := h
  unfold wrMax at hl
  have HV := Aside0.mk hv
  have HO := Aside0.mk ho
  have HG := Aside0.mk hg
  have HS := Aside0.mk hB
  have hc := (blk_cell hv 0).trans rfl
  clear hv ho hg hB
  obtain ⟨ls, LS⟩ : ∃ ls, Aside0 (l ++ [1] = ls) := ⟨_, ⟨rfl⟩⟩
  rw [LS.out]
  go_enter Tryd.func41, Tryd.ntmps41
  go_wp2_with (at_builtin; refine Kd.R_append (Kd.int .u8) (w0 := w) B rfl (.tmp 18) (.tmp 19) 28 5 (.int .u8 0) 1 rfl Tryd.underlying28 info5 rfl (by decide) (by omega) v l 1 [.int .u8 1] (fun _ => True) (fun _ => False) rfl rfl rfl (fun _ hk => hk.elim) (fun _ _ => trivial) HO.out (Below.refl _ _) HS.out (by omega) ?_; intro v1 w9 ho hb hg hat; rw [LS.out] at ho; obtain ⟨A1, c1, e1⟩ := Kd.R_slice ho; subst e1; have HW := Aside0.mk (wr_step HV.out HG.out HO.out (Below.refl _ _) ho hb hg); have hcc := HW.out.cell; have hff := HW.out.free; clear ho hb hg hat hc)
  refine bodyPost_end (results_none rfl _ _ _) rfl ?_
  exact ⟨rfl, HW.out.at_, HW.out.bel, HW.out.keep⟩
theorem wr_bool (B g : Nat) (l : List Int) (b : Bool) (w : World) (hB : B ≤ w.heap.size) (h : WrAt B g l w) (hl : l.length ≤ wrMax) :
    Calls Tryd.prog 41 #[.pointer (some ⟨g, 0, none⟩), .bool b] w fun e w' => WrPost B g (l ++ [if b = true then 2 else 1]) w (.tuple #[]) e w' := by
  cases b
  · exact wr_bool_false B g l w hB h hl
  · exact wr_bool_true B g l w hB h hl
set_option maxHeartbeats 8000000 in
set_option maxRecDepth 100000 in
theorem wr_unsigned (k k2 : Nat) (B g : Nat) (l : List Int) (n wd : Int) (bs : List Int) (w : World) (hG : Aside0 (Glob w)) (hB : B ≤ w.heap.size) (h : WrAt B g l w) (hl : l.length + bs.length ≤ wrMax) (hw : Aside0 (codec_width.f k n = some wd)) (hn : Aside0 (codec_number.f k2 16 n wd = some bs)) :
    Calls Tryd.prog 43 #[.pointer (some ⟨g, 0, none⟩), .int .u64 n] w fun e w' => WrPost B g (l ++ bs) w (.tuple #[]) e w' := by
  obtain ⟨v, hv, hg, ho⟩ := h
  unfold wrMax at hl
  have HV := Aside0.mk hv
  have HO := Aside0.mk ho
  have HG := Aside0.mk hg
  have HS := Aside0.mk hB
  have hc := (blk_cell hv 0).trans rfl
  clear hv ho hg hB
  obtain ⟨ls, LS⟩ : ∃ ls, Aside0 (l ++ bs = ls) := ⟨_, ⟨rfl⟩⟩
  rw [LS.out]
  go_enter Tryd.func43, Tryd.ntmps43
  try go_wp2
  refine start_ (n := 13) (S := fun w' => w'.cell? ⟨g, 0, none⟩ = some v) (ds := [12]) #[false, false, false, false, false, false, false, false, false, false, false, false, false] (by kernel_rfl) rfl rfl (hc) (fun hHeld => ?_)
  refine pure_ (i := 0) (N := some 4) (v := ?_) (a' := ?_) #[true, false, false, false, false, false, false, false, false, false, false, false, false] rfl rfl (by kernel_rfl) (fun _ _ _ h => h) (Or.inl ⟨by rfl, ?_⟩) ?_ ?_
  rotate_left
  · intro w'
    go_simp
    with_reducible rfl
  rotate_left
  · simp only [Act.put, List.setIfInBounds_toArray, List.set_cons_zero, List.set_cons_succ, i64_w, i32_w]
    rfl
  refine pure_ (i := 1) (N := some 5) (v := ?_) (a' := ?_) #[true, true, false, false, false, false, false, false, false, false, false, false, false] rfl rfl (by kernel_rfl) (fun _ _ _ h => h) (Or.inl ⟨by rfl, ?_⟩) ?_ ?_
  rotate_left
  · intro w'
    go_simp
    with_reducible rfl
  rotate_left
  · simp only [Act.put, List.setIfInBounds_toArray, List.set_cons_zero, List.set_cons_succ, i64_w, i32_w]
    rfl
  refine pure_ (i := 2) (N := some 6) (v := ?_) (a' := ?_) #[true, true, true, false, false, false, false, false, false, false, false, false, false] rfl rfl (by kernel_rfl) (fun _ _ _ h => h) (Or.inl ⟨by rfl, ?_⟩) ?_ ?_
  rotate_left
  · intro w'
    go_simp
    with_reducible rfl
  rotate_left
  · simp only [Act.put, List.setIfInBounds_toArray, List.set_cons_zero, List.set_cons_succ, i64_w, i32_w]
    rfl
  refine pure_ (i := 3) (N := some 7) (v := ?_) (a' := ?_) #[true, true, true, true, false, false, false, false, false, false, false, false, false] rfl rfl (by kernel_rfl) (fun _ _ _ h => h) (Or.inl ⟨by rfl, ?_⟩) ?_ ?_
  rotate_left
  · intro w'
    go_simp
    with_reducible rfl
  rotate_left
  · simp only [Act.put, List.setIfInBounds_toArray, List.set_cons_zero, List.set_cons_succ, i64_w, i32_w]
    rfl
  refine pure_ (i := 5) (N := some 9) (v := ?_) (a' := ?_) #[true, true, true, true, false, true, false, false, false, false, false, false, false] rfl rfl (by kernel_rfl) (fun _ _ _ h => h) (Or.inl ⟨by rfl, ?_⟩) ?_ ?_
  rotate_left
  · intro w'
    go_simp
    with_reducible rfl
  rotate_left
  · simp only [Act.put, List.setIfInBounds_toArray, List.set_cons_zero, List.set_cons_succ, i64_w, i32_w]
    rfl
  refine pure_ (i := 6) (N := some 10) (v := ?_) (a' := ?_) #[true, true, true, true, false, true, true, false, false, false, false, false, false] rfl rfl (by kernel_rfl) (fun _ _ _ h => h) (Or.inl ⟨by rfl, ?_⟩) ?_ ?_
  rotate_left
  · intro w'
    go_simp
    with_reducible rfl
  rotate_left
  · simp only [Act.put, List.setIfInBounds_toArray, List.set_cons_zero, List.set_cons_succ, i64_w, i32_w]
    rfl
  refine take_ (i := 4) (N := some 8) (v := ?_) (a' := ?_) #[true, true, true, true, true, true, true, false, false, false, false, false, false] rfl rfl (by kernel_rfl) (fun _ _ _ h => h) (Or.inl ⟨by rfl, ?_⟩) hHeld ?_ ?_
  rotate_left
  · intro w' s0
    go_simp
    with_reducible rfl
  rotate_left
  · simp only [Act.put, List.setIfInBounds_toArray, List.set_cons_zero, List.set_cons_succ, i64_w, i32_w]
    rfl
  refine one_ (i := 7) (N := some 11) #[true, true, true, true, true, true, true, true, false, false, false, false, false] rfl rfl (by kernel_rfl) (by decide) (fun K hK => ?_)
  refine goes_ Tryd.func63 (by kernel_rfl) rfl #[.int .u64 n] (by rfl) rfl rfl (by simp only [List.map_toArray, List.map_cons, List.map_nil]; rfl) ?_
  with_reducible refine (codec_width.calls k n wd _ (Glob.below hG.out (below_drew1 (Below.refl _ _))) hw.out).mono ?_
  rintro e w7 ⟨rfl, hb7⟩
  refine ⟨_, rfl, ?_⟩
  have HB7 := Aside0.mk (below_step (below_drew1 (Below.refl w.heap.size w)) hb7)
  have hk := Aside0.mk hb7
  clear hb7
  refine hK.out _ _ (pw_cell_below hk.out hHeld) (fun hHeld => ?_)
  clear hK K
  refine norm_ (a' := ?_) ?_ ?_
  rotate_left
  · show Act.put _ (some 11) _ = _
    simp only [Act.put, List.setIfInBounds_toArray, List.set_cons_zero, List.set_cons_succ, i64_w, i32_w]
    rfl
  refine one_ (i := 8) (N := some 12) #[true, true, true, true, true, true, true, true, true, false, false, false, false] rfl rfl (by kernel_rfl) (by decide) (fun K hK => ?_)
  refine goes_ Tryd.func62 (by kernel_rfl) rfl #[.int .u8 16, .int .u64 n, .int .i64 wd] (by rfl) rfl rfl (by simp only [List.map_toArray, List.map_cons, List.map_nil]; rfl) ?_
  with_reducible refine (codec_number.calls k2 16 n wd bs _ (Glob.below hG.out HB7.out) hn.out).mono ?_
  rintro e w8 ⟨v2, rfl, hv2, hb8⟩
  refine ⟨_, rfl, ?_⟩
  have HB8 := Aside0.mk (below_step HB7.out hb8)
  obtain ⟨A2, c2, e2⟩ := Kd.R_slice hv2
  subst e2
  have HR2 := Aside0.mk hv2
  have hk := Aside0.mk hb8
  clear hb8 hv2 HB7
  refine hK.out _ _ (pw_cell_below hk.out hHeld) (fun hHeld => ?_)
  clear hK K
  refine norm_ (a' := ?_) ?_ ?_
  rotate_left
  · show Act.put _ (some 12) _ = _
    simp only [Act.put, List.setIfInBounds_toArray, List.set_cons_zero, List.set_cons_succ, i64_w, i32_w]
    rfl
  refine one_ (i := 9) (N := some 13) #[true, true, true, true, true, true, true, true, true, true, false, false, false] rfl rfl (by kernel_rfl) (by decide) (fun K hK => ?_)
  refine Kd.R_append_rows_step (Kd.int .u8) (w0 := w) B (by rfl) (.tmp 8) (.tmp 12) 28 5 (.int .u8 0) 1 rfl Tryd.underlying28 info5 rfl (by decide) (by omega) v l bs _ _ _ (fun _ => True) (fun _ => False) rfl rfl (Kd.R_below HO.out HB8.out) (Kd.R_reads' HR2.out).2.2 (fun _ _ h => h) (fun _ h => h.elim) (fun _ _ => trivial) (HB8.out.mono HS.out) (Nat.le_trans HS.out HB8.out.size) (by omega) ?_
  intro v1 w9 ho hb hg hat
  rw [LS.out] at ho
  obtain ⟨A1, c1, e1⟩ := Kd.R_slice ho
  subst e1
  have HW := Aside0.mk (wr_step HV.out HG.out HO.out HB8.out ho hb hg)
  have hcc := HW.out.cell
  have hff := HW.out.free
  clear ho hb hg hat
  refine hK.out _ _ (hcc) (fun hHeld => ?_)
  clear hK K
  refine norm_ (a' := ?_) ?_ ?_
  rotate_left
  · show Act.put _ (some 13) _ = _
    simp only [Act.put, List.setIfInBounds_toArray, List.set_cons_zero, List.set_cons_succ, i64_w, i32_w]
    rfl
  refine pure_ (i := 10) (N := some 14) (v := ?_) (a' := ?_) #[true, true, true, true, true, true, true, true, true, true, true, false, false] rfl rfl (by kernel_rfl) (fun _ _ _ h => h) (Or.inl ⟨by rfl, ?_⟩) ?_ ?_
  rotate_left
  · intro w'
    go_simp
    with_reducible rfl
  rotate_left
  · simp only [Act.put, List.setIfInBounds_toArray, List.set_cons_zero, List.set_cons_succ, i64_w, i32_w]
    rfl
  refine pure_ (i := 11) (N := some 15) (v := ?_) (a' := ?_) #[true, true, true, true, true, true, true, true, true, true, true, true, false] rfl rfl (by kernel_rfl) (fun _ _ _ h => h) (Or.inl ⟨by rfl, ?_⟩) ?_ ?_
  rotate_left
  · intro w'
    go_simp
    with_reducible rfl
  rotate_left
  · simp only [Act.put, List.setIfInBounds_toArray, List.set_cons_zero, List.set_cons_succ, i64_w, i32_w]
    rfl
  refine last_ (i := 12) (N := none) #[true, true, true, true, true, true, true, true, true, true, true, true, true] rfl rfl (by kernel_rfl) (by decide) (fun K hK => ?_)
  refine skip_ (w1 := ?_) (by rfl) rfl ?_ ?_
  rotate_left
  · go_simp
    rfl
  refine hK.out _ _ ?_
  clear hK K
  refine done_ (by kernel_rfl) ?_
  try go_wp2
  refine bodyPost_end (results_none rfl _ _ _) rfl ?_
  exact ⟨rfl, HW.out.at_, HW.out.bel, HW.out.keep⟩
set_option maxHeartbeats 8000000 in
set_option maxRecDepth 100000 in
theorem wr_signed (k k2 : Nat) (B g : Nat) (l : List Int) (n wd : Int) (bs : List Int) (w : World) (hG : Aside0 (Glob w)) (hB : B ≤ w.heap.size) (h : WrAt B g l w) (hl : l.length + bs.length ≤ wrMax) (hw : Aside0 (codec_spread.f k n = some wd)) (hn : Aside0 (codec_number.f k2 32 (IntKind.u64.wrap n) wd = some bs)) :
    Calls Tryd.prog 45 #[.pointer (some ⟨g, 0, none⟩), .int .i64 n] w fun e w' => WrPost B g (l ++ bs) w (.tuple #[]) e w' := by
  obtain ⟨v, hv, hg, ho⟩ := h
  unfold wrMax at hl
  have HV := Aside0.mk hv
  have HO := Aside0.mk ho
  have HG := Aside0.mk hg
  have HS := Aside0.mk hB
  have hc := (blk_cell hv 0).trans rfl
  clear hv ho hg hB
  obtain ⟨ls, LS⟩ : ∃ ls, Aside0 (l ++ bs = ls) := ⟨_, ⟨rfl⟩⟩
  rw [LS.out]
  go_enter Tryd.func45, Tryd.ntmps45
  try go_wp2
  refine start_ (n := 14) (S := fun w' => w'.cell? ⟨g, 0, none⟩ = some v) (ds := [13]) #[false, false, false, false, false, false, false, false, false, false, false, false, false, false] (by kernel_rfl) rfl rfl (hc) (fun hHeld => ?_)
  refine pure_ (i := 0) (N := some 4) (v := ?_) (a' := ?_) #[true, false, false, false, false, false, false, false, false, false, false, false, false, false] rfl rfl (by kernel_rfl) (fun _ _ _ h => h) (Or.inl ⟨by rfl, ?_⟩) ?_ ?_
  rotate_left
  · intro w'
    go_simp
    with_reducible rfl
  rotate_left
  · simp only [Act.put, List.setIfInBounds_toArray, List.set_cons_zero, List.set_cons_succ, i64_w, i32_w]
    rfl
  refine pure_ (i := 1) (N := some 5) (v := ?_) (a' := ?_) #[true, true, false, false, false, false, false, false, false, false, false, false, false, false] rfl rfl (by kernel_rfl) (fun _ _ _ h => h) (Or.inl ⟨by rfl, ?_⟩) ?_ ?_
  rotate_left
  · intro w'
    go_simp
    with_reducible rfl
  rotate_left
  · simp only [Act.put, List.setIfInBounds_toArray, List.set_cons_zero, List.set_cons_succ, i64_w, i32_w]
    rfl
  refine pure_ (i := 2) (N := some 6) (v := ?_) (a' := ?_) #[true, true, true, false, false, false, false, false, false, false, false, false, false, false] rfl rfl (by kernel_rfl) (fun _ _ _ h => h) (Or.inl ⟨by rfl, ?_⟩) ?_ ?_
  rotate_left
  · intro w'
    go_simp
    with_reducible rfl
  rotate_left
  · simp only [Act.put, List.setIfInBounds_toArray, List.set_cons_zero, List.set_cons_succ, i64_w, i32_w]
    rfl
  refine pure_ (i := 3) (N := some 7) (v := ?_) (a' := ?_) #[true, true, true, true, false, false, false, false, false, false, false, false, false, false] rfl rfl (by kernel_rfl) (fun _ _ _ h => h) (Or.inl ⟨by rfl, ?_⟩) ?_ ?_
  rotate_left
  · intro w'
    go_simp
    with_reducible rfl
  rotate_left
  · simp only [Act.put, List.setIfInBounds_toArray, List.set_cons_zero, List.set_cons_succ, i64_w, i32_w]
    rfl
  refine pure_ (i := 5) (N := some 9) (v := ?_) (a' := ?_) #[true, true, true, true, false, true, false, false, false, false, false, false, false, false] rfl rfl (by kernel_rfl) (fun _ _ _ h => h) (Or.inl ⟨by rfl, ?_⟩) ?_ ?_
  rotate_left
  · intro w'
    go_simp
    with_reducible rfl
  rotate_left
  · simp only [Act.put, List.setIfInBounds_toArray, List.set_cons_zero, List.set_cons_succ, i64_w, i32_w]
    rfl
  refine pure_ (i := 6) (N := some 10) (v := ?_) (a' := ?_) #[true, true, true, true, false, true, true, false, false, false, false, false, false, false] rfl rfl (by kernel_rfl) (fun _ _ _ h => h) (Or.inl ⟨by rfl, ?_⟩) ?_ ?_
  rotate_left
  · intro w'
    go_simp
    with_reducible rfl
  rotate_left
  · simp only [Act.put, List.setIfInBounds_toArray, List.set_cons_zero, List.set_cons_succ, i64_w, i32_w]
    rfl
  refine pure_ (i := 7) (N := some 11) (v := ?_) (a' := ?_) #[true, true, true, true, false, true, true, true, false, false, false, false, false, false] rfl rfl (by kernel_rfl) (fun _ _ _ h => h) (Or.inl ⟨by rfl, ?_⟩) ?_ ?_
  rotate_left
  · intro w'
    go_simp
    with_reducible rfl
  rotate_left
  · simp only [Act.put, List.setIfInBounds_toArray, List.set_cons_zero, List.set_cons_succ, i64_w, i32_w]
    rfl
  refine take_ (i := 4) (N := some 8) (v := ?_) (a' := ?_) #[true, true, true, true, true, true, true, true, false, false, false, false, false, false] rfl rfl (by kernel_rfl) (fun _ _ _ h => h) (Or.inl ⟨by rfl, ?_⟩) hHeld ?_ ?_
  rotate_left
  · intro w' s0
    go_simp
    with_reducible rfl
  rotate_left
  · simp only [Act.put, List.setIfInBounds_toArray, List.set_cons_zero, List.set_cons_succ, i64_w, i32_w]
    rfl
  refine one_ (i := 8) (N := some 12) #[true, true, true, true, true, true, true, true, true, false, false, false, false, false] rfl rfl (by kernel_rfl) (by decide) (fun K hK => ?_)
  refine goes_ Tryd.func64 (by kernel_rfl) rfl #[.int .i64 n] (by rfl) rfl rfl (by simp only [List.map_toArray, List.map_cons, List.map_nil]; rfl) ?_
  with_reducible refine (codec_spread.calls k n wd _ (Glob.below hG.out (below_drew1 (Below.refl _ _))) hw.out).mono ?_
  rintro e w7 ⟨rfl, ⟨nd, rfl⟩⟩
  refine ⟨_, rfl, ?_⟩
  have HB7 := Aside0.mk (pw_below_drewN (below_drew1 (Below.refl w.heap.size w)) nd)
  refine hK.out _ _ (hHeld) (fun hHeld => ?_)
  clear hK K
  refine norm_ (a' := ?_) ?_ ?_
  rotate_left
  · show Act.put _ (some 12) _ = _
    simp only [Act.put, List.setIfInBounds_toArray, List.set_cons_zero, List.set_cons_succ, i64_w, i32_w]
    rfl
  refine one_ (i := 9) (N := some 13) #[true, true, true, true, true, true, true, true, true, true, false, false, false, false] rfl rfl (by kernel_rfl) (by decide) (fun K hK => ?_)
  refine goes_ Tryd.func62 (by kernel_rfl) rfl #[.int .u8 32, .int .u64 (IntKind.u64.wrap n), .int .i64 wd] (by rfl) rfl rfl (by simp only [List.map_toArray, List.map_cons, List.map_nil]; rfl) ?_
  with_reducible refine (codec_number.calls k2 32 (IntKind.u64.wrap n) wd bs _ (Glob.below hG.out HB7.out) hn.out).mono ?_
  rintro e w8 ⟨v2, rfl, hv2, hb8⟩
  refine ⟨_, rfl, ?_⟩
  have HB8 := Aside0.mk (below_step HB7.out hb8)
  obtain ⟨A2, c2, e2⟩ := Kd.R_slice hv2
  subst e2
  have HR2 := Aside0.mk hv2
  have hk := Aside0.mk hb8
  clear hb8 hv2 HB7
  refine hK.out _ _ (pw_cell_below hk.out hHeld) (fun hHeld => ?_)
  clear hK K
  refine norm_ (a' := ?_) ?_ ?_
  rotate_left
  · show Act.put _ (some 13) _ = _
    simp only [Act.put, List.setIfInBounds_toArray, List.set_cons_zero, List.set_cons_succ, i64_w, i32_w]
    rfl
  refine one_ (i := 10) (N := some 14) #[true, true, true, true, true, true, true, true, true, true, true, false, false, false] rfl rfl (by kernel_rfl) (by decide) (fun K hK => ?_)
  refine Kd.R_append_rows_step (Kd.int .u8) (w0 := w) B (by rfl) (.tmp 8) (.tmp 13) 28 5 (.int .u8 0) 1 rfl Tryd.underlying28 info5 rfl (by decide) (by omega) v l bs _ _ _ (fun _ => True) (fun _ => False) rfl rfl (Kd.R_below HO.out HB8.out) (Kd.R_reads' HR2.out).2.2 (fun _ _ h => h) (fun _ h => h.elim) (fun _ _ => trivial) (HB8.out.mono HS.out) (Nat.le_trans HS.out HB8.out.size) (by omega) ?_
  intro v1 w9 ho hb hg hat
  rw [LS.out] at ho
  obtain ⟨A1, c1, e1⟩ := Kd.R_slice ho
  subst e1
  have HW := Aside0.mk (wr_step HV.out HG.out HO.out HB8.out ho hb hg)
  have hcc := HW.out.cell
  have hff := HW.out.free
  clear ho hb hg hat
  refine hK.out _ _ (hcc) (fun hHeld => ?_)
  clear hK K
  refine norm_ (a' := ?_) ?_ ?_
  rotate_left
  · show Act.put _ (some 14) _ = _
    simp only [Act.put, List.setIfInBounds_toArray, List.set_cons_zero, List.set_cons_succ, i64_w, i32_w]
    rfl
  refine pure_ (i := 11) (N := some 15) (v := ?_) (a' := ?_) #[true, true, true, true, true, true, true, true, true, true, true, true, false, false] rfl rfl (by kernel_rfl) (fun _ _ _ h => h) (Or.inl ⟨by rfl, ?_⟩) ?_ ?_
  rotate_left
  · intro w'
    go_simp
    with_reducible rfl
  rotate_left
  · simp only [Act.put, List.setIfInBounds_toArray, List.set_cons_zero, List.set_cons_succ, i64_w, i32_w]
    rfl
  refine pure_ (i := 12) (N := some 16) (v := ?_) (a' := ?_) #[true, true, true, true, true, true, true, true, true, true, true, true, true, false] rfl rfl (by kernel_rfl) (fun _ _ _ h => h) (Or.inl ⟨by rfl, ?_⟩) ?_ ?_
  rotate_left
  · intro w'
    go_simp
    with_reducible rfl
  rotate_left
  · simp only [Act.put, List.setIfInBounds_toArray, List.set_cons_zero, List.set_cons_succ, i64_w, i32_w]
    rfl
  refine last_ (i := 13) (N := none) #[true, true, true, true, true, true, true, true, true, true, true, true, true, true] rfl rfl (by kernel_rfl) (by decide) (fun K hK => ?_)
  refine skip_ (w1 := ?_) (by rfl) rfl ?_ ?_
  rotate_left
  · go_simp
    rfl
  refine hK.out _ _ ?_
  clear hK K
  refine done_ (by kernel_rfl) ?_
  try go_wp2
  refine bodyPost_end (results_none rfl _ _ _) rfl ?_
  exact ⟨rfl, HW.out.at_, HW.out.bel, HW.out.keep⟩
theorem Glob.base {B : Nat} {w w1 : World} (hG : Glob w) (h0 : 0 < B) (hb : Below B w w1) : Glob w1 := by
  obtain ⟨t, h⟩ := hG
  exact ⟨t, (hb.block 0 h0).trans h⟩
set_option maxHeartbeats 8000000 in
set_option maxRecDepth 100000 in
theorem wr_list_no (B g : Nat) (l : List Int) (n : Int) (w : World) (hB : B ≤ w.heap.size) (h : WrAt B g l w) (hn : n < 0 ∨ 65535 < n) :
    Calls Tryd.prog 33 #[.pointer (some ⟨g, 0, none⟩), .int .i64 n] w fun e w' => WrPost B g l w (.int .i64 6) e w' := by
  have H := Aside0.mk h
  clear h
  by_cases c : n < 0
  · have hb0 : decide (n < 0) = true := decide_eq_true c
    clear c hn
    go_enter Tryd.func33, Tryd.ntmps33
    go_wp2
    go_ret
    exact ⟨rfl, H.out, Below.refl _ _, KeepT.refl _⟩
  · have hb0 : decide (n < 0) = false := decide_eq_false c
    have hb1 : decide (65535 < n) = true := decide_eq_true (by omega)
    clear c hn
    go_enter Tryd.func33, Tryd.ntmps33
    go_wp2
    go_ret
    exact ⟨rfl, H.out, Below.refl _ _, KeepT.refl _⟩
set_option maxHeartbeats 8000000 in
set_option maxRecDepth 100000 in
theorem wr_list (k k2 : Nat) (B g : Nat) (l : List Int) (n wd : Int) (bs : List Int) (w : World) (hG : Aside0 (Glob w)) (h0 : 0 < B) (hB : B ≤ w.heap.size) (h : WrAt B g l w) (hl : l.length + 1 + bs.length ≤ wrMax) (hr : 0 ≤ n ∧ n ≤ 65535) (hw' : Aside0 (codec_width.f k n = some wd)) (hn' : Aside0 (codec_number.f k2 16 n wd = some bs)) :
    Calls Tryd.prog 33 #[.pointer (some ⟨g, 0, none⟩), .int .i64 n] w fun e w' => WrPost B g (l ++ [64] ++ bs) w (.int .i64 0) e w' := by
  have hwn : IntKind.u64.wrap n = n := by
    show n % 18446744073709551616 = n
    omega
  have hw : Aside0 (codec_width.f k (IntKind.u64.wrap n) = some wd) := ⟨by rw [hwn]; exact hw'.out⟩
  have hn : Aside0 (codec_number.f k2 16 (IntKind.u64.wrap n) wd = some bs) := ⟨by rw [hwn]; exact hn'.out⟩
  clear hw' hn' hwn
  obtain ⟨v, hv, hg, ho⟩ := h
  unfold wrMax at hl
  have HV := Aside0.mk hv
  have HO := Aside0.mk ho
  have HG := Aside0.mk hg
  have HS := Aside0.mk hB
  have hc := (blk_cell hv 0).trans rfl
  clear hv ho hg hB
  obtain ⟨ls, LS⟩ : ∃ ls, Aside0 (l ++ [64] = ls) := ⟨_, ⟨rfl⟩⟩
  rw [LS.out]
  have hl2 : ls.length + bs.length ≤ wrMax := by rw [← LS.out]; simp [wrMax]; omega
  have hb0 : decide (n < 0) = false := decide_eq_false (by omega)
  have hb1 : decide (65535 < n) = false := decide_eq_false (by omega)
  have H0 := Aside0.mk h0
  clear hr h0
  go_enter Tryd.func33, Tryd.ntmps33
  go_wp2_with (first | (at_builtin; refine Kd.R_append (Kd.int .u8) (w0 := w) B rfl (.tmp 15) (.tmp 16) 28 5 (.int .u8 0) 1 rfl Tryd.underlying28 info5 rfl (by decide) (by omega) v l 64 [.int .u8 64] (fun _ => True) (fun _ => False) rfl rfl rfl (fun _ hk => hk.elim) (fun _ _ => trivial) HO.out (Below.refl _ _) HS.out (by omega) ?_; intro v1 w9 ho hb hg hat; rw [LS.out] at ho; obtain ⟨A1, c1, e1⟩ := Kd.R_slice ho; subst e1; have HW := Aside0.mk (wr_step HV.out HG.out HO.out (Below.refl _ _) ho hb hg); have hcc := HW.out.cell; have hff := HW.out.free; clear ho hb hg hat hc) | (go_at_call 43; (with_reducible refine (wr_unsigned k k2 B g ls _ wd bs _ ⟨Glob.base hG.out H0.out HW.out.bel⟩ (Nat.le_trans HS.out HW.out.keep.size) HW.out.at_ hl2 hw hn).mono ?_); rintro e w5 ⟨rfl, ha, hb, hk⟩; have HA := Aside0.mk ha; have HBB := Aside0.mk (HW.out.bel.trans hb); have HKK := Aside0.mk (HW.out.keep.trans hk); clear ha hb hk))
  go_ret
  exact ⟨rfl, HA.out, HBB.out, HKK.out⟩
set_option maxHeartbeats 8000000 in
set_option maxRecDepth 100000 in
theorem wr_text_no (B g : Nat) (l : List Int) (s : ByteArray) (w : World) (hB : B ≤ w.heap.size) (h : WrAt B g l w) (hn : 65535 < s.size) :
    Calls Tryd.prog 35 #[.pointer (some ⟨g, 0, none⟩), .string s] w fun e w' => WrPost B g l w (.int .i64 7) e w' := by
  have H := Aside0.mk h
  clear h
  have hb0 : decide (65535 < (s.size : Int)) = true := decide_eq_true (by omega)
  have hb1 : decide (65535 < s.size) = true := decide_eq_true (by omega)
  go_enter Tryd.func35, Tryd.ntmps35
  go_wp2
  go_ret
  exact ⟨rfl, H.out, Below.refl _ _, KeepT.refl _⟩
theorem wr_step2 {B g : Nat} {l l' : List Int} {w w1 : World} {v v1 : Value} (hv : w.heap[g]? = some (.cells #[v] 38 (0, 0))) (hg : B ≤ g) (ho : Kd.R (Kd.int .u8) 5 w B (fun _ => True) v l)
    (ho1 : Kd.R (Kd.int .u8) 5 w1 B (fun _ => True) v1 l') (hbel : Below B w w1) (hgr : w.grownBy w1 v.ownBlock) : WrStep B g l' w w1 v v1 := wr_step hv hg ho (Below.refl _ _) ho1 hbel hgr
theorem R_of_own {w : World} {B : Nat} {v : Value} {l : List Int} (h : w.ownsRow B 5 1 v l.length (nums .u8 l)) : Kd.R (Kd.int .u8) 5 w B (fun _ => True) v l := by
  refine ⟨fun _ _ => trivial, nums .u8 l, h, ?_⟩
  refine ⟨by show (nums .u8 l).length = l.length * 1; simp [nums], fun j p hj => ?_⟩
  obtain ⟨hl, hp⟩ := List.getElem?_eq_some_iff.1 hj
  have hlt : j < (nums .u8 l).length := by simpa [nums] using hl
  show List.take 1 (List.drop (j * 1) (nums .u8 l)) = [.int .u8 p]
  rw [Nat.mul_one, List.drop_eq_getElem_cons hlt]
  simp [nums, hp]
set_option maxHeartbeats 8000000 in
set_option maxRecDepth 100000 in
theorem wr_text (k k2 : Nat) (B g : Nat) (l : List Int) (s : ByteArray) (wd : Int) (bs : List Int) (w : World) (hG : Aside0 (Glob w)) (h0 : 0 < B) (hB : B ≤ w.heap.size) (h : WrAt B g l w) (hl : l.length + 1 + bs.length + s.size ≤ wrMax) (hr : s.size ≤ 65535) (hw : Aside0 (codec_width.f k (s.size : Int) = some wd)) (hn : Aside0 (codec_number.f k2 16 (s.size : Int) wd = some bs)) :
    Calls Tryd.prog 35 #[.pointer (some ⟨g, 0, none⟩), .string s] w fun e w' => WrPost B g (l ++ [48] ++ bs ++ bytesOf s) w (.int .i64 0) e w' := by
  obtain ⟨v, hv, hg, ho⟩ := h
  unfold wrMax at hl
  have HV := Aside0.mk hv
  have HO := Aside0.mk ho
  have HG := Aside0.mk hg
  have HS := Aside0.mk hB
  have hc := (blk_cell hv 0).trans rfl
  clear hv ho hg hB
  obtain ⟨ls, LS⟩ : ∃ ls, Aside0 (l ++ [48] = ls) := ⟨_, ⟨rfl⟩⟩
  rw [LS.out]
  obtain ⟨l2, L2⟩ : ∃ l2, Aside0 (ls ++ bs = l2) := ⟨_, ⟨rfl⟩⟩
  rw [L2.out]
  obtain ⟨l3, L3⟩ : ∃ l3, Aside0 (l2 ++ bytesOf s = l3) := ⟨_, ⟨rfl⟩⟩
  rw [L3.out]
  have hl2 : ls.length + bs.length ≤ wrMax := by rw [← LS.out]; simp [wrMax]; omega
  have hl3 := Aside0.mk (show l2.length + s.size ≤ 140737488355328 by rw [← L2.out, ← LS.out]; simp; omega)
  have hb0 : decide (65535 < (s.size : Int)) = false := decide_eq_false (by omega)
  have hb1 : decide (65535 < s.size) = false := decide_eq_false (by omega)
  have H0 := Aside0.mk h0
  clear hr h0
  go_enter Tryd.func35, Tryd.ntmps35
  go_wp2_with (first | (at_builtin; refine Kd.R_append (Kd.int .u8) (w0 := w) B rfl (.tmp 12) (.tmp 13) 28 5 (.int .u8 0) 1 rfl Tryd.underlying28 info5 rfl (by decide) (by omega) v l 48 [.int .u8 48] (fun _ => True) (fun _ => False) rfl rfl rfl (fun _ hk => hk.elim) (fun _ _ => trivial) HO.out (Below.refl _ _) HS.out (by omega) ?_; intro v1 w9 ho hb hg hat; rw [LS.out] at ho; obtain ⟨A1, c1, e1⟩ := Kd.R_slice ho; subst e1; have HW := Aside0.mk (wr_step HV.out HG.out HO.out (Below.refl _ _) ho hb hg); have hcc := HW.out.cell; have hff := HW.out.free; clear ho hb hg hat hc) | ((go_at_call 43; (with_reducible refine (wr_unsigned k k2 B g ls _ wd bs _ ⟨Glob.base hG.out H0.out HW.out.bel⟩ (Nat.le_trans HS.out HW.out.keep.size) HW.out.at_ hl2 hw hn).mono ?_); rintro e w5 ⟨rfl, ha, hb, hk⟩; have HA := Aside0.mk ha; have HBB := Aside0.mk (HW.out.bel.trans hb); have HKK := Aside0.mk (HW.out.keep.trans hk); clear ha hb hk); rw [L2.out] at HA; obtain ⟨v2, hv2, _, ho2⟩ := HA.out; obtain ⟨A2, c2, e2⟩ := Kd.R_slice ho2; subst e2; have HV2 := Aside0.mk hv2; have HO2 := Aside0.mk ho2; have HN2 : Aside0 (w5.ownsRow B 5 1 (.slice A2 l2.length c2) l2.length (nums .u8 l2)) := ⟨Kd.own_of_R ho2⟩; have hc2 := (blk_cell hv2 0).trans rfl; clear hv2 ho2 HA) | (refine print_append_str (w0 := w5) B rfl (.tmp 26) (.tmp 27) 28 9 5 rfl Tryd.underlying28 Tryd.underlying9 info5 (.slice A2 l2.length c2) l2 s ?h1 ?h2 ?aO ?aB ?aS ?aL ?_; (case h1 => rfl); (case h2 => rfl); (case aO => exact HN2.out); (case aB => exact Below.refl _ _); (case aS => exact Nat.le_trans HS.out HKK.out.size); (case aL => exact hl3.out); intro v3 w9 ho hb hg; have ho' := R_of_own ho; rw [L3.out] at ho'; obtain ⟨A3, c3, e3⟩ := Kd.R_slice ho'; subst e3; have HW3 := Aside0.mk (wr_step2 HV2.out HG.out HO2.out ho' hb hg); have hcc3 := HW3.out.cell; have hff3 := HW3.out.free; clear ho ho' hb hg hc2))
  go_ret
  exact ⟨rfl, HW3.out.at_, HBB.out.trans HW3.out.bel, HKK.out.trans HW3.out.keep⟩
set_option maxHeartbeats 8000000 in
set_option maxRecDepth 100000 in
theorem wr_data (B g : Nat) (l : List Int) (w : World) (h : WrAt B g l w) :
    Calls Tryd.prog 19 #[.pointer (some ⟨g, 0, none⟩)] w fun e w' => e = .returned (.string (strOfNums l)) ∧ w' = w := by
  obtain ⟨v, hv, hg, ho⟩ := h
  obtain ⟨A1, c1, e1⟩ := Kd.R_slice ho
  subst e1
  have hc := (blk_cell hv 0).trans rfl
  have hcv := own_string (w := w) (P := Tryd.prog) Tryd.underlying28 Tryd.underlying5 Tryd.underlying9 (Kd.own_of_R ho)
  clear hv ho hg
  go_enter Tryd.func19, Tryd.ntmps19
  go_wp2
  go_ret
  exact ⟨rfl, rfl⟩
end Go.Proofs.YtndeikikeeeigaaDoor.Q
end
section
namespace Go.Proofs.YtndeikikeeeigaaDoor.Pure
open Go.RowKit Go.Proofs.YtndeikikeeeigaaDoorW.PrintWords Go.Proofs.YtndeikikeeeigaaDoorW.PrintLast Go.Proofs.YtndeikikeeeigaaDoorW.PrintMore
theorem u64w (n : Int) : IntKind.u64.wrap n = n % 18446744073709551616 := rfl
theorem i64w (n : Int) : IntKind.i64.wrap n = wrap64 n := by
  unfold wrap64
  show (if (true && decide (n % 18446744073709551616 ≥ 9223372036854775808)) = true then n % 18446744073709551616 - 18446744073709551616 else n % 18446744073709551616) = _
  by_cases h : n % 18446744073709551616 ≥ 9223372036854775808
  · simp only [h, decide_true, Bool.and_self, if_true]; omega
  · simp only [h, decide_false, Bool.and_false, Bool.false_eq_true, if_false]; omega
theorem w64 {n : Int} (h0 : -9223372036854775808 ≤ n) (h1 : n ≤ 9223372036854775807) : wrap64 n = n := by unfold wrap64; omega
theorem and15 (n : Int) (h0 : 0 ≤ n) (h1 : n ≤ 255) : Go.bits .and .u8 n 15 = n % 16 := by
  have : ∀ m : Fin 256, Go.bits .and .u8 (m.val : Int) 15 = (m.val : Int) % 16 := by decide +kernel
  have e := this ⟨n.toNat, by omega⟩
  have hn : ((n.toNat : Nat) : Int) = n := by omega
  simpa [hn] using e
theorem and15_bt (s : ByteArray) (p : Int) : Go.bits .and .u8 (bt s p) 15 = bt s p % 16 := and15 _ (bt_range s p).1 (bt_range s p).2
theorem or_nat (m b : Nat) (hb : b < 256) : (m * 256) ||| b = m * 256 + b := by
  have := Nat.two_pow_add_eq_or_of_lt (i := 8) (b := b) hb m
  rw [Nat.mul_comm] at this
  exact this.symm
theorem or_u64 (a b : Int) (h0 : 0 ≤ a) (h1 : a * 256 < 18446744073709551616) (hb0 : 0 ≤ b) (hb1 : b < 256) : Go.bits .or .u64 (a * 256) b = a * 256 + b := by
  obtain ⟨a, rfl⟩ := Int.eq_ofNat_of_zero_le h0
  obtain ⟨b, rfl⟩ := Int.eq_ofNat_of_zero_le hb0
  show IntKind.u64.wrap (((BitVec.ofInt 64 ((a : Int) * 256)) ||| (BitVec.ofInt 64 (b : Int))).toNat : Int) = _
  rw [BitVec.toNat_or, BitVec.toNat_ofInt, BitVec.toNat_ofInt]
  have e1 : (((a : Int) * 256) % ((2 ^ 64 : Nat) : Int)).toNat = a * 256 := by omega
  have e2 : ((b : Int) % ((2 ^ 64 : Nat) : Int)).toNat = b := by omega
  rw [e1, e2, or_nat a b (by omega), u64w]
  omega
theorem not_i64 (a : Int) (h0 : -9223372036854775808 ≤ a) (h1 : a < 0) : IntKind.u64.wrap (Go.bits .xor .i64 (-1) a) = -1 - a := by
  show IntKind.u64.wrap (IntKind.i64.wrap (((BitVec.ofInt 64 (-1)) ^^^ (BitVec.ofInt 64 a)).toNat : Int)) = _
  have e : (BitVec.ofInt 64 (-1)) = BitVec.allOnes 64 := by decide
  rw [e, BitVec.allOnes_xor, BitVec.toNat_not, BitVec.toNat_ofInt, i64w, u64w]
  unfold wrap64
  omega
def nb (x : Int) : Int := if x < 256 then 1 else if x < 65536 then 2 else if x < 16777216 then 3 else if x < 4294967296 then 4 else if x < 1099511627776 then 5 else if x < 281474976710656 then 6 else if x < 72057594037927936 then 7 else 8
def sb (x : Int) : Int := if x < 128 then 1 else if x < 32768 then 2 else if x < 8388608 then 3 else if x < 2147483648 then 4 else if x < 549755813888 then 5 else if x < 140737488355328 then 6 else if x < 36028797018963968 then 7 else if x < 9223372036854775808 then 8 else 9
def ss (x : Int) : Int := if x < 0 then sb (-1 - x) else sb x
theorem nb_range (x : Int) : 1 ≤ nb x ∧ nb x ≤ 8 := by unfold nb; omega
theorem ss_range (x : Int) (h0 : -9223372036854775808 ≤ x) (h1 : x ≤ 9223372036854775807) : 1 ≤ ss x ∧ ss x ≤ 8 := by unfold ss sb; omega
theorem nb_div {x : Int} (h : 255 < x) (h1 : x < 18446744073709551616) : nb (x / 256) = nb x - 1 := by unfold nb; omega
theorem nb_small {x : Int} (h : x ≤ 255) : nb x = 1 := by unfold nb; omega
theorem ss_div {x : Int} (h : x < -128 ∨ 127 < x) (h0 : -9223372036854775808 ≤ x) (h1 : x ≤ 9223372036854775807) : ss (x / 256) = ss x - 1 := by unfold ss sb; omega
theorem ss_small {x : Int} (h0 : -128 ≤ x) (h1 : x ≤ 127) : ss x = 1 := by unfold ss sb; omega
end Go.Proofs.YtndeikikeeeigaaDoor.Pure
end
section
namespace Go.Proofs.YtndeikikeeeigaaDoor.Pure
open Go.RowKit Go.Proofs.YtndeikikeeeigaaDoor.Q Go.Proofs.YtndeikikeeeigaaDoorW.PrintWords Go.Proofs.YtndeikikeeeigaaDoorW.PrintLast Go.Proofs.YtndeikikeeeigaaDoorW.PrintMore
set_option linter.unusedVariables false
def lenTab : ByteArray := (⟨#[0, 1, 2, 2, 3, 3, 3, 3, 4, 4, 4, 4, 4, 4, 4, 4, 5, 5, 5, 5, 5, 5, 5, 5, 5, 5, 5, 5, 5, 5, 5, 5, 6, 6, 6, 6, 6, 6, 6, 6, 6, 6, 6, 6, 6, 6, 6, 6, 6, 6, 6, 6, 6, 6, 6, 6, 6, 6, 6, 6, 6, 6, 6, 6, 7, 7, 7, 7, 7, 7, 7, 7, 7, 7, 7, 7, 7, 7, 7, 7, 7, 7, 7, 7, 7, 7, 7, 7, 7, 7, 7, 7, 7, 7, 7, 7, 7, 7, 7, 7, 7, 7, 7, 7, 7, 7, 7, 7, 7, 7, 7, 7, 7, 7, 7, 7, 7, 7, 7, 7, 7, 7, 7, 7, 7, 7, 7, 7, 8, 8, 8, 8, 8, 8, 8, 8, 8, 8, 8, 8, 8, 8, 8, 8, 8, 8, 8, 8, 8, 8, 8, 8, 8, 8, 8, 8, 8, 8, 8, 8, 8, 8, 8, 8, 8, 8, 8, 8, 8, 8, 8, 8, 8, 8, 8, 8, 8, 8, 8, 8, 8, 8, 8, 8, 8, 8, 8, 8, 8, 8, 8, 8, 8, 8, 8, 8, 8, 8, 8, 8, 8, 8, 8, 8, 8, 8, 8, 8, 8, 8, 8, 8, 8, 8, 8, 8, 8, 8, 8, 8, 8, 8, 8, 8, 8, 8, 8, 8, 8, 8, 8, 8, 8, 8, 8, 8, 8, 8, 8, 8, 8, 8, 8, 8, 8, 8, 8, 8, 8, 8, 8, 8, 8, 8, 8, 8]⟩ : ByteArray)
theorem lenTab_at (i : Int) (h0 : 0 ≤ i) (h1 : i < 256) : (i = 0 → bt lenTab i = 0) ∧ (1 ≤ i → 1 ≤ bt lenTab i) ∧ (i < 128 → bt lenTab i ≤ 7) ∧ (128 ≤ i → bt lenTab i = 8) ∧ 0 ≤ bt lenTab i ∧ bt lenTab i ≤ 8 := by
  have : ∀ m : Fin 256, (((m.val : Int) = 0 → bt lenTab (m.val : Int) = 0) ∧ (1 ≤ (m.val : Int) → 1 ≤ bt lenTab (m.val : Int)) ∧ ((m.val : Int) < 128 → bt lenTab (m.val : Int) ≤ 7) ∧ (128 ≤ (m.val : Int) → bt lenTab (m.val : Int) = 8) ∧ 0 ≤ bt lenTab (m.val : Int) ∧ bt lenTab (m.val : Int) ≤ 8) := by decide +kernel
  have e := this ⟨i.toNat, by omega⟩
  have hn : ((i.toNat : Nat) : Int) = i := by omega
  simpa only [hn] using e
theorem wsmall {n : Int} (h0 : 0 ≤ n) (h1 : n ≤ 1000) : wrap64 n = n := by unfold wrap64; omega
set_option maxRecDepth 20000 in
theorem len64_j0 (k : Nat) (x c : Int) (h0 : 0 ≤ x) (h1 : x < 4294967296) (hc : c = 0 ∨ c = 32) : ∃ n, bits_Len64.j0 (k + 1) x c = some n ∧ 0 ≤ n ∧ n ≤ 64 ∧ (x = 0 → n = c) ∧ (1 ≤ x → (n + 7) / 8 = nb x + c / 8) ∧ (n + 8) / 8 = sb x + c / 8 := by
  have hl : ∀ i, bt (⟨#[0, 1, 2, 2, 3, 3, 3, 3, 4, 4, 4, 4, 4, 4, 4, 4, 5, 5, 5, 5, 5, 5, 5, 5, 5, 5, 5, 5, 5, 5, 5, 5, 6, 6, 6, 6, 6, 6, 6, 6, 6, 6, 6, 6, 6, 6, 6, 6, 6, 6, 6, 6, 6, 6, 6, 6, 6, 6, 6, 6, 6, 6, 6, 6, 7, 7, 7, 7, 7, 7, 7, 7, 7, 7, 7, 7, 7, 7, 7, 7, 7, 7, 7, 7, 7, 7, 7, 7, 7, 7, 7, 7, 7, 7, 7, 7, 7, 7, 7, 7, 7, 7, 7, 7, 7, 7, 7, 7, 7, 7, 7, 7, 7, 7, 7, 7, 7, 7, 7, 7, 7, 7, 7, 7, 7, 7, 7, 7, 8, 8, 8, 8, 8, 8, 8, 8, 8, 8, 8, 8, 8, 8, 8, 8, 8, 8, 8, 8, 8, 8, 8, 8, 8, 8, 8, 8, 8, 8, 8, 8, 8, 8, 8, 8, 8, 8, 8, 8, 8, 8, 8, 8, 8, 8, 8, 8, 8, 8, 8, 8, 8, 8, 8, 8, 8, 8, 8, 8, 8, 8, 8, 8, 8, 8, 8, 8, 8, 8, 8, 8, 8, 8, 8, 8, 8, 8, 8, 8, 8, 8, 8, 8, 8, 8, 8, 8, 8, 8, 8, 8, 8, 8, 8, 8, 8, 8, 8, 8, 8, 8, 8, 8, 8, 8, 8, 8, 8, 8, 8, 8, 8, 8, 8, 8, 8, 8, 8, 8, 8, 8, 8, 8, 8, 8, 8, 8]⟩ : ByteArray) i = bt lenTab i := fun _ => rfl
  rw [bits_Len64.j0]
  simp only [hl]
  by_cases c1 : x ≥ 65536
  · by_cases c2 : x / 65536 ≥ 256
    · rw [if_pos c1, if_pos c2, if_pos (by omega), if_pos (by omega)]
      obtain ⟨t1, t2, t3, t4, t5, t6⟩ := lenTab_at (x / 65536 / 256 % 256) (by omega) (by omega)
      generalize bt lenTab (x / 65536 / 256 % 256) = q at *
      rw [wsmall (n := q) (by omega) (by omega), wsmall (n := c + 16) (by omega) (by omega), wsmall (n := c + 16 + 8) (by omega) (by omega), wsmall (by omega) (by omega)]
      refine ⟨_, rfl, by omega, by omega, by omega, by unfold nb; omega, by unfold sb; omega⟩
    · rw [if_pos c1, if_neg c2, if_pos (by omega), if_pos (by omega)]
      obtain ⟨t1, t2, t3, t4, t5, t6⟩ := lenTab_at (x / 65536 % 256) (by omega) (by omega)
      generalize bt lenTab (x / 65536 % 256) = q at *
      rw [wsmall (n := q) (by omega) (by omega), wsmall (n := c + 16) (by omega) (by omega), wsmall (by omega) (by omega)]
      refine ⟨_, rfl, by omega, by omega, by omega, by unfold nb; omega, by unfold sb; omega⟩
  · by_cases c2 : x ≥ 256
    · rw [if_neg c1, if_pos c2, if_pos (by omega), if_pos (by omega)]
      obtain ⟨t1, t2, t3, t4, t5, t6⟩ := lenTab_at (x / 256 % 256) (by omega) (by omega)
      generalize bt lenTab (x / 256 % 256) = q at *
      rw [wsmall (n := q) (by omega) (by omega), wsmall (n := c + 8) (by omega) (by omega), wsmall (by omega) (by omega)]
      refine ⟨_, rfl, by omega, by omega, by omega, by unfold nb; omega, by unfold sb; omega⟩
    · rw [if_neg c1, if_neg c2, if_pos (by omega), if_pos (by omega)]
      obtain ⟨t1, t2, t3, t4, t5, t6⟩ := lenTab_at (x % 256) (by omega) (by omega)
      generalize bt lenTab (x % 256) = q at *
      rw [wsmall (n := q) (by omega) (by omega), wsmall (by omega) (by omega)]
      refine ⟨_, rfl, by omega, by omega, by omega, by unfold nb; omega, by unfold sb; omega⟩
theorem len64 (k : Nat) (x : Int) (h0 : 0 ≤ x) (h1 : x < 18446744073709551616) : ∃ n, bits_Len64.f (k + 1) x = some n ∧ 0 ≤ n ∧ n ≤ 64 ∧ (x = 0 → n = 0) ∧ (1 ≤ x → (n + 7) / 8 = nb x) ∧ (n + 8) / 8 = sb x := by
  unfold bits_Len64.f
  by_cases c : x ≥ 4294967296
  · rw [if_pos c]
    obtain ⟨n, e, a1, a2, a3, a4, a5⟩ := len64_j0 k (x / 4294967296) 32 (by omega) (by omega) (Or.inr rfl)
    refine ⟨n, e, a1, a2, by omega, fun _ => ?_, ?_⟩
    · rw [a4 (by omega)]; unfold nb; omega
    · rw [a5]; unfold sb; omega
  · rw [if_neg c]
    obtain ⟨n, e, a1, a2, a3, a4, a5⟩ := len64_j0 k x 0 h0 (by omega) (Or.inl rfl)
    exact ⟨n, e, a1, a2, a3, fun h => by rw [a4 h]; omega, by rw [a5]; omega⟩
theorem width_eq (k : Nat) (x : Int) (h0 : 0 ≤ x) (h1 : x < 18446744073709551616) : codec_width.f (k + 1) x = some (nb x) := by
  obtain ⟨n, e, a1, a2, a3, a4, a5⟩ := len64 k x h0 h1
  unfold codec_width.f
  rw [e]
  simp only [Option.bind_some]
  rw [wsmall (n := n + 7) (by omega) (by omega), Int.tdiv_eq_ediv_of_nonneg (by omega), wsmall (by omega) (by omega)]
  congr 1
  unfold mx
  by_cases c : x = 0
  · rw [a3 c]; subst c; rfl
  · rw [a4 (by omega)]; have := nb_range x
    split <;> omega
theorem spread_eq (k : Nat) (x : Int) (h0 : -9223372036854775808 ≤ x) (h1 : x ≤ 9223372036854775807) : codec_spread.f (k + 1) x = some (ss x) := by
  unfold codec_spread.f ss
  by_cases c : x < 0
  · rw [if_pos c, if_pos c, not_i64 x h0 c]
    obtain ⟨n, e, a1, a2, a3, a4, a5⟩ := len64 k (-1 - x) (by omega) (by omega)
    rw [e]
    simp only [Option.bind_some]
    rw [wsmall (n := n + 8) (by omega) (by omega), Int.tdiv_eq_ediv_of_nonneg (by omega), wsmall (by omega) (by omega), a5]
  · rw [if_neg c, if_neg c, u64w, Int.emod_eq_of_lt (by omega) (by omega)]
    obtain ⟨n, e, a1, a2, a3, a4, a5⟩ := len64 k x (by omega) (by omega)
    rw [e]
    simp only [Option.bind_some]
    rw [wsmall (n := n + 8) (by omega) (by omega), Int.tdiv_eq_ediv_of_nonneg (by omega), wsmall (by omega) (by omega), a5]
end Go.Proofs.YtndeikikeeeigaaDoor.Pure
end
section
namespace Go.Proofs.YtndeikikeeeigaaDoor.Q
open Go.RowKit Go.Proofs.YtndeikikeeeigaaDoorW.PrintWords Go.Proofs.YtndeikikeeeigaaDoorW.PrintLast Go.Proofs.YtndeikikeeeigaaDoorW.PrintMore
attribute [local go_sem] max2_int min2_int max_two min_two max_three min_three max_four min_four
set_option linter.unusedVariables false
set_option linter.unusedSimpArgs false
mutual
def codec_kind.j0 : Nat → ByteArray → Int → Bool → Option (Int)
  | 0, _, _, _ => none
  | k + 1, x0, x1, x14 => if x14 = true then (some 0) else (if 0 ≤ x1 then (if x1 < (x0.size : Int) then (if (bt x0 x1) = 0 then (some 1) else (if ((bt x0 x1) / 16) > 4 then (some 0) else (if ((bt x0 x1) / 16) = 0 then (codec_kind.j1 k ((bt x0 x1) / 16) (Go.bits .and .u8 (bt x0 x1) 15) (decide ((Go.bits .and .u8 (bt x0 x1) 15) > 2))) else (codec_kind.j1 k ((bt x0 x1) / 16) (Go.bits .and .u8 (bt x0 x1) 15) false)))) else (none)) else (none))
def codec_kind.j1 : Nat → Int → Int → Bool → Option (Int)
  | 0, _, _, _ => none
  | k + 1, x5, x6, x31 => if x31 = true then (some 0) else (if x5 ≥ 3 then (codec_kind.j2 k x5 x6 (x6 != 0)) else (codec_kind.j2 k x5 x6 false))
def codec_kind.j2 : Nat → Int → Int → Bool → Option (Int)
  | 0, _, _, _ => none
  | k + 1, x5, x6, x31 => if x31 = true then (some 0) else (if x5 = 1 then (if x6 < 1 then (some 0) else (if x6 > 8 then (some 0) else (if 0 ≤ x5 then (if x5 < 5 then (some (rd gtab x5)) else (none)) else (none)))) else (if x5 = 2 then (if x6 < 1 then (some 0) else (if x6 > 8 then (some 0) else (if 0 ≤ x5 then (if x5 < 5 then (some (rd gtab x5)) else (none)) else (none)))) else (if 0 ≤ x5 then (if x5 < 5 then (some (rd gtab x5)) else (none)) else (none))))
end
def codec_kind.f (k : Nat) (a0 : ByteArray) (a1 : Int) : Option (Int) := if a1 < 0 then (codec_kind.j0 k a0 a1 true) else (codec_kind.j0 k a0 a1 (decide (a1 ≥ (a0.size : Int))))
theorem codec_kind.mono_l : ∀ k, (∀ y0 y1 y2, LeO (codec_kind.j0 k y0 y1 y2) (codec_kind.j0 (k + 1) y0 y1 y2)) ∧ (∀ y0 y1 y2, LeO (codec_kind.j1 k y0 y1 y2) (codec_kind.j1 (k + 1) y0 y1 y2)) ∧ (∀ y0 y1 y2, LeO (codec_kind.j2 k y0 y1 y2) (codec_kind.j2 (k + 1) y0 y1 y2))
  | 0 => ⟨fun _ _ _ r h => by simp [codec_kind.j0] at h, fun _ _ _ r h => by simp [codec_kind.j1] at h, fun _ _ _ r h => by simp [codec_kind.j2] at h⟩
  | k + 1 => by
    obtain ⟨ih0, ih1, ih2⟩ := codec_kind.mono_l k
    refine ⟨?_, ?_, ?_⟩
    · intro y0 y1 y2
      unfold codec_kind.j0
      repeat' first
      | (with_reducible exact ih0 _ _ _)
      | (with_reducible exact ih1 _ _ _)
      | (with_reducible exact ih2 _ _ _)
      | (with_reducible exact LeO.refl _)
      | (with_reducible exact LeO.none _)
      | (with_reducible refine LeO.ite ?_ ?_)
      | (with_reducible refine LeO.bind ?_ (fun _ => ?_))
      | exact ih0 _ _ _
      | exact ih1 _ _ _
      | exact ih2 _ _ _
      | exact LeO.none _
      | refine LeO.ite ?_ ?_
      | refine LeO.bind ?_ (fun _ => ?_)
    · intro y0 y1 y2
      unfold codec_kind.j1
      repeat' first
      | (with_reducible exact ih0 _ _ _)
      | (with_reducible exact ih1 _ _ _)
      | (with_reducible exact ih2 _ _ _)
      | (with_reducible exact LeO.refl _)
      | (with_reducible exact LeO.none _)
      | (with_reducible refine LeO.ite ?_ ?_)
      | (with_reducible refine LeO.bind ?_ (fun _ => ?_))
      | exact ih0 _ _ _
      | exact ih1 _ _ _
      | exact ih2 _ _ _
      | exact LeO.none _
      | refine LeO.ite ?_ ?_
      | refine LeO.bind ?_ (fun _ => ?_)
    · intro y0 y1 y2
      unfold codec_kind.j2
      repeat' first
      | (with_reducible exact ih0 _ _ _)
      | (with_reducible exact ih1 _ _ _)
      | (with_reducible exact ih2 _ _ _)
      | (with_reducible exact LeO.refl _)
      | (with_reducible exact LeO.none _)
      | (with_reducible refine LeO.ite ?_ ?_)
      | (with_reducible refine LeO.bind ?_ (fun _ => ?_))
      | exact ih0 _ _ _
      | exact ih1 _ _ _
      | exact ih2 _ _ _
      | exact LeO.none _
      | refine LeO.ite ?_ ?_
      | refine LeO.bind ?_ (fun _ => ?_)
theorem codec_kind.mono : ∀ a0 a1 k, LeO (codec_kind.f k a0 a1) (codec_kind.f (k + 1) a0 a1) := by
  intro a0 a1 k
  obtain ⟨ih0, ih1, ih2⟩ := codec_kind.mono_l k
  unfold codec_kind.f
  repeat' first
      | (with_reducible exact ih0 _ _ _)
      | (with_reducible exact ih1 _ _ _)
      | (with_reducible exact ih2 _ _ _)
      | (with_reducible exact LeO.refl _)
      | (with_reducible exact LeO.none _)
      | (with_reducible refine LeO.ite ?_ ?_)
      | (with_reducible refine LeO.bind ?_ (fun _ => ?_))
      | exact ih0 _ _ _
      | exact ih1 _ _ _
      | exact ih2 _ _ _
      | exact LeO.none _
      | refine LeO.ite ?_ ?_
      | refine LeO.bind ?_ (fun _ => ?_)
set_option maxHeartbeats 8000000 in
set_option maxRecDepth 100000 in
theorem codec_kind.calls (k : Nat) (a0 : ByteArray) (a1 : Int) (r : Int) (w : World) (hG : Glob w) (h : codec_kind.f k a0 a1 = some r) :
    Calls Tryd.prog 49 #[.string a0, .int .i64 a1] w fun e w' => e = .returned (.int .i64 r) ∧ Drawn0 w w' := by
  have HG := Aside0.mk hG
  clear hG
  have H : (if a1 < 0 then (codec_kind.j0 k a0 a1 true) else (codec_kind.j0 k a0 a1 (decide (a1 ≥ (a0.size : Int))))) = some r := h
  clear h
  have HC3 := Aside0.mk H
  clear H
  go_enter Tryd.func49, Tryd.ntmps49
  go_upto_region 1 with (fail)
  repeat (go_quiet (fail); go_upto_region 1 with (fail))
  go_cut [14] (fun v14 wc => ∃ (kq : Nat) (x14_2 : Bool), v14 = .bool x14_2 ∧ Aside0 (codec_kind.j0 kq a0 a1 x14_2 = some r) ∧ Aside0 (kq ≤ k) ∧ Drawn0 w wc)
  case first =>
    have H := HC3.out
    clear HC3
    by_cases c4 : a1 < 0
    · rw [if_pos c4] at H
      have c4b0 : decide (a1 < 0) = true := decide_eq_true c4
      clear c4
      (first | rw [c4b0] | (simp only [i64_w, i32_w]; rw [c4b0]) | skip)
      have H' := Aside0.mk H
      clear H
      go_wp2
      repeat (go_quiet (fail); try go_wp2)
      go_meet
      case rel => exact ⟨_, (true), (by first | rfl | (simp; done) | (simp [*]; done)), H', ⟨by first | omega | exact Nat.le_refl _⟩, by repeat (first | exact Drawn0.refl _ | apply Drawn0.step)⟩
    · rw [if_neg c4] at H
      have c4b0 : decide (a1 < 0) = false := decide_eq_false c4
      clear c4
      (first | rw [c4b0] | (simp only [i64_w, i32_w]; rw [c4b0]) | skip)
      have H' := Aside0.mk H
      clear H
      go_wp2
      repeat (go_quiet (fail); try go_wp2)
      go_meet
      case rel => exact ⟨_, (decide (a1 ≥ (a0.size : Int))), (by first | rfl | (simp; done) | (simp [*]; done)), H', ⟨by first | omega | exact Nat.le_refl _⟩, by repeat (first | exact Drawn0.refl _ | apply Drawn0.step)⟩
  case rest =>
    clear HC3
    try clear p2
    try clear c4
    try clear c4b0
    obtain ⟨kq, x14_2, rfl, HA, HJ2, ⟨mc2, rfl⟩⟩ := hcut
    cases kq with
    | zero => exact absurd HA.out (by simp [codec_kind.j0])
    | succ kj2 =>
      have H := HA.out
      clear HA
      simp only [codec_kind.j0] at H
      by_cases c5 : x14_2 = true
      · subst c5
        have H1 : (some 0) = some r := by rw [if_pos rfl] at H; exact H
        clear H
        have H := H1
        clear H1
        obtain rfl := Option.some.inj H
        go_wp2
        repeat (go_quiet (fail); try go_wp2)
        go_ret
        exact ⟨by first | rfl | (simp; done) | (simp [*]; done), by repeat (first | exact Drawn0.refl _ | apply Drawn0.step)⟩
      · replace c5 := Bool.eq_false_iff.mpr c5
        subst c5
        have H1 : (if 0 ≤ a1 then (if a1 < (a0.size : Int) then (if (bt a0 a1) = 0 then (some 1) else (if ((bt a0 a1) / 16) > 4 then (some 0) else (if ((bt a0 a1) / 16) = 0 then (codec_kind.j1 kj2 ((bt a0 a1) / 16) (Go.bits .and .u8 (bt a0 a1) 15) (decide ((Go.bits .and .u8 (bt a0 a1) 15) > 2))) else (codec_kind.j1 kj2 ((bt a0 a1) / 16) (Go.bits .and .u8 (bt a0 a1) 15) false)))) else (none)) else (none)) = some r := by rw [if_neg (show ¬ (false = true) by decide)] at H; exact H
        clear H
        have H := H1
        clear H1
        by_cases c6 : 0 ≤ a1
        · rw [if_pos c6] at H
          have c6b0 : decide (0 ≤ a1) = true := decide_eq_true c6
          clear c6
          by_cases c7 : a1 < (a0.size : Int)
          · rw [if_pos c7] at H
            have c7b0 : decide (a1 < (a0.size : Int)) = true := decide_eq_true c7
            clear c7
            by_cases c11 : (bt a0 a1) = 0
            · rw [if_pos c11] at H
              have c11b0 : ((bt a0 a1) == 0) = true := beq_iff_eq.mpr c11
              have c11b1 : ((bt a0 a1) != 0) = false := bne_eq_false_iff_eq.mpr c11
              clear c11
              obtain rfl := Option.some.inj H
              have p8 : 0 ≤ (a1 : Int) := of_decide_eq_true (by first | (with_reducible assumption) | assumption)
              have q8 : a1 < (a0.size : Int) := of_decide_eq_true (by first | (with_reducible assumption) | assumption)
              have hx8 := bt_at a0 a1
              replace p8 := eq_true p8
              replace q8 := eq_true q8
              have p9 : 0 ≤ (a1 : Int) := of_decide_eq_true (by first | (with_reducible assumption) | assumption)
              have q9 : a1 < (a0.size : Int) := of_decide_eq_true (by first | (with_reducible assumption) | assumption)
              have hx9 := bt_at a0 a1
              replace p9 := eq_true p9
              replace q9 := eq_true q9
              have p10 : 0 ≤ (a1 : Int) := of_decide_eq_true (by first | (with_reducible assumption) | assumption)
              have q10 : a1 < (a0.size : Int) := of_decide_eq_true (by first | (with_reducible assumption) | assumption)
              have hx10 := bt_at a0 a1
              replace p10 := eq_true p10
              replace q10 := eq_true q10
              go_wp2
              repeat (go_quiet (fail); try go_wp2)
              go_ret
              exact ⟨by first | rfl | (simp; done) | (simp [*]; done), by repeat (first | exact Drawn0.refl _ | apply Drawn0.step)⟩
            · rw [if_neg c11] at H
              have c11b0 : ((bt a0 a1) == 0) = false := beq_eq_false_iff_ne.mpr c11
              have c11b1 : ((bt a0 a1) != 0) = true := bne_iff_ne.mpr c11
              by_cases c12 : ((bt a0 a1) / 16) > 4
              · rw [if_pos c12] at H
                have c12b0 : decide (4 < ((bt a0 a1) / 16)) = true := decide_eq_true c12
                clear c12
                obtain rfl := Option.some.inj H
                have p8 : 0 ≤ (a1 : Int) := of_decide_eq_true (by first | (with_reducible assumption) | assumption)
                have q8 : a1 < (a0.size : Int) := of_decide_eq_true (by first | (with_reducible assumption) | assumption)
                have hx8 := bt_at a0 a1
                replace p8 := eq_true p8
                replace q8 := eq_true q8
                have p9 : 0 ≤ (a1 : Int) := of_decide_eq_true (by first | (with_reducible assumption) | assumption)
                have q9 : a1 < (a0.size : Int) := of_decide_eq_true (by first | (with_reducible assumption) | assumption)
                have hx9 := bt_at a0 a1
                replace p9 := eq_true p9
                replace q9 := eq_true q9
                have p10 : 0 ≤ (a1 : Int) := of_decide_eq_true (by first | (with_reducible assumption) | assumption)
                have q10 : a1 < (a0.size : Int) := of_decide_eq_true (by first | (with_reducible assumption) | assumption)
                have hx10 := bt_at a0 a1
                replace p10 := eq_true p10
                replace q10 := eq_true q10
                go_wp2
                repeat (go_quiet (fail); try go_wp2)
                go_ret
                exact ⟨by first | rfl | (simp; done) | (simp [*]; done), by repeat (first | exact Drawn0.refl _ | apply Drawn0.step)⟩
              · rw [if_neg c12] at H
                have c12b0 : decide (4 < ((bt a0 a1) / 16)) = false := decide_eq_false c12
                clear c12
                have HC13 := Aside0.mk H
                clear H
                have p8 : 0 ≤ (a1 : Int) := of_decide_eq_true (by first | (with_reducible assumption) | assumption)
                have q8 : a1 < (a0.size : Int) := of_decide_eq_true (by first | (with_reducible assumption) | assumption)
                have hx8 := bt_at a0 a1
                replace p8 := eq_true p8
                replace q8 := eq_true q8
                have p9 : 0 ≤ (a1 : Int) := of_decide_eq_true (by first | (with_reducible assumption) | assumption)
                have q9 : a1 < (a0.size : Int) := of_decide_eq_true (by first | (with_reducible assumption) | assumption)
                have hx9 := bt_at a0 a1
                replace p9 := eq_true p9
                replace q9 := eq_true q9
                have p10 : 0 ≤ (a1 : Int) := of_decide_eq_true (by first | (with_reducible assumption) | assumption)
                have q10 : a1 < (a0.size : Int) := of_decide_eq_true (by first | (with_reducible assumption) | assumption)
                have hx10 := bt_at a0 a1
                replace p10 := eq_true p10
                replace q10 := eq_true q10
                go_upto_region 8 with (fail)
                repeat (go_quiet (fail); go_upto_region 8 with (fail))
                go_cut [31] (fun v31 wc => ∃ (kq : Nat) (x31_12 : Bool), v31 = .bool x31_12 ∧ Aside0 (codec_kind.j1 kq ((bt a0 a1) / 16) (Go.bits .and .u8 (bt a0 a1) 15) x31_12 = some r) ∧ Aside0 (kq ≤ kj2) ∧ Drawn0 w wc)
                case first =>
                  have H := HC13.out
                  clear HC13
                  by_cases c14 : ((bt a0 a1) / 16) = 0
                  · rw [if_pos c14] at H
                    have c14b0 : (((bt a0 a1) / 16) == 0) = true := beq_iff_eq.mpr c14
                    have c14b1 : (((bt a0 a1) / 16) != 0) = false := bne_eq_false_iff_eq.mpr c14
                    clear c14
                    (first | rw [c14b0] | (simp only [i64_w, i32_w]; rw [c14b0]) | skip)
                    have H' := Aside0.mk H
                    clear H
                    go_wp2
                    repeat (go_quiet (fail); try go_wp2)
                    go_meet
                    case rel => exact ⟨_, (decide ((Go.bits .and .u8 (bt a0 a1) 15) > 2)), (by first | rfl | (simp; done) | (simp [*]; done)), H', ⟨by have := HJ2.out; first | omega | exact Nat.le_refl _⟩, by repeat (first | exact Drawn0.refl _ | apply Drawn0.step)⟩
                  · rw [if_neg c14] at H
                    have c14b0 : (((bt a0 a1) / 16) == 0) = false := beq_eq_false_iff_ne.mpr c14
                    have c14b1 : (((bt a0 a1) / 16) != 0) = true := bne_iff_ne.mpr c14
                    (first | rw [c14b0] | (simp only [i64_w, i32_w]; rw [c14b0]) | skip)
                    have H' := Aside0.mk H
                    clear H
                    go_wp2
                    repeat (go_quiet (fail); try go_wp2)
                    go_meet
                    case rel => exact ⟨_, (false), (by first | rfl | (simp; done) | (simp [*]; done)), H', ⟨by have := HJ2.out; first | omega | exact Nat.le_refl _⟩, by repeat (first | exact Drawn0.refl _ | apply Drawn0.step)⟩
                case rest =>
                  clear HC13
                  try clear c1
                  try clear p1
                  try clear q1
                  try clear hx1
                  try clear c2
                  try clear p2
                  try clear c4
                  try clear c4b0
                  try clear c5
                  try clear c6
                  try clear c6b0
                  try clear c7
                  try clear c7b0
                  try clear p8
                  try clear q8
                  try clear hx8
                  try clear p9
                  try clear q9
                  try clear hx9
                  try clear p10
                  try clear q10
                  try clear hx10
                  try clear c11
                  try clear c11b0
                  try clear c11b1
                  try clear c12
                  try clear c12b0
                  try clear c14
                  try clear c14b0
                  try clear c14b1
                  try clear p10
                  try clear p2
                  try clear p8
                  try clear p9
                  try clear q10
                  try clear q8
                  try clear q9
                  obtain ⟨kq, x31_12, rfl, HA, HJ12, ⟨mc12, rfl⟩⟩ := hcut
                  cases kq with
                  | zero => exact absurd HA.out (by simp [codec_kind.j1])
                  | succ kj12 =>
                    have H := HA.out
                    clear HA
                    simp only [codec_kind.j1] at H
                    by_cases c15 : x31_12 = true
                    · subst c15
                      have H1 : (some 0) = some r := by rw [if_pos rfl] at H; exact H
                      clear H
                      have H := H1
                      clear H1
                      obtain rfl := Option.some.inj H
                      go_wp2
                      repeat (go_quiet (fail); try go_wp2)
                      go_ret
                      exact ⟨by first | rfl | (simp; done) | (simp [*]; done), by repeat (first | exact Drawn0.refl _ | apply Drawn0.step)⟩
                    · replace c15 := Bool.eq_false_iff.mpr c15
                      subst c15
                      have H1 : (if ((bt a0 a1) / 16) ≥ 3 then (codec_kind.j2 kj12 ((bt a0 a1) / 16) (Go.bits .and .u8 (bt a0 a1) 15) ((Go.bits .and .u8 (bt a0 a1) 15) != 0)) else (codec_kind.j2 kj12 ((bt a0 a1) / 16) (Go.bits .and .u8 (bt a0 a1) 15) false)) = some r := by rw [if_neg (show ¬ (false = true) by decide)] at H; exact H
                      clear H
                      have H := H1
                      clear H1
                      have HC16 := Aside0.mk H
                      clear H
                      go_upto_region 9 with (fail)
                      repeat (go_quiet (fail); go_upto_region 9 with (fail))
                      go_cut [31] (fun v31 wc => ∃ (kq : Nat) (x31_15 : Bool), v31 = .bool x31_15 ∧ Aside0 (codec_kind.j2 kq ((bt a0 a1) / 16) (Go.bits .and .u8 (bt a0 a1) 15) x31_15 = some r) ∧ Aside0 (kq ≤ kj12) ∧ Drawn0 w wc)
                      case first =>
                        have H := HC16.out
                        clear HC16
                        by_cases c17 : ((bt a0 a1) / 16) ≥ 3
                        · rw [if_pos c17] at H
                          have c17b0 : decide (3 ≤ ((bt a0 a1) / 16)) = true := decide_eq_true c17
                          clear c17
                          (first | rw [c17b0] | (simp only [i64_w, i32_w]; rw [c17b0]) | skip)
                          have H' := Aside0.mk H
                          clear H
                          go_wp2
                          repeat (go_quiet (fail); try go_wp2)
                          go_meet
                          case rel => exact ⟨_, (((Go.bits .and .u8 (bt a0 a1) 15) != 0)), (by first | rfl | (simp; done) | (simp [*]; done)), H', ⟨by have := HJ2.out; have := HJ12.out; first | omega | exact Nat.le_refl _⟩, by repeat (first | exact Drawn0.refl _ | apply Drawn0.step)⟩
                        · rw [if_neg c17] at H
                          have c17b0 : decide (3 ≤ ((bt a0 a1) / 16)) = false := decide_eq_false c17
                          clear c17
                          (first | rw [c17b0] | (simp only [i64_w, i32_w]; rw [c17b0]) | skip)
                          have H' := Aside0.mk H
                          clear H
                          go_wp2
                          repeat (go_quiet (fail); try go_wp2)
                          go_meet
                          case rel => exact ⟨_, (false), (by first | rfl | (simp; done) | (simp [*]; done)), H', ⟨by have := HJ2.out; have := HJ12.out; first | omega | exact Nat.le_refl _⟩, by repeat (first | exact Drawn0.refl _ | apply Drawn0.step)⟩
                      case rest =>
                        clear HC16
                        try clear c1
                        try clear p1
                        try clear q1
                        try clear hx1
                        try clear c2
                        try clear p2
                        try clear c4
                        try clear c4b0
                        try clear c5
                        try clear c6
                        try clear c6b0
                        try clear c7
                        try clear c7b0
                        try clear p8
                        try clear q8
                        try clear hx8
                        try clear p9
                        try clear q9
                        try clear hx9
                        try clear p10
                        try clear q10
                        try clear hx10
                        try clear c11
                        try clear c11b0
                        try clear c11b1
                        try clear c12
                        try clear c12b0
                        try clear c14
                        try clear c14b0
                        try clear c14b1
                        try clear c15
                        try clear c17
                        try clear c17b0
                        try clear p1
                        try clear p10
                        try clear p2
                        try clear p8
                        try clear p9
                        try clear q1
                        try clear q10
                        try clear q8
                        try clear q9
                        obtain ⟨kq, x31_15, rfl, HA, HJ15, ⟨mc15, rfl⟩⟩ := hcut
                        cases kq with
                        | zero => exact absurd HA.out (by simp [codec_kind.j2])
                        | succ kj15 =>
                          have H := HA.out
                          clear HA
                          simp only [codec_kind.j2] at H
                          by_cases c18 : x31_15 = true
                          · subst c18
                            have H1 : (some 0) = some r := by rw [if_pos rfl] at H; exact H
                            clear H
                            have H := H1
                            clear H1
                            obtain rfl := Option.some.inj H
                            go_wp2
                            repeat (go_quiet (fail); try go_wp2)
                            go_ret
                            exact ⟨by first | rfl | (simp; done) | (simp [*]; done), by repeat (first | exact Drawn0.refl _ | apply Drawn0.step)⟩
                          · replace c18 := Bool.eq_false_iff.mpr c18
                            subst c18
                            have H1 : (if ((bt a0 a1) / 16) = 1 then (if (Go.bits .and .u8 (bt a0 a1) 15) < 1 then (some 0) else (if (Go.bits .and .u8 (bt a0 a1) 15) > 8 then (some 0) else (if 0 ≤ ((bt a0 a1) / 16) then (if ((bt a0 a1) / 16) < 5 then (some (rd gtab ((bt a0 a1) / 16))) else (none)) else (none)))) else (if ((bt a0 a1) / 16) = 2 then (if (Go.bits .and .u8 (bt a0 a1) 15) < 1 then (some 0) else (if (Go.bits .and .u8 (bt a0 a1) 15) > 8 then (some 0) else (if 0 ≤ ((bt a0 a1) / 16) then (if ((bt a0 a1) / 16) < 5 then (some (rd gtab ((bt a0 a1) / 16))) else (none)) else (none)))) else (if 0 ≤ ((bt a0 a1) / 16) then (if ((bt a0 a1) / 16) < 5 then (some (rd gtab ((bt a0 a1) / 16))) else (none)) else (none)))) = some r := by rw [if_neg (show ¬ (false = true) by decide)] at H; exact H
                            clear H
                            have H := H1
                            clear H1
                            by_cases c19 : ((bt a0 a1) / 16) = 1
                            · rw [if_pos c19] at H
                              have c19b0 : (((bt a0 a1) / 16) == 1) = true := beq_iff_eq.mpr c19
                              have c19b1 : (((bt a0 a1) / 16) != 1) = false := bne_eq_false_iff_eq.mpr c19
                              clear c19
                              by_cases c20 : (Go.bits .and .u8 (bt a0 a1) 15) < 1
                              · rw [if_pos c20] at H
                                have c20b0 : decide ((Go.bits .and .u8 (bt a0 a1) 15) < 1) = true := decide_eq_true c20
                                clear c20
                                obtain rfl := Option.some.inj H
                                go_wp2
                                repeat (go_quiet (fail); try go_wp2)
                                go_ret
                                exact ⟨by first | rfl | (simp; done) | (simp [*]; done), by repeat (first | exact Drawn0.refl _ | apply Drawn0.step)⟩
                              · rw [if_neg c20] at H
                                have c20b0 : decide ((Go.bits .and .u8 (bt a0 a1) 15) < 1) = false := decide_eq_false c20
                                clear c20
                                by_cases c21 : (Go.bits .and .u8 (bt a0 a1) 15) > 8
                                · rw [if_pos c21] at H
                                  have c21b0 : decide (8 < (Go.bits .and .u8 (bt a0 a1) 15)) = true := decide_eq_true c21
                                  clear c21
                                  obtain rfl := Option.some.inj H
                                  go_wp2
                                  repeat (go_quiet (fail); try go_wp2)
                                  go_ret
                                  exact ⟨by first | rfl | (simp; done) | (simp [*]; done), by repeat (first | exact Drawn0.refl _ | apply Drawn0.step)⟩
                                · rw [if_neg c21] at H
                                  have c21b0 : decide (8 < (Go.bits .and .u8 (bt a0 a1) 15)) = false := decide_eq_false c21
                                  clear c21
                                  obtain ⟨ji22, hji22⟩ : ∃ j_ : Int, ((bt a0 a1) / 16) = j_ := ⟨_, rfl⟩
                                  replace H : (if 0 ≤ (ji22) then (if (ji22) < 5 then (some (rd gtab (ji22))) else (none)) else (none)) = some r := by first | (rw [hji22] at H; exact H) | (simp only [hji22] at H ⊢; exact H)
                                  (try rw [hji22] at c12b0)
                                  (try rw [hji22] at c19b0)
                                  (try rw [hji22] at c19b1)
                                  by_cases c23 : 0 ≤ (ji22)
                                  · rw [if_pos c23] at H
                                    have c23b0 : decide (0 ≤ (ji22)) = true := decide_eq_true c23
                                    clear c23
                                    by_cases c24 : (ji22) < 5
                                    · rw [if_pos c24] at H
                                      have c24b0 : decide ((ji22) < 5) = true := decide_eq_true c24
                                      clear c24
                                      have hgc25 := gt_at HG.out (i := (ji22)) (by first | omega | (apply of_decide_eq_true; assumption)) (by first | omega | (apply of_decide_eq_true; assumption))
                                      have hgb26 : 0 ≤ (ji22) ∧ (ji22) < 5 := ⟨by first | omega | (apply of_decide_eq_true; assumption), by first | omega | (apply of_decide_eq_true; assumption)⟩
                                      obtain rfl := Option.some.inj H
                                      go_wp2
                                      repeat (go_quiet (fail); try go_wp2)
                                      go_ret
                                      exact ⟨by first | rfl | (simp; done) | (simp only [← hji22] <;> (first | rfl | simp)) | (simp [*]; done), by repeat (first | exact Drawn0.refl _ | apply Drawn0.step)⟩
                                    · rw [if_neg c24] at H
                                      exact absurd H (by simp)
                                  · rw [if_neg c23] at H
                                    exact absurd H (by simp)
                            · rw [if_neg c19] at H
                              have c19b0 : (((bt a0 a1) / 16) == 1) = false := beq_eq_false_iff_ne.mpr c19
                              have c19b1 : (((bt a0 a1) / 16) != 1) = true := bne_iff_ne.mpr c19
                              by_cases c27 : ((bt a0 a1) / 16) = 2
                              · rw [if_pos c27] at H
                                have c27b0 : (((bt a0 a1) / 16) == 2) = true := beq_iff_eq.mpr c27
                                have c27b1 : (((bt a0 a1) / 16) != 2) = false := bne_eq_false_iff_eq.mpr c27
                                clear c27
                                by_cases c28 : (Go.bits .and .u8 (bt a0 a1) 15) < 1
                                · rw [if_pos c28] at H
                                  have c28b0 : decide ((Go.bits .and .u8 (bt a0 a1) 15) < 1) = true := decide_eq_true c28
                                  clear c28
                                  obtain rfl := Option.some.inj H
                                  go_wp2
                                  repeat (go_quiet (fail); try go_wp2)
                                  go_ret
                                  exact ⟨by first | rfl | (simp; done) | (simp [*]; done), by repeat (first | exact Drawn0.refl _ | apply Drawn0.step)⟩
                                · rw [if_neg c28] at H
                                  have c28b0 : decide ((Go.bits .and .u8 (bt a0 a1) 15) < 1) = false := decide_eq_false c28
                                  clear c28
                                  by_cases c29 : (Go.bits .and .u8 (bt a0 a1) 15) > 8
                                  · rw [if_pos c29] at H
                                    have c29b0 : decide (8 < (Go.bits .and .u8 (bt a0 a1) 15)) = true := decide_eq_true c29
                                    clear c29
                                    obtain rfl := Option.some.inj H
                                    go_wp2
                                    repeat (go_quiet (fail); try go_wp2)
                                    go_ret
                                    exact ⟨by first | rfl | (simp; done) | (simp [*]; done), by repeat (first | exact Drawn0.refl _ | apply Drawn0.step)⟩
                                  · rw [if_neg c29] at H
                                    have c29b0 : decide (8 < (Go.bits .and .u8 (bt a0 a1) 15)) = false := decide_eq_false c29
                                    clear c29
                                    obtain ⟨ji30, hji30⟩ : ∃ j_ : Int, ((bt a0 a1) / 16) = j_ := ⟨_, rfl⟩
                                    replace H : (if 0 ≤ (ji30) then (if (ji30) < 5 then (some (rd gtab (ji30))) else (none)) else (none)) = some r := by first | (rw [hji30] at H; exact H) | (simp only [hji30] at H ⊢; exact H)
                                    (try rw [hji30] at c12b0)
                                    (try rw [hji30] at c19b0)
                                    (try rw [hji30] at c19b1)
                                    (try rw [hji30] at c27b0)
                                    (try rw [hji30] at c27b1)
                                    by_cases c31 : 0 ≤ (ji30)
                                    · rw [if_pos c31] at H
                                      have c31b0 : decide (0 ≤ (ji30)) = true := decide_eq_true c31
                                      clear c31
                                      by_cases c32 : (ji30) < 5
                                      · rw [if_pos c32] at H
                                        have c32b0 : decide ((ji30) < 5) = true := decide_eq_true c32
                                        clear c32
                                        have hgc33 := gt_at HG.out (i := (ji30)) (by first | omega | (apply of_decide_eq_true; assumption)) (by first | omega | (apply of_decide_eq_true; assumption))
                                        have hgb34 : 0 ≤ (ji30) ∧ (ji30) < 5 := ⟨by first | omega | (apply of_decide_eq_true; assumption), by first | omega | (apply of_decide_eq_true; assumption)⟩
                                        obtain rfl := Option.some.inj H
                                        go_wp2
                                        repeat (go_quiet (fail); try go_wp2)
                                        go_ret
                                        exact ⟨by first | rfl | (simp; done) | (simp only [← hji30] <;> (first | rfl | simp)) | (simp [*]; done), by repeat (first | exact Drawn0.refl _ | apply Drawn0.step)⟩
                                      · rw [if_neg c32] at H
                                        exact absurd H (by simp)
                                    · rw [if_neg c31] at H
                                      exact absurd H (by simp)
                              · rw [if_neg c27] at H
                                have c27b0 : (((bt a0 a1) / 16) == 2) = false := beq_eq_false_iff_ne.mpr c27
                                have c27b1 : (((bt a0 a1) / 16) != 2) = true := bne_iff_ne.mpr c27
                                obtain ⟨ji35, hji35⟩ : ∃ j_ : Int, ((bt a0 a1) / 16) = j_ := ⟨_, rfl⟩
                                replace H : (if 0 ≤ (ji35) then (if (ji35) < 5 then (some (rd gtab (ji35))) else (none)) else (none)) = some r := by first | (rw [hji35] at H; exact H) | (simp only [hji35] at H ⊢; exact H)
                                (try rw [hji35] at c12b0)
                                (try rw [hji35] at c19b0)
                                (try rw [hji35] at c19b1)
                                (try rw [hji35] at c27b0)
                                (try rw [hji35] at c27b1)
                                by_cases c36 : 0 ≤ (ji35)
                                · rw [if_pos c36] at H
                                  have c36b0 : decide (0 ≤ (ji35)) = true := decide_eq_true c36
                                  clear c36
                                  by_cases c37 : (ji35) < 5
                                  · rw [if_pos c37] at H
                                    have c37b0 : decide ((ji35) < 5) = true := decide_eq_true c37
                                    clear c37
                                    have hgc38 := gt_at HG.out (i := (ji35)) (by first | omega | (apply of_decide_eq_true; assumption)) (by first | omega | (apply of_decide_eq_true; assumption))
                                    have hgb39 : 0 ≤ (ji35) ∧ (ji35) < 5 := ⟨by first | omega | (apply of_decide_eq_true; assumption), by first | omega | (apply of_decide_eq_true; assumption)⟩
                                    obtain rfl := Option.some.inj H
                                    go_wp2
                                    repeat (go_quiet (fail); try go_wp2)
                                    go_ret
                                    exact ⟨by first | rfl | (simp; done) | (simp only [← hji35] <;> (first | rfl | simp)) | (simp [*]; done), by repeat (first | exact Drawn0.refl _ | apply Drawn0.step)⟩
                                  · rw [if_neg c37] at H
                                    exact absurd H (by simp)
                                · rw [if_neg c36] at H
                                  exact absurd H (by simp)
          · rw [if_neg c7] at H
            exact absurd H (by simp)
        · rw [if_neg c6] at H
          exact absurd H (by simp)
end Go.Proofs.YtndeikikeeeigaaDoor.Q
end
section
namespace Go.Proofs.YtndeikikeeeigaaDoor.Q
open Go.RowKit Go.Proofs.YtndeikikeeeigaaDoorW.PrintWords Go.Proofs.YtndeikikeeeigaaDoorW.PrintLast Go.Proofs.YtndeikikeeeigaaDoorW.PrintMore
attribute [local go_sem] max2_int min2_int max_two min_two max_three min_three max_four min_four
set_option linter.unusedVariables false
set_option linter.unusedSimpArgs false
end Go.Proofs.YtndeikikeeeigaaDoor.Q
end
section
namespace Go.Proofs.YtndeikikeeeigaaDoor.Q
open Go.RowKit Go.Proofs.YtndeikikeeeigaaDoorW.PrintWords Go.Proofs.YtndeikikeeeigaaDoorW.PrintLast Go.Proofs.YtndeikikeeeigaaDoorW.PrintMore
attribute [local go_sem] max2_int min2_int max_two min_two max_three min_three max_four min_four
set_option linter.unusedVariables false
set_option linter.unusedSimpArgs false
def plenumref02_Unsigned.l0 : Nat → Int → List Int → Option (ByteArray)
  | 0, _, _ => none
  | k + 1, x0, x3 => if x0 > 255 then ((some (([(IntKind.u64.wrap (Int.tdiv x0 256)) % 256] : List Int) : List Int)).bind fun y189 => (if y189.length + x3.length < 140737488355328 then (plenumref02_Unsigned.l0 k (IntKind.u64.wrap (Int.tdiv x0 256)) (y189 ++ x3)) else (none))) else ((some (([(wrap64 (16 + (x3.length : Int))) % 256] : List Int) : List Int)).bind fun y195 => (if y195.length + x3.length < 140737488355328 then (some (strOfNums (y195 ++ x3))) else (none)))
def plenumref02_Unsigned.f (k : Nat) (a0 : Int) : Option (ByteArray) := plenumref02_Unsigned.l0 k a0 (([(a0) % 256] : List Int))
set_option maxHeartbeats 8000000 in
set_option maxRecDepth 100000 in
theorem plenumref02_Unsigned.calls (k : Nat) (a0 : Int) (r : ByteArray) (w : World) (hG : Glob w) (h : plenumref02_Unsigned.f k a0 = some r) :
    Calls Tryd.prog 44 #[.int .u64 a0] w fun e w' => e = .returned (.string r) ∧ Below w.heap.size w w' := by
  have HG := Aside0.mk hG
  clear hG
  have HB := Aside0.mk (Below.refl w.heap.size w)
  have H : (plenumref02_Unsigned.l0 k a0 (([(a0) % 256] : List Int))) = some r := h
  clear h
  obtain ⟨y186, hy186⟩ : ∃ y_ : List Int, y_ = (([(a0) % 256] : List Int)) := ⟨_, rfl⟩
  replace H : (plenumref02_Unsigned.l0 k a0 y186) = some r := by first | (rw [hy186]; with_reducible exact H) | (have H2_ := (Option.bind_some _ _).symm.trans H; rw [hy186]; with_reducible exact H2_) | (have H2_ := (Option.bind_some _ _).symm.trans H; with_reducible exact H2_) | with_reducible exact H | (rw [hy186]; exact H) | exact H
  have Ny186 := Aside0.mk hy186
  clear hy186
  have H' := Aside0.mk H
  clear H
  go_enter Tryd.func44, Tryd.ntmps44
  go_wp2_with (first | ((with_reducible refine gate_dst (N := 6) rfl ?_); refine Kd.R_lit (Kd.int .u8) _ 5 ?hg (N := 6) ?hd (xs := ([(a0) % 256] : List Int)) (inner := [.int .u8 ((a0) % 256)]) (ok := fun _ => True) (okp := fun _ => True) ?hr ?hp (fun _ hk => hk) trivial (Below.refl _ _) (Nat.le_refl _) (by simp) ?_; (case hd => rfl); (case hg => rfl); (case hr => first | (go_simp; done) | (go_simp; rfl)); (case hp => exact (Reps.one (show Kd.M (Kd.int .u8) _ _ _ ((a0) % 256) [.int .u8 ((a0) % 256)] from rfl) (Reps.none _ _))); intro v187 w2 ho3 hb hg_ hnew_; clear hg_ hnew_; (first | rw [← Ny186.out] at ho3 | (simp only [Int.reduceToNat] at ho3; rw [← Ny186.out] at ho3)); have n0_ := Aside0.mk (Kd.R_lower ho3 (below_size (by repeat (first | (with_reducible first | exact HB.out | apply below_alloc | apply pw_below_drewN | apply below_drew1) | exact HB.out)))); have n1_ := Aside0.mk (below_step (by repeat (first | (with_reducible first | exact HB.out | apply below_alloc | apply pw_below_drewN | apply below_drew1) | exact HB.out)) hb); clear HB; have HO188 := n0_; have HB := n1_; clear n0_ n1_; clear hb ho3))
  go_loopg [0, 3] k (fun kq v0 v3 w' => ∃ (x0_1 : Int) (x3_1 : List Int), v0 = .int .u64 x0_1 ∧ Aside0 (plenumref02_Unsigned.l0 kq x0_1 x3_1 = some r) ∧ Aside0 (kq ≤ k) ∧ Aside0 (Kd.R (Kd.int .u8) 5 w' w.heap.size (fun _ => True) v3 x3_1) ∧ Aside0 (Below w.heap.size w w'))
  case atStart => exact ⟨(a0), (y186), (by first | rfl | (simp; done) | (simp [*]; done)), H', ⟨Nat.le_refl _⟩, ⟨by (with_reducible repeat (first | apply Kd.R_alloc | apply Kd.R_drewN | apply Kd.R_drew)); exact HO188.out⟩, ⟨by repeat (first | (with_reducible first | exact HB.out | apply below_alloc | apply pw_below_drewN | apply below_drew1) | exact HB.out)⟩⟩
  case round =>
    clear H'
    try clear p2
    obtain ⟨x0_1, x3_1, rfl, HA, HK1, HO_3, HB⟩ := hrel
    cases gk with
    | zero => exact absurd HA.out (by simp [plenumref02_Unsigned.l0])
    | succ k1 =>
      have H := HA.out
      clear HA
      simp only [plenumref02_Unsigned.l0] at H
      by_cases c4 : x0_1 > 255
      · rw [if_pos c4] at H
        have c4b0 : decide (255 < x0_1) = true := decide_eq_true c4
        clear c4
        obtain ⟨y189, hy189⟩ : ∃ y_ : List Int, y_ = (([(IntKind.u64.wrap (Int.tdiv x0_1 256)) % 256] : List Int)) := ⟨_, rfl⟩
        replace H : (if y189.length + x3_1.length < 140737488355328 then (plenumref02_Unsigned.l0 k1 (IntKind.u64.wrap (Int.tdiv x0_1 256)) (y189 ++ x3_1)) else (none)) = some r := by first | (rw [hy189]; with_reducible exact H) | (have H2_ := (Option.bind_some _ _).symm.trans H; rw [hy189]; with_reducible exact H2_) | (have H2_ := (Option.bind_some _ _).symm.trans H; with_reducible exact H2_) | with_reducible exact H | (rw [hy189]; exact H) | exact H
        have Ny189 := Aside0.mk hy189
        clear hy189
        by_cases c5 : y189.length + x3_1.length < 140737488355328
        · rw [if_pos c5] at H
          have LMc5 := Aside0.mk c5
          clear c5
          obtain ⟨y192, hy192⟩ : ∃ y_ : List Int, y_ = (y189 ++ x3_1) := ⟨_, rfl⟩
          replace H : (plenumref02_Unsigned.l0 k1 (IntKind.u64.wrap (Int.tdiv x0_1 256)) y192) = some r := by first | (rw [hy192]; with_reducible exact H) | (have H2_ := (Option.bind_some _ _).symm.trans H; rw [hy192]; with_reducible exact H2_) | (have H2_ := (Option.bind_some _ _).symm.trans H; with_reducible exact H2_) | with_reducible exact H | (rw [hy192]; exact H) | exact H
          have Ny192 := Aside0.mk hy192
          clear hy192
          have H' := Aside0.mk H
          clear H
          go_wp2_with (first | ((with_reducible refine gate_dst (N := 13) rfl ?_); refine Kd.R_lit (Kd.int .u8) _ 5 ?hg (N := 13) ?hd (xs := ([(IntKind.u64.wrap (Int.tdiv x0_1 256)) % 256] : List Int)) (inner := [.int .u8 ((IntKind.u64.wrap (Int.tdiv x0_1 256)) % 256)]) (ok := fun _ => True) (okp := fun _ => True) ?hr ?hp (fun _ hk => hk) trivial (Below.refl _ _) (Nat.le_refl _) (by simp) ?_; (case hd => rfl); (case hg => rfl); (case hr => first | (go_simp; done) | (go_simp; rfl)); (case hp => exact (Reps.one (show Kd.M (Kd.int .u8) _ _ _ ((IntKind.u64.wrap (Int.tdiv x0_1 256)) % 256) [.int .u8 ((IntKind.u64.wrap (Int.tdiv x0_1 256)) % 256)] from rfl) (Reps.none _ _))); intro v190 w6 ho7 hb hg_ hnew_; clear hg_ hnew_; (first | rw [← Ny189.out] at ho7 | (simp only [Int.reduceToNat] at ho7; rw [← Ny189.out] at ho7)); have n0_ := Aside0.mk (Kd.R_elder' (by (with_reducible repeat (first | apply Kd.R_alloc | apply Kd.R_drewN | apply Kd.R_drew)); exact HO_3.out) (Kd.R_base ho7) hb); have n1_ := Aside0.mk (Kd.R_lower (Kd.R_new' ho7 (Kd.R_lt (by (with_reducible repeat (first | apply Kd.R_alloc | apply Kd.R_drewN | apply Kd.R_drew)); exact HO_3.out))) (below_size (by repeat (first | (with_reducible first | exact HB.out | apply below_alloc | apply pw_below_drewN | apply below_drew1) | exact HB.out)))); have n2_ := Aside0.mk (below_step (by repeat (first | (with_reducible first | exact HB.out | apply below_alloc | apply pw_below_drewN | apply below_drew1) | exact HB.out)) hb); clear HO_3; clear HB; have HO_3 := n0_; have HO191 := n1_; have HB := n2_; clear n0_ n1_ n2_; clear hb ho7; obtain ⟨Ao9, co9, eo9⟩ := Kd.R_slice HO_3.out; subst eo9) | ((with_reducible refine gate_builtin (b := .append) (xs := #[.tmp 13, .tmp 14]) rfl ?_); at_builtin; refine Kd.R_append_rows (Kd.int .u8) (w0 := w) w.heap.size rfl (.tmp 13) (.tmp 14) 28 5 (.int .u8 0) 1 rfl Tryd.underlying28 info5 rfl (by decide) (by omega) v190 y189 x3_1 _ _ _ (fun k_ => some k_ ≠ (.slice Ao9 x3_1.length co9 : Value).ownBlock) (fun _ => False) rfl rfl ?aO ?aR (fun _ _ h => h) (fun _ h => h.elim) ?aF ?aB ?aS ?aL ?_; (case aR => repeat (first | exact (Kd.R_reads' HO_3.out).2.2 | (with_reducible refine Kd.C_alloc ?_ _) | (with_reducible refine Kd.C_drewN ?_ _) | (with_reducible refine Kd.C_drew ?_))); (case aB => exact (by repeat (first | (with_reducible first | exact HB.out | apply below_alloc | apply pw_below_drewN | apply below_drew1) | exact HB.out))); (case aF => exact (fun k_ hk => Kd.fresh' (Kd.R_lt (by (with_reducible repeat (first | apply Kd.R_alloc | apply Kd.R_drewN | apply Kd.R_drew)); exact HO_3.out)) k_ hk)); (case aO => exact (by (with_reducible repeat (first | apply Kd.R_alloc | apply Kd.R_drewN | apply Kd.R_drew)); exact Kd.R_mono HO191.out (fun _ hk => hk.2))); (case aS => exact (below_size (by repeat (first | (with_reducible first | exact HB.out | apply below_alloc | apply pw_below_drewN | apply below_drew1) | exact HB.out)))); (case aL => have := LMc5.out; first | omega | (simp only [ByteArray.size, List.size_toArray, List.length_cons, List.length_nil] at this ⊢; omega)); intro v193 w8 ho hb hg hat; rw [← Ny192.out] at ho; have n0_ := Aside0.mk (Kd.R_after (ok := (fun _ => True)) (by (with_reducible repeat (first | apply Kd.R_alloc | apply Kd.R_drewN | apply Kd.R_drew)); exact HO_3.out) hg hat); have n1_ := Aside0.mk (hb); have n2_ := Aside0.mk (ho); clear HO_3; clear HB; clear HO191; have HO_3 := n0_; have HB := n1_; have HO194 := n2_; clear n0_ n1_ n2_; clear ho hb hg hat))
          go_roundg k1
          case measure => have := HK1.out; omega
          case rel => exact ⟨(IntKind.u64.wrap (Int.tdiv x0_1 256)), (y192), (by first | rfl | (simp; done) | (simp [*]; done)), H', ⟨by have := HK1.out; omega⟩, ⟨by (with_reducible repeat (first | apply Kd.R_alloc | apply Kd.R_drewN | apply Kd.R_drew)); exact Kd.R_mono HO194.out (fun _ hk => trivial)⟩, ⟨by repeat (first | (with_reducible first | exact HB.out | apply below_alloc | apply pw_below_drewN | apply below_drew1) | exact HB.out)⟩⟩
        · rw [if_neg c5] at H
          exact absurd H (by simp)
      · rw [if_neg c4] at H
        have c4b0 : decide (255 < x0_1) = false := decide_eq_false c4
        clear c4
        obtain ⟨y195, hy195⟩ : ∃ y_ : List Int, y_ = (([(wrap64 (16 + (x3_1.length : Int))) % 256] : List Int)) := ⟨_, rfl⟩
        replace H : (if y195.length + x3_1.length < 140737488355328 then (some (strOfNums (y195 ++ x3_1))) else (none)) = some r := by first | (rw [hy195]; with_reducible exact H) | (have H2_ := (Option.bind_some _ _).symm.trans H; rw [hy195]; with_reducible exact H2_) | (have H2_ := (Option.bind_some _ _).symm.trans H; with_reducible exact H2_) | with_reducible exact H | (rw [hy195]; exact H) | exact H
        have Ny195 := Aside0.mk hy195
        clear hy195
        by_cases c10 : y195.length + x3_1.length < 140737488355328
        · rw [if_pos c10] at H
          have LMc10 := Aside0.mk c10
          clear c10
          obtain ⟨y198, hy198⟩ : ∃ y_ : List Int, y_ = (y195 ++ x3_1) := ⟨_, rfl⟩
          replace H : (some (strOfNums y198)) = some r := by first | (rw [hy198]; with_reducible exact H) | (have H2_ := (Option.bind_some _ _).symm.trans H; rw [hy198]; with_reducible exact H2_) | (have H2_ := (Option.bind_some _ _).symm.trans H; with_reducible exact H2_) | with_reducible exact H | (rw [hy198]; exact H) | exact H
          have Ny198 := Aside0.mk hy198
          clear hy198
          obtain rfl := Option.some.inj H
          obtain ⟨Ao11, co11, eo11⟩ := Kd.R_slice HO_3.out
          subst eo11
          go_wp2_with (first | ((with_reducible refine gate_dst (N := 20) rfl ?_); refine Kd.R_lit (Kd.int .u8) _ 5 ?hg (N := 20) ?hd (xs := ([(wrap64 (16 + (x3_1.length : Int))) % 256] : List Int)) (inner := [.int .u8 ((wrap64 (16 + (x3_1.length : Int))) % 256)]) (ok := fun _ => True) (okp := fun _ => True) ?hr ?hp (fun _ hk => hk) trivial (Below.refl _ _) (Nat.le_refl _) (by simp) ?_; (case hd => rfl); (case hg => rfl); (case hr => first | (go_simp; done) | (go_simp; rfl)); (case hp => exact (Reps.one (show Kd.M (Kd.int .u8) _ _ _ ((wrap64 (16 + (x3_1.length : Int))) % 256) [.int .u8 ((wrap64 (16 + (x3_1.length : Int))) % 256)] from rfl) (Reps.none _ _))); intro v196 w12 ho13 hb hg_ hnew_; clear hg_ hnew_; (first | rw [← Ny195.out] at ho13 | (simp only [Int.reduceToNat] at ho13; rw [← Ny195.out] at ho13)); have n0_ := Aside0.mk (Kd.R_elder' (by (with_reducible repeat (first | apply Kd.R_alloc | apply Kd.R_drewN | apply Kd.R_drew)); exact HO_3.out) (Kd.R_base ho13) hb); have n1_ := Aside0.mk (Kd.R_lower (Kd.R_new' ho13 (Kd.R_lt (by (with_reducible repeat (first | apply Kd.R_alloc | apply Kd.R_drewN | apply Kd.R_drew)); exact HO_3.out))) (below_size (by repeat (first | (with_reducible first | exact HB.out | apply below_alloc | apply pw_below_drewN | apply below_drew1) | exact HB.out)))); have n2_ := Aside0.mk (below_step (by repeat (first | (with_reducible first | exact HB.out | apply below_alloc | apply pw_below_drewN | apply below_drew1) | exact HB.out)) hb); clear HO_3; clear HB; have HO_3 := n0_; have HO197 := n1_; have HB := n2_; clear n0_ n1_ n2_; clear hb ho13) | ((with_reducible refine gate_builtin (b := .append) (xs := #[.tmp 20, .tmp 21]) rfl ?_); at_builtin; refine Kd.R_append_rows (Kd.int .u8) (w0 := w) w.heap.size rfl (.tmp 20) (.tmp 21) 28 5 (.int .u8 0) 1 rfl Tryd.underlying28 info5 rfl (by decide) (by omega) v196 y195 x3_1 _ _ _ (fun k_ => some k_ ≠ (.slice Ao11 x3_1.length co11 : Value).ownBlock) (fun _ => False) rfl rfl ?aO ?aR (fun _ _ h => h) (fun _ h => h.elim) ?aF ?aB ?aS ?aL ?_; (case aR => repeat (first | exact (Kd.R_reads' HO_3.out).2.2 | (with_reducible refine Kd.C_alloc ?_ _) | (with_reducible refine Kd.C_drewN ?_ _) | (with_reducible refine Kd.C_drew ?_))); (case aB => exact (by repeat (first | (with_reducible first | exact HB.out | apply below_alloc | apply pw_below_drewN | apply below_drew1) | exact HB.out))); (case aF => exact (fun k_ hk => Kd.fresh' (Kd.R_lt (by (with_reducible repeat (first | apply Kd.R_alloc | apply Kd.R_drewN | apply Kd.R_drew)); exact HO_3.out)) k_ hk)); (case aO => exact (by (with_reducible repeat (first | apply Kd.R_alloc | apply Kd.R_drewN | apply Kd.R_drew)); exact Kd.R_mono HO197.out (fun _ hk => hk.2))); (case aS => exact (below_size (by repeat (first | (with_reducible first | exact HB.out | apply below_alloc | apply pw_below_drewN | apply below_drew1) | exact HB.out)))); (case aL => have := LMc10.out; first | omega | (simp only [ByteArray.size, List.size_toArray, List.length_cons, List.length_nil] at this ⊢; omega)); intro v199 w14 ho hb hg hat; rw [← Ny198.out] at ho; have n0_ := Aside0.mk (Kd.R_after (ok := (fun _ => True)) (by (with_reducible repeat (first | apply Kd.R_alloc | apply Kd.R_drewN | apply Kd.R_drew)); exact HO_3.out) hg hat); have n1_ := Aside0.mk (hb); have n2_ := Aside0.mk (ho); clear HO_3; clear HB; clear HO197; have HO_3 := n0_; have HB := n1_; have HO200 := n2_; clear n0_ n1_ n2_; clear ho hb hg hat; have hcv15 := own_string (P := Tryd.prog) Tryd.underlying28 Tryd.underlying5 Tryd.underlying9 (Kd.own_of_R HO200.out)))
          go_ret
          exact ⟨by first | rfl | (simp [errW_none, errW_some] <;> rfl) | (simp [*, errW_none, errW_some] <;> rfl), by repeat (first | (with_reducible first | exact HB.out | apply below_alloc | apply pw_below_drewN | apply below_drew1) | exact HB.out)⟩
        · rw [if_neg c10] at H
          exact absurd H (by simp)
end Go.Proofs.YtndeikikeeeigaaDoor.Q
end
section
namespace Go.Proofs.YtndeikikeeeigaaDoor.Q
open Go.RowKit Go.Proofs.YtndeikikeeeigaaDoorW.PrintWords Go.Proofs.YtndeikikeeeigaaDoorW.PrintLast Go.Proofs.YtndeikikeeeigaaDoorW.PrintMore
attribute [local go_sem] max2_int min2_int max_two min_two max_three min_three max_four min_four
set_option linter.unusedVariables false
set_option linter.unusedSimpArgs false
end Go.Proofs.YtndeikikeeeigaaDoor.Q
end
section
namespace Go.Proofs.YtndeikikeeeigaaDoor.Q
open Go.RowKit Go.Proofs.YtndeikikeeeigaaDoorW.PrintWords Go.Proofs.YtndeikikeeeigaaDoorW.PrintLast Go.Proofs.YtndeikikeeeigaaDoorW.PrintMore
attribute [local go_sem] max2_int min2_int max_two min_two max_three min_three max_four min_four
set_option linter.unusedVariables false
set_option linter.unusedSimpArgs false
end Go.Proofs.YtndeikikeeeigaaDoor.Q
end
section
namespace Go.Proofs.YtndeikikeeeigaaDoor.Q
open Go.RowKit Go.Proofs.YtndeikikeeeigaaDoorW.PrintWords Go.Proofs.YtndeikikeeeigaaDoorW.PrintLast Go.Proofs.YtndeikikeeeigaaDoorW.PrintMore
attribute [local go_sem] max2_int min2_int max_two min_two max_three min_three max_four min_four
set_option linter.unusedVariables false
set_option linter.unusedSimpArgs false
def plenumref02_Signed.l0 : Nat → Int → List Int → Option (ByteArray)
  | 0, _, _ => none
  | k + 1, x0, x3 => if x0 < (-128) then ((some (([(x0 / 256) % 256] : List Int) : List Int)).bind fun y207 => (if y207.length + x3.length < 140737488355328 then (plenumref02_Signed.l0 k (x0 / 256) (y207 ++ x3)) else (none))) else (if x0 > 127 then ((some (([(x0 / 256) % 256] : List Int) : List Int)).bind fun y213 => (if y213.length + x3.length < 140737488355328 then (plenumref02_Signed.l0 k (x0 / 256) (y213 ++ x3)) else (none))) else ((some (([(wrap64 (32 + (x3.length : Int))) % 256] : List Int) : List Int)).bind fun y219 => (if y219.length + x3.length < 140737488355328 then (some (strOfNums (y219 ++ x3))) else (none))))
def plenumref02_Signed.f (k : Nat) (a0 : Int) : Option (ByteArray) := plenumref02_Signed.l0 k a0 (([(a0) % 256] : List Int))
set_option maxHeartbeats 8000000 in
set_option maxRecDepth 100000 in
theorem plenumref02_Signed.calls (k : Nat) (a0 : Int) (r : ByteArray) (w : World) (hG : Glob w) (h : plenumref02_Signed.f k a0 = some r) :
    Calls Tryd.prog 46 #[.int .i64 a0] w fun e w' => e = .returned (.string r) ∧ Below w.heap.size w w' := by
  have HG := Aside0.mk hG
  clear hG
  have HB := Aside0.mk (Below.refl w.heap.size w)
  have H : (plenumref02_Signed.l0 k a0 (([(a0) % 256] : List Int))) = some r := h
  clear h
  obtain ⟨y204, hy204⟩ : ∃ y_ : List Int, y_ = (([(a0) % 256] : List Int)) := ⟨_, rfl⟩
  replace H : (plenumref02_Signed.l0 k a0 y204) = some r := by first | (rw [hy204]; with_reducible exact H) | (have H2_ := (Option.bind_some _ _).symm.trans H; rw [hy204]; with_reducible exact H2_) | (have H2_ := (Option.bind_some _ _).symm.trans H; with_reducible exact H2_) | with_reducible exact H | (rw [hy204]; exact H) | exact H
  have Ny204 := Aside0.mk hy204
  clear hy204
  have H' := Aside0.mk H
  clear H
  go_enter Tryd.func46, Tryd.ntmps46
  go_wp2_with (first | ((with_reducible refine gate_dst (N := 6) rfl ?_); refine Kd.R_lit (Kd.int .u8) _ 5 ?hg (N := 6) ?hd (xs := ([(a0) % 256] : List Int)) (inner := [.int .u8 ((a0) % 256)]) (ok := fun _ => True) (okp := fun _ => True) ?hr ?hp (fun _ hk => hk) trivial (Below.refl _ _) (Nat.le_refl _) (by simp) ?_; (case hd => rfl); (case hg => rfl); (case hr => first | (go_simp; done) | (go_simp; rfl)); (case hp => exact (Reps.one (show Kd.M (Kd.int .u8) _ _ _ ((a0) % 256) [.int .u8 ((a0) % 256)] from rfl) (Reps.none _ _))); intro v205 w2 ho3 hb hg_ hnew_; clear hg_ hnew_; (first | rw [← Ny204.out] at ho3 | (simp only [Int.reduceToNat] at ho3; rw [← Ny204.out] at ho3)); have n0_ := Aside0.mk (Kd.R_lower ho3 (below_size (by repeat (first | (with_reducible first | exact HB.out | apply below_alloc | apply pw_below_drewN | apply below_drew1) | exact HB.out)))); have n1_ := Aside0.mk (below_step (by repeat (first | (with_reducible first | exact HB.out | apply below_alloc | apply pw_below_drewN | apply below_drew1) | exact HB.out)) hb); clear HB; have HO206 := n0_; have HB := n1_; clear n0_ n1_; clear hb ho3))
  go_loopg [0, 3] k (fun kq v0 v3 w' => ∃ (x0_1 : Int) (x3_1 : List Int), v0 = .int .i64 x0_1 ∧ Aside0 (plenumref02_Signed.l0 kq x0_1 x3_1 = some r) ∧ Aside0 (kq ≤ k) ∧ Aside0 (Kd.R (Kd.int .u8) 5 w' w.heap.size (fun _ => True) v3 x3_1) ∧ Aside0 (Below w.heap.size w w'))
  case atStart => exact ⟨(a0), (y204), (by first | rfl | (simp; done) | (simp [*]; done)), H', ⟨Nat.le_refl _⟩, ⟨by (with_reducible repeat (first | apply Kd.R_alloc | apply Kd.R_drewN | apply Kd.R_drew)); exact HO206.out⟩, ⟨by repeat (first | (with_reducible first | exact HB.out | apply below_alloc | apply pw_below_drewN | apply below_drew1) | exact HB.out)⟩⟩
  case round =>
    clear H'
    try clear p2
    obtain ⟨x0_1, x3_1, rfl, HA, HK1, HO_3, HB⟩ := hrel
    cases gk with
    | zero => exact absurd HA.out (by simp [plenumref02_Signed.l0])
    | succ k1 =>
      have H := HA.out
      clear HA
      simp only [plenumref02_Signed.l0] at H
      by_cases c4 : x0_1 < (-128)
      · rw [if_pos c4] at H
        have c4b0 : decide (x0_1 < (-128)) = true := decide_eq_true c4
        clear c4
        obtain ⟨y207, hy207⟩ : ∃ y_ : List Int, y_ = (([(x0_1 / 256) % 256] : List Int)) := ⟨_, rfl⟩
        replace H : (if y207.length + x3_1.length < 140737488355328 then (plenumref02_Signed.l0 k1 (x0_1 / 256) (y207 ++ x3_1)) else (none)) = some r := by first | (rw [hy207]; with_reducible exact H) | (have H2_ := (Option.bind_some _ _).symm.trans H; rw [hy207]; with_reducible exact H2_) | (have H2_ := (Option.bind_some _ _).symm.trans H; with_reducible exact H2_) | with_reducible exact H | (rw [hy207]; exact H) | exact H
        have Ny207 := Aside0.mk hy207
        clear hy207
        by_cases c5 : y207.length + x3_1.length < 140737488355328
        · rw [if_pos c5] at H
          have LMc5 := Aside0.mk c5
          clear c5
          obtain ⟨y210, hy210⟩ : ∃ y_ : List Int, y_ = (y207 ++ x3_1) := ⟨_, rfl⟩
          replace H : (plenumref02_Signed.l0 k1 (x0_1 / 256) y210) = some r := by first | (rw [hy210]; with_reducible exact H) | (have H2_ := (Option.bind_some _ _).symm.trans H; rw [hy210]; with_reducible exact H2_) | (have H2_ := (Option.bind_some _ _).symm.trans H; with_reducible exact H2_) | with_reducible exact H | (rw [hy210]; exact H) | exact H
          have Ny210 := Aside0.mk hy210
          clear hy210
          have H' := Aside0.mk H
          clear H
          go_wp2_with (first | ((with_reducible refine gate_dst (N := 17) rfl ?_); refine Kd.R_lit (Kd.int .u8) _ 5 ?hg (N := 17) ?hd (xs := ([(x0_1 / 256) % 256] : List Int)) (inner := [.int .u8 ((x0_1 / 256) % 256)]) (ok := fun _ => True) (okp := fun _ => True) ?hr ?hp (fun _ hk => hk) trivial (Below.refl _ _) (Nat.le_refl _) (by simp) ?_; (case hd => rfl); (case hg => rfl); (case hr => first | (go_simp; done) | (go_simp; rfl)); (case hp => exact (Reps.one (show Kd.M (Kd.int .u8) _ _ _ ((x0_1 / 256) % 256) [.int .u8 ((x0_1 / 256) % 256)] from rfl) (Reps.none _ _))); intro v208 w6 ho7 hb hg_ hnew_; clear hg_ hnew_; (first | rw [← Ny207.out] at ho7 | (simp only [Int.reduceToNat] at ho7; rw [← Ny207.out] at ho7)); have n0_ := Aside0.mk (Kd.R_elder' (by (with_reducible repeat (first | apply Kd.R_alloc | apply Kd.R_drewN | apply Kd.R_drew)); exact HO_3.out) (Kd.R_base ho7) hb); have n1_ := Aside0.mk (Kd.R_lower (Kd.R_new' ho7 (Kd.R_lt (by (with_reducible repeat (first | apply Kd.R_alloc | apply Kd.R_drewN | apply Kd.R_drew)); exact HO_3.out))) (below_size (by repeat (first | (with_reducible first | exact HB.out | apply below_alloc | apply pw_below_drewN | apply below_drew1) | exact HB.out)))); have n2_ := Aside0.mk (below_step (by repeat (first | (with_reducible first | exact HB.out | apply below_alloc | apply pw_below_drewN | apply below_drew1) | exact HB.out)) hb); clear HO_3; clear HB; have HO_3 := n0_; have HO209 := n1_; have HB := n2_; clear n0_ n1_ n2_; clear hb ho7; obtain ⟨Ao9, co9, eo9⟩ := Kd.R_slice HO_3.out; subst eo9) | ((with_reducible refine gate_builtin (b := .append) (xs := #[.tmp 17, .tmp 18]) rfl ?_); at_builtin; refine Kd.R_append_rows (Kd.int .u8) (w0 := w) w.heap.size rfl (.tmp 17) (.tmp 18) 28 5 (.int .u8 0) 1 rfl Tryd.underlying28 info5 rfl (by decide) (by omega) v208 y207 x3_1 _ _ _ (fun k_ => some k_ ≠ (.slice Ao9 x3_1.length co9 : Value).ownBlock) (fun _ => False) rfl rfl ?aO ?aR (fun _ _ h => h) (fun _ h => h.elim) ?aF ?aB ?aS ?aL ?_; (case aR => repeat (first | exact (Kd.R_reads' HO_3.out).2.2 | (with_reducible refine Kd.C_alloc ?_ _) | (with_reducible refine Kd.C_drewN ?_ _) | (with_reducible refine Kd.C_drew ?_))); (case aB => exact (by repeat (first | (with_reducible first | exact HB.out | apply below_alloc | apply pw_below_drewN | apply below_drew1) | exact HB.out))); (case aF => exact (fun k_ hk => Kd.fresh' (Kd.R_lt (by (with_reducible repeat (first | apply Kd.R_alloc | apply Kd.R_drewN | apply Kd.R_drew)); exact HO_3.out)) k_ hk)); (case aO => exact (by (with_reducible repeat (first | apply Kd.R_alloc | apply Kd.R_drewN | apply Kd.R_drew)); exact Kd.R_mono HO209.out (fun _ hk => hk.2))); (case aS => exact (below_size (by repeat (first | (with_reducible first | exact HB.out | apply below_alloc | apply pw_below_drewN | apply below_drew1) | exact HB.out)))); (case aL => have := LMc5.out; first | omega | (simp only [ByteArray.size, List.size_toArray, List.length_cons, List.length_nil] at this ⊢; omega)); intro v211 w8 ho hb hg hat; rw [← Ny210.out] at ho; have n0_ := Aside0.mk (Kd.R_after (ok := (fun _ => True)) (by (with_reducible repeat (first | apply Kd.R_alloc | apply Kd.R_drewN | apply Kd.R_drew)); exact HO_3.out) hg hat); have n1_ := Aside0.mk (hb); have n2_ := Aside0.mk (ho); clear HO_3; clear HB; clear HO209; have HO_3 := n0_; have HB := n1_; have HO212 := n2_; clear n0_ n1_ n2_; clear ho hb hg hat))
          go_roundg k1
          case measure => have := HK1.out; omega
          case rel => exact ⟨(x0_1 / 256), (y210), (by first | rfl | (simp; done) | (simp [*]; done)), H', ⟨by have := HK1.out; omega⟩, ⟨by (with_reducible repeat (first | apply Kd.R_alloc | apply Kd.R_drewN | apply Kd.R_drew)); exact Kd.R_mono HO212.out (fun _ hk => trivial)⟩, ⟨by repeat (first | (with_reducible first | exact HB.out | apply below_alloc | apply pw_below_drewN | apply below_drew1) | exact HB.out)⟩⟩
        · rw [if_neg c5] at H
          exact absurd H (by simp)
      · rw [if_neg c4] at H
        have c4b0 : decide (x0_1 < (-128)) = false := decide_eq_false c4
        clear c4
        by_cases c10 : x0_1 > 127
        · rw [if_pos c10] at H
          have c10b0 : decide (127 < x0_1) = true := decide_eq_true c10
          clear c10
          obtain ⟨y213, hy213⟩ : ∃ y_ : List Int, y_ = (([(x0_1 / 256) % 256] : List Int)) := ⟨_, rfl⟩
          replace H : (if y213.length + x3_1.length < 140737488355328 then (plenumref02_Signed.l0 k1 (x0_1 / 256) (y213 ++ x3_1)) else (none)) = some r := by first | (rw [hy213]; with_reducible exact H) | (have H2_ := (Option.bind_some _ _).symm.trans H; rw [hy213]; with_reducible exact H2_) | (have H2_ := (Option.bind_some _ _).symm.trans H; with_reducible exact H2_) | with_reducible exact H | (rw [hy213]; exact H) | exact H
          have Ny213 := Aside0.mk hy213
          clear hy213
          by_cases c11 : y213.length + x3_1.length < 140737488355328
          · rw [if_pos c11] at H
            have LMc11 := Aside0.mk c11
            clear c11
            obtain ⟨y216, hy216⟩ : ∃ y_ : List Int, y_ = (y213 ++ x3_1) := ⟨_, rfl⟩
            replace H : (plenumref02_Signed.l0 k1 (x0_1 / 256) y216) = some r := by first | (rw [hy216]; with_reducible exact H) | (have H2_ := (Option.bind_some _ _).symm.trans H; rw [hy216]; with_reducible exact H2_) | (have H2_ := (Option.bind_some _ _).symm.trans H; with_reducible exact H2_) | with_reducible exact H | (rw [hy216]; exact H) | exact H
            have Ny216 := Aside0.mk hy216
            clear hy216
            have H' := Aside0.mk H
            clear H
            go_wp2_with (first | ((with_reducible refine gate_dst (N := 17) rfl ?_); refine Kd.R_lit (Kd.int .u8) _ 5 ?hg (N := 17) ?hd (xs := ([(x0_1 / 256) % 256] : List Int)) (inner := [.int .u8 ((x0_1 / 256) % 256)]) (ok := fun _ => True) (okp := fun _ => True) ?hr ?hp (fun _ hk => hk) trivial (Below.refl _ _) (Nat.le_refl _) (by simp) ?_; (case hd => rfl); (case hg => rfl); (case hr => first | (go_simp; done) | (go_simp; rfl)); (case hp => exact (Reps.one (show Kd.M (Kd.int .u8) _ _ _ ((x0_1 / 256) % 256) [.int .u8 ((x0_1 / 256) % 256)] from rfl) (Reps.none _ _))); intro v214 w12 ho13 hb hg_ hnew_; clear hg_ hnew_; (first | rw [← Ny213.out] at ho13 | (simp only [Int.reduceToNat] at ho13; rw [← Ny213.out] at ho13)); have n0_ := Aside0.mk (Kd.R_elder' (by (with_reducible repeat (first | apply Kd.R_alloc | apply Kd.R_drewN | apply Kd.R_drew)); exact HO_3.out) (Kd.R_base ho13) hb); have n1_ := Aside0.mk (Kd.R_lower (Kd.R_new' ho13 (Kd.R_lt (by (with_reducible repeat (first | apply Kd.R_alloc | apply Kd.R_drewN | apply Kd.R_drew)); exact HO_3.out))) (below_size (by repeat (first | (with_reducible first | exact HB.out | apply below_alloc | apply pw_below_drewN | apply below_drew1) | exact HB.out)))); have n2_ := Aside0.mk (below_step (by repeat (first | (with_reducible first | exact HB.out | apply below_alloc | apply pw_below_drewN | apply below_drew1) | exact HB.out)) hb); clear HO_3; clear HB; have HO_3 := n0_; have HO215 := n1_; have HB := n2_; clear n0_ n1_ n2_; clear hb ho13; obtain ⟨Ao15, co15, eo15⟩ := Kd.R_slice HO_3.out; subst eo15) | ((with_reducible refine gate_builtin (b := .append) (xs := #[.tmp 17, .tmp 18]) rfl ?_); at_builtin; refine Kd.R_append_rows (Kd.int .u8) (w0 := w) w.heap.size rfl (.tmp 17) (.tmp 18) 28 5 (.int .u8 0) 1 rfl Tryd.underlying28 info5 rfl (by decide) (by omega) v214 y213 x3_1 _ _ _ (fun k_ => some k_ ≠ (.slice Ao15 x3_1.length co15 : Value).ownBlock) (fun _ => False) rfl rfl ?aO ?aR (fun _ _ h => h) (fun _ h => h.elim) ?aF ?aB ?aS ?aL ?_; (case aR => repeat (first | exact (Kd.R_reads' HO_3.out).2.2 | (with_reducible refine Kd.C_alloc ?_ _) | (with_reducible refine Kd.C_drewN ?_ _) | (with_reducible refine Kd.C_drew ?_))); (case aB => exact (by repeat (first | (with_reducible first | exact HB.out | apply below_alloc | apply pw_below_drewN | apply below_drew1) | exact HB.out))); (case aF => exact (fun k_ hk => Kd.fresh' (Kd.R_lt (by (with_reducible repeat (first | apply Kd.R_alloc | apply Kd.R_drewN | apply Kd.R_drew)); exact HO_3.out)) k_ hk)); (case aO => exact (by (with_reducible repeat (first | apply Kd.R_alloc | apply Kd.R_drewN | apply Kd.R_drew)); exact Kd.R_mono HO215.out (fun _ hk => hk.2))); (case aS => exact (below_size (by repeat (first | (with_reducible first | exact HB.out | apply below_alloc | apply pw_below_drewN | apply below_drew1) | exact HB.out)))); (case aL => have := LMc11.out; first | omega | (simp only [ByteArray.size, List.size_toArray, List.length_cons, List.length_nil] at this ⊢; omega)); intro v217 w14 ho hb hg hat; rw [← Ny216.out] at ho; have n0_ := Aside0.mk (Kd.R_after (ok := (fun _ => True)) (by (with_reducible repeat (first | apply Kd.R_alloc | apply Kd.R_drewN | apply Kd.R_drew)); exact HO_3.out) hg hat); have n1_ := Aside0.mk (hb); have n2_ := Aside0.mk (ho); clear HO_3; clear HB; clear HO215; have HO_3 := n0_; have HB := n1_; have HO218 := n2_; clear n0_ n1_ n2_; clear ho hb hg hat))
            go_roundg k1
            case measure => have := HK1.out; omega
            case rel => exact ⟨(x0_1 / 256), (y216), (by first | rfl | (simp; done) | (simp [*]; done)), H', ⟨by have := HK1.out; omega⟩, ⟨by (with_reducible repeat (first | apply Kd.R_alloc | apply Kd.R_drewN | apply Kd.R_drew)); exact Kd.R_mono HO218.out (fun _ hk => trivial)⟩, ⟨by repeat (first | (with_reducible first | exact HB.out | apply below_alloc | apply pw_below_drewN | apply below_drew1) | exact HB.out)⟩⟩
          · rw [if_neg c11] at H
            exact absurd H (by simp)
        · rw [if_neg c10] at H
          have c10b0 : decide (127 < x0_1) = false := decide_eq_false c10
          clear c10
          obtain ⟨y219, hy219⟩ : ∃ y_ : List Int, y_ = (([(wrap64 (32 + (x3_1.length : Int))) % 256] : List Int)) := ⟨_, rfl⟩
          replace H : (if y219.length + x3_1.length < 140737488355328 then (some (strOfNums (y219 ++ x3_1))) else (none)) = some r := by first | (rw [hy219]; with_reducible exact H) | (have H2_ := (Option.bind_some _ _).symm.trans H; rw [hy219]; with_reducible exact H2_) | (have H2_ := (Option.bind_some _ _).symm.trans H; with_reducible exact H2_) | with_reducible exact H | (rw [hy219]; exact H) | exact H
          have Ny219 := Aside0.mk hy219
          clear hy219
          by_cases c16 : y219.length + x3_1.length < 140737488355328
          · rw [if_pos c16] at H
            have LMc16 := Aside0.mk c16
            clear c16
            obtain ⟨y222, hy222⟩ : ∃ y_ : List Int, y_ = (y219 ++ x3_1) := ⟨_, rfl⟩
            replace H : (some (strOfNums y222)) = some r := by first | (rw [hy222]; with_reducible exact H) | (have H2_ := (Option.bind_some _ _).symm.trans H; rw [hy222]; with_reducible exact H2_) | (have H2_ := (Option.bind_some _ _).symm.trans H; with_reducible exact H2_) | with_reducible exact H | (rw [hy222]; exact H) | exact H
            have Ny222 := Aside0.mk hy222
            clear hy222
            obtain rfl := Option.some.inj H
            obtain ⟨Ao17, co17, eo17⟩ := Kd.R_slice HO_3.out
            subst eo17
            go_wp2_with (first | ((with_reducible refine gate_dst (N := 24) rfl ?_); refine Kd.R_lit (Kd.int .u8) _ 5 ?hg (N := 24) ?hd (xs := ([(wrap64 (32 + (x3_1.length : Int))) % 256] : List Int)) (inner := [.int .u8 ((wrap64 (32 + (x3_1.length : Int))) % 256)]) (ok := fun _ => True) (okp := fun _ => True) ?hr ?hp (fun _ hk => hk) trivial (Below.refl _ _) (Nat.le_refl _) (by simp) ?_; (case hd => rfl); (case hg => rfl); (case hr => first | (go_simp; done) | (go_simp; rfl)); (case hp => exact (Reps.one (show Kd.M (Kd.int .u8) _ _ _ ((wrap64 (32 + (x3_1.length : Int))) % 256) [.int .u8 ((wrap64 (32 + (x3_1.length : Int))) % 256)] from rfl) (Reps.none _ _))); intro v220 w18 ho19 hb hg_ hnew_; clear hg_ hnew_; (first | rw [← Ny219.out] at ho19 | (simp only [Int.reduceToNat] at ho19; rw [← Ny219.out] at ho19)); have n0_ := Aside0.mk (Kd.R_elder' (by (with_reducible repeat (first | apply Kd.R_alloc | apply Kd.R_drewN | apply Kd.R_drew)); exact HO_3.out) (Kd.R_base ho19) hb); have n1_ := Aside0.mk (Kd.R_lower (Kd.R_new' ho19 (Kd.R_lt (by (with_reducible repeat (first | apply Kd.R_alloc | apply Kd.R_drewN | apply Kd.R_drew)); exact HO_3.out))) (below_size (by repeat (first | (with_reducible first | exact HB.out | apply below_alloc | apply pw_below_drewN | apply below_drew1) | exact HB.out)))); have n2_ := Aside0.mk (below_step (by repeat (first | (with_reducible first | exact HB.out | apply below_alloc | apply pw_below_drewN | apply below_drew1) | exact HB.out)) hb); clear HO_3; clear HB; have HO_3 := n0_; have HO221 := n1_; have HB := n2_; clear n0_ n1_ n2_; clear hb ho19) | ((with_reducible refine gate_builtin (b := .append) (xs := #[.tmp 24, .tmp 25]) rfl ?_); at_builtin; refine Kd.R_append_rows (Kd.int .u8) (w0 := w) w.heap.size rfl (.tmp 24) (.tmp 25) 28 5 (.int .u8 0) 1 rfl Tryd.underlying28 info5 rfl (by decide) (by omega) v220 y219 x3_1 _ _ _ (fun k_ => some k_ ≠ (.slice Ao17 x3_1.length co17 : Value).ownBlock) (fun _ => False) rfl rfl ?aO ?aR (fun _ _ h => h) (fun _ h => h.elim) ?aF ?aB ?aS ?aL ?_; (case aR => repeat (first | exact (Kd.R_reads' HO_3.out).2.2 | (with_reducible refine Kd.C_alloc ?_ _) | (with_reducible refine Kd.C_drewN ?_ _) | (with_reducible refine Kd.C_drew ?_))); (case aB => exact (by repeat (first | (with_reducible first | exact HB.out | apply below_alloc | apply pw_below_drewN | apply below_drew1) | exact HB.out))); (case aF => exact (fun k_ hk => Kd.fresh' (Kd.R_lt (by (with_reducible repeat (first | apply Kd.R_alloc | apply Kd.R_drewN | apply Kd.R_drew)); exact HO_3.out)) k_ hk)); (case aO => exact (by (with_reducible repeat (first | apply Kd.R_alloc | apply Kd.R_drewN | apply Kd.R_drew)); exact Kd.R_mono HO221.out (fun _ hk => hk.2))); (case aS => exact (below_size (by repeat (first | (with_reducible first | exact HB.out | apply below_alloc | apply pw_below_drewN | apply below_drew1) | exact HB.out)))); (case aL => have := LMc16.out; first | omega | (simp only [ByteArray.size, List.size_toArray, List.length_cons, List.length_nil] at this ⊢; omega)); intro v223 w20 ho hb hg hat; rw [← Ny222.out] at ho; have n0_ := Aside0.mk (Kd.R_after (ok := (fun _ => True)) (by (with_reducible repeat (first | apply Kd.R_alloc | apply Kd.R_drewN | apply Kd.R_drew)); exact HO_3.out) hg hat); have n1_ := Aside0.mk (hb); have n2_ := Aside0.mk (ho); clear HO_3; clear HB; clear HO221; have HO_3 := n0_; have HB := n1_; have HO224 := n2_; clear n0_ n1_ n2_; clear ho hb hg hat; have hcv21 := own_string (P := Tryd.prog) Tryd.underlying28 Tryd.underlying5 Tryd.underlying9 (Kd.own_of_R HO224.out)))
            go_ret
            exact ⟨by first | rfl | (simp [errW_none, errW_some] <;> rfl) | (simp [*, errW_none, errW_some] <;> rfl), by repeat (first | (with_reducible first | exact HB.out | apply below_alloc | apply pw_below_drewN | apply below_drew1) | exact HB.out)⟩
          · rw [if_neg c16] at H
            exact absurd H (by simp)
end Go.Proofs.YtndeikikeeeigaaDoor.Q
end
section
namespace Go.Proofs.YtndeikikeeeigaaDoor.Q
open Go.RowKit Go.Proofs.YtndeikikeeeigaaDoorW.PrintWords Go.Proofs.YtndeikikeeeigaaDoorW.PrintLast Go.Proofs.YtndeikikeeeigaaDoorW.PrintMore
attribute [local go_sem] max2_int min2_int max_two min_two max_three min_three max_four min_four
set_option linter.unusedVariables false
set_option linter.unusedSimpArgs false
end Go.Proofs.YtndeikikeeeigaaDoor.Q
end
section
namespace Go.Proofs.YtndeikikeeeigaaDoor.Q
open Go.RowKit Go.Proofs.YtndeikikeeeigaaDoorW.PrintWords Go.Proofs.YtndeikikeeeigaaDoorW.PrintLast Go.Proofs.YtndeikikeeeigaaDoorW.PrintMore
attribute [local go_sem] max2_int min2_int max_two min_two max_three min_three max_four min_four
set_option linter.unusedVariables false
set_option linter.unusedSimpArgs false
def codec_raw.l0 : Nat → ByteArray → Int → Int → Int → Int → Int → Int → Option (Int × Int × Bool)
  | 0, _, _, _, _, _, _, _ => none
  | k + 1, x0, x1, x2, x9, x10, x31, x32 => if x32 < x31 then (if 0 ≤ (wrap64 ((wrap64 (x1 + 1)) + x32)) then (if (wrap64 ((wrap64 (x1 + 1)) + x32)) < (x0.size : Int) then (codec_raw.l0 k x0 x1 x2 x9 (Go.bits .or .u64 (IntKind.u64.wrap (x10 * 256)) (IntKind.u64.wrap (bt x0 (wrap64 ((wrap64 (x1 + 1)) + x32))))) x31 (wrap64 (x32 + 1))) else (none)) else (none)) else (if x2 = 3 then ((codec_width.f k x10).bind fun t105 => (some (x10, wrap64 ((wrap64 (x1 + 1)) + x9), (t105 == x9)))) else (if 0 ≤ (wrap64 (64 - (wrap64 (8 * x9)))) then ((codec_spread.f k (shr .i64 (wrap64 (shl .u64 x10 (wrap64 (64 - (wrap64 (8 * x9)))))) (wrap64 (64 - (wrap64 (8 * x9)))))).bind fun t106 => (some (IntKind.u64.wrap (shr .i64 (wrap64 (shl .u64 x10 (wrap64 (64 - (wrap64 (8 * x9)))))) (wrap64 (64 - (wrap64 (8 * x9))))), wrap64 ((wrap64 (x1 + 1)) + x9), (t106 == x9)))) else (none)))
def codec_raw.f (k : Nat) (a0 : ByteArray) (a1 : Int) (a2 : Int) : Option (Int × Int × Bool) := (codec_kind.f k a0 a1).bind fun t104 => (if t104 = a2 then (if 0 ≤ a1 then (if a1 < (a0.size : Int) then (if (wrap64 ((wrap64 (a1 + 1)) + (wrap64 (Go.bits .and .u8 (bt a0 a1) 15)))) > (a0.size : Int) then (some (0, 0, false)) else (codec_raw.l0 k a0 a1 a2 (wrap64 (Go.bits .and .u8 (bt a0 a1) 15)) 0 (wrap64 (Go.bits .and .u8 (bt a0 a1) 15)) 0)) else (none)) else (none)) else (some (0, 0, false)))
theorem codec_raw.mono_l : ∀ k, (∀ y0 y1 y2 y3 y4 y5 y6, LeO (codec_raw.l0 k y0 y1 y2 y3 y4 y5 y6) (codec_raw.l0 (k + 1) y0 y1 y2 y3 y4 y5 y6))
  | 0 => fun _ _ _ _ _ _ _ r h => by simp [codec_raw.l0] at h
  | k + 1 => by
    have ih0 := codec_raw.mono_l k
    · intro y0 y1 y2 y3 y4 y5 y6
      unfold codec_raw.l0
      repeat' first
      | (with_reducible exact ih0 _ _ _ _ _ _ _)
      | (with_reducible exact codec_kind.mono _ _ _)
      | (with_reducible exact codec_spread.mono _ _)
      | (with_reducible exact codec_width.mono _ _)
      | (with_reducible exact LeO.refl _)
      | (with_reducible exact LeO.none _)
      | (with_reducible refine LeO.ite ?_ ?_)
      | (with_reducible refine LeO.bind ?_ (fun _ => ?_))
      | exact ih0 _ _ _ _ _ _ _
      | exact codec_kind.mono _ _ _
      | exact codec_spread.mono _ _
      | exact codec_width.mono _ _
      | exact LeO.none _
      | refine LeO.ite ?_ ?_
      | refine LeO.bind ?_ (fun _ => ?_)
theorem codec_raw.mono : ∀ a0 a1 a2 k, LeO (codec_raw.f k a0 a1 a2) (codec_raw.f (k + 1) a0 a1 a2) := by
  intro a0 a1 a2 k
  have ih0 := codec_raw.mono_l k
  unfold codec_raw.f
  repeat' first
      | (with_reducible exact ih0 _ _ _ _ _ _ _)
      | (with_reducible exact codec_kind.mono _ _ _)
      | (with_reducible exact codec_spread.mono _ _)
      | (with_reducible exact codec_width.mono _ _)
      | (with_reducible exact LeO.refl _)
      | (with_reducible exact LeO.none _)
      | (with_reducible refine LeO.ite ?_ ?_)
      | (with_reducible refine LeO.bind ?_ (fun _ => ?_))
      | exact ih0 _ _ _ _ _ _ _
      | exact codec_kind.mono _ _ _
      | exact codec_spread.mono _ _
      | exact codec_width.mono _ _
      | exact LeO.none _
      | refine LeO.ite ?_ ?_
      | refine LeO.bind ?_ (fun _ => ?_)
set_option maxHeartbeats 8000000 in
set_option maxRecDepth 100000 in
theorem codec_raw.calls (k : Nat) (a0 : ByteArray) (a1 : Int) (a2 : Int) (r1 : Int) (r2 : Int) (r3 : Bool) (w : World) (hG : Glob w) (h : codec_raw.f k a0 a1 a2 = some (r1, r2, r3)) :
    Calls Tryd.prog 52 #[.string a0, .int .i64 a1, .int .i64 a2] w fun e w' => e = .returned (.tuple #[.int .u64 r1, .int .i64 r2, .bool r3]) ∧ Below w.heap.size w w' := by
  have HG := Aside0.mk hG
  clear hG
  have HB := Aside0.mk (Below.refl w.heap.size w)
  have H : ((codec_kind.f k a0 a1).bind fun t104 => (if t104 = a2 then (if 0 ≤ a1 then (if a1 < (a0.size : Int) then (if (wrap64 ((wrap64 (a1 + 1)) + (wrap64 (Go.bits .and .u8 (bt a0 a1) 15)))) > (a0.size : Int) then (some (0, 0, false)) else (codec_raw.l0 k a0 a1 a2 (wrap64 (Go.bits .and .u8 (bt a0 a1) 15)) 0 (wrap64 (Go.bits .and .u8 (bt a0 a1) 15)) 0)) else (none)) else (none)) else (some (0, 0, false)))) = some (r1, r2, r3) := h
  clear h
  replace H := Option.bind_eq_some_iff.mp H
  obtain ⟨t104, A40, H⟩ := H
  replace H : (if t104 = a2 then (if 0 ≤ a1 then (if a1 < (a0.size : Int) then (if (wrap64 ((wrap64 (a1 + 1)) + (wrap64 (Go.bits .and .u8 (bt a0 a1) 15)))) > (a0.size : Int) then (some (0, 0, false)) else (codec_raw.l0 k a0 a1 a2 (wrap64 (Go.bits .and .u8 (bt a0 a1) 15)) 0 (wrap64 (Go.bits .and .u8 (bt a0 a1) 15)) 0)) else (none)) else (none)) else (some (0, 0, false))) = some (r1, r2, r3) := H
  have A4 := Aside0.mk A40
  clear A40
  by_cases c5 : t104 = a2
  · rw [if_pos c5] at H
    have c5b0 : (t104 == a2) = true := beq_iff_eq.mpr c5
    have c5b1 : (t104 != a2) = false := bne_eq_false_iff_eq.mpr c5
    clear c5
    by_cases c6 : 0 ≤ a1
    · rw [if_pos c6] at H
      have c6b0 : decide (0 ≤ a1) = true := decide_eq_true c6
      clear c6
      by_cases c7 : a1 < (a0.size : Int)
      · rw [if_pos c7] at H
        have c7b0 : decide (a1 < (a0.size : Int)) = true := decide_eq_true c7
        clear c7
        by_cases c9 : (wrap64 ((wrap64 (a1 + 1)) + (wrap64 (Go.bits .and .u8 (bt a0 a1) 15)))) > (a0.size : Int)
        · rw [if_pos c9] at H
          have c9b0 : decide ((a0.size : Int) < (wrap64 ((wrap64 (a1 + 1)) + (wrap64 (Go.bits .and .u8 (bt a0 a1) 15))))) = true := decide_eq_true c9
          clear c9
          simp only [Option.some.injEq, Prod.mk.injEq] at H
          obtain ⟨rfl, rfl, rfl⟩ := H
          go_enter Tryd.func52, Tryd.ntmps52
          go_wp2_with (first | ((with_reducible refine gate_callee (f := 49) rfl ?_); refine goesL_ (some 16) rfl rfl Tryd.func49 (by kernel_rfl) rfl #[.string a0, .int .i64 a1] rfl (by (try simp only [List.map_toArray, List.map_cons, List.map_nil]); first | done | rfl | (simp only [List.length_drop, List.length_take]; rfl)) ?_; (with_reducible refine (codec_kind.calls k a0 a1 t104 _ ?side99  A4.out).mono ?_); (case side99 => first | exact HG.out | exact Glob.below HG.out (by repeat (first | (with_reducible first | exact HB.out | apply below_alloc | apply pw_below_drewN | apply below_drew1) | exact HB.out))); rintro e w' ⟨rfl, ⟨nd, rfl⟩⟩; refine ⟨_, rfl, ?_⟩; have p8 : 0 ≤ (a1 : Int) := of_decide_eq_true (by first | (with_reducible assumption) | assumption); have q8 : a1 < (a0.size : Int) := of_decide_eq_true (by first | (with_reducible assumption) | assumption); have hx8 := bt_at a0 a1; replace p8 := eq_true p8; replace q8 := eq_true q8))
          go_ret3
          exact ⟨by first | rfl | (simp [errW_none, errW_some] <;> rfl) | (simp [*, errW_none, errW_some] <;> rfl), by repeat (first | (with_reducible first | exact HB.out | apply below_alloc | apply pw_below_drewN | apply below_drew1) | exact HB.out)⟩
        · rw [if_neg c9] at H
          have c9b0 : decide ((a0.size : Int) < (wrap64 ((wrap64 (a1 + 1)) + (wrap64 (Go.bits .and .u8 (bt a0 a1) 15))))) = false := decide_eq_false c9
          clear c9
          have H' := Aside0.mk H
          clear H
          go_enter Tryd.func52, Tryd.ntmps52
          go_wp2_with (first | ((with_reducible refine gate_callee (f := 49) rfl ?_); refine goesL_ (some 16) rfl rfl Tryd.func49 (by kernel_rfl) rfl #[.string a0, .int .i64 a1] rfl (by (try simp only [List.map_toArray, List.map_cons, List.map_nil]); first | done | rfl | (simp only [List.length_drop, List.length_take]; rfl)) ?_; (with_reducible refine (codec_kind.calls k a0 a1 t104 _ ?side99  A4.out).mono ?_); (case side99 => first | exact HG.out | exact Glob.below HG.out (by repeat (first | (with_reducible first | exact HB.out | apply below_alloc | apply pw_below_drewN | apply below_drew1) | exact HB.out))); rintro e w' ⟨rfl, ⟨nd, rfl⟩⟩; refine ⟨_, rfl, ?_⟩; have p8 : 0 ≤ (a1 : Int) := of_decide_eq_true (by first | (with_reducible assumption) | assumption); have q8 : a1 < (a0.size : Int) := of_decide_eq_true (by first | (with_reducible assumption) | assumption); have hx8 := bt_at a0 a1; replace p8 := eq_true p8; replace q8 := eq_true q8))
          go_loopg [10, 32] k (fun kq v10 v32 w' => ∃ (x10_1 : Int) (x32_1 : Int), v10 = .int .u64 x10_1 ∧ v32 = .int .i64 x32_1 ∧ Aside0 (codec_raw.l0 kq a0 a1 a2 (wrap64 (Go.bits .and .u8 (bt a0 a1) 15)) x10_1 (wrap64 (Go.bits .and .u8 (bt a0 a1) 15)) x32_1 = some (r1, r2, r3)) ∧ Aside0 (kq ≤ k) ∧ Aside0 (Below w.heap.size w w'))
          case atStart => exact ⟨(0), (0), (by first | rfl | (simp; done) | (simp [*]; done)), (by first | rfl | (simp; done) | (simp [*]; done)), H', ⟨Nat.le_refl _⟩, ⟨by repeat (first | (with_reducible first | exact HB.out | apply below_alloc | apply pw_below_drewN | apply below_drew1) | exact HB.out)⟩⟩
          case round =>
            clear H'
            try clear p2
            try clear c4
            try clear c5
            try clear c5b0
            try clear c5b1
            try clear c6
            try clear c6b0
            try clear p6
            try clear c7
            try clear c7b0
            try clear p8
            try clear q8
            try clear hx8
            try clear c9
            try clear c9b0
            try clear p8
            try clear q8
            obtain ⟨x10_1, x32_1, rfl, rfl, HA, HK1, HB⟩ := hrel
            cases gk with
            | zero => exact absurd HA.out (by simp [codec_raw.l0])
            | succ k1 =>
              have H := HA.out
              clear HA
              simp only [codec_raw.l0] at H
              by_cases c10 : x32_1 < (wrap64 (Go.bits .and .u8 (bt a0 a1) 15))
              · rw [if_pos c10] at H
                have c10b0 : decide (x32_1 < (wrap64 (Go.bits .and .u8 (bt a0 a1) 15))) = true := decide_eq_true c10
                clear c10
                obtain ⟨ji11, hji11⟩ : ∃ j_ : Int, (wrap64 ((wrap64 (a1 + 1)) + x32_1)) = j_ := ⟨_, rfl⟩
                replace H : (if 0 ≤ (ji11) then (if (ji11) < (a0.size : Int) then (codec_raw.l0 k1 a0 a1 a2 (wrap64 (Go.bits .and .u8 (bt a0 a1) 15)) (Go.bits .or .u64 (IntKind.u64.wrap (x10_1 * 256)) (IntKind.u64.wrap (bt a0 (ji11)))) (wrap64 (Go.bits .and .u8 (bt a0 a1) 15)) (wrap64 (x32_1 + 1))) else (none)) else (none)) = some (r1, r2, r3) := by first | (rw [hji11] at H; exact H) | (simp only [hji11] at H ⊢; exact H)
                have hji11w : (IntKind.i64.wrap ((wrap64 (a1 + 1)) + x32_1)) = ji11 := (i64_w _).trans hji11
                by_cases c12 : 0 ≤ (ji11)
                · rw [if_pos c12] at H
                  have c12b0 : decide (0 ≤ (ji11)) = true := decide_eq_true c12
                  clear c12
                  by_cases c13 : (ji11) < (a0.size : Int)
                  · rw [if_pos c13] at H
                    have c13b0 : decide ((ji11) < (a0.size : Int)) = true := decide_eq_true c13
                    clear c13
                    have H' := Aside0.mk H
                    clear H
                    have p14 : 0 ≤ ((ji11) : Int) := of_decide_eq_true (by first | (with_reducible assumption) | assumption)
                    have q14 : (ji11) < (a0.size : Int) := of_decide_eq_true (by first | (with_reducible assumption) | assumption)
                    have hx14 := bt_at a0 (ji11)
                    replace p14 := eq_true p14
                    replace q14 := eq_true q14
                    go_wp2
                    go_roundg k1
                    case measure => have := HK1.out; omega
                    case rel => exact ⟨(Go.bits .or .u64 (IntKind.u64.wrap (x10_1 * 256)) (IntKind.u64.wrap (bt a0 (ji11)))), (wrap64 (x32_1 + 1)), (by first | rfl | (simp; done) | (simp only [← hji11] <;> (first | rfl | simp)) | (simp [*]; done)), (by first | rfl | (simp; done) | (simp [*]; done)), H', ⟨by have := HK1.out; omega⟩, ⟨by repeat (first | (with_reducible first | exact HB.out | apply below_alloc | apply pw_below_drewN | apply below_drew1) | exact HB.out)⟩⟩
                  · rw [if_neg c13] at H
                    exact absurd H (by simp)
                · rw [if_neg c12] at H
                  exact absurd H (by simp)
              · rw [if_neg c10] at H
                have c10b0 : decide (x32_1 < (wrap64 (Go.bits .and .u8 (bt a0 a1) 15))) = false := decide_eq_false c10
                clear c10
                by_cases c15 : a2 = 3
                · rw [if_pos c15] at H
                  have c15b0 : (a2 == 3) = true := beq_iff_eq.mpr c15
                  have c15b1 : (a2 != 3) = false := bne_eq_false_iff_eq.mpr c15
                  clear c15
                  replace H := Option.bind_eq_some_iff.mp H
                  obtain ⟨t105, A160, H⟩ := H
                  replace H : (some (x10_1, wrap64 ((wrap64 (a1 + 1)) + (wrap64 (Go.bits .and .u8 (bt a0 a1) 15))), (t105 == (wrap64 (Go.bits .and .u8 (bt a0 a1) 15))))) = some (r1, r2, r3) := H
                  have A16 := Aside0.mk A160
                  clear A160
                  simp only [Option.some.injEq, Prod.mk.injEq] at H
                  obtain ⟨rfl, rfl, rfl⟩ := H
                  go_wp2_with (first | ((with_reducible refine gate_callee (f := 63) rfl ?_); refine goesL_ (some 54) rfl rfl Tryd.func63 (by kernel_rfl) rfl #[.int .u64 x10_1] rfl (by (try simp only [List.map_toArray, List.map_cons, List.map_nil]); first | done | rfl | (simp only [List.length_drop, List.length_take]; rfl)) ?_; (with_reducible refine (codec_width.calls k1 x10_1 t105 _ ?side99  A16.out).mono ?_); (case side99 => first | exact HG.out | exact Glob.below HG.out (by repeat (first | (with_reducible first | exact HB.out | apply below_alloc | apply pw_below_drewN | apply below_drew1) | exact HB.out))); rintro e w17 ⟨rfl, hb⟩; refine ⟨_, rfl, ?_⟩; have n0_ := Aside0.mk (below_step (by repeat (first | (with_reducible first | exact HB.out | apply below_alloc | apply pw_below_drewN | apply below_drew1) | exact HB.out)) hb); clear HB; have HB := n0_; clear n0_; (try clear hb); (try clear hb2); (try clear hk); (try clear hi)))
                  go_ret3
                  exact ⟨by first | rfl | (simp [errW_none, errW_some] <;> rfl) | (simp [*, errW_none, errW_some] <;> rfl), by repeat (first | (with_reducible first | exact HB.out | apply below_alloc | apply pw_below_drewN | apply below_drew1) | exact HB.out)⟩
                · rw [if_neg c15] at H
                  have c15b0 : (a2 == 3) = false := beq_eq_false_iff_ne.mpr c15
                  have c15b1 : (a2 != 3) = true := bne_iff_ne.mpr c15
                  obtain ⟨ji18, hji18⟩ : ∃ j_ : Int, (wrap64 (64 - (wrap64 (8 * (wrap64 (Go.bits .and .u8 (bt a0 a1) 15)))))) = j_ := ⟨_, rfl⟩
                  replace H : (if 0 ≤ (ji18) then ((codec_spread.f k1 (shr .i64 (wrap64 (shl .u64 x10_1 (ji18))) (ji18))).bind fun t106 => (some (IntKind.u64.wrap (shr .i64 (wrap64 (shl .u64 x10_1 (ji18))) (ji18)), wrap64 ((wrap64 (a1 + 1)) + (wrap64 (Go.bits .and .u8 (bt a0 a1) 15))), (t106 == (wrap64 (Go.bits .and .u8 (bt a0 a1) 15)))))) else (none)) = some (r1, r2, r3) := by first | (rw [hji18] at H; exact H) | (simp only [hji18] at H ⊢; exact H)
                  have hji18w : (IntKind.i64.wrap (64 - (wrap64 (8 * (wrap64 (Go.bits .and .u8 (bt a0 a1) 15)))))) = ji18 := (i64_w _).trans hji18
                  by_cases c19 : 0 ≤ (ji18)
                  · rw [if_pos c19] at H
                    have c19b0 := eq_true c19
                    have c19b1 : decide (0 ≤ (ji18)) = true := decide_eq_true c19
                    clear c19
                    obtain ⟨ji20, hji20⟩ : ∃ j_ : Int, (shl .u64 x10_1 (ji18)) = j_ := ⟨_, rfl⟩
                    replace H : ((codec_spread.f k1 (shr .i64 (wrap64 (ji20)) (ji18))).bind fun t106 => (some (IntKind.u64.wrap (shr .i64 (wrap64 (ji20)) (ji18)), wrap64 ((wrap64 (a1 + 1)) + (wrap64 (Go.bits .and .u8 (bt a0 a1) 15))), (t106 == (wrap64 (Go.bits .and .u8 (bt a0 a1) 15)))))) = some (r1, r2, r3) := by first | (rw [hji20] at H; exact H) | (simp only [hji20] at H ⊢; exact H)
                    have hji20_ : (IntKind.u64.wrap (x10_1 * 2 ^ min (ji18).toNat 64)) = ji20 := hji20
                    have hji20z : (ji18) ≤ 64 → (IntKind.u64.wrap (x10_1 * 2 ^ (ji18).toNat)) = ji20 := shl_small hji20
                    have c21b0 := eq_true (of_decide_eq_true (by first | (with_reducible assumption) | assumption) : 0 ≤ (ji18))
                    obtain ⟨ji22, hji22⟩ : ∃ j_ : Int, (shr .i64 (wrap64 (ji20)) (ji18)) = j_ := ⟨_, rfl⟩
                    replace H : ((codec_spread.f k1 (ji22)).bind fun t106 => (some (IntKind.u64.wrap (ji22), wrap64 ((wrap64 (a1 + 1)) + (wrap64 (Go.bits .and .u8 (bt a0 a1) 15))), (t106 == (wrap64 (Go.bits .and .u8 (bt a0 a1) 15)))))) = some (r1, r2, r3) := by first | (rw [hji22] at H; exact H) | (simp only [hji22] at H ⊢; exact H)
                    have hji22_ : ((wrap64 (ji20)) / 2 ^ min (ji18).toNat 64) = ji22 := hji22
                    have hji22z : (ji18) ≤ 64 → ((wrap64 (ji20)) / 2 ^ (ji18).toNat) = ji22 := shr_small hji22
                    replace H := Option.bind_eq_some_iff.mp H
                    obtain ⟨t106, A230, H⟩ := H
                    replace H : (some (IntKind.u64.wrap (ji22), wrap64 ((wrap64 (a1 + 1)) + (wrap64 (Go.bits .and .u8 (bt a0 a1) 15))), (t106 == (wrap64 (Go.bits .and .u8 (bt a0 a1) 15))))) = some (r1, r2, r3) := H
                    have A23 := Aside0.mk A230
                    clear A230
                    simp only [Option.some.injEq, Prod.mk.injEq] at H
                    obtain ⟨rfl, rfl, rfl⟩ := H
                    go_wp2_with (first | ((with_reducible refine gate_callee (f := 64) rfl ?_); refine goesL_ (some 73) rfl rfl Tryd.func64 (by kernel_rfl) rfl #[.int .i64 ji22] rfl (by (try simp only [List.map_toArray, List.map_cons, List.map_nil]); first | done | (simp only [hji22]; rfl) | rfl | (simp only [List.length_drop, List.length_take]; rfl)) ?_; (with_reducible refine (codec_spread.calls k1 ji22 t106 _ ?side99  A23.out).mono ?_); (case side99 => first | exact HG.out | exact Glob.below HG.out (by repeat (first | (with_reducible first | exact HB.out | apply below_alloc | apply pw_below_drewN | apply below_drew1) | exact HB.out))); rintro e w' ⟨rfl, ⟨nd, rfl⟩⟩; refine ⟨_, rfl, ?_⟩))
                    go_ret3
                    exact ⟨by first | rfl | (simp [errW_none, errW_some] <;> rfl) | (simp only [← hji18, ← hji20, ← hji22]; first | rfl | (simp [errW_none, errW_some] <;> rfl)) | (simp [*, errW_none, errW_some] <;> rfl), by repeat (first | (with_reducible first | exact HB.out | apply below_alloc | apply pw_below_drewN | apply below_drew1) | exact HB.out)⟩
                  · rw [if_neg c19] at H
                    exact absurd H (by simp)
      · rw [if_neg c7] at H
        exact absurd H (by simp)
    · rw [if_neg c6] at H
      exact absurd H (by simp)
  · rw [if_neg c5] at H
    have c5b0 : (t104 == a2) = false := beq_eq_false_iff_ne.mpr c5
    have c5b1 : (t104 != a2) = true := bne_iff_ne.mpr c5
    simp only [Option.some.injEq, Prod.mk.injEq] at H
    obtain ⟨rfl, rfl, rfl⟩ := H
    go_enter Tryd.func52, Tryd.ntmps52
    go_wp2_with (first | ((with_reducible refine gate_callee (f := 49) rfl ?_); refine goesL_ (some 16) rfl rfl Tryd.func49 (by kernel_rfl) rfl #[.string a0, .int .i64 a1] rfl (by (try simp only [List.map_toArray, List.map_cons, List.map_nil]); first | done | rfl | (simp only [List.length_drop, List.length_take]; rfl)) ?_; (with_reducible refine (codec_kind.calls k a0 a1 t104 _ ?side99  A4.out).mono ?_); (case side99 => first | exact HG.out | exact Glob.below HG.out (by repeat (first | (with_reducible first | exact HB.out | apply below_alloc | apply pw_below_drewN | apply below_drew1) | exact HB.out))); rintro e w' ⟨rfl, ⟨nd, rfl⟩⟩; refine ⟨_, rfl, ?_⟩))
    go_ret3
    exact ⟨by first | rfl | (simp [errW_none, errW_some] <;> rfl) | (simp [*, errW_none, errW_some] <;> rfl), by repeat (first | (with_reducible first | exact HB.out | apply below_alloc | apply pw_below_drewN | apply below_drew1) | exact HB.out)⟩
end Go.Proofs.YtndeikikeeeigaaDoor.Q
end
section
namespace Go.Proofs.YtndeikikeeeigaaDoor.Pure
open Go.RowKit Go.Proofs.YtndeikikeeeigaaDoor.Q Go.Proofs.YtndeikikeeeigaaDoorW.PrintWords Go.Proofs.YtndeikikeeeigaaDoorW.PrintLast Go.Proofs.YtndeikikeeeigaaDoorW.PrintMore
set_option linter.unusedVariables false
set_option linter.unusedSimpArgs false
def kd (b : Int) : Int := if b = 0 then 1 else if b = 1 ∨ b = 2 then 2 else if 16 < b ∧ b ≤ 24 then 3 else if 32 < b ∧ b ≤ 40 then 4 else if b = 48 then 5 else if b = 64 then 6 else 0
def kindS (s : ByteArray) (p : Int) : Int := if p < 0 ∨ p ≥ (s.size : Int) then 0 else kd (bt s p)
theorem byte_fin (s : ByteArray) (p : Int) : ∃ m : Fin 256, ((m.val : Nat) : Int) = bt s p := by
  have := bt_range s p
  exact ⟨⟨(bt s p).toNat, by omega⟩, by show (((bt s p).toNat : Nat) : Int) = _; omega⟩
theorem kind_eq (k : Nat) (s : ByteArray) (p : Int) : codec_kind.f (k + 3) s p = some (kindS s p) := by
  have h1 : ∀ x5 x6 x31, codec_kind.j1 (k + 2) x5 x6 x31 = codec_kind.j1 2 x5 x6 x31 := by intros; simp only [codec_kind.j1, codec_kind.j2]
  unfold codec_kind.f kindS
  by_cases c : p < 0
  · rw [if_pos c, if_pos (Or.inl c)]; simp only [codec_kind.j0, if_true]
  · by_cases c2 : p ≥ (s.size : Int)
    · rw [if_neg c, if_pos (Or.inr c2), decide_eq_true c2]; simp only [codec_kind.j0, if_true]
    · rw [if_neg c, if_neg (by omega), decide_eq_false c2]; simp only [codec_kind.j0, Bool.false_eq_true, if_false]
      rw [if_pos (by omega), if_pos (by omega)]
      simp only [h1]
      obtain ⟨m, hm⟩ := byte_fin s p
      rw [← hm]
      have hb : ∀ m : Fin 256, (if ((m.val : Nat) : Int) = 0 then (some 1) else (if (((m.val : Nat) : Int) / 16) > 4 then (some 0) else (if (((m.val : Nat) : Int) / 16) = 0 then (codec_kind.j1 2 (((m.val : Nat) : Int) / 16) (Go.bits .and .u8 ((m.val : Nat) : Int) 15) (decide ((Go.bits .and .u8 ((m.val : Nat) : Int) 15) > 2))) else (codec_kind.j1 2 (((m.val : Nat) : Int) / 16) (Go.bits .and .u8 ((m.val : Nat) : Int) 15) false)))) = some (kd ((m.val : Nat) : Int)) := by decide +kernel
      exact hb m
theorem kindS_in {s : ByteArray} {p : Int} (h : kindS s p ≠ 0) : 0 ≤ p ∧ p < (s.size : Int) ∧ kindS s p = kd (bt s p) := by
  unfold kindS at *
  split at h
  · exact absurd rfl h
  · rename_i c
    exact ⟨by omega, by omega, if_neg c⟩
theorem kd3 {b : Int} : kd b = 3 ↔ 16 < b ∧ b ≤ 24 := by unfold kd; omega
theorem kd4 {b : Int} : kd b = 4 ↔ 32 < b ∧ b ≤ 40 := by unfold kd; omega
def beN (s : ByteArray) (q : Int) : Nat → Int
  | 0 => 0
  | n + 1 => beN s q n * 256 + bt s (q + (n : Int))
theorem beN_range (s : ByteArray) (q : Int) (n : Nat) : 0 ≤ beN s q n ∧ beN s q n < 256 ^ n := by
  induction n with
  | zero => simp [beN]
  | succ n ih =>
    have := bt_range s (q + n)
    rw [Int.pow_succ]
    simp only [beN]
    omega
theorem pow256 {n m : Nat} (h : n ≤ m) : (256 : Int) ^ n ≤ 256 ^ m := by
  have := Nat.pow_le_pow_right (n := 256) (by decide) h
  have e : ∀ j : Nat, (256 : Int) ^ j = ((256 ^ j : Nat) : Int) := fun j => by rw [Int.natCast_pow]; rfl
  rw [e, e]
  omega
theorem beN_lt {s : ByteArray} {q : Int} {n m : Nat} (h : n ≤ m) : beN s q n < 256 ^ m := by
  have h1 := (beN_range s q n).2
  have h2 := pow256 h
  omega
def sgn (n : Nat) (V : Int) : Int := if V < 128 * 256 ^ (n - 1) then V else V - 256 ^ n
theorem sgn_range {n : Nat} {V : Int} (h1 : 1 ≤ n) (h8 : n ≤ 8) (h : 0 ≤ V ∧ V < 256 ^ n) : -9223372036854775808 ≤ sgn n V ∧ sgn n V ≤ 9223372036854775807 := by
  unfold sgn
  obtain rfl | rfl | rfl | rfl | rfl | rfl | rfl | rfl : n = 1 ∨ n = 2 ∨ n = 3 ∨ n = 4 ∨ n = 5 ∨ n = 6 ∨ n = 7 ∨ n = 8 := by omega
  all_goals simp only [Int.reducePow, Nat.reduceSub] at h ⊢
  all_goals split <;> omega
theorem sgn_shift {n : Nat} {V : Int} (h1 : 1 ≤ n) (h8 : n ≤ 8) (h : 0 ≤ V ∧ V < 256 ^ n) : shr .i64 (wrap64 (shl .u64 V (wrap64 (64 - (wrap64 (8 * (n : Int))))))) (wrap64 (64 - (wrap64 (8 * (n : Int))))) = sgn n V := by
  have hw : wrap64 (64 - (wrap64 (8 * (n : Int)))) = 64 - 8 * (n : Int) := by rw [w64 (n := 8 * (n : Int)) (by omega) (by omega), w64 (by omega) (by omega)]
  rw [hw]
  unfold sgn shr shl
  obtain rfl | rfl | rfl | rfl | rfl | rfl | rfl | rfl : n = 1 ∨ n = 2 ∨ n = 3 ∨ n = 4 ∨ n = 5 ∨ n = 6 ∨ n = 7 ∨ n = 8 := by omega
  · rw [show (2 : Int) ^ min (64 - 8 * ((1 : Nat) : Int)).toNat IntKind.u64.bits = 72057594037927936 from rfl, show (2 : Int) ^ min (64 - 8 * ((1 : Nat) : Int)).toNat IntKind.i64.bits = 72057594037927936 from rfl, u64w]; unfold wrap64; simp only [Int.reducePow, Nat.reduceSub] at h ⊢; split <;> omega
  · rw [show (2 : Int) ^ min (64 - 8 * ((2 : Nat) : Int)).toNat IntKind.u64.bits = 281474976710656 from rfl, show (2 : Int) ^ min (64 - 8 * ((2 : Nat) : Int)).toNat IntKind.i64.bits = 281474976710656 from rfl, u64w]; unfold wrap64; simp only [Int.reducePow, Nat.reduceSub] at h ⊢; split <;> omega
  · rw [show (2 : Int) ^ min (64 - 8 * ((3 : Nat) : Int)).toNat IntKind.u64.bits = 1099511627776 from rfl, show (2 : Int) ^ min (64 - 8 * ((3 : Nat) : Int)).toNat IntKind.i64.bits = 1099511627776 from rfl, u64w]; unfold wrap64; simp only [Int.reducePow, Nat.reduceSub] at h ⊢; split <;> omega
  · rw [show (2 : Int) ^ min (64 - 8 * ((4 : Nat) : Int)).toNat IntKind.u64.bits = 4294967296 from rfl, show (2 : Int) ^ min (64 - 8 * ((4 : Nat) : Int)).toNat IntKind.i64.bits = 4294967296 from rfl, u64w]; unfold wrap64; simp only [Int.reducePow, Nat.reduceSub] at h ⊢; split <;> omega
  · rw [show (2 : Int) ^ min (64 - 8 * ((5 : Nat) : Int)).toNat IntKind.u64.bits = 16777216 from rfl, show (2 : Int) ^ min (64 - 8 * ((5 : Nat) : Int)).toNat IntKind.i64.bits = 16777216 from rfl, u64w]; unfold wrap64; simp only [Int.reducePow, Nat.reduceSub] at h ⊢; split <;> omega
  · rw [show (2 : Int) ^ min (64 - 8 * ((6 : Nat) : Int)).toNat IntKind.u64.bits = 65536 from rfl, show (2 : Int) ^ min (64 - 8 * ((6 : Nat) : Int)).toNat IntKind.i64.bits = 65536 from rfl, u64w]; unfold wrap64; simp only [Int.reducePow, Nat.reduceSub] at h ⊢; split <;> omega
  · rw [show (2 : Int) ^ min (64 - 8 * ((7 : Nat) : Int)).toNat IntKind.u64.bits = 256 from rfl, show (2 : Int) ^ min (64 - 8 * ((7 : Nat) : Int)).toNat IntKind.i64.bits = 256 from rfl, u64w]; unfold wrap64; simp only [Int.reducePow, Nat.reduceSub] at h ⊢; split <;> omega
  · rw [show (2 : Int) ^ min (64 - 8 * ((8 : Nat) : Int)).toNat IntKind.u64.bits = 1 from rfl, show (2 : Int) ^ min (64 - 8 * ((8 : Nat) : Int)).toNat IntKind.i64.bits = 1 from rfl, u64w]; unfold wrap64; simp only [Int.reducePow, Nat.reduceSub] at h ⊢; split <;> omega
def cnt (s : ByteArray) (p : Int) : Nat := (bt s p % 16).toNat
def val (s : ByteArray) (p : Int) : Int := beN s (p + 1) (cnt s p)
def rawS (s : ByteArray) (p want : Int) : Int × Int × Bool :=
  if kindS s p = want then
    if p + 1 + (cnt s p : Int) > (s.size : Int) then (0, 0, false)
    else if want = 3 then (val s p, p + 1 + (cnt s p : Int), nb (val s p) == (cnt s p : Int))
    else (IntKind.u64.wrap (sgn (cnt s p) (val s p)), p + 1 + (cnt s p : Int), ss (sgn (cnt s p) (val s p)) == (cnt s p : Int))
  else (0, 0, false)
theorem raw_loop (s : ByteArray) (p want : Int) (n : Nat) (hp : 0 ≤ p) (h1 : 1 ≤ n) (h8 : n ≤ 8) (hn : p + 1 + (n : Int) ≤ (s.size : Int)) (hz : s.size ≤ 140737488355327) :
    ∀ (d i : Nat), i + d = n → ∀ k, codec_raw.l0 (k + d + 2) s p want n (beN s (p + 1) i) n i =
      if want = 3 then some (beN s (p + 1) n, p + 1 + (n : Int), nb (beN s (p + 1) n) == (n : Int)) else some (IntKind.u64.wrap (sgn n (beN s (p + 1) n)), p + 1 + (n : Int), ss (sgn n (beN s (p + 1) n)) == (n : Int)) := by
  intro d
  have w1 : wrap64 (p + 1) = p + 1 := w64 (by omega) (by omega)
  induction d with
  | zero =>
    intro i hi k
    obtain rfl : i = n := by omega
    have hr := beN_range s (p + 1) i
    have hlt : beN s (p + 1) i < 256 ^ 8 := beN_lt h8
    simp only [Int.reducePow] at hlt
    have hr' := sgn_range h1 h8 hr
    show codec_raw.l0 ((k + 1) + 1) s p want i _ i i = _
    rw [codec_raw.l0]
    rw [if_neg (by omega), w1, w64 (n := p + 1 + (i : Int)) (by omega) (by omega)]
    by_cases c : want = 3
    · rw [if_pos c, if_pos c, width_eq _ _ hr.1 (by omega)]; rfl
    · have hw : 0 ≤ wrap64 (64 - (wrap64 (8 * (i : Int)))) := by rw [w64 (n := 8 * (i : Int)) (by omega) (by omega), w64 (by omega) (by omega)]; omega
      rw [if_neg c, if_neg c, if_pos hw, sgn_shift h1 h8 hr, spread_eq _ _ hr'.1 hr'.2]; rfl
  | succ d ih =>
    intro i hi k
    have hr := beN_range s (p + 1) i
    have hlt : beN s (p + 1) i < 256 ^ 7 := beN_lt (by omega)
    simp only [Int.reducePow] at hlt
    have hb := bt_range s (p + 1 + (i : Int))
    show codec_raw.l0 ((k + d + 2) + 1) s p want n _ n i = _
    rw [codec_raw.l0]
    rw [if_pos (by omega), w1, w64 (n := p + 1 + (i : Int)) (by omega) (by omega), if_pos (by omega), if_pos (by omega), w64 (n := (i : Int) + 1) (by omega) (by omega), u64w, u64w,
      Int.emod_eq_of_lt (b := 18446744073709551616) (a := beN s (p + 1) i * 256) (by omega) (by omega), Int.emod_eq_of_lt (b := 18446744073709551616) (a := bt s (p + 1 + (i : Int))) (by omega) (by omega), or_u64 _ _ hr.1 (by omega) hb.1 (by omega)]
    have := ih (i + 1) (by omega) k
    have e : ((i + 1 : Nat) : Int) = (i : Int) + 1 := by omega
    rw [e] at this
    exact this
theorem raw_eq (k : Nat) (s : ByteArray) (p want : Int) (hw : want = 3 ∨ want = 4) (hz : s.size ≤ 140737488355327) : codec_raw.f (k + 12) s p want = some (rawS s p want) := by
  unfold codec_raw.f rawS
  rw [show k + 12 = (k + 9) + 3 from rfl, kind_eq]
  simp only [Option.bind_some]
  by_cases c : kindS s p = want
  · rw [if_pos c, if_pos c]
    obtain ⟨p0, p1, hk⟩ := kindS_in (s := s) (p := p) (by omega)
    have hb : (16 < bt s p ∧ bt s p ≤ 24) ∨ (32 < bt s p ∧ bt s p ≤ 40) := by
      rcases hw with rfl | rfl
      · left; exact kd3.1 (hk.symm.trans c)
      · right; exact kd4.1 (hk.symm.trans c)
    have hc : (bt s p % 16) = (cnt s p : Int) := by unfold cnt; omega
    have h1 : 1 ≤ bt s p % 16 ∧ bt s p % 16 ≤ 8 := by omega
    rw [if_pos p0, if_pos p1, and15_bt, hc]
    rw [hc] at h1
    rw [w64 (n := (cnt s p : Int)) (by omega) (by omega), w64 (n := p + 1) (by omega) (by omega), w64 (n := p + 1 + (cnt s p : Int)) (by omega) (by omega)]
    by_cases c2 : p + 1 + (cnt s p : Int) > (s.size : Int)
    · rw [if_pos c2, if_pos c2]
    · rw [if_neg c2, if_neg c2]
      have := raw_loop s p want (cnt s p) p0 (by omega) (by omega) (by omega) hz (cnt s p) 0 (by omega) (k + 10 - cnt s p)
      rw [show k + 10 - cnt s p + cnt s p + 2 = k + 9 + 3 by omega] at this
      refine this.trans ?_
      unfold val
      split <;> rfl
  · rw [if_neg c, if_neg c]
end Go.Proofs.YtndeikikeeeigaaDoor.Pure
end
section
namespace Go.Proofs.YtndeikikeeeigaaDoor.Q
open Go.RowKit Go.Proofs.YtndeikikeeeigaaDoorW.PrintWords Go.Proofs.YtndeikikeeeigaaDoorW.PrintLast Go.Proofs.YtndeikikeeeigaaDoorW.PrintMore
attribute [local go_sem] max2_int min2_int max_two min_two max_three min_three max_four min_four
set_option linter.unusedVariables false
set_option linter.unusedSimpArgs false
end Go.Proofs.YtndeikikeeeigaaDoor.Q
end
section
namespace Go.Proofs.YtndeikikeeeigaaDoor.Q
open Go.RowKit Go.Proofs.YtndeikikeeeigaaDoorW.PrintWords Go.Proofs.YtndeikikeeeigaaDoorW.PrintLast Go.Proofs.YtndeikikeeeigaaDoorW.PrintMore
attribute [local go_sem] max2_int min2_int max_two min_two max_three min_three max_four min_four
set_option linter.unusedVariables false
set_option linter.unusedSimpArgs false
end Go.Proofs.YtndeikikeeeigaaDoor.Q
end
section
namespace Go.Proofs.YtndeikikeeeigaaDoor.Q
open Go.RowKit Go.Proofs.YtndeikikeeeigaaDoorW.PrintWords Go.Proofs.YtndeikikeeeigaaDoorW.PrintLast Go.Proofs.YtndeikikeeeigaaDoorW.PrintMore
attribute [local go_sem] max2_int min2_int max_two min_two max_three min_three max_four min_four
set_option linter.unusedVariables false
set_option linter.unusedSimpArgs false
def codec_text.f (k : Nat) (a0 : ByteArray) (a1 : Int) : Option (ByteArray × Int × Bool) := (codec_kind.f k a0 a1).bind fun t107 => (if t107 = 5 then ((codec_raw.f k a0 (wrap64 (a1 + 1)) 3).bind fun bt108 => (if bt108.2.2 = true then (if bt108.1 > 65535 then (some ((⟨#[]⟩ : ByteArray), 0, false)) else (if (wrap64 (bt108.1)) > (wrap64 ((a0.size : Int) - bt108.2.1)) then (some ((⟨#[]⟩ : ByteArray), 0, false)) else (if 0 ≤ bt108.2.1 then (if bt108.2.1 ≤ (wrap64 (bt108.2.1 + (wrap64 (bt108.1)))) then (if (wrap64 (bt108.2.1 + (wrap64 (bt108.1)))) ≤ (a0.size : Int) then (some (a0.extract (bt108.2.1 : Int).toNat ((wrap64 (bt108.2.1 + (wrap64 (bt108.1)))) : Int).toNat, wrap64 (bt108.2.1 + (wrap64 (bt108.1))), true)) else (none)) else (none)) else (none)))) else (some ((⟨#[]⟩ : ByteArray), 0, false)))) else (some ((⟨#[]⟩ : ByteArray), 0, false)))
theorem codec_text.mono : ∀ a0 a1 k, LeO (codec_text.f k a0 a1) (codec_text.f (k + 1) a0 a1) := by
  intro a0 a1 k
  unfold codec_text.f
  repeat' first
      | (with_reducible exact codec_kind.mono _ _ _)
      | (with_reducible exact codec_raw.mono _ _ _ _)
      | (with_reducible exact LeO.refl _)
      | (with_reducible exact LeO.none _)
      | (with_reducible refine LeO.ite ?_ ?_)
      | (with_reducible refine LeO.bind ?_ (fun _ => ?_))
      | exact codec_kind.mono _ _ _
      | exact codec_raw.mono _ _ _ _
      | exact LeO.none _
      | refine LeO.ite ?_ ?_
      | refine LeO.bind ?_ (fun _ => ?_)
set_option maxHeartbeats 8000000 in
set_option maxRecDepth 100000 in
theorem codec_text.calls (k : Nat) (a0 : ByteArray) (a1 : Int) (r1 : ByteArray) (r2 : Int) (r3 : Bool) (w : World) (hG : Glob w) (h : codec_text.f k a0 a1 = some (r1, r2, r3)) :
    Calls Tryd.prog 55 #[.string a0, .int .i64 a1] w fun e w' => e = .returned (.tuple #[.string r1, .int .i64 r2, .bool r3]) ∧ Below w.heap.size w w' := by
  have HG := Aside0.mk hG
  clear hG
  have HB := Aside0.mk (Below.refl w.heap.size w)
  have H : ((codec_kind.f k a0 a1).bind fun t107 => (if t107 = 5 then ((codec_raw.f k a0 (wrap64 (a1 + 1)) 3).bind fun bt108 => (if bt108.2.2 = true then (if bt108.1 > 65535 then (some ((⟨#[]⟩ : ByteArray), 0, false)) else (if (wrap64 (bt108.1)) > (wrap64 ((a0.size : Int) - bt108.2.1)) then (some ((⟨#[]⟩ : ByteArray), 0, false)) else (if 0 ≤ bt108.2.1 then (if bt108.2.1 ≤ (wrap64 (bt108.2.1 + (wrap64 (bt108.1)))) then (if (wrap64 (bt108.2.1 + (wrap64 (bt108.1)))) ≤ (a0.size : Int) then (some (a0.extract (bt108.2.1 : Int).toNat ((wrap64 (bt108.2.1 + (wrap64 (bt108.1)))) : Int).toNat, wrap64 (bt108.2.1 + (wrap64 (bt108.1))), true)) else (none)) else (none)) else (none)))) else (some ((⟨#[]⟩ : ByteArray), 0, false)))) else (some ((⟨#[]⟩ : ByteArray), 0, false)))) = some (r1, r2, r3) := h
  clear h
  replace H := Option.bind_eq_some_iff.mp H
  obtain ⟨t107, A30, H⟩ := H
  replace H : (if t107 = 5 then ((codec_raw.f k a0 (wrap64 (a1 + 1)) 3).bind fun bt108 => (if bt108.2.2 = true then (if bt108.1 > 65535 then (some ((⟨#[]⟩ : ByteArray), 0, false)) else (if (wrap64 (bt108.1)) > (wrap64 ((a0.size : Int) - bt108.2.1)) then (some ((⟨#[]⟩ : ByteArray), 0, false)) else (if 0 ≤ bt108.2.1 then (if bt108.2.1 ≤ (wrap64 (bt108.2.1 + (wrap64 (bt108.1)))) then (if (wrap64 (bt108.2.1 + (wrap64 (bt108.1)))) ≤ (a0.size : Int) then (some (a0.extract (bt108.2.1 : Int).toNat ((wrap64 (bt108.2.1 + (wrap64 (bt108.1)))) : Int).toNat, wrap64 (bt108.2.1 + (wrap64 (bt108.1))), true)) else (none)) else (none)) else (none)))) else (some ((⟨#[]⟩ : ByteArray), 0, false)))) else (some ((⟨#[]⟩ : ByteArray), 0, false))) = some (r1, r2, r3) := H
  have A3 := Aside0.mk A30
  clear A30
  by_cases c4 : t107 = 5
  · rw [if_pos c4] at H
    have c4b0 : (t107 == 5) = true := beq_iff_eq.mpr c4
    have c4b1 : (t107 != 5) = false := bne_eq_false_iff_eq.mpr c4
    clear c4
    replace H := Option.bind_eq_some_iff.mp H
    obtain ⟨⟨t108, t109, t110⟩, A50, H⟩ := H
    replace H : (if t110 = true then (if t108 > 65535 then (some ((⟨#[]⟩ : ByteArray), 0, false)) else (if (wrap64 (t108)) > (wrap64 ((a0.size : Int) - t109)) then (some ((⟨#[]⟩ : ByteArray), 0, false)) else (if 0 ≤ t109 then (if t109 ≤ (wrap64 (t109 + (wrap64 (t108)))) then (if (wrap64 (t109 + (wrap64 (t108)))) ≤ (a0.size : Int) then (some (a0.extract (t109 : Int).toNat ((wrap64 (t109 + (wrap64 (t108)))) : Int).toNat, wrap64 (t109 + (wrap64 (t108))), true)) else (none)) else (none)) else (none)))) else (some ((⟨#[]⟩ : ByteArray), 0, false))) = some (r1, r2, r3) := H
    have A5 := Aside0.mk A50
    clear A50
    by_cases c6 : t110 = true
    · subst c6
      have H1 : (if t108 > 65535 then (some ((⟨#[]⟩ : ByteArray), 0, false)) else (if (wrap64 (t108)) > (wrap64 ((a0.size : Int) - t109)) then (some ((⟨#[]⟩ : ByteArray), 0, false)) else (if 0 ≤ t109 then (if t109 ≤ (wrap64 (t109 + (wrap64 (t108)))) then (if (wrap64 (t109 + (wrap64 (t108)))) ≤ (a0.size : Int) then (some (a0.extract (t109 : Int).toNat ((wrap64 (t109 + (wrap64 (t108)))) : Int).toNat, wrap64 (t109 + (wrap64 (t108))), true)) else (none)) else (none)) else (none)))) = some (r1, r2, r3) := by rw [if_pos rfl] at H; exact H
      clear H
      have H := H1
      clear H1
      by_cases c7 : t108 > 65535
      · rw [if_pos c7] at H
        have c7b0 : decide (65535 < t108) = true := decide_eq_true c7
        clear c7
        simp only [Option.some.injEq, Prod.mk.injEq] at H
        obtain ⟨rfl, rfl, rfl⟩ := H
        go_enter Tryd.func55, Tryd.ntmps55
        go_wp2_with (first | ((with_reducible refine gate_callee (f := 49) rfl ?_); refine goesL_ (some 12) rfl rfl Tryd.func49 (by kernel_rfl) rfl #[.string a0, .int .i64 a1] rfl (by (try simp only [List.map_toArray, List.map_cons, List.map_nil]); first | done | rfl | (simp only [List.length_drop, List.length_take]; rfl)) ?_; (with_reducible refine (codec_kind.calls k a0 a1 t107 _ ?side99  A3.out).mono ?_); (case side99 => first | exact HG.out | exact Glob.below HG.out (by repeat (first | (with_reducible first | exact HB.out | apply below_alloc | apply pw_below_drewN | apply below_drew1) | exact HB.out))); rintro e w' ⟨rfl, ⟨nd, rfl⟩⟩; refine ⟨_, rfl, ?_⟩) | ((with_reducible refine gate_callee (f := 52) rfl ?_); refine goesL_ (some 18) rfl rfl Tryd.func52 (by kernel_rfl) rfl #[.string a0, .int .i64 (wrap64 (a1 + 1)), .int .i64 3] rfl (by (try simp only [List.map_toArray, List.map_cons, List.map_nil]); first | done | rfl | (simp only [List.length_drop, List.length_take]; rfl)) ?_; (with_reducible refine (codec_raw.calls k a0 (wrap64 (a1 + 1)) 3 t108 t109 true _ ?side99  A5.out).mono ?_); (case side99 => first | exact HG.out | exact Glob.below HG.out (by repeat (first | (with_reducible first | exact HB.out | apply below_alloc | apply pw_below_drewN | apply below_drew1) | exact HB.out))); rintro e w8 ⟨rfl, hb⟩; refine ⟨_, rfl, ?_⟩; have n0_ := Aside0.mk (below_step (by repeat (first | (with_reducible first | exact HB.out | apply below_alloc | apply pw_below_drewN | apply below_drew1) | exact HB.out)) hb); clear HB; have HB := n0_; clear n0_; (try clear hb); (try clear hb2); (try clear hk); (try clear hi)))
        go_ret3
        exact ⟨by first | rfl | (simp [errW_none, errW_some] <;> rfl) | (simp [*, errW_none, errW_some] <;> rfl), by repeat (first | (with_reducible first | exact HB.out | apply below_alloc | apply pw_below_drewN | apply below_drew1) | exact HB.out)⟩
      · rw [if_neg c7] at H
        have c7b0 : decide (65535 < t108) = false := decide_eq_false c7
        clear c7
        by_cases c9 : (wrap64 (t108)) > (wrap64 ((a0.size : Int) - t109))
        · rw [if_pos c9] at H
          have c9b0 : decide ((wrap64 ((a0.size : Int) - t109)) < (wrap64 (t108))) = true := decide_eq_true c9
          clear c9
          simp only [Option.some.injEq, Prod.mk.injEq] at H
          obtain ⟨rfl, rfl, rfl⟩ := H
          go_enter Tryd.func55, Tryd.ntmps55
          go_wp2_with (first | ((with_reducible refine gate_callee (f := 49) rfl ?_); refine goesL_ (some 12) rfl rfl Tryd.func49 (by kernel_rfl) rfl #[.string a0, .int .i64 a1] rfl (by (try simp only [List.map_toArray, List.map_cons, List.map_nil]); first | done | rfl | (simp only [List.length_drop, List.length_take]; rfl)) ?_; (with_reducible refine (codec_kind.calls k a0 a1 t107 _ ?side99  A3.out).mono ?_); (case side99 => first | exact HG.out | exact Glob.below HG.out (by repeat (first | (with_reducible first | exact HB.out | apply below_alloc | apply pw_below_drewN | apply below_drew1) | exact HB.out))); rintro e w' ⟨rfl, ⟨nd, rfl⟩⟩; refine ⟨_, rfl, ?_⟩) | ((with_reducible refine gate_callee (f := 52) rfl ?_); refine goesL_ (some 18) rfl rfl Tryd.func52 (by kernel_rfl) rfl #[.string a0, .int .i64 (wrap64 (a1 + 1)), .int .i64 3] rfl (by (try simp only [List.map_toArray, List.map_cons, List.map_nil]); first | done | rfl | (simp only [List.length_drop, List.length_take]; rfl)) ?_; (with_reducible refine (codec_raw.calls k a0 (wrap64 (a1 + 1)) 3 t108 t109 true _ ?side99  A5.out).mono ?_); (case side99 => first | exact HG.out | exact Glob.below HG.out (by repeat (first | (with_reducible first | exact HB.out | apply below_alloc | apply pw_below_drewN | apply below_drew1) | exact HB.out))); rintro e w10 ⟨rfl, hb⟩; refine ⟨_, rfl, ?_⟩; have n0_ := Aside0.mk (below_step (by repeat (first | (with_reducible first | exact HB.out | apply below_alloc | apply pw_below_drewN | apply below_drew1) | exact HB.out)) hb); clear HB; have HB := n0_; clear n0_; (try clear hb); (try clear hb2); (try clear hk); (try clear hi)))
          go_ret3
          exact ⟨by first | rfl | (simp [errW_none, errW_some] <;> rfl) | (simp [*, errW_none, errW_some] <;> rfl), by repeat (first | (with_reducible first | exact HB.out | apply below_alloc | apply pw_below_drewN | apply below_drew1) | exact HB.out)⟩
        · rw [if_neg c9] at H
          have c9b0 : decide ((wrap64 ((a0.size : Int) - t109)) < (wrap64 (t108))) = false := decide_eq_false c9
          clear c9
          by_cases c11 : 0 ≤ t109
          · rw [if_pos c11] at H
            have c11b0 := eq_true c11
            have c11b1 : decide (0 ≤ t109) = true := decide_eq_true c11
            clear c11
            by_cases c12 : t109 ≤ (wrap64 (t109 + (wrap64 (t108))))
            · rw [if_pos c12] at H
              have c12b0 := eq_true c12
              have c12b1 : decide (t109 ≤ (wrap64 (t109 + (wrap64 (t108))))) = true := decide_eq_true c12
              by_cases c13 : (wrap64 (t109 + (wrap64 (t108)))) ≤ (a0.size : Int)
              · rw [if_pos c13] at H
                have c13b0 := eq_true c13
                have c13b1 : decide ((wrap64 (t109 + (wrap64 (t108)))) ≤ (a0.size : Int)) = true := decide_eq_true c13
                simp only [Option.some.injEq, Prod.mk.injEq] at H
                obtain ⟨rfl, rfl, rfl⟩ := H
                go_enter Tryd.func55, Tryd.ntmps55
                go_wp2_with (first | ((with_reducible refine gate_callee (f := 49) rfl ?_); refine goesL_ (some 12) rfl rfl Tryd.func49 (by kernel_rfl) rfl #[.string a0, .int .i64 a1] rfl (by (try simp only [List.map_toArray, List.map_cons, List.map_nil]); first | done | rfl | (simp only [List.length_drop, List.length_take]; rfl)) ?_; (with_reducible refine (codec_kind.calls k a0 a1 t107 _ ?side99  A3.out).mono ?_); (case side99 => first | exact HG.out | exact Glob.below HG.out (by repeat (first | (with_reducible first | exact HB.out | apply below_alloc | apply pw_below_drewN | apply below_drew1) | exact HB.out))); rintro e w' ⟨rfl, ⟨nd, rfl⟩⟩; refine ⟨_, rfl, ?_⟩) | ((with_reducible refine gate_callee (f := 52) rfl ?_); refine goesL_ (some 18) rfl rfl Tryd.func52 (by kernel_rfl) rfl #[.string a0, .int .i64 (wrap64 (a1 + 1)), .int .i64 3] rfl (by (try simp only [List.map_toArray, List.map_cons, List.map_nil]); first | done | rfl | (simp only [List.length_drop, List.length_take]; rfl)) ?_; (with_reducible refine (codec_raw.calls k a0 (wrap64 (a1 + 1)) 3 t108 t109 true _ ?side99  A5.out).mono ?_); (case side99 => first | exact HG.out | exact Glob.below HG.out (by repeat (first | (with_reducible first | exact HB.out | apply below_alloc | apply pw_below_drewN | apply below_drew1) | exact HB.out))); rintro e w14 ⟨rfl, hb⟩; refine ⟨_, rfl, ?_⟩; have n0_ := Aside0.mk (below_step (by repeat (first | (with_reducible first | exact HB.out | apply below_alloc | apply pw_below_drewN | apply below_drew1) | exact HB.out)) hb); clear HB; have HB := n0_; clear n0_; (try clear hb); (try clear hb2); (try clear hk); (try clear hi)))
                go_ret3
                exact ⟨by first | rfl | (simp [errW_none, errW_some] <;> rfl) | (simp [*, errW_none, errW_some] <;> rfl), by repeat (first | (with_reducible first | exact HB.out | apply below_alloc | apply pw_below_drewN | apply below_drew1) | exact HB.out)⟩
              · rw [if_neg c13] at H
                exact absurd H (by simp)
            · rw [if_neg c12] at H
              exact absurd H (by simp)
          · rw [if_neg c11] at H
            exact absurd H (by simp)
    · replace c6 := Bool.eq_false_iff.mpr c6
      subst c6
      have H1 : (some ((⟨#[]⟩ : ByteArray), 0, false)) = some (r1, r2, r3) := by rw [if_neg (show ¬ (false = true) by decide)] at H; exact H
      clear H
      have H := H1
      clear H1
      simp only [Option.some.injEq, Prod.mk.injEq] at H
      obtain ⟨rfl, rfl, rfl⟩ := H
      go_enter Tryd.func55, Tryd.ntmps55
      go_wp2_with (first | ((with_reducible refine gate_callee (f := 49) rfl ?_); refine goesL_ (some 12) rfl rfl Tryd.func49 (by kernel_rfl) rfl #[.string a0, .int .i64 a1] rfl (by (try simp only [List.map_toArray, List.map_cons, List.map_nil]); first | done | rfl | (simp only [List.length_drop, List.length_take]; rfl)) ?_; (with_reducible refine (codec_kind.calls k a0 a1 t107 _ ?side99  A3.out).mono ?_); (case side99 => first | exact HG.out | exact Glob.below HG.out (by repeat (first | (with_reducible first | exact HB.out | apply below_alloc | apply pw_below_drewN | apply below_drew1) | exact HB.out))); rintro e w' ⟨rfl, ⟨nd, rfl⟩⟩; refine ⟨_, rfl, ?_⟩) | ((with_reducible refine gate_callee (f := 52) rfl ?_); refine goesL_ (some 18) rfl rfl Tryd.func52 (by kernel_rfl) rfl #[.string a0, .int .i64 (wrap64 (a1 + 1)), .int .i64 3] rfl (by (try simp only [List.map_toArray, List.map_cons, List.map_nil]); first | done | rfl | (simp only [List.length_drop, List.length_take]; rfl)) ?_; (with_reducible refine (codec_raw.calls k a0 (wrap64 (a1 + 1)) 3 t108 t109 false _ ?side99  A5.out).mono ?_); (case side99 => first | exact HG.out | exact Glob.below HG.out (by repeat (first | (with_reducible first | exact HB.out | apply below_alloc | apply pw_below_drewN | apply below_drew1) | exact HB.out))); rintro e w15 ⟨rfl, hb⟩; refine ⟨_, rfl, ?_⟩; have n0_ := Aside0.mk (below_step (by repeat (first | (with_reducible first | exact HB.out | apply below_alloc | apply pw_below_drewN | apply below_drew1) | exact HB.out)) hb); clear HB; have HB := n0_; clear n0_; (try clear hb); (try clear hb2); (try clear hk); (try clear hi)))
      go_ret3
      exact ⟨by first | rfl | (simp [errW_none, errW_some] <;> rfl) | (simp [*, errW_none, errW_some] <;> rfl), by repeat (first | (with_reducible first | exact HB.out | apply below_alloc | apply pw_below_drewN | apply below_drew1) | exact HB.out)⟩
  · rw [if_neg c4] at H
    have c4b0 : (t107 == 5) = false := beq_eq_false_iff_ne.mpr c4
    have c4b1 : (t107 != 5) = true := bne_iff_ne.mpr c4
    simp only [Option.some.injEq, Prod.mk.injEq] at H
    obtain ⟨rfl, rfl, rfl⟩ := H
    go_enter Tryd.func55, Tryd.ntmps55
    go_wp2_with (first | ((with_reducible refine gate_callee (f := 49) rfl ?_); refine goesL_ (some 12) rfl rfl Tryd.func49 (by kernel_rfl) rfl #[.string a0, .int .i64 a1] rfl (by (try simp only [List.map_toArray, List.map_cons, List.map_nil]); first | done | rfl | (simp only [List.length_drop, List.length_take]; rfl)) ?_; (with_reducible refine (codec_kind.calls k a0 a1 t107 _ ?side99  A3.out).mono ?_); (case side99 => first | exact HG.out | exact Glob.below HG.out (by repeat (first | (with_reducible first | exact HB.out | apply below_alloc | apply pw_below_drewN | apply below_drew1) | exact HB.out))); rintro e w' ⟨rfl, ⟨nd, rfl⟩⟩; refine ⟨_, rfl, ?_⟩))
    go_ret3
    exact ⟨by first | rfl | (simp [errW_none, errW_some] <;> rfl) | (simp [*, errW_none, errW_some] <;> rfl), by repeat (first | (with_reducible first | exact HB.out | apply below_alloc | apply pw_below_drewN | apply below_drew1) | exact HB.out)⟩
end Go.Proofs.YtndeikikeeeigaaDoor.Q
end
section
namespace Go.Proofs.YtndeikikeeeigaaDoor.Q
open Go.RowKit Go.Proofs.YtndeikikeeeigaaDoorW.PrintWords Go.Proofs.YtndeikikeeeigaaDoorW.PrintLast Go.Proofs.YtndeikikeeeigaaDoorW.PrintMore
attribute [local go_sem] max2_int min2_int max_two min_two max_three min_three max_four min_four
set_option linter.unusedVariables false
set_option linter.unusedSimpArgs false
def codec_list.f (k : Nat) (a0 : ByteArray) (a1 : Int) : Option (Int × Int × Bool) := (codec_kind.f k a0 a1).bind fun t111 => (if t111 = 6 then ((codec_raw.f k a0 (wrap64 (a1 + 1)) 3).bind fun bt112 => (if bt112.2.2 = true then (if bt112.1 > 65535 then (some (0, 0, false)) else (some (wrap64 (bt112.1), bt112.2.1, true))) else (some (0, 0, false)))) else (some (0, 0, false)))
theorem codec_list.mono : ∀ a0 a1 k, LeO (codec_list.f k a0 a1) (codec_list.f (k + 1) a0 a1) := by
  intro a0 a1 k
  unfold codec_list.f
  repeat' first
      | (with_reducible exact codec_kind.mono _ _ _)
      | (with_reducible exact codec_raw.mono _ _ _ _)
      | (with_reducible exact LeO.refl _)
      | (with_reducible exact LeO.none _)
      | (with_reducible refine LeO.ite ?_ ?_)
      | (with_reducible refine LeO.bind ?_ (fun _ => ?_))
      | exact codec_kind.mono _ _ _
      | exact codec_raw.mono _ _ _ _
      | exact LeO.none _
      | refine LeO.ite ?_ ?_
      | refine LeO.bind ?_ (fun _ => ?_)
set_option maxHeartbeats 8000000 in
set_option maxRecDepth 100000 in
theorem codec_list.calls (k : Nat) (a0 : ByteArray) (a1 : Int) (r1 : Int) (r2 : Int) (r3 : Bool) (w : World) (hG : Glob w) (h : codec_list.f k a0 a1 = some (r1, r2, r3)) :
    Calls Tryd.prog 57 #[.string a0, .int .i64 a1] w fun e w' => e = .returned (.tuple #[.int .i64 r1, .int .i64 r2, .bool r3]) ∧ Below w.heap.size w w' := by
  have HG := Aside0.mk hG
  clear hG
  have HB := Aside0.mk (Below.refl w.heap.size w)
  have H : ((codec_kind.f k a0 a1).bind fun t111 => (if t111 = 6 then ((codec_raw.f k a0 (wrap64 (a1 + 1)) 3).bind fun bt112 => (if bt112.2.2 = true then (if bt112.1 > 65535 then (some (0, 0, false)) else (some (wrap64 (bt112.1), bt112.2.1, true))) else (some (0, 0, false)))) else (some (0, 0, false)))) = some (r1, r2, r3) := h
  clear h
  replace H := Option.bind_eq_some_iff.mp H
  obtain ⟨t111, A30, H⟩ := H
  replace H : (if t111 = 6 then ((codec_raw.f k a0 (wrap64 (a1 + 1)) 3).bind fun bt112 => (if bt112.2.2 = true then (if bt112.1 > 65535 then (some (0, 0, false)) else (some (wrap64 (bt112.1), bt112.2.1, true))) else (some (0, 0, false)))) else (some (0, 0, false))) = some (r1, r2, r3) := H
  have A3 := Aside0.mk A30
  clear A30
  by_cases c4 : t111 = 6
  · rw [if_pos c4] at H
    have c4b0 : (t111 == 6) = true := beq_iff_eq.mpr c4
    have c4b1 : (t111 != 6) = false := bne_eq_false_iff_eq.mpr c4
    clear c4
    replace H := Option.bind_eq_some_iff.mp H
    obtain ⟨⟨t112, t113, t114⟩, A50, H⟩ := H
    replace H : (if t114 = true then (if t112 > 65535 then (some (0, 0, false)) else (some (wrap64 (t112), t113, true))) else (some (0, 0, false))) = some (r1, r2, r3) := H
    have A5 := Aside0.mk A50
    clear A50
    by_cases c6 : t114 = true
    · subst c6
      have H1 : (if t112 > 65535 then (some (0, 0, false)) else (some (wrap64 (t112), t113, true))) = some (r1, r2, r3) := by rw [if_pos rfl] at H; exact H
      clear H
      have H := H1
      clear H1
      by_cases c7 : t112 > 65535
      · rw [if_pos c7] at H
        have c7b0 : decide (65535 < t112) = true := decide_eq_true c7
        clear c7
        simp only [Option.some.injEq, Prod.mk.injEq] at H
        obtain ⟨rfl, rfl, rfl⟩ := H
        go_enter Tryd.func57, Tryd.ntmps57
        go_wp2_with (first | ((with_reducible refine gate_callee (f := 49) rfl ?_); refine goesL_ (some 12) rfl rfl Tryd.func49 (by kernel_rfl) rfl #[.string a0, .int .i64 a1] rfl (by (try simp only [List.map_toArray, List.map_cons, List.map_nil]); first | done | rfl | (simp only [List.length_drop, List.length_take]; rfl)) ?_; (with_reducible refine (codec_kind.calls k a0 a1 t111 _ ?side99  A3.out).mono ?_); (case side99 => first | exact HG.out | exact Glob.below HG.out (by repeat (first | (with_reducible first | exact HB.out | apply below_alloc | apply pw_below_drewN | apply below_drew1) | exact HB.out))); rintro e w' ⟨rfl, ⟨nd, rfl⟩⟩; refine ⟨_, rfl, ?_⟩) | ((with_reducible refine gate_callee (f := 52) rfl ?_); refine goesL_ (some 18) rfl rfl Tryd.func52 (by kernel_rfl) rfl #[.string a0, .int .i64 (wrap64 (a1 + 1)), .int .i64 3] rfl (by (try simp only [List.map_toArray, List.map_cons, List.map_nil]); first | done | rfl | (simp only [List.length_drop, List.length_take]; rfl)) ?_; (with_reducible refine (codec_raw.calls k a0 (wrap64 (a1 + 1)) 3 t112 t113 true _ ?side99  A5.out).mono ?_); (case side99 => first | exact HG.out | exact Glob.below HG.out (by repeat (first | (with_reducible first | exact HB.out | apply below_alloc | apply pw_below_drewN | apply below_drew1) | exact HB.out))); rintro e w8 ⟨rfl, hb⟩; refine ⟨_, rfl, ?_⟩; have n0_ := Aside0.mk (below_step (by repeat (first | (with_reducible first | exact HB.out | apply below_alloc | apply pw_below_drewN | apply below_drew1) | exact HB.out)) hb); clear HB; have HB := n0_; clear n0_; (try clear hb); (try clear hb2); (try clear hk); (try clear hi)))
        go_ret3
        exact ⟨by first | rfl | (simp [errW_none, errW_some] <;> rfl) | (simp [*, errW_none, errW_some] <;> rfl), by repeat (first | (with_reducible first | exact HB.out | apply below_alloc | apply pw_below_drewN | apply below_drew1) | exact HB.out)⟩
      · rw [if_neg c7] at H
        have c7b0 : decide (65535 < t112) = false := decide_eq_false c7
        clear c7
        simp only [Option.some.injEq, Prod.mk.injEq] at H
        obtain ⟨rfl, rfl, rfl⟩ := H
        go_enter Tryd.func57, Tryd.ntmps57
        go_wp2_with (first | ((with_reducible refine gate_callee (f := 49) rfl ?_); refine goesL_ (some 12) rfl rfl Tryd.func49 (by kernel_rfl) rfl #[.string a0, .int .i64 a1] rfl (by (try simp only [List.map_toArray, List.map_cons, List.map_nil]); first | done | rfl | (simp only [List.length_drop, List.length_take]; rfl)) ?_; (with_reducible refine (codec_kind.calls k a0 a1 t111 _ ?side99  A3.out).mono ?_); (case side99 => first | exact HG.out | exact Glob.below HG.out (by repeat (first | (with_reducible first | exact HB.out | apply below_alloc | apply pw_below_drewN | apply below_drew1) | exact HB.out))); rintro e w' ⟨rfl, ⟨nd, rfl⟩⟩; refine ⟨_, rfl, ?_⟩) | ((with_reducible refine gate_callee (f := 52) rfl ?_); refine goesL_ (some 18) rfl rfl Tryd.func52 (by kernel_rfl) rfl #[.string a0, .int .i64 (wrap64 (a1 + 1)), .int .i64 3] rfl (by (try simp only [List.map_toArray, List.map_cons, List.map_nil]); first | done | rfl | (simp only [List.length_drop, List.length_take]; rfl)) ?_; (with_reducible refine (codec_raw.calls k a0 (wrap64 (a1 + 1)) 3 t112 t113 true _ ?side99  A5.out).mono ?_); (case side99 => first | exact HG.out | exact Glob.below HG.out (by repeat (first | (with_reducible first | exact HB.out | apply below_alloc | apply pw_below_drewN | apply below_drew1) | exact HB.out))); rintro e w9 ⟨rfl, hb⟩; refine ⟨_, rfl, ?_⟩; have n0_ := Aside0.mk (below_step (by repeat (first | (with_reducible first | exact HB.out | apply below_alloc | apply pw_below_drewN | apply below_drew1) | exact HB.out)) hb); clear HB; have HB := n0_; clear n0_; (try clear hb); (try clear hb2); (try clear hk); (try clear hi)))
        go_ret3
        exact ⟨by first | rfl | (simp [errW_none, errW_some] <;> rfl) | (simp [*, errW_none, errW_some] <;> rfl), by repeat (first | (with_reducible first | exact HB.out | apply below_alloc | apply pw_below_drewN | apply below_drew1) | exact HB.out)⟩
    · replace c6 := Bool.eq_false_iff.mpr c6
      subst c6
      have H1 : (some (0, 0, false)) = some (r1, r2, r3) := by rw [if_neg (show ¬ (false = true) by decide)] at H; exact H
      clear H
      have H := H1
      clear H1
      simp only [Option.some.injEq, Prod.mk.injEq] at H
      obtain ⟨rfl, rfl, rfl⟩ := H
      go_enter Tryd.func57, Tryd.ntmps57
      go_wp2_with (first | ((with_reducible refine gate_callee (f := 49) rfl ?_); refine goesL_ (some 12) rfl rfl Tryd.func49 (by kernel_rfl) rfl #[.string a0, .int .i64 a1] rfl (by (try simp only [List.map_toArray, List.map_cons, List.map_nil]); first | done | rfl | (simp only [List.length_drop, List.length_take]; rfl)) ?_; (with_reducible refine (codec_kind.calls k a0 a1 t111 _ ?side99  A3.out).mono ?_); (case side99 => first | exact HG.out | exact Glob.below HG.out (by repeat (first | (with_reducible first | exact HB.out | apply below_alloc | apply pw_below_drewN | apply below_drew1) | exact HB.out))); rintro e w' ⟨rfl, ⟨nd, rfl⟩⟩; refine ⟨_, rfl, ?_⟩) | ((with_reducible refine gate_callee (f := 52) rfl ?_); refine goesL_ (some 18) rfl rfl Tryd.func52 (by kernel_rfl) rfl #[.string a0, .int .i64 (wrap64 (a1 + 1)), .int .i64 3] rfl (by (try simp only [List.map_toArray, List.map_cons, List.map_nil]); first | done | rfl | (simp only [List.length_drop, List.length_take]; rfl)) ?_; (with_reducible refine (codec_raw.calls k a0 (wrap64 (a1 + 1)) 3 t112 t113 false _ ?side99  A5.out).mono ?_); (case side99 => first | exact HG.out | exact Glob.below HG.out (by repeat (first | (with_reducible first | exact HB.out | apply below_alloc | apply pw_below_drewN | apply below_drew1) | exact HB.out))); rintro e w10 ⟨rfl, hb⟩; refine ⟨_, rfl, ?_⟩; have n0_ := Aside0.mk (below_step (by repeat (first | (with_reducible first | exact HB.out | apply below_alloc | apply pw_below_drewN | apply below_drew1) | exact HB.out)) hb); clear HB; have HB := n0_; clear n0_; (try clear hb); (try clear hb2); (try clear hk); (try clear hi)))
      go_ret3
      exact ⟨by first | rfl | (simp [errW_none, errW_some] <;> rfl) | (simp [*, errW_none, errW_some] <;> rfl), by repeat (first | (with_reducible first | exact HB.out | apply below_alloc | apply pw_below_drewN | apply below_drew1) | exact HB.out)⟩
  · rw [if_neg c4] at H
    have c4b0 : (t111 == 6) = false := beq_eq_false_iff_ne.mpr c4
    have c4b1 : (t111 != 6) = true := bne_iff_ne.mpr c4
    simp only [Option.some.injEq, Prod.mk.injEq] at H
    obtain ⟨rfl, rfl, rfl⟩ := H
    go_enter Tryd.func57, Tryd.ntmps57
    go_wp2_with (first | ((with_reducible refine gate_callee (f := 49) rfl ?_); refine goesL_ (some 12) rfl rfl Tryd.func49 (by kernel_rfl) rfl #[.string a0, .int .i64 a1] rfl (by (try simp only [List.map_toArray, List.map_cons, List.map_nil]); first | done | rfl | (simp only [List.length_drop, List.length_take]; rfl)) ?_; (with_reducible refine (codec_kind.calls k a0 a1 t111 _ ?side99  A3.out).mono ?_); (case side99 => first | exact HG.out | exact Glob.below HG.out (by repeat (first | (with_reducible first | exact HB.out | apply below_alloc | apply pw_below_drewN | apply below_drew1) | exact HB.out))); rintro e w' ⟨rfl, ⟨nd, rfl⟩⟩; refine ⟨_, rfl, ?_⟩))
    go_ret3
    exact ⟨by first | rfl | (simp [errW_none, errW_some] <;> rfl) | (simp [*, errW_none, errW_some] <;> rfl), by repeat (first | (with_reducible first | exact HB.out | apply below_alloc | apply pw_below_drewN | apply below_drew1) | exact HB.out)⟩
end Go.Proofs.YtndeikikeeeigaaDoor.Q
end
section
namespace Go.Proofs.YtndeikikeeeigaaDoor.Pure
open Go.RowKit Go.Proofs.YtndeikikeeeigaaDoor.Q Go.Proofs.YtndeikikeeeigaaDoorW.PrintWords Go.Proofs.YtndeikikeeeigaaDoorW.PrintLast Go.Proofs.YtndeikikeeeigaaDoorW.PrintMore
set_option linter.unusedVariables false
set_option linter.unusedSimpArgs false
def beL (V : Int) : Nat → List Int
  | 0 => []
  | n + 1 => beL (V / 256) n ++ [V % 256]
theorem beL_length (V : Int) (n : Nat) : (beL V n).length = n := by
  induction n generalizing V with
  | zero => rfl
  | succ n ih => simp [beL, ih]
theorem strOfNums_size (l : List Int) : (strOfNums l).size = l.length := by
  show ((l.map fun n => UInt8.ofNat n.toNat).toArray).size = _
  simp
theorem refU_loop : ∀ (d : Nat) (x0 : Int) (x3 : List Int) (k : Nat), 0 ≤ x0 → x0 < 18446744073709551616 → nb x0 = (d : Int) + 1 → x3.length + d ≤ 100 →
    plenumref02_Unsigned.l0 (k + d + 1) x0 x3 = some (strOfNums ((16 + ((d + x3.length : Nat) : Int)) :: (beL (x0 / 256) d ++ x3))) := by
  intro d
  induction d with
  | zero =>
    intro x0 x3 k h0 h1 h2 h3
    have hx : ¬ x0 > 255 := by intro h; unfold nb at h2; omega
    show plenumref02_Unsigned.l0 (k + 1) x0 x3 = _
    rw [plenumref02_Unsigned.l0, if_neg hx]
    simp only [Option.bind_some]
    rw [if_pos (by simp; omega), w64 (n := 16 + (x3.length : Int)) (by omega) (by omega), Int.emod_eq_of_lt (by omega) (by omega)]
    simp [beL]
  | succ d ih =>
    intro x0 x3 k h0 h1 h2 h3
    have hx : x0 > 255 := by have := @nb_small x0; omega
    show plenumref02_Unsigned.l0 ((k + d + 1) + 1) x0 x3 = _
    rw [plenumref02_Unsigned.l0, if_pos hx]
    simp only [Option.bind_some]
    rw [if_pos (by simp; omega), Int.tdiv_eq_ediv_of_nonneg h0, u64w, Int.emod_eq_of_lt (b := 18446744073709551616) (by omega) (by omega), ih _ _ k (by omega) (by omega) (by rw [nb_div hx h1]; omega) (by simp; omega)]
    rw [show d + ([x0 / 256 % 256] ++ x3).length = d + 1 + x3.length by simp; omega]
    simp [beL]
theorem refU_eq (k : Nat) (V : Int) (h0 : 0 ≤ V) (h1 : V < 18446744073709551616) : plenumref02_Unsigned.f (k + 8) V = some (strOfNums ((16 + nb V) :: beL V (nb V).toNat)) := by
  have hr := nb_range V
  have := refU_loop (nb V - 1).toNat V [V % 256] (k + 8 - (nb V - 1).toNat - 1) h0 h1 (by omega) (by simp; omega)
  rw [show k + 8 - (nb V - 1).toNat - 1 + (nb V - 1).toNat + 1 = k + 8 by omega] at this
  unfold plenumref02_Unsigned.f
  rw [this]
  congr 2
  obtain ⟨m, hm⟩ : ∃ m : Nat, nb V = (m : Int) + 1 := ⟨(nb V - 1).toNat, by omega⟩
  rw [hm, show ((m : Int) + 1 - 1).toNat = m by omega, show ((m : Int) + 1).toNat = m + 1 by omega]
  congr 1
theorem refS_loop : ∀ (d : Nat) (x0 : Int) (x3 : List Int) (k : Nat), -9223372036854775808 ≤ x0 → x0 ≤ 9223372036854775807 → ss x0 = (d : Int) + 1 → x3.length + d ≤ 100 →
    plenumref02_Signed.l0 (k + d + 1) x0 x3 = some (strOfNums ((32 + ((d + x3.length : Nat) : Int)) :: (beL (x0 / 256) d ++ x3))) := by
  intro d
  induction d with
  | zero =>
    intro x0 x3 k h0 h1 h2 h3
    have hx : -128 ≤ x0 ∧ x0 ≤ 127 := by unfold ss sb at h2; omega
    show plenumref02_Signed.l0 (k + 1) x0 x3 = _
    rw [plenumref02_Signed.l0, if_neg (by omega), if_neg (by omega)]
    simp only [Option.bind_some]
    rw [if_pos (by simp; omega), w64 (n := 32 + (x3.length : Int)) (by omega) (by omega), Int.emod_eq_of_lt (by omega) (by omega)]
    simp [beL]
  | succ d ih =>
    intro x0 x3 k h0 h1 h2 h3
    have hx : x0 < -128 ∨ 127 < x0 := by have := @ss_small x0; omega
    have e := ih (x0 / 256) ([x0 / 256 % 256] ++ x3) k (by omega) (by omega) (by rw [ss_div hx h0 h1]; omega) (by simp; omega)
    show plenumref02_Signed.l0 ((k + d + 1) + 1) x0 x3 = _
    have e2 : some (strOfNums ((32 + ((d + ([x0 / 256 % 256] ++ x3).length : Nat) : Int)) :: (beL (x0 / 256 / 256) d ++ ([x0 / 256 % 256] ++ x3)))) = some (strOfNums ((32 + ((d + 1 + x3.length : Nat) : Int)) :: (beL (x0 / 256) (d + 1) ++ x3))) := by
      rw [show d + ([x0 / 256 % 256] ++ x3).length = d + 1 + x3.length by simp; omega]
      simp [beL]
    rw [plenumref02_Signed.l0]
    by_cases c : x0 < -128
    · rw [if_pos c]
      simp only [Option.bind_some]
      rw [if_pos (by simp; omega), e, e2]
    · rw [if_neg c, if_pos (by omega)]
      simp only [Option.bind_some]
      rw [if_pos (by simp; omega), e, e2]
theorem refS_eq (k : Nat) (V : Int) (h0 : -9223372036854775808 ≤ V) (h1 : V ≤ 9223372036854775807) : plenumref02_Signed.f (k + 8) V = some (strOfNums ((32 + ss V) :: beL V (ss V).toNat)) := by
  have hr := ss_range V h0 h1
  have := refS_loop (ss V - 1).toNat V [V % 256] (k + 8 - (ss V - 1).toNat - 1) h0 h1 (by omega) (by simp; omega)
  rw [show k + 8 - (ss V - 1).toNat - 1 + (ss V - 1).toNat + 1 = k + 8 by omega] at this
  unfold plenumref02_Signed.f
  rw [this]
  congr 2
  obtain ⟨m, hm⟩ : ∃ m : Nat, ss V = (m : Int) + 1 := ⟨(ss V - 1).toNat, by omega⟩
  rw [hm, show ((m : Int) + 1 - 1).toNat = m by omega, show ((m : Int) + 1).toNat = m + 1 by omega]
  congr 1
theorem cnt_of {s : ByteArray} {p : Int} (h : kindS s p = 3 ∨ kindS s p = 4) : 1 ≤ cnt s p ∧ cnt s p ≤ 8 := by
  obtain ⟨a, b, c⟩ := kindS_in (s := s) (p := p) (by omega)
  rw [c] at h
  unfold cnt
  rcases h with h | h
  · have := kd3.1 h; omega
  · have := kd4.1 h; omega
def uS (s : ByteArray) (p : Int) : Option (Int × Int) := if kindS s p = 3 ∧ p + 1 + (cnt s p : Int) ≤ (s.size : Int) ∧ nb (val s p) = (cnt s p : Int) then some (val s p, p + 1 + (cnt s p : Int)) else none
def sS (s : ByteArray) (p : Int) : Option (Int × Int) := if kindS s p = 4 ∧ p + 1 + (cnt s p : Int) ≤ (s.size : Int) ∧ ss (sgn (cnt s p) (val s p)) = (cnt s p : Int) then some (sgn (cnt s p) (val s p), p + 1 + (cnt s p : Int)) else none
def opt3 (o : Option (Int × Int)) : Int × Int × Bool := match o with | some (v, e) => (v, e, true) | none => (0, 0, false)
end Go.Proofs.YtndeikikeeeigaaDoor.Pure
end
section
namespace Go.Proofs.YtndeikikeeeigaaDoor.Q
open Go.RowKit Go.Proofs.YtndeikikeeeigaaDoorW.PrintWords Go.Proofs.YtndeikikeeeigaaDoorW.PrintLast Go.Proofs.YtndeikikeeeigaaDoorW.PrintMore
attribute [local go_sem] max2_int min2_int max_two min_two max_three min_three max_four min_four
set_option linter.unusedVariables false
set_option linter.unusedSimpArgs false
def plenumref02_Bool.f (a0 : Bool) : Option (ByteArray) := if a0 = true then (some (⟨#[2]⟩ : ByteArray)) else (some (⟨#[1]⟩ : ByteArray))
set_option maxHeartbeats 8000000 in
set_option maxRecDepth 100000 in
theorem plenumref02_Bool.calls (a0 : Bool) (r : ByteArray) (w : World) (hG : Glob w) (h : plenumref02_Bool.f a0 = some r) :
    Calls Tryd.prog 42 #[.bool a0] w fun e w' => e = .returned (.string r) ∧ Drawn0 w w' := by
  have HG := Aside0.mk hG
  clear hG
  have H : (if a0 = true then (some (⟨#[2]⟩ : ByteArray)) else (some (⟨#[1]⟩ : ByteArray))) = some r := h
  clear h
  by_cases c2 : a0 = true
  · subst c2
    have H1 : (some (⟨#[2]⟩ : ByteArray)) = some r := by rw [if_pos rfl] at H; exact H
    clear H
    have H := H1
    clear H1
    obtain rfl := Option.some.inj H
    go_enter Tryd.func42, Tryd.ntmps42
    go_wp2
    go_ret
    exact ⟨by first | rfl | (simp; done) | (simp [*]; done), by repeat (first | exact Drawn0.refl _ | apply Drawn0.step)⟩
  · replace c2 := Bool.eq_false_iff.mpr c2
    subst c2
    have H1 : (some (⟨#[1]⟩ : ByteArray)) = some r := by rw [if_neg (show ¬ (false = true) by decide)] at H; exact H
    clear H
    have H := H1
    clear H1
    obtain rfl := Option.some.inj H
    go_enter Tryd.func42, Tryd.ntmps42
    go_wp2
    go_ret
    exact ⟨by first | rfl | (simp; done) | (simp [*]; done), by repeat (first | exact Drawn0.refl _ | apply Drawn0.step)⟩
end Go.Proofs.YtndeikikeeeigaaDoor.Q
end
section
namespace Go.Proofs.YtndeikikeeeigaaDoor.Q
open Go.RowKit Go.Proofs.YtndeikikeeeigaaDoorW.PrintWords Go.Proofs.YtndeikikeeeigaaDoorW.PrintLast Go.Proofs.YtndeikikeeeigaaDoorW.PrintMore
attribute [local go_sem] max2_int min2_int max_two min_two max_three min_three max_four min_four
set_option linter.unusedVariables false
set_option linter.unusedSimpArgs false
def plenumref02_Text.f (k : Nat) (a0 : ByteArray) : Option (ByteArray) := (plenumref02_Unsigned.f k (IntKind.u64.wrap ((a0.size : Int)))).bind fun t264 => (if 1 + t264.size ≤ 9223372036854775807 then (if 1 + t264.size + a0.size ≤ 9223372036854775807 then (some (((⟨#[48]⟩ : ByteArray) ++ t264) ++ a0)) else (none)) else (none))
set_option maxHeartbeats 8000000 in
set_option maxRecDepth 100000 in
theorem plenumref02_Text.calls (k : Nat) (a0 : ByteArray) (r : ByteArray) (w : World) (hG : Glob w) (h : plenumref02_Text.f k a0 = some r) :
    Calls Tryd.prog 47 #[.string a0] w fun e w' => e = .returned (.string r) ∧ Below w.heap.size w w' := by
  have HG := Aside0.mk hG
  clear hG
  have HB := Aside0.mk (Below.refl w.heap.size w)
  have H : ((plenumref02_Unsigned.f k (IntKind.u64.wrap ((a0.size : Int)))).bind fun t264 => (if 1 + t264.size ≤ 9223372036854775807 then (if 1 + t264.size + a0.size ≤ 9223372036854775807 then (some (((⟨#[48]⟩ : ByteArray) ++ t264) ++ a0)) else (none)) else (none))) = some r := h
  clear h
  replace H := Option.bind_eq_some_iff.mp H
  obtain ⟨t264, A20, H⟩ := H
  replace H : (if 1 + t264.size ≤ 9223372036854775807 then (if 1 + t264.size + a0.size ≤ 9223372036854775807 then (some (((⟨#[48]⟩ : ByteArray) ++ t264) ++ a0)) else (none)) else (none)) = some r := H
  have A2 := Aside0.mk A20
  clear A20
  by_cases c3 : 1 + t264.size ≤ 9223372036854775807
  · rw [if_pos c3] at H
    have c3b0 := eq_true c3
    have c3b1 : decide (1 + t264.size ≤ 9223372036854775807) = true := decide_eq_true c3
    try have c3b2 : (9223372036854775807 < 1 + t264.size) = False := eq_false (Nat.not_lt.2 c3)
    by_cases c4 : 1 + t264.size + a0.size ≤ 9223372036854775807
    · rw [if_pos c4] at H
      have c4b0 := eq_true c4
      have c4b1 : decide (1 + t264.size + a0.size ≤ 9223372036854775807) = true := decide_eq_true c4
      try have c4b2 : (9223372036854775807 < 1 + t264.size + a0.size) = False := eq_false (Nat.not_lt.2 c4)
      obtain rfl := Option.some.inj H
      have hw_ : IntKind.u64.wrap ((a0.size : Int)) = (a0.size : Int) := by
        show ((a0.size : Int)) % 18446744073709551616 = _
        omega
      rw [hw_] at A2
      go_enter Tryd.func47, Tryd.ntmps47
      go_wp2_with (first | ((with_reducible refine gate_callee (f := 44) rfl ?_); refine goesL_ (some 6) rfl rfl Tryd.func44 (by kernel_rfl) rfl #[.int .u64 (a0.size : Int)] rfl (by (try simp only [List.map_toArray, List.map_cons, List.map_nil]); first | done | rfl | (simp only [List.length_drop, List.length_take]; rfl)) ?_; (with_reducible refine (plenumref02_Unsigned.calls k (a0.size : Int) t264 _ ?side99  A2.out).mono ?_); (case side99 => first | exact HG.out | exact Glob.below HG.out (by repeat (first | (with_reducible first | exact HB.out | apply below_alloc | apply pw_below_drewN | apply below_drew1) | exact HB.out))); rintro e w5 ⟨rfl, hb⟩; refine ⟨_, rfl, ?_⟩; have n0_ := Aside0.mk (below_step (by repeat (first | (with_reducible first | exact HB.out | apply below_alloc | apply pw_below_drewN | apply below_drew1) | exact HB.out)) hb); clear HB; have HB := n0_; clear n0_; (try clear hb); (try clear hb2); (try clear hk); (try clear hi)))
      go_ret
      exact ⟨by first | rfl | (simp [errW_none, errW_some] <;> rfl) | (simp [*, errW_none, errW_some] <;> rfl), by repeat (first | (with_reducible first | exact HB.out | apply below_alloc | apply pw_below_drewN | apply below_drew1) | exact HB.out)⟩
    · rw [if_neg c4] at H
      exact absurd H (by simp)
  · rw [if_neg c3] at H
    exact absurd H (by simp)
end Go.Proofs.YtndeikikeeeigaaDoor.Q
end
section
namespace Go.Proofs.YtndeikikeeeigaaDoor.Q
open Go.RowKit Go.Proofs.YtndeikikeeeigaaDoorW.PrintWords Go.Proofs.YtndeikikeeeigaaDoorW.PrintLast Go.Proofs.YtndeikikeeeigaaDoorW.PrintMore
attribute [local go_sem] max2_int min2_int max_two min_two max_three min_three max_four min_four
set_option linter.unusedVariables false
set_option linter.unusedSimpArgs false
def plenumref02_Head.f (k : Nat) (a0 : Int) : Option (ByteArray) := (plenumref02_Unsigned.f k (IntKind.u64.wrap (a0))).bind fun t265 => (if 1 + t265.size ≤ 9223372036854775807 then (some ((⟨#[64]⟩ : ByteArray) ++ t265)) else (none))
set_option maxHeartbeats 8000000 in
set_option maxRecDepth 100000 in
theorem plenumref02_Head.calls (k : Nat) (a0 : Int) (r : ByteArray) (w : World) (hG : Glob w) (h : plenumref02_Head.f k a0 = some r) :
    Calls Tryd.prog 48 #[.int .i64 a0] w fun e w' => e = .returned (.string r) ∧ Below w.heap.size w w' := by
  have HG := Aside0.mk hG
  clear hG
  have HB := Aside0.mk (Below.refl w.heap.size w)
  have H : ((plenumref02_Unsigned.f k (IntKind.u64.wrap (a0))).bind fun t265 => (if 1 + t265.size ≤ 9223372036854775807 then (some ((⟨#[64]⟩ : ByteArray) ++ t265)) else (none))) = some r := h
  clear h
  replace H := Option.bind_eq_some_iff.mp H
  obtain ⟨t265, A20, H⟩ := H
  replace H : (if 1 + t265.size ≤ 9223372036854775807 then (some ((⟨#[64]⟩ : ByteArray) ++ t265)) else (none)) = some r := H
  have A2 := Aside0.mk A20
  clear A20
  by_cases c3 : 1 + t265.size ≤ 9223372036854775807
  · rw [if_pos c3] at H
    have c3b0 := eq_true c3
    have c3b1 : decide (1 + t265.size ≤ 9223372036854775807) = true := decide_eq_true c3
    try have c3b2 : (9223372036854775807 < 1 + t265.size) = False := eq_false (Nat.not_lt.2 c3)
    obtain rfl := Option.some.inj H
    go_enter Tryd.func48, Tryd.ntmps48
    go_wp2_with (first | ((with_reducible refine gate_callee (f := 44) rfl ?_); refine goesL_ (some 5) rfl rfl Tryd.func44 (by kernel_rfl) rfl #[.int .u64 (IntKind.u64.wrap (a0))] rfl (by (try simp only [List.map_toArray, List.map_cons, List.map_nil]); first | done | rfl | (simp only [List.length_drop, List.length_take]; rfl)) ?_; (with_reducible refine (plenumref02_Unsigned.calls k (IntKind.u64.wrap (a0)) t265 _ ?side99  A2.out).mono ?_); (case side99 => first | exact HG.out | exact Glob.below HG.out (by repeat (first | (with_reducible first | exact HB.out | apply below_alloc | apply pw_below_drewN | apply below_drew1) | exact HB.out))); rintro e w4 ⟨rfl, hb⟩; refine ⟨_, rfl, ?_⟩; have n0_ := Aside0.mk (below_step (by repeat (first | (with_reducible first | exact HB.out | apply below_alloc | apply pw_below_drewN | apply below_drew1) | exact HB.out)) hb); clear HB; have HB := n0_; clear n0_; (try clear hb); (try clear hb2); (try clear hk); (try clear hi)))
    go_ret
    exact ⟨by first | rfl | (simp [errW_none, errW_some] <;> rfl) | (simp [*, errW_none, errW_some] <;> rfl), by repeat (first | (with_reducible first | exact HB.out | apply below_alloc | apply pw_below_drewN | apply below_drew1) | exact HB.out)⟩
  · rw [if_neg c3] at H
    exact absurd H (by simp)
end Go.Proofs.YtndeikikeeeigaaDoor.Q
end
section
namespace Go.Proofs.YtndeikikeeeigaaDoor.Pure
open Go.RowKit Go.Proofs.YtndeikikeeeigaaDoor.Q Go.Proofs.YtndeikikeeeigaaDoorW.PrintWords Go.Proofs.YtndeikikeeeigaaDoorW.PrintLast Go.Proofs.YtndeikikeeeigaaDoorW.PrintMore
set_option linter.unusedVariables false
def beH (V : Int) : Nat → List Int
  | 0 => []
  | n + 1 => (V / 256 ^ n % 256) :: beH V n
theorem beH_length (V : Int) (n : Nat) : (beH V n).length = n := by
  induction n with
  | zero => rfl
  | succ n ih => simp [beH, ih]
theorem beH_snoc (V : Int) (n : Nat) : beH V (n + 1) = beH (V / 256) n ++ [V % 256] := by
  induction n with
  | zero => simp [beH]
  | succ n ih =>
    rw [beH, ih, beH, List.cons_append]
    congr 2
    rw [Int.pow_succ, Int.mul_comm, Int.ediv_ediv_of_nonneg (by decide)]
theorem beL_eq (n : Nat) : ∀ V : Int, beL V n = beH V n := by
  induction n with
  | zero => intro V; rfl
  | succ n ih => intro V; rw [beL, ih, beH_snoc]
theorem number_loop (x : Int) : ∀ (d k : Nat) (acc : List Int), acc.length + d ≤ 100 → d ≤ 8 → codec_number.l0 (k + d + 1) x acc ((d : Int) - 1) = some (acc ++ beH x d) := by
  intro d
  induction d with
  | zero =>
    intro k acc h1 h2
    rw [show k + 0 + 1 = k + 1 by omega, codec_number.l0, if_neg (by omega)]
    simp [beH]
  | succ d ih =>
    intro k acc h1 h2
    have e : shr .u64 x (wrap64 (8 * (d : Int))) = x / 256 ^ d := by
      unfold shr
      rw [w64 (by omega) (by omega), show (8 * (d : Int)).toNat = 8 * d by omega, Nat.min_eq_left (by show 8 * d ≤ 64; omega), Int.pow_mul]
      rfl
    rw [show k + (d + 1) + 1 = (k + d + 1) + 1 by omega, show ((d + 1 : Nat) : Int) - 1 = (d : Int) by omega, codec_number.l0, if_pos (by omega), if_pos (by rw [w64 (by omega) (by omega)]; omega), if_pos (by omega), e, w64 (by omega) (by omega), ih k _ (by simp; omega) (by omega)]
    simp [beH]
theorem number_eq (k : Nat) (tag x : Int) (n : Nat) (h1 : 1 ≤ n) (hn : n ≤ 8) (ht : 0 ≤ tag ∧ tag ≤ 64) : codec_number.f (k + 10) tag x (n : Int) = some ((tag + (n : Int)) :: beH x n) := by
  unfold codec_number.f
  have := number_loop x n (k + 10 - n - 1) [tag + (n : Int)] (by simp; omega) hn
  rw [show k + 10 - n - 1 + n + 1 = k + 10 by omega] at this
  rw [w64 (by omega) (by omega), show (tag + (n : Int) % 256) % 256 = tag + (n : Int) by omega, this]
  rfl
def uB (n : Int) : List Int := (16 + nb n) :: beL n (nb n).toNat
def sB (n : Int) : List Int := (32 + ss n) :: beL n (ss n).toNat
theorem beH_wrap (V : Int) (n : Nat) (hn : n ≤ 8) : beH (IntKind.u64.wrap V) n = beH V n := by
  have key : ∀ i : Nat, i ≤ 7 → IntKind.u64.wrap V / 256 ^ i % 256 = V / 256 ^ i % 256 := fun i hi => by
    rw [u64w]
    obtain rfl | rfl | rfl | rfl | rfl | rfl | rfl | rfl : i = 0 ∨ i = 1 ∨ i = 2 ∨ i = 3 ∨ i = 4 ∨ i = 5 ∨ i = 6 ∨ i = 7 := by omega
    all_goals simp only [Int.reducePow]
    all_goals omega
  induction n with
  | zero => rfl
  | succ n ih => rw [beH, beH, ih (by omega), key n (by omega)]
theorem numUn (k : Nat) (n : Int) (h0 : 0 ≤ n) (h1 : n < 18446744073709551616) : codec_number.f (k + 10) 16 n (nb n) = some (uB n) := by
  have hr := nb_range n
  obtain ⟨m, hm⟩ : ∃ m : Nat, nb n = (m : Int) := ⟨(nb n).toNat, by omega⟩
  unfold uB
  rw [hm, number_eq k 16 n m (by omega) (by omega) (by omega), show ((m : Int)).toNat = m from rfl, beL_eq]
theorem numSg (k : Nat) (n : Int) (h0 : -9223372036854775808 ≤ n) (h1 : n ≤ 9223372036854775807) : codec_number.f (k + 10) 32 (IntKind.u64.wrap n) (ss n) = some (sB n) := by
  have hr := ss_range n h0 h1
  obtain ⟨m, hm⟩ : ∃ m : Nat, ss n = (m : Int) := ⟨(ss n).toNat, by omega⟩
  unfold sB
  rw [hm, number_eq k 32 _ m (by omega) (by omega) (by omega), show ((m : Int)).toNat = m from rfl, beL_eq, beH_wrap n m (by omega)]
theorem uB_len (n : Int) : (uB n).length ≤ 9 := by
  have := nb_range n
  simp [uB, beL_length]
  omega
theorem sB_len (n : Int) (h0 : -9223372036854775808 ≤ n) (h1 : n ≤ 9223372036854775807) : (sB n).length ≤ 9 := by
  have := ss_range n h0 h1
  simp [sB, beL_length]
  omega
theorem strOfNums_app (a b : List Int) : strOfNums (a ++ b) = strOfNums a ++ strOfNums b := by
  apply ByteArray.ext
  rw [ByteArray.data_append]
  simp [strOfNums]
theorem strOfNums_bytes (s : ByteArray) : strOfNums (bytesOf s) = s := by
  apply ByteArray.ext
  apply Array.toList_inj.mp
  show ((bytesOf s).map fun n => UInt8.ofNat n.toNat) = s.data.toList
  unfold bytesOf
  rw [List.map_map]
  conv => rhs; rw [← List.map_id s.data.toList]
  refine List.map_congr_left (fun b _ => ?_)
  show UInt8.ofNat ((b.toNat : Int)).toNat = b
  simp
theorem refText (k : Nat) (s : ByteArray) (hs : s.size ≤ 65535) : plenumref02_Text.f (k + 8) s = some (strOfNums ([48] ++ uB (s.size : Int) ++ bytesOf s)) := by
  unfold plenumref02_Text.f
  rw [u64w, Int.emod_eq_of_lt (by omega) (by omega), refU_eq k _ (by omega) (by omega), Option.bind_some]
  have hl := uB_len (s.size : Int)
  have hz : (strOfNums (uB (s.size : Int))).size ≤ 9 := by rw [strOfNums_size]; exact hl
  have e : ((16 + nb (s.size : Int)) :: beL (s.size : Int) (nb (s.size : Int)).toNat) = uB (s.size : Int) := rfl
  rw [e, if_pos (by omega), if_pos (by omega), strOfNums_app, strOfNums_app, strOfNums_bytes]
  rfl
theorem refHead (k : Nat) (n : Int) (hn : 0 ≤ n ∧ n ≤ 65535) : plenumref02_Head.f (k + 8) n = some (strOfNums ([64] ++ uB n)) := by
  unfold plenumref02_Head.f
  rw [u64w, Int.emod_eq_of_lt (by omega) (by omega), refU_eq k _ (by omega) (by omega), Option.bind_some]
  have hl := uB_len n
  have hz : (strOfNums (uB n)).size ≤ 9 := by rw [strOfNums_size]; exact hl
  have e : ((16 + nb n) :: beL n (nb n).toNat) = uB n := rfl
  rw [e, if_pos (by omega), strOfNums_app]
  rfl
end Go.Proofs.YtndeikikeeeigaaDoor.Pure
end
section
namespace Go.Proofs.YtndeikikeeeigaaDoor.Q
open Go.RowKit Go.Proofs.YtndeikikeeeigaaDoor.Pure Go.Proofs.YtndeikikeeeigaaDoorW.PrintWords Go.Proofs.YtndeikikeeeigaaDoorW.PrintLast Go.Proofs.YtndeikikeeeigaaDoorW.PrintMore
set_option linter.unusedVariables false
set_option linter.unusedSimpArgs false
def wrB (x : S43) : List Int := if x.f0 = 1 then [0] else if x.f0 = 2 then [if x.f1 = true then 2 else 1] else if x.f0 = 3 then uB x.f2 else if x.f0 = 4 then sB x.f3 else if x.f0 = 5 then (if x.f4.size > 65535 then [] else [48] ++ uB (x.f4.size : Int) ++ bytesOf x.f4) else if x.f0 = 6 then (if x.f3 < 0 ∨ 65535 < x.f3 then [] else [64] ++ uB x.f3) else []
structure Ok43 (x : S43) : Prop where
  u0 : 0 ≤ x.f2
  u1 : x.f2 < 18446744073709551616
  n0 : -9223372036854775808 ≤ x.f3
  n1 : x.f3 ≤ 9223372036854775807
abbrev cells43 (x : S43) : Array Value := #[.int .i64 x.f0, .bool x.f1, .int .u64 x.f2, .int .i64 x.f3, .string x.f4]
def WlPost (B g : Nat) (l : List Int) (x : S43) (w : World) (e : Ending) (w' : World) : Prop := e = .returned (.tuple #[.string (strOfNums (wrB x)), .bool true]) ∧ WrAt B g (l ++ wrB x) w' ∧ Below B w w' ∧ KeepT w w'
set_option maxHeartbeats 16000000 in
set_option maxRecDepth 100000 in
theorem wl_null (B g : Nat) (l : List Int) (x : S43) (w : World) (hG : Aside0 (Glob w)) (h0 : 0 < B) (hB : B ≤ w.heap.size) (h : WrAt B g l w) (hl : l.length + 65600 ≤ wrMax) (hx : Ok43 x) (hk : x.f0 = 1) :
    Calls Tryd.prog 18 #[.pointer (some ⟨g, 0, none⟩), .agg (cells43 x)] w fun e w' => WlPost B g l x w e w' := by
  have HA := Aside0.mk h
  have HS := Aside0.mk hB
  have H0 := Aside0.mk h0
  have HL := Aside0.mk hl
  clear h hB h0 hl
  unfold WlPost
  rw [show wrB x = [0] from by unfold wrB; rw [if_pos hk]]
  have k1 : (x.f0 == 1) = true := by rw [hk]; rfl
  clear hk
  go_enter Tryd.func18, Tryd.ntmps18
  go_wp2_with (first | ((with_reducible refine gate_dst (N := 3) rfl ?_); refine box_event ?hg (N := 3) ?hd (cs := cells43 x) (t := 43) ?hr ?_; (case hd => rfl); (case hg => rfl); (case hr => first | (go_simp; done) | (go_simp; rfl)); intro g3 hg w3 hbox hb; have BK3 := Aside0.mk hbox; have HA3 := Aside0.mk (HA.out.below hb); have HB3 := Aside0.mk (hb.mono HS.out); have HK3 := Aside0.mk (KeepT.of_below hb); have c0 := (blk_cell hbox 0).trans rfl; have c1 := (blk_cell hbox 1).trans rfl; have c2 := (blk_cell hbox 2).trans rfl; have c3 := (blk_cell hbox 3).trans rfl; have c4 := (blk_cell hbox 4).trans rfl; clear hb hbox hg) | (go_at_call 34; (with_reducible refine (wr_null B g l _ (Nat.le_trans HS.out HK3.out.size) HA3.out (by have := HL.out; omega)).mono ?_); rintro e w5 ⟨rfl, ha, hb, hk⟩; have HA5 := Aside0.mk ha; have HB5 := Aside0.mk (HB3.out.trans hb); have HK5 := Aside0.mk (HK3.out.trans hk); have BK5 := Aside0.mk (hk.keep _ _ _ BK3.out (by decide) (by decide)); clear ha hb hk c0 c1 c2 c3 c4; have c0 := (blk_cell BK5.out 0).trans rfl; have c1 := (blk_cell BK5.out 1).trans rfl; have c2 := (blk_cell BK5.out 2).trans rfl; have c3 := (blk_cell BK5.out 3).trans rfl; have c4 := (blk_cell BK5.out 4).trans rfl))
  go_ret2
  exact ⟨rfl, HA5.out, HB5.out, HK5.out⟩
set_option maxHeartbeats 16000000 in
set_option maxRecDepth 100000 in
theorem wl_bool (B g : Nat) (l : List Int) (x : S43) (w : World) (hG : Aside0 (Glob w)) (h0 : 0 < B) (hB : B ≤ w.heap.size) (h : WrAt B g l w) (hl : l.length + 65600 ≤ wrMax) (hx : Ok43 x) (hk : x.f0 = 2) :
    Calls Tryd.prog 18 #[.pointer (some ⟨g, 0, none⟩), .agg (cells43 x)] w fun e w' => WlPost B g l x w e w' := by
  have HA := Aside0.mk h
  have HS := Aside0.mk hB
  have H0 := Aside0.mk h0
  have HL := Aside0.mk hl
  clear h hB h0 hl
  unfold WlPost
  rw [show wrB x = [if x.f1 = true then 2 else 1] from by unfold wrB; rw [if_neg (by omega), if_pos hk]]
  have hR := Aside0.mk (show plenumref02_Bool.f x.f1 = some (strOfNums [if x.f1 = true then 2 else 1]) by cases x.f1 <;> rfl)
  obtain ⟨z, hz⟩ : ∃ z, Aside0 ((if x.f1 = true then (2 : Int) else 1) = z) := ⟨_, ⟨rfl⟩⟩
  rw [hz.out] at hR
  rw [hz.out]
  have k1 : (x.f0 == 1) = false := by rw [hk]; rfl
  have k2 : (x.f0 == 2) = true := by rw [hk]; rfl
  clear hk
  go_enter Tryd.func18, Tryd.ntmps18
  go_wp2_with (first | ((with_reducible refine gate_dst (N := 3) rfl ?_); refine box_event ?hg (N := 3) ?hd (cs := cells43 x) (t := 43) ?hr ?_; (case hd => rfl); (case hg => rfl); (case hr => first | (go_simp; done) | (go_simp; rfl)); intro g3 hg w3 hbox hb; have BK3 := Aside0.mk hbox; have HA3 := Aside0.mk (HA.out.below hb); have HB3 := Aside0.mk (hb.mono HS.out); have HK3 := Aside0.mk (KeepT.of_below hb); have c0 := (blk_cell hbox 0).trans rfl; have c1 := (blk_cell hbox 1).trans rfl; have c2 := (blk_cell hbox 2).trans rfl; have c3 := (blk_cell hbox 3).trans rfl; have c4 := (blk_cell hbox 4).trans rfl; clear hb hbox hg) | (go_at_call 41; (with_reducible refine (wr_bool B g l x.f1 _ (Nat.le_trans HS.out HK3.out.size) HA3.out (by have := HL.out; omega)).mono ?_); rintro e w5 ⟨rfl, ha, hb, hk⟩; rw [hz.out] at ha; have HA5 := Aside0.mk ha; have HB5 := Aside0.mk (HB3.out.trans hb); have HK5 := Aside0.mk (HK3.out.trans hk); have BK5 := Aside0.mk (hk.keep _ _ _ BK3.out (by decide) (by decide)); clear ha hb hk c0 c1 c2 c3 c4; have c0 := (blk_cell BK5.out 0).trans rfl; have c1 := (blk_cell BK5.out 1).trans rfl; have c2 := (blk_cell BK5.out 2).trans rfl; have c3 := (blk_cell BK5.out 3).trans rfl; have c4 := (blk_cell BK5.out 4).trans rfl) | (go_at_call 42; (with_reducible refine (plenumref02_Bool.calls x.f1 _ _ (Glob.base hG.out H0.out HB5.out) hR.out).mono ?_); rintro e W6 ⟨rfl, ⟨nd, rfl⟩⟩; have HA6 := Aside0.mk (HA5.out.drewN nd); have HB6 := Aside0.mk (pw_below_drewN HB5.out nd); have HK6 := Aside0.mk (HK5.out.drewN nd)))
  go_ret2
  exact ⟨rfl, HA6.out, HB6.out, HK6.out⟩
set_option maxHeartbeats 16000000 in
set_option maxRecDepth 100000 in
theorem wl_unsigned (B g : Nat) (l : List Int) (x : S43) (w : World) (hG : Aside0 (Glob w)) (h0 : 0 < B) (hB : B ≤ w.heap.size) (h : WrAt B g l w) (hl : l.length + 65600 ≤ wrMax) (hx : Ok43 x) (hk : x.f0 = 3) :
    Calls Tryd.prog 18 #[.pointer (some ⟨g, 0, none⟩), .agg (cells43 x)] w fun e w' => WlPost B g l x w e w' := by
  have HA := Aside0.mk h
  have HS := Aside0.mk hB
  have H0 := Aside0.mk h0
  have HL := Aside0.mk hl
  clear h hB h0 hl
  unfold WlPost
  rw [show wrB x = uB x.f2 from by unfold wrB; rw [if_neg (by omega), if_neg (by omega), if_pos hk]]
  have hN := Aside0.mk (numUn 0 x.f2 hx.u0 hx.u1)
  have hD := Aside0.mk (width_eq 0 x.f2 hx.u0 hx.u1)
  have hR := Aside0.mk (show plenumref02_Unsigned.f (0 + 8) x.f2 = some (strOfNums (uB x.f2)) from refU_eq 0 x.f2 hx.u0 hx.u1)
  have HL2 : Aside0 (∀ bs : List Int, bs.length ≤ 9 → l.length + bs.length ≤ wrMax) := ⟨fun bs hb => by have := HL.out; omega⟩
  have hLn := uB_len x.f2
  clear hx
  have k1 : (x.f0 == 1) = false := by rw [hk]; rfl
  have k2 : (x.f0 == 2) = false := by rw [hk]; rfl
  have k3 : (x.f0 == 3) = true := by rw [hk]; rfl
  clear hk
  go_enter Tryd.func18, Tryd.ntmps18
  go_wp2_with (first | ((with_reducible refine gate_dst (N := 3) rfl ?_); refine box_event ?hg (N := 3) ?hd (cs := cells43 x) (t := 43) ?hr ?_; (case hd => rfl); (case hg => rfl); (case hr => first | (go_simp; done) | (go_simp; rfl)); intro g3 hg w3 hbox hb; have BK3 := Aside0.mk hbox; have HA3 := Aside0.mk (HA.out.below hb); have HB3 := Aside0.mk (hb.mono HS.out); have HK3 := Aside0.mk (KeepT.of_below hb); have c0 := (blk_cell hbox 0).trans rfl; have c1 := (blk_cell hbox 1).trans rfl; have c2 := (blk_cell hbox 2).trans rfl; have c3 := (blk_cell hbox 3).trans rfl; have c4 := (blk_cell hbox 4).trans rfl; clear hb hbox hg) | (go_at_call 43; (with_reducible refine (wr_unsigned 1 10 B g l x.f2 _ _ _ ⟨Glob.base hG.out H0.out HB3.out⟩ (Nat.le_trans HS.out HK3.out.size) HA3.out (HL2.out _ hLn) hD hN).mono ?_); rintro e w5 ⟨rfl, ha, hb, hk⟩; have HA5 := Aside0.mk ha; have HB5 := Aside0.mk (HB3.out.trans hb); have HK5 := Aside0.mk (HK3.out.trans hk); have BK5 := Aside0.mk (hk.keep _ _ _ BK3.out (by decide) (by decide)); clear ha hb hk c0 c1 c2 c3 c4; have c0 := (blk_cell BK5.out 0).trans rfl; have c1 := (blk_cell BK5.out 1).trans rfl; have c2 := (blk_cell BK5.out 2).trans rfl; have c3 := (blk_cell BK5.out 3).trans rfl; have c4 := (blk_cell BK5.out 4).trans rfl) | (go_at_call 44; (with_reducible refine (plenumref02_Unsigned.calls 8 x.f2 _ _ (Glob.base hG.out H0.out HB5.out) hR.out).mono ?_); rintro e w6 ⟨rfl, hb⟩; have HA6 := Aside0.mk (HA5.out.below hb); have HB6 := Aside0.mk (HB5.out.trans (hb.mono (Nat.le_trans HS.out HK5.out.size))); have HK6 := Aside0.mk (HK5.out.trans (KeepT.of_below hb)); clear hb))
  go_ret2
  exact ⟨rfl, HA6.out, HB6.out, HK6.out⟩
set_option maxHeartbeats 16000000 in
set_option maxRecDepth 100000 in
theorem wl_signed (B g : Nat) (l : List Int) (x : S43) (w : World) (hG : Aside0 (Glob w)) (h0 : 0 < B) (hB : B ≤ w.heap.size) (h : WrAt B g l w) (hl : l.length + 65600 ≤ wrMax) (hx : Ok43 x) (hk : x.f0 = 4) :
    Calls Tryd.prog 18 #[.pointer (some ⟨g, 0, none⟩), .agg (cells43 x)] w fun e w' => WlPost B g l x w e w' := by
  have HA := Aside0.mk h
  have HS := Aside0.mk hB
  have H0 := Aside0.mk h0
  have HL := Aside0.mk hl
  clear h hB h0 hl
  unfold WlPost
  rw [show wrB x = sB x.f3 from by unfold wrB; rw [if_neg (by omega), if_neg (by omega), if_neg (by omega), if_pos hk]]
  have hN := Aside0.mk (numSg 0 x.f3 hx.n0 hx.n1)
  have hD := Aside0.mk (spread_eq 0 x.f3 hx.n0 hx.n1)
  have hR := Aside0.mk (show plenumref02_Signed.f (0 + 8) x.f3 = some (strOfNums (sB x.f3)) from refS_eq 0 x.f3 hx.n0 hx.n1)
  have HL2 : Aside0 (∀ bs : List Int, bs.length ≤ 9 → l.length + bs.length ≤ wrMax) := ⟨fun bs hb => by have := HL.out; omega⟩
  have hLn := sB_len x.f3 hx.n0 hx.n1
  clear hx
  have k1 : (x.f0 == 1) = false := by rw [hk]; rfl
  have k2 : (x.f0 == 2) = false := by rw [hk]; rfl
  have k3 : (x.f0 == 3) = false := by rw [hk]; rfl
  have k4 : (x.f0 == 4) = true := by rw [hk]; rfl
  clear hk
  go_enter Tryd.func18, Tryd.ntmps18
  go_wp2_with (first | ((with_reducible refine gate_dst (N := 3) rfl ?_); refine box_event ?hg (N := 3) ?hd (cs := cells43 x) (t := 43) ?hr ?_; (case hd => rfl); (case hg => rfl); (case hr => first | (go_simp; done) | (go_simp; rfl)); intro g3 hg w3 hbox hb; have BK3 := Aside0.mk hbox; have HA3 := Aside0.mk (HA.out.below hb); have HB3 := Aside0.mk (hb.mono HS.out); have HK3 := Aside0.mk (KeepT.of_below hb); have c0 := (blk_cell hbox 0).trans rfl; have c1 := (blk_cell hbox 1).trans rfl; have c2 := (blk_cell hbox 2).trans rfl; have c3 := (blk_cell hbox 3).trans rfl; have c4 := (blk_cell hbox 4).trans rfl; clear hb hbox hg) | (go_at_call 45; (with_reducible refine (wr_signed 1 10 B g l x.f3 _ _ _ ⟨Glob.base hG.out H0.out HB3.out⟩ (Nat.le_trans HS.out HK3.out.size) HA3.out (HL2.out _ hLn) hD hN).mono ?_); rintro e w5 ⟨rfl, ha, hb, hk⟩; have HA5 := Aside0.mk ha; have HB5 := Aside0.mk (HB3.out.trans hb); have HK5 := Aside0.mk (HK3.out.trans hk); have BK5 := Aside0.mk (hk.keep _ _ _ BK3.out (by decide) (by decide)); clear ha hb hk c0 c1 c2 c3 c4; have c0 := (blk_cell BK5.out 0).trans rfl; have c1 := (blk_cell BK5.out 1).trans rfl; have c2 := (blk_cell BK5.out 2).trans rfl; have c3 := (blk_cell BK5.out 3).trans rfl; have c4 := (blk_cell BK5.out 4).trans rfl) | (go_at_call 46; (with_reducible refine (plenumref02_Signed.calls 8 x.f3 _ _ (Glob.base hG.out H0.out HB5.out) hR.out).mono ?_); rintro e w6 ⟨rfl, hb⟩; have HA6 := Aside0.mk (HA5.out.below hb); have HB6 := Aside0.mk (HB5.out.trans (hb.mono (Nat.le_trans HS.out HK5.out.size))); have HK6 := Aside0.mk (HK5.out.trans (KeepT.of_below hb)); clear hb))
  go_ret2
  exact ⟨rfl, HA6.out, HB6.out, HK6.out⟩
set_option maxHeartbeats 16000000 in
set_option maxRecDepth 100000 in
theorem wl_text_no (B g : Nat) (l : List Int) (x : S43) (w : World) (hG : Aside0 (Glob w)) (h0 : 0 < B) (hB : B ≤ w.heap.size) (h : WrAt B g l w) (hl : l.length + 65600 ≤ wrMax) (hx : Ok43 x) (hk : x.f0 = 5) (hs : x.f4.size > 65535) :
    Calls Tryd.prog 18 #[.pointer (some ⟨g, 0, none⟩), .agg (cells43 x)] w fun e w' => WlPost B g l x w e w' := by
  have HA := Aside0.mk h
  have HS := Aside0.mk hB
  have H0 := Aside0.mk h0
  have HL := Aside0.mk hl
  clear h hB h0 hl
  unfold WlPost
  rw [show wrB x = [] from by unfold wrB; rw [if_neg (by omega), if_neg (by omega), if_neg (by omega), if_neg (by omega), if_pos hk, if_pos hs]]
  have hb0 : decide (65535 < (x.f4.size : Int)) = true := decide_eq_true (by omega)
  have hb1 : decide (65535 < x.f4.size) = true := decide_eq_true (by omega)
  have HW0 : Aside0 (l ++ [] = l) := ⟨List.append_nil l⟩
  rw [HW0.out]
  have HS5 := Aside0.mk hs
  clear hs hx
  have k1 : (x.f0 == 1) = false := by rw [hk]; rfl
  have k2 : (x.f0 == 2) = false := by rw [hk]; rfl
  have k3 : (x.f0 == 3) = false := by rw [hk]; rfl
  have k4 : (x.f0 == 4) = false := by rw [hk]; rfl
  have k5 : (x.f0 == 5) = true := by rw [hk]; rfl
  clear hk
  go_enter Tryd.func18, Tryd.ntmps18
  go_wp2_with (first | ((with_reducible refine gate_dst (N := 3) rfl ?_); refine box_event ?hg (N := 3) ?hd (cs := cells43 x) (t := 43) ?hr ?_; (case hd => rfl); (case hg => rfl); (case hr => first | (go_simp; done) | (go_simp; rfl)); intro g3 hg w3 hbox hb; have BK3 := Aside0.mk hbox; have HA3 := Aside0.mk (HA.out.below hb); have HB3 := Aside0.mk (hb.mono HS.out); have HK3 := Aside0.mk (KeepT.of_below hb); have c0 := (blk_cell hbox 0).trans rfl; have c1 := (blk_cell hbox 1).trans rfl; have c2 := (blk_cell hbox 2).trans rfl; have c3 := (blk_cell hbox 3).trans rfl; have c4 := (blk_cell hbox 4).trans rfl; clear hb hbox hg) | (go_at_call 35; (with_reducible refine (wr_text_no B g l x.f4 _ (Nat.le_trans HS.out HK3.out.size) HA3.out HS5.out).mono ?_); rintro e w5 ⟨rfl, ha, hb, hk⟩; have HA5 := Aside0.mk ha; have HB5 := Aside0.mk (HB3.out.trans hb); have HK5 := Aside0.mk (HK3.out.trans hk); have BK5 := Aside0.mk (hk.keep _ _ _ BK3.out (by decide) (by decide)); clear ha hb hk c0 c1 c2 c3 c4; have c0 := (blk_cell BK5.out 0).trans rfl; have c1 := (blk_cell BK5.out 1).trans rfl; have c2 := (blk_cell BK5.out 2).trans rfl; have c3 := (blk_cell BK5.out 3).trans rfl; have c4 := (blk_cell BK5.out 4).trans rfl))
  go_ret2
  exact ⟨rfl, HA5.out, HB5.out, HK5.out⟩
set_option maxHeartbeats 16000000 in
set_option maxRecDepth 100000 in
theorem wl_text (B g : Nat) (l : List Int) (x : S43) (w : World) (hG : Aside0 (Glob w)) (h0 : 0 < B) (hB : B ≤ w.heap.size) (h : WrAt B g l w) (hl : l.length + 65600 ≤ wrMax) (hx : Ok43 x) (hk : x.f0 = 5) (hs : ¬ x.f4.size > 65535) :
    Calls Tryd.prog 18 #[.pointer (some ⟨g, 0, none⟩), .agg (cells43 x)] w fun e w' => WlPost B g l x w e w' := by
  have HA := Aside0.mk h
  have HS := Aside0.mk hB
  have H0 := Aside0.mk h0
  have HL := Aside0.mk hl
  clear h hB h0 hl
  unfold WlPost
  rw [show wrB x = [48] ++ uB (x.f4.size : Int) ++ bytesOf x.f4 from by unfold wrB; rw [if_neg (by omega), if_neg (by omega), if_neg (by omega), if_neg (by omega), if_pos hk, if_neg hs]]
  have hb0 : decide (65535 < (x.f4.size : Int)) = false := decide_eq_false (by omega)
  have hb1 : decide (65535 < x.f4.size) = false := decide_eq_false (by omega)
  have hN := Aside0.mk (numUn 0 (x.f4.size : Int) (by omega) (by omega))
  have hD := Aside0.mk (width_eq 0 (x.f4.size : Int) (by omega) (by omega))
  have hR := Aside0.mk (refText 0 x.f4 (by omega))
  have hLn := uB_len (x.f4.size : Int)
  have HS5 := Aside0.mk (show x.f4.size ≤ 65535 by omega)
  have HL5 := Aside0.mk (show l.length + 1 + (uB (x.f4.size : Int)).length + x.f4.size ≤ wrMax by have := HL.out; omega)
  have HW0 : Aside0 (l ++ ([48] ++ uB (x.f4.size : Int) ++ bytesOf x.f4) = l ++ [48] ++ uB (x.f4.size : Int) ++ bytesOf x.f4) := ⟨by simp [List.append_assoc]⟩
  rw [HW0.out]
  clear hs hx hLn
  have k1 : (x.f0 == 1) = false := by rw [hk]; rfl
  have k2 : (x.f0 == 2) = false := by rw [hk]; rfl
  have k3 : (x.f0 == 3) = false := by rw [hk]; rfl
  have k4 : (x.f0 == 4) = false := by rw [hk]; rfl
  have k5 : (x.f0 == 5) = true := by rw [hk]; rfl
  clear hk
  go_enter Tryd.func18, Tryd.ntmps18
  go_wp2_with (first | ((with_reducible refine gate_dst (N := 3) rfl ?_); refine box_event ?hg (N := 3) ?hd (cs := cells43 x) (t := 43) ?hr ?_; (case hd => rfl); (case hg => rfl); (case hr => first | (go_simp; done) | (go_simp; rfl)); intro g3 hg w3 hbox hb; have BK3 := Aside0.mk hbox; have HA3 := Aside0.mk (HA.out.below hb); have HB3 := Aside0.mk (hb.mono HS.out); have HK3 := Aside0.mk (KeepT.of_below hb); have c0 := (blk_cell hbox 0).trans rfl; have c1 := (blk_cell hbox 1).trans rfl; have c2 := (blk_cell hbox 2).trans rfl; have c3 := (blk_cell hbox 3).trans rfl; have c4 := (blk_cell hbox 4).trans rfl; clear hb hbox hg) | (go_at_call 35; (with_reducible refine (wr_text 1 10 B g l x.f4 _ _ _ ⟨Glob.base hG.out H0.out HB3.out⟩ (H0.out) (Nat.le_trans HS.out HK3.out.size) HA3.out HL5.out HS5.out hD hN).mono ?_); rintro e w5 ⟨rfl, ha, hb, hk⟩; have HA5 := Aside0.mk ha; have HB5 := Aside0.mk (HB3.out.trans hb); have HK5 := Aside0.mk (HK3.out.trans hk); have BK5 := Aside0.mk (hk.keep _ _ _ BK3.out (by decide) (by decide)); clear ha hb hk c0 c1 c2 c3 c4; have c0 := (blk_cell BK5.out 0).trans rfl; have c1 := (blk_cell BK5.out 1).trans rfl; have c2 := (blk_cell BK5.out 2).trans rfl; have c3 := (blk_cell BK5.out 3).trans rfl; have c4 := (blk_cell BK5.out 4).trans rfl) | (go_at_call 47; (with_reducible refine (plenumref02_Text.calls 8 x.f4 _ _ (Glob.base hG.out H0.out HB5.out) hR.out).mono ?_); rintro e w6 ⟨rfl, hb⟩; have HA6 := Aside0.mk (HA5.out.below hb); have HB6 := Aside0.mk (HB5.out.trans (hb.mono (Nat.le_trans HS.out HK5.out.size))); have HK6 := Aside0.mk (HK5.out.trans (KeepT.of_below hb)); clear hb))
  go_ret2
  exact ⟨rfl, HA6.out, HB6.out, HK6.out⟩
set_option maxHeartbeats 16000000 in
set_option maxRecDepth 100000 in
theorem wl_list_no (B g : Nat) (l : List Int) (x : S43) (w : World) (hG : Aside0 (Glob w)) (h0 : 0 < B) (hB : B ≤ w.heap.size) (h : WrAt B g l w) (hl : l.length + 65600 ≤ wrMax) (hx : Ok43 x) (hk : x.f0 = 6) (hs : x.f3 < 0 ∨ 65535 < x.f3) :
    Calls Tryd.prog 18 #[.pointer (some ⟨g, 0, none⟩), .agg (cells43 x)] w fun e w' => WlPost B g l x w e w' := by
  have HA := Aside0.mk h
  have HS := Aside0.mk hB
  have H0 := Aside0.mk h0
  have HL := Aside0.mk hl
  clear h hB h0 hl
  unfold WlPost
  rw [show wrB x = [] from by unfold wrB; rw [if_neg (by omega), if_neg (by omega), if_neg (by omega), if_neg (by omega), if_neg (by omega), if_pos hk, if_pos hs]]
  have HS5 := Aside0.mk hs
  have HW0 : Aside0 (l ++ [] = l) := ⟨List.append_nil l⟩
  rw [HW0.out]
  clear hs hx
  have k1 : (x.f0 == 1) = false := by rw [hk]; rfl
  have k2 : (x.f0 == 2) = false := by rw [hk]; rfl
  have k3 : (x.f0 == 3) = false := by rw [hk]; rfl
  have k4 : (x.f0 == 4) = false := by rw [hk]; rfl
  have k5 : (x.f0 == 5) = false := by rw [hk]; rfl
  have k6 : (x.f0 == 6) = true := by rw [hk]; rfl
  clear hk
  have hb2 : Aside0 ((decide (x.f3 < 0) || decide (65535 < x.f3)) = true) := ⟨by rcases HS5.out with h | h <;> simp [h]⟩
  cases hb0 : decide (x.f3 < 0) with
  | true =>
    go_enter Tryd.func18, Tryd.ntmps18
    go_wp2_with (first | ((with_reducible refine gate_dst (N := 3) rfl ?_); refine box_event ?hg (N := 3) ?hd (cs := cells43 x) (t := 43) ?hr ?_; (case hd => rfl); (case hg => rfl); (case hr => first | (go_simp; done) | (go_simp; rfl)); intro g3 hg w3 hbox hb; have BK3 := Aside0.mk hbox; have HA3 := Aside0.mk (HA.out.below hb); have HB3 := Aside0.mk (hb.mono HS.out); have HK3 := Aside0.mk (KeepT.of_below hb); have c0 := (blk_cell hbox 0).trans rfl; have c1 := (blk_cell hbox 1).trans rfl; have c2 := (blk_cell hbox 2).trans rfl; have c3 := (blk_cell hbox 3).trans rfl; have c4 := (blk_cell hbox 4).trans rfl; clear hb hbox hg) | (go_at_call 33; (with_reducible refine (wr_list_no B g l x.f3 _ (Nat.le_trans HS.out HK3.out.size) HA3.out HS5.out).mono ?_); rintro e w5 ⟨rfl, ha, hb, hk⟩; have HA5 := Aside0.mk ha; have HB5 := Aside0.mk (HB3.out.trans hb); have HK5 := Aside0.mk (HK3.out.trans hk); have BK5 := Aside0.mk (hk.keep _ _ _ BK3.out (by decide) (by decide)); clear ha hb hk c0 c1 c2 c3 c4; have c0 := (blk_cell BK5.out 0).trans rfl; have c1 := (blk_cell BK5.out 1).trans rfl; have c2 := (blk_cell BK5.out 2).trans rfl; have c3 := (blk_cell BK5.out 3).trans rfl; have c4 := (blk_cell BK5.out 4).trans rfl))
    go_ret2
    exact ⟨rfl, HA5.out, HB5.out, HK5.out⟩
  | false =>
    have hb1 : decide (65535 < x.f3) = true := by have := hb2.out; rw [hb0] at this; simpa using this
    go_enter Tryd.func18, Tryd.ntmps18
    go_wp2_with (first | ((with_reducible refine gate_dst (N := 3) rfl ?_); refine box_event ?hg (N := 3) ?hd (cs := cells43 x) (t := 43) ?hr ?_; (case hd => rfl); (case hg => rfl); (case hr => first | (go_simp; done) | (go_simp; rfl)); intro g3 hg w3 hbox hb; have BK3 := Aside0.mk hbox; have HA3 := Aside0.mk (HA.out.below hb); have HB3 := Aside0.mk (hb.mono HS.out); have HK3 := Aside0.mk (KeepT.of_below hb); have c0 := (blk_cell hbox 0).trans rfl; have c1 := (blk_cell hbox 1).trans rfl; have c2 := (blk_cell hbox 2).trans rfl; have c3 := (blk_cell hbox 3).trans rfl; have c4 := (blk_cell hbox 4).trans rfl; clear hb hbox hg) | (go_at_call 33; (with_reducible refine (wr_list_no B g l x.f3 _ (Nat.le_trans HS.out HK3.out.size) HA3.out HS5.out).mono ?_); rintro e w5 ⟨rfl, ha, hb, hk⟩; have HA5 := Aside0.mk ha; have HB5 := Aside0.mk (HB3.out.trans hb); have HK5 := Aside0.mk (HK3.out.trans hk); have BK5 := Aside0.mk (hk.keep _ _ _ BK3.out (by decide) (by decide)); clear ha hb hk c0 c1 c2 c3 c4; have c0 := (blk_cell BK5.out 0).trans rfl; have c1 := (blk_cell BK5.out 1).trans rfl; have c2 := (blk_cell BK5.out 2).trans rfl; have c3 := (blk_cell BK5.out 3).trans rfl; have c4 := (blk_cell BK5.out 4).trans rfl))
    go_ret2
    exact ⟨rfl, HA5.out, HB5.out, HK5.out⟩
set_option maxHeartbeats 16000000 in
set_option maxRecDepth 100000 in
theorem wl_list (B g : Nat) (l : List Int) (x : S43) (w : World) (hG : Aside0 (Glob w)) (h0 : 0 < B) (hB : B ≤ w.heap.size) (h : WrAt B g l w) (hl : l.length + 65600 ≤ wrMax) (hx : Ok43 x) (hk : x.f0 = 6) (hs : ¬ (x.f3 < 0 ∨ 65535 < x.f3)) :
    Calls Tryd.prog 18 #[.pointer (some ⟨g, 0, none⟩), .agg (cells43 x)] w fun e w' => WlPost B g l x w e w' := by
  have HA := Aside0.mk h
  have HS := Aside0.mk hB
  have H0 := Aside0.mk h0
  have HL := Aside0.mk hl
  clear h hB h0 hl
  unfold WlPost
  rw [show wrB x = [64] ++ uB x.f3 from by unfold wrB; rw [if_neg (by omega), if_neg (by omega), if_neg (by omega), if_neg (by omega), if_neg (by omega), if_pos hk, if_neg hs]]
  have hb0 : decide (x.f3 < 0) = false := decide_eq_false (by omega)
  have hb1 : decide (65535 < x.f3) = false := decide_eq_false (by omega)
  have hN := Aside0.mk (numUn 0 x.f3 (by omega) (by omega))
  have hD := Aside0.mk (width_eq 0 x.f3 (by omega) (by omega))
  have hR := Aside0.mk (refHead 0 x.f3 (by omega))
  have hLn := uB_len x.f3
  have HS5 := Aside0.mk (show 0 ≤ x.f3 ∧ x.f3 ≤ 65535 by omega)
  have HL5 := Aside0.mk (show l.length + 1 + (uB x.f3).length ≤ wrMax by have := HL.out; omega)
  have HW0 : Aside0 (l ++ ([64] ++ uB x.f3) = l ++ [64] ++ uB x.f3) := ⟨by simp [List.append_assoc]⟩
  rw [HW0.out]
  clear hs hx hLn
  have k1 : (x.f0 == 1) = false := by rw [hk]; rfl
  have k2 : (x.f0 == 2) = false := by rw [hk]; rfl
  have k3 : (x.f0 == 3) = false := by rw [hk]; rfl
  have k4 : (x.f0 == 4) = false := by rw [hk]; rfl
  have k5 : (x.f0 == 5) = false := by rw [hk]; rfl
  have k6 : (x.f0 == 6) = true := by rw [hk]; rfl
  clear hk
  go_enter Tryd.func18, Tryd.ntmps18
  go_wp2_with (first | ((with_reducible refine gate_dst (N := 3) rfl ?_); refine box_event ?hg (N := 3) ?hd (cs := cells43 x) (t := 43) ?hr ?_; (case hd => rfl); (case hg => rfl); (case hr => first | (go_simp; done) | (go_simp; rfl)); intro g3 hg w3 hbox hb; have BK3 := Aside0.mk hbox; have HA3 := Aside0.mk (HA.out.below hb); have HB3 := Aside0.mk (hb.mono HS.out); have HK3 := Aside0.mk (KeepT.of_below hb); have c0 := (blk_cell hbox 0).trans rfl; have c1 := (blk_cell hbox 1).trans rfl; have c2 := (blk_cell hbox 2).trans rfl; have c3 := (blk_cell hbox 3).trans rfl; have c4 := (blk_cell hbox 4).trans rfl; clear hb hbox hg) | (go_at_call 33; (with_reducible refine (wr_list 1 10 B g l x.f3 _ _ _ ⟨Glob.base hG.out H0.out HB3.out⟩ (H0.out) (Nat.le_trans HS.out HK3.out.size) HA3.out HL5.out HS5.out hD hN).mono ?_); rintro e w5 ⟨rfl, ha, hb, hk⟩; have HA5 := Aside0.mk ha; have HB5 := Aside0.mk (HB3.out.trans hb); have HK5 := Aside0.mk (HK3.out.trans hk); have BK5 := Aside0.mk (hk.keep _ _ _ BK3.out (by decide) (by decide)); clear ha hb hk c0 c1 c2 c3 c4; have c0 := (blk_cell BK5.out 0).trans rfl; have c1 := (blk_cell BK5.out 1).trans rfl; have c2 := (blk_cell BK5.out 2).trans rfl; have c3 := (blk_cell BK5.out 3).trans rfl; have c4 := (blk_cell BK5.out 4).trans rfl) | (go_at_call 48; (with_reducible refine (plenumref02_Head.calls 8 x.f3 _ _ (Glob.base hG.out H0.out HB5.out) hR.out).mono ?_); rintro e w6 ⟨rfl, hb⟩; have HA6 := Aside0.mk (HA5.out.below hb); have HB6 := Aside0.mk (HB5.out.trans (hb.mono (Nat.le_trans HS.out HK5.out.size))); have HK6 := Aside0.mk (HK5.out.trans (KeepT.of_below hb)); clear hb))
  go_ret2
  exact ⟨rfl, HA6.out, HB6.out, HK6.out⟩
set_option maxHeartbeats 16000000 in
set_option maxRecDepth 100000 in
theorem wl_other (B g : Nat) (l : List Int) (x : S43) (w : World) (hG : Aside0 (Glob w)) (h0 : 0 < B) (hB : B ≤ w.heap.size) (h : WrAt B g l w) (hl : l.length + 65600 ≤ wrMax) (hx : Ok43 x) (hk : x.f0 ≠ 1 ∧ x.f0 ≠ 2 ∧ x.f0 ≠ 3 ∧ x.f0 ≠ 4 ∧ x.f0 ≠ 5 ∧ x.f0 ≠ 6) :
    Calls Tryd.prog 18 #[.pointer (some ⟨g, 0, none⟩), .agg (cells43 x)] w fun e w' => WlPost B g l x w e w' := by
  have HA := Aside0.mk h
  have HS := Aside0.mk hB
  have H0 := Aside0.mk h0
  have HL := Aside0.mk hl
  clear h hB h0 hl
  unfold WlPost
  rw [show wrB x = [] from by unfold wrB; rw [if_neg (by omega), if_neg (by omega), if_neg (by omega), if_neg (by omega), if_neg (by omega), if_neg (by omega)]]
  have HW0 : Aside0 (l ++ [] = l) := ⟨List.append_nil l⟩
  rw [HW0.out]
  have k1 : (x.f0 == 1) = false := by simpa using hk.1
  have k2 : (x.f0 == 2) = false := by simpa using hk.2.1
  have k3 : (x.f0 == 3) = false := by simpa using hk.2.2.1
  have k4 : (x.f0 == 4) = false := by simpa using hk.2.2.2.1
  have k5 : (x.f0 == 5) = false := by simpa using hk.2.2.2.2.1
  have k6 : (x.f0 == 6) = false := by simpa using hk.2.2.2.2.2
  clear hk hx
  go_enter Tryd.func18, Tryd.ntmps18
  go_wp2_with (first | ((with_reducible refine gate_dst (N := 3) rfl ?_); refine box_event ?hg (N := 3) ?hd (cs := cells43 x) (t := 43) ?hr ?_; (case hd => rfl); (case hg => rfl); (case hr => first | (go_simp; done) | (go_simp; rfl)); intro g3 hg w3 hbox hb; have BK3 := Aside0.mk hbox; have HA3 := Aside0.mk (HA.out.below hb); have HB3 := Aside0.mk (hb.mono HS.out); have HK3 := Aside0.mk (KeepT.of_below hb); have c0 := (blk_cell hbox 0).trans rfl; have c1 := (blk_cell hbox 1).trans rfl; have c2 := (blk_cell hbox 2).trans rfl; have c3 := (blk_cell hbox 3).trans rfl; have c4 := (blk_cell hbox 4).trans rfl; clear hb hbox hg))
  go_ret2
  exact ⟨rfl, HA3.out, HB3.out, HK3.out⟩
theorem write_calls (B g : Nat) (l : List Int) (x : S43) (w : World) (hG : Aside0 (Glob w)) (h0 : 0 < B) (hB : B ≤ w.heap.size) (h : WrAt B g l w) (hl : l.length + 65600 ≤ wrMax) (hx : Ok43 x) :
    Calls Tryd.prog 18 #[.pointer (some ⟨g, 0, none⟩), .agg (cells43 x)] w fun e w' => WlPost B g l x w e w' := by
  by_cases k1 : x.f0 = 1
  · exact wl_null B g l x w hG h0 hB h hl hx k1
  by_cases k2 : x.f0 = 2
  · exact wl_bool B g l x w hG h0 hB h hl hx k2
  by_cases k3 : x.f0 = 3
  · exact wl_unsigned B g l x w hG h0 hB h hl hx k3
  by_cases k4 : x.f0 = 4
  · exact wl_signed B g l x w hG h0 hB h hl hx k4
  by_cases k5 : x.f0 = 5
  · by_cases hs : x.f4.size > 65535
    · exact wl_text_no B g l x w hG h0 hB h hl hx k5 hs
    · exact wl_text B g l x w hG h0 hB h hl hx k5 hs
  by_cases k6 : x.f0 = 6
  · by_cases hs : x.f3 < 0 ∨ 65535 < x.f3
    · exact wl_list_no B g l x w hG h0 hB h hl hx k6 hs
    · exact wl_list B g l x w hG h0 hB h hl hx k6 hs
  exact wl_other B g l x w hG h0 hB h hl hx ⟨k1, k2, k3, k4, k5, k6⟩
end Go.Proofs.YtndeikikeeeigaaDoor.Q
end
