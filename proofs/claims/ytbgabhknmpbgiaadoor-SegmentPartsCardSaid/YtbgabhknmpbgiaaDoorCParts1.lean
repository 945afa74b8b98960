/- SegmentPartsCard: one part of the proof that the law answers true for every input, and that its arguments read afterwards as before. No condition. -/
import Derived.Test.YtbgabhknmpbgiaaDoorCParts0
import Derived.Test.YtbgabhknmpbgiaaDoorProg
import Derived.Below
import Derived.Deep.Draws
import Derived.Deep.AppendLies
import Derived.Maps.AppendAt
import Derived.OwnWalk
import Derived.Laws.BytesArg
import Derived.Laws.MakeOwn
import Derived.Laws.OwnMore
import Derived.Deep.OwnRows
import Derived.Tactics
import Derived.Lib.ConvBytes
import Derived.Laws.Slices
import Derived.WalkKit
import Derived.KernelRfl
import Derived.RowKit3
import Derived.Deep.LoopGhost
import Derived.Deep.QuietTactic
import Derived.BigQuiet
import Derived.WideLaws
import Derived.Deep.DeepCutAuto
import Derived.Deep.CutBlock
import Derived.Deep.RegionHeld3
import Derived.Laws.Rows
import Derived.Lib.AppendStr
import Derived.ArgAppend
import Derived.Laws.IdiomCopy
import Derived.OrdersHeld
import Derived.Laws.BitsLemmas
import Derived.RowKit
import Derived.ChangeSame
import Derived.ChangeVars
import Derived.JoinedOf
import Derived.Handed
import Derived.Test.YtbgabhknmpbgiaaDoorRows
section
namespace Go.Proofs.YtbgabhknmpbgiaaDoor.S
open Go.RowKit Go.Proofs.YtbgabhknmpbgiaaDoorW.PrintWords Go.Proofs.YtbgabhknmpbgiaaDoorW.PrintLast Go.Proofs.YtbgabhknmpbgiaaDoorW.PrintMore
attribute [local go_sem] max2_int min2_int max_two min_two max_three min_three max_four min_four
set_option linter.unusedVariables false
set_option linter.unusedSimpArgs false
def Glob (w : World) : Prop := ∃ t, w.heap[0]? = some (.cells #[.int .i64 2, .int .i64 3, .int .i64 4, .int .i64 5, .int .i64 6] t (0, 0))
def gtab : List Int := [2, 3, 4, 5, 6]
theorem gt_at {w : World} (h : Glob w) {i : Int} (h0 : 0 ≤ i) (h1 : i < 5) : w.cell? ⟨0, i.toNat, none⟩ = some (.int .i64 (rd gtab i)) := by
 obtain ⟨t, h⟩ := h
 rw [blk_cell h]
 obtain rfl | rfl | rfl | rfl | rfl : i = 0 ∨ i = 1 ∨ i = 2 ∨ i = 3 ∨ i = 4 := by omega
 all_goals rfl
theorem goesT_ {P : Program} {ops : Array Oper} {Q : Exit → Act → World → Prop} {oi : Oper} {N : Option Tmp} {a : Act} {w : World} {K : Act → World → Prop} {f : FuncId} {fn : Func} {x : Operand} {xs : Array Operand} {ts : Array TypeId} (hf : P.funcs[f]? = some fn) (hname : (fn.name == "runtime.NumGoroutine") = false) (hb : fn.body.isSome = true) (args : Array Value)
  (hw : Region.wanted oi (yielded ops a.tmps) = true) (hN : oi.dst = N) (hop : oi.op = .call { callee := .value x, args := xs, argTypes := ts }) (hv : a.eval x = .func (.func f) #[] #[]) (hargs : xs.map a.eval = args)
  (h : Calls P f args w fun e w' => ∃ v, e = .returned v ∧ K (a.put N v) w') : if Region.wanted oi (yielded ops a.tmps) = true then Oper.wp P oi a w K Q else K (a.put N undef) w := by
 refine call_ f args hw hN ?_ h
 have he := enters_ hf hname hb args w
 unfold execOp
 simp [hop, resolve, Deferred.ofValue, invoke, hv, hargs, he]
theorem Glob.below {w w1 : World} (h : Glob w) (hb : Below w.heap.size w w1) : Glob w1 := h.imp fun _ h => blk_below h hb
theorem info5 : (Tryd.prog.info? 5).map (fun i => (i.zero, i.size, i.bytes)) = some (some (.int .u8 0), 1, 1) := by kernel_rfl
theorem info9 : (Tryd.prog.info? 9).map (fun i => (i.zero, i.size, i.bytes)) = some (some (.string ⟨#[]⟩), 1, 16) := by kernel_rfl
theorem info23 : (Tryd.prog.info? 23).map (fun i => (i.zero, i.size, i.bytes)) = some (some (.agg #[(.int .i64 0), (.int .i64 0), (.int .i64 0), (.bool false), (.int .i64 0), (.string ⟨#[]⟩)]), 6, 56) := by kernel_rfl
structure S23 where
 f0 : Int
 f1 : Int
 f2 : Int
 f3 : Bool
 f4 : Int
 f5 : ByteArray
def z23 : S23 := ⟨(0 : Int), (0 : Int), (0 : Int), false, (0 : Int), (⟨#[]⟩ : ByteArray)⟩
def k23 : Kd S23 := Kd.iso (Kd.pair (Kd.int .i64) (Kd.pair (Kd.int .i64) (Kd.pair (Kd.int .i64) (Kd.pair Kd.bool (Kd.pair (Kd.int .i64) Kd.string))))) (fun x : S23 => (x.f0, x.f1, x.f2, x.f3, x.f4, x.f5))
theorem k23_open {w : World} {x : S23} {cs : List Value} (h : k23.K w x cs) : cs = [.int .i64 x.f0, .int .i64 x.f1, .int .i64 x.f2, .bool x.f3, .int .i64 x.f4, .string x.f5] := by
 obtain ⟨_, _, rfl, rfl, ⟨_, _, rfl, rfl, ⟨_, _, rfl, rfl, ⟨_, _, rfl, rfl, ⟨_, _, rfl, rfl, rfl⟩⟩⟩⟩⟩ := h
 exact rfl
theorem k23_mkM (w : World) (base : Nat) (ok : Nat → Prop) (x : S23)  : k23.M w base ok x [.int .i64 x.f0, .int .i64 x.f1, .int .i64 x.f2, .bool x.f3, .int .i64 x.f4, .string x.f5] := ⟨[.int .i64 x.f0], [.int .i64 x.f1, .int .i64 x.f2, .bool x.f3, .int .i64 x.f4, .string x.f5], rfl, rfl, ⟨[.int .i64 x.f1], [.int .i64 x.f2, .bool x.f3, .int .i64 x.f4, .string x.f5], rfl, rfl, ⟨[.int .i64 x.f2], [.bool x.f3, .int .i64 x.f4, .string x.f5], rfl, rfl, ⟨[.bool x.f3], [.int .i64 x.f4, .string x.f5], rfl, rfl, ⟨[.int .i64 x.f4], [.string x.f5], rfl, rfl, rfl⟩⟩⟩⟩⟩
def rd_T23 (xs : List S23) (i : Int) : S23 := xs.getD i.toNat z23
theorem at_T23 {w : World} {A : Option Addr} {n : Nat} {xs : List S23} (h : Kd.C k23 w A n xs) (i : Int) (h0 : 0 ≤ i) (h1 : i < n) : ∃ ad , A = some ad ∧ w.cell? (ad.add (i.toNat * 6)) = some (.int .i64 (rd_T23 xs i).f0) ∧ w.cell? ⟨(ad.add (i.toNat * 6)).block, (ad.add (i.toNat * 6)).off + 1, none⟩ = some (.int .i64 (rd_T23 xs i).f1) ∧ w.cell? ⟨(ad.add (i.toNat * 6)).block, (ad.add (i.toNat * 6)).off + 2, none⟩ = some (.int .i64 (rd_T23 xs i).f2) ∧ w.cell? ⟨(ad.add (i.toNat * 6)).block, (ad.add (i.toNat * 6)).off + 3, none⟩ = some (.bool (rd_T23 xs i).f3) ∧ w.cell? ⟨(ad.add (i.toNat * 6)).block, (ad.add (i.toNat * 6)).off + 4, none⟩ = some (.int .i64 (rd_T23 xs i).f4) ∧ w.cell? ⟨(ad.add (i.toNat * 6)).block, (ad.add (i.toNat * 6)).off + 5, none⟩ = some (.string (rd_T23 xs i).f5) := by
 obtain ⟨ad, c, e, _, hK, hc0⟩ := Kd.C_get h z23 i h0 h1
 have hc : ∀ j u, c[j]? = some u → w.cell? (ad.add (i.toNat * 6 + j)) = some u := hc0
 obtain rfl := k23_open hK
 exact ⟨ad, e, hc 0 _ rfl, by rw [← add_field _ _ 1 (by omega)]; exact hc 1 _ rfl, by rw [← add_field _ _ 2 (by omega)]; exact hc 2 _ rfl, by rw [← add_field _ _ 3 (by omega)]; exact hc 3 _ rfl, by rw [← add_field _ _ 4 (by omega)]; exact hc 4 _ rfl, by rw [← add_field _ _ 5 (by omega)]; exact hc 5 _ rfl⟩
end Go.Proofs.YtbgabhknmpbgiaaDoor.S
end
section
namespace Go.Proofs.YtbgabhknmpbgiaaDoor.S
open Go.ChangeShapes Go.WideShapes Go.RowKit
abbrev theLaid : List (String × DataW Unit) := [("plenum/codec.kinds", Rows.laid_plenum_codec_kinds)]
theorem lvName : Tryd.prog.globalNamed "plenum/codec.kinds" = some 0 := by kernel_rfl
theorem lvType : (Tryd.prog.globals[0]?).map (·.type) = some 133 := by kernel_rfl
theorem lvUnder : Tryd.prog.underlying 133 = some (.array 5 3) := by kernel_rfl
theorem lvUnderE : Tryd.prog.underlying 3 = some (.int .i64) := by kernel_rfl
theorem lvCells : Tryd.prog.cellsOf 133 = 5 := by kernel_rfl
theorem lvCellsE : Tryd.prog.cellsOf 3 = 1 := by kernel_rfl
theorem int_of_trod {H : Type} {enc : TypeId × Value → H} {P : Program} {w : World} {base : Nat} {sp : Nat → Bool} {held : Bool} {fuel : Nat} {t : TypeId} {k : IntKind} {c : Value} {y : DataW H × List MemPlace}
  (ht : P.underlying t = some (.int k)) (h : DataW.trod enc P w base sp held fuel t [c] = some y) : ∃ n, c = .int k n ∧ y = (.lit (.int k n), []) := by
 cases fuel with
 | zero => simp [DataW.trod] at h
 | succ fuel =>
  cases c <;> simp [DataW.trod, ht] at h
  rename_i k' n
  obtain ⟨⟨rfl, _⟩, rfl⟩ := h
  exact ⟨n, rfl, rfl⟩
def cellsL : Array Value := #[.int .i64 2, .int .i64 3, .int .i64 4, .int .i64 5, .int .i64 6]
theorem cells_of_laid {W : World} (h : laidMet Tryd.prog theLaid W) : W.var? Tryd.prog "plenum/codec.kinds" = some cellsL := by
 obtain ⟨ps, ⟨g, t, cs, fuel, p, q, hg, ht, hvar, hd, _, _⟩, _⟩ := h
 obtain rfl := Option.some.inj (lvName.symm.trans hg)
 obtain rfl := Option.some.inj (lvType.symm.trans ht)
 rw [hvar]
 congr 1
 obtain ⟨l⟩ := cs
 cases fuel with
 | zero => simp [DataW.trod] at hd
 | succ fuel =>
  simp only [DataW.trod, lvUnder, lvCells, lvCellsE] at hd
  split at hd
  ·rename_i hl
   obtain ⟨c0, c1, c2, c3, c4, rfl⟩ : ∃ c0 c1 c2 c3 c4, l = [c0, c1, c2, c3, c4] := by
    match l, hl with
    | [a, b, c, d, e], _ => exact ⟨a, b, c, d, e, rfl⟩
   have e : List.range 5 = [0, 1, 2, 3, 4] := rfl
   rw [e] at hd
   simp only [Option.map_eq_some_iff, List.mapM_cons, List.mapM_nil, Option.bind_eq_bind, Option.bind_eq_some_iff, Option.pure_def, Option.some.injEq] at hd
   obtain ⟨xs, ⟨y0, h0, _, ⟨y1, h1, _, ⟨y2, h2, _, ⟨y3, h3, _, ⟨y4, h4, _, rfl, rfl⟩, rfl⟩, rfl⟩, rfl⟩, rfl⟩, hx⟩ := hd
   obtain ⟨n0, rfl, rfl⟩ := int_of_trod lvUnderE h0
   obtain ⟨n1, rfl, rfl⟩ := int_of_trod lvUnderE h1
   obtain ⟨n2, rfl, rfl⟩ := int_of_trod lvUnderE h2
   obtain ⟨n3, rfl, rfl⟩ := int_of_trod lvUnderE h3
   obtain ⟨n4, rfl, rfl⟩ := int_of_trod lvUnderE h4
   simp [Rows.laid_plenum_codec_kinds] at hx
   obtain ⟨⟨rfl, rfl, rfl, rfl, rfl⟩, _⟩ := hx
   rfl
  ·cases hd
theorem glob_of_laid {W : World} (h : laidMet Tryd.prog theLaid W) : Glob W := by
 have hv := cells_of_laid h
 obtain ⟨ps, ⟨g, t, cs, fuel, p, q, hg, ht, hvar, hd, hq, hps⟩, _, hrow⟩ := h
 obtain rfl := Option.some.inj (lvName.symm.trans hg)
 obtain rfl := Option.some.inj (hvar.symm.trans hv)
 subst hps
 obtain ⟨⟨c, t', hc⟩, _⟩ := hrow 0 0 (List.mem_append_left _ (List.mem_append_left _ (by decide)))
 have hv' := hv
 unfold World.var? at hv'
 rw [lvName] at hv'
 simp only [Option.bind_some, hc] at hv'
 obtain rfl := Option.some.inj hv'
 exact ⟨t', hc⟩
noncomputable def laidWorld (os : Os) : World :=
 { World.holding Tryd.prog os ⟨#[], #[], []⟩ with heap := (World.holding Tryd.prog os ⟨#[], #[], []⟩).heap.modify 0 fun
   | .cells _ t frozen => .cells cellsL t frozen
   | o => o }
theorem laidWorld_row (os : Os) (args : Array Value) : ((laidWorld os).forCall (fun _ _ => 0) ⟨#[], args, []⟩).memory.heap[0]? = some (.cells cellsL 133 (0, 0)) := by kernel_rfl
set_option maxRecDepth 100000 in
theorem laidWorld_met (os : Os) (args : Array Value) : laidMet Tryd.prog theLaid ((laidWorld os).forCall (fun _ _ => 0) ⟨#[], args, []⟩).memory := by
 refine ⟨_, ⟨0, 133, cellsL, 8, [], [], lvName, lvType, ?_, ?_, rfl, rfl⟩, by decide, fun b off h => ?_⟩
 ·unfold World.var?
  rw [lvName]
  simp only [Option.bind_some, laidWorld_row os args]
 ·kernel_rfl
 ·have h' : MemPlace.cell b off ∈ [MemPlace.cell 0 0, .cell 0 1, .cell 0 2, .cell 0 3, .cell 0 4] := h
  have hb : b = 0 := by
   simp at h'
   omega
  subst hb
  refine ⟨⟨_, _, laidWorld_row os args⟩, fun u v hc => ?_⟩
  simp only [World.cell?, laidWorld_row os args] at hc
  simp at h'
  rcases h' with rfl | rfl | rfl | rfl | rfl <;> simp [cellsL] at hc
end Go.Proofs.YtbgabhknmpbgiaaDoor.S
end
section
namespace Go.Proofs.YtbgabhknmpbgiaaDoor.S
open Go.RowKit Go.Proofs.YtbgabhknmpbgiaaDoorW.PrintWords Go.Proofs.YtbgabhknmpbgiaaDoorW.PrintLast Go.Proofs.YtbgabhknmpbgiaaDoorW.PrintMore
attribute [local go_sem] max2_int min2_int max_two min_two max_three min_three max_four min_four
set_option linter.unusedVariables false
set_option linter.unusedSimpArgs false
def codec_number.l0 : Nat → Int → List Int → Int → Option (List Int)
 | 0, _, _, _ => none
 | k + 1, x1, x7, x8 => if x8 ≥ 0 then (if 0 ≤ (wrap64 (8 * x8)) then (if x7.length < 140737488355328 then (codec_number.l0 k x1 (x7 ++ [(shr .u64 x1 (wrap64 (8 * x8))) % 256]) (wrap64 (x8 - 1))) else (none)) else (none)) else (some x7)
def codec_number.f (k : Nat) (a0 : Int) (a1 : Int) (a2 : Int) : Option (List Int) := codec_number.l0 k a1 (([(a0 + ((a2) % 256)) % 256] : List Int)) (wrap64 (a2 - 1))
set_option maxHeartbeats 8000000 in
set_option maxRecDepth 100000 in
theorem codec_number.calls (k : Nat) (a0 : Int) (a1 : Int) (a2 : Int) (r : List Int) (w : World) (hG : Glob w) (h : codec_number.f k a0 a1 a2 = some r) :
  Calls Tryd.prog 68 #[.int .u8 a0, .int .u64 a1, .int .i64 a2] w fun e w' => ∃ v0_ : Value, e = .returned (v0_) ∧ Kd.R (Kd.int .u8) 5 w' w.heap.size (fun _ => True) v0_ r ∧ Below w.heap.size w w' := by
 have HG := Aside0.mk hG
 clear hG
 have HB := Aside0.mk (Below.refl w.heap.size w)
 have H : (codec_number.l0 k a1 (([(a0 + ((a2) % 256)) % 256] : List Int)) (wrap64 (a2 - 1))) = some r := h
 clear h
 obtain ⟨y106, hy106⟩ : ∃ y_ : List Int, y_ = (([(a0 + ((a2) % 256)) % 256] : List Int)) := ⟨_, rfl⟩
 replace H : (codec_number.l0 k a1 y106 (wrap64 (a2 - 1))) = some r := by first | (rw [hy106]; with_reducible exact H) | (have H2_ := (Option.bind_some _ _).symm.trans H; rw [hy106]; with_reducible exact H2_) | (have H2_ := (Option.bind_some _ _).symm.trans H; with_reducible exact H2_) | with_reducible exact H | (rw [hy106]; exact H) | exact H
 have Ny106 := Aside0.mk hy106
 clear hy106
 have H' := Aside0.mk H
 clear H
 go_enter Tryd.func68, Tryd.ntmps68
 go_wp2_with (first | ((with_reducible refine gate_dst (N := 13) rfl ?_); refine Kd.R_lit (Kd.int .u8) _ 5 ?hg (N := 13) ?hd (xs := ([(a0 + ((a2) % 256)) % 256] : List Int)) (inner := [.int .u8 ((a0 + ((a2) % 256)) % 256)]) (ok := fun _ => True) (okp := fun _ => True) ?hr ?hp (fun _ hk => hk) trivial (Below.refl _ _) (Nat.le_refl _) (by simp) ?_; (case hd => rfl); (case hg => rfl); (case hr => first | (go_simp; done) | (go_simp; rfl)); (case hp => exact (Reps.one (show Kd.M (Kd.int .u8) _ _ _ ((a0 + ((a2) % 256)) % 256) [.int .u8 ((a0 + ((a2) % 256)) % 256)] from rfl) (Reps.none _ _))); intro v107 w4 ho5 hb hg_ hnew_; clear hg_ hnew_; (first | rw [← Ny106.out] at ho5 | (simp only [Int.reduceToNat] at ho5; rw [← Ny106.out] at ho5)); have n0_ := Aside0.mk (Kd.R_lower ho5 (below_size (by repeat (first | (with_reducible first | exact HB.out | apply below_alloc | apply pw_below_drewN | apply below_drew1) | exact HB.out)))); have n1_ := Aside0.mk (below_step (by repeat (first | (with_reducible first | exact HB.out | apply below_alloc | apply pw_below_drewN | apply below_drew1) | exact HB.out)) hb); clear HB; have HO108 := n0_; have HB := n1_; clear n0_ n1_; clear hb ho5))
 go_loopg [7, 8] k (fun kq v7 v8 w' => ∃ (x7_1 : List Int) (x8_1 : Int), v8 = .int .i64 x8_1 ∧ Aside0 (codec_number.l0 kq a1 x7_1 x8_1 = some r) ∧ Aside0 (kq ≤ k) ∧ Aside0 (Kd.R (Kd.int .u8) 5 w' w.heap.size (fun _ => True) v7 x7_1) ∧ Aside0 (Below w.heap.size w w'))
 case atStart => exact ⟨(y106), (wrap64 (a2 - 1)), (by first | rfl | (simp; done) | (simp [*]; done)), H', ⟨Nat.le_refl _⟩, ⟨by (with_reducible repeat (first | apply Kd.R_alloc | apply Kd.R_drewN | apply Kd.R_drew)); exact HO108.out⟩, ⟨by repeat (first | (with_reducible first | exact HB.out | apply below_alloc | apply pw_below_drewN | apply below_drew1) | exact HB.out)⟩⟩
 case round =>
  clear H'
  try clear p2
  obtain ⟨x7_1, x8_1, rfl, HA, HK1, HO_7, HB⟩ := hrel
  cases gk with
  | zero => exact absurd HA.out (by simp [codec_number.l0])
  | succ k1 =>
   have H := HA.out
   clear HA
   simp only [codec_number.l0] at H
   by_cases c6 : x8_1 ≥ 0
   ·rw [if_pos c6] at H
    have c6b0 : decide (0 ≤ x8_1) = true := decide_eq_true c6
    clear c6
    obtain ⟨ji7, hji7⟩ : ∃ j_ : Int, (wrap64 (8 * x8_1)) = j_ := ⟨_, rfl⟩
    replace H : (if 0 ≤ (ji7) then (if x7_1.length < 140737488355328 then (codec_number.l0 k1 a1 (x7_1 ++ [(shr .u64 a1 (ji7)) % 256]) (wrap64 (x8_1 - 1))) else (none)) else (none)) = some r := by first | (rw [hji7] at H; exact H) | (simp only [hji7] at H ⊢; exact H)
    have hji7w : (IntKind.i64.wrap (8 * x8_1)) = ji7 := (i64_w _).trans hji7
    by_cases c8 : 0 ≤ (ji7)
    ·rw [if_pos c8] at H
     have c8b0 := eq_true c8
     have c8b1 : decide (0 ≤ (ji7)) = true := decide_eq_true c8
     clear c8
     obtain ⟨ji9, hji9⟩ : ∃ j_ : Int, (shr .u64 a1 (ji7)) = j_ := ⟨_, rfl⟩
     replace H : (if x7_1.length < 140737488355328 then (codec_number.l0 k1 a1 (x7_1 ++ [(ji9) % 256]) (wrap64 (x8_1 - 1))) else (none)) = some r := by first | (rw [hji9] at H; exact H) | (simp only [hji9] at H ⊢; exact H)
     have hji9_ : (a1 / 2 ^ min (ji7).toNat 64) = ji9 := hji9
     have hji9z : (ji7) ≤ 64 → (a1 / 2 ^ (ji7).toNat) = ji9 := shr_small hji9
     by_cases c10 : x7_1.length < 140737488355328
     ·rw [if_pos c10] at H
      have LMc10 := Aside0.mk c10
      clear c10
      obtain ⟨y109, hy109⟩ : ∃ y_ : List Int, y_ = (x7_1 ++ [(ji9) % 256]) := ⟨_, rfl⟩
      replace H : (codec_number.l0 k1 a1 y109 (wrap64 (x8_1 - 1))) = some r := by first | (rw [hy109]; with_reducible exact H) | (have H2_ := (Option.bind_some _ _).symm.trans H; rw [hy109]; with_reducible exact H2_) | (have H2_ := (Option.bind_some _ _).symm.trans H; with_reducible exact H2_) | with_reducible exact H | (rw [hy109]; exact H) | exact H
      have Ny109 := Aside0.mk hy109
      clear hy109
      have H' := Aside0.mk H
      clear H
      go_wp2_with (first | ((with_reducible refine gate_builtin (b := .append) (xs := #[.tmp 20, .tmp 26]) rfl ?_); at_builtin; refine Kd.R_append (Kd.int .u8) (w0 := w) w.heap.size rfl (.tmp 20) (.tmp 26) 80 5 (.int .u8 0) 1 rfl Tryd.underlying80 info5 rfl (by decide) (by omega) u7 x7_1 ((ji9) % 256) [.int .u8 ((ji9) % 256)] (fun _ => True) (fun _ => False) rfl rfl ?aP (fun _ hk => hk.elim) ?aF ?aO ?aB ?aS ?aL ?_; (case aP => exact rfl); (case aB => exact (by repeat (first | (with_reducible first | exact HB.out | apply below_alloc | apply pw_below_drewN | apply below_drew1) | exact HB.out))); (case aF => exact (fun _ _ => trivial)); (case aO => exact (by (with_reducible repeat (first | apply Kd.R_alloc | apply Kd.R_drewN | apply Kd.R_drew)); exact HO_7.out)); (case aS => exact (below_size (by repeat (first | (with_reducible first | exact HB.out | apply below_alloc | apply pw_below_drewN | apply below_drew1) | exact HB.out)))); (case aL => have := LMc10.out; first | omega | (simp only [ByteArray.size, List.size_toArray, List.length_cons, List.length_nil] at this ⊢; omega)); intro v110 w11 ho hb hg hat; rw [← Ny109.out] at ho; have n0_ := Aside0.mk (hb); have n1_ := Aside0.mk (ho); clear HB; clear HO_7; have HB := n0_; have HO111 := n1_; clear n0_ n1_; clear ho hb hg hat))
      go_roundg k1
      case measure => have := HK1.out; omega
      case rel => exact ⟨(y109), (wrap64 (x8_1 - 1)), (by first | rfl | (simp; done) | (simp [*]; done)), H', ⟨by have := HK1.out; omega⟩, ⟨by (with_reducible repeat (first | apply Kd.R_alloc | apply Kd.R_drewN | apply Kd.R_drew)); exact HO111.out⟩, ⟨by repeat (first | (with_reducible first | exact HB.out | apply below_alloc | apply pw_below_drewN | apply below_drew1) | exact HB.out)⟩⟩
     ·rw [if_neg c10] at H
      exact absurd H (by simp)
    ·rw [if_neg c8] at H
     exact absurd H (by simp)
   ·rw [if_neg c6] at H
    have c6b0 : decide (0 ≤ x8_1) = false := decide_eq_false c6
    clear c6
    obtain rfl := Option.some.inj H
    go_wp2
    go_ret
    exact ⟨_, by first | rfl | (simp [errW_none, errW_some] <;> rfl) | (simp [*, errW_none, errW_some] <;> rfl), by (with_reducible repeat (first | apply Kd.R_alloc | apply Kd.R_drewN | apply Kd.R_drew)); exact HO_7.out, by repeat (first | (with_reducible first | exact HB.out | apply below_alloc | apply pw_below_drewN | apply below_drew1) | exact HB.out)⟩
end Go.Proofs.YtbgabhknmpbgiaaDoor.S
end
section
namespace Go.Proofs.YtbgabhknmpbgiaaDoor.Pure
open Go.RowKit Go.Proofs.YtbgabhknmpbgiaaDoorW.PrintWords Go.Proofs.YtbgabhknmpbgiaaDoorW.PrintLast Go.Proofs.YtbgabhknmpbgiaaDoorW.PrintMore
theorem u64w (n : Int) : IntKind.u64.wrap n = n % 18446744073709551616 := rfl
theorem i64w (n : Int) : IntKind.i64.wrap n = wrap64 n := by
 unfold wrap64
 show (if (true && decide (n % 18446744073709551616 ≥ 9223372036854775808)) = true then n % 18446744073709551616 - 18446744073709551616 else n % 18446744073709551616) = _
 by_cases h : n % 18446744073709551616 ≥ 9223372036854775808
 ·simp only [h, decide_true, Bool.and_self, if_true]; omega
 ·simp only [h, decide_false, Bool.and_false, Bool.false_eq_true, if_false]; omega
theorem w64 {n : Int} (h0 : -9223372036854775808 ≤ n) (h1 : n ≤ 9223372036854775807) : wrap64 n = n := by unfold wrap64; omega
theorem and15 (n : Int) (h0 : 0 ≤ n) (h1 : n ≤ 255) : Go.bits .and .u8 n 15 = n % 16 := by
 have : ∀ m : Fin 256, Go.bits .and .u8 (m.val : Int) 15 = (m.val : Int) % 16 := by decide +kernel
 have e := this ⟨n.toNat, by omega⟩
 have hn : ((n.toNat : Nat) : Int) = n := by omega
 simpa [hn] using e
theorem and15_bt (s : ByteArray) (p : Int) : Go.bits .and .u8 (bt s p) 15 = bt s p % 16 := and15 _ (bt_range s p).1 (bt_range s p).2
theorem or_nat (m b : Nat) (hb : b < 256) : (m * 256) ||| b = m * 256 + b := by
 have := Nat.two_pow_add_eq_or_of_lt (i := 8) (b := b) hb m
 rw [Nat.mul_comm] at this
 exact this.symm
theorem or_u64 (a b : Int) (h0 : 0 ≤ a) (h1 : a * 256 < 18446744073709551616) (hb0 : 0 ≤ b) (hb1 : b < 256) : Go.bits .or .u64 (a * 256) b = a * 256 + b := by
 obtain ⟨a, rfl⟩ := Int.eq_ofNat_of_zero_le h0
 obtain ⟨b, rfl⟩ := Int.eq_ofNat_of_zero_le hb0
 show IntKind.u64.wrap (((BitVec.ofInt 64 ((a : Int) * 256)) ||| (BitVec.ofInt 64 (b : Int))).toNat : Int) = _
 rw [BitVec.toNat_or, BitVec.toNat_ofInt, BitVec.toNat_ofInt]
 have e1 : (((a : Int) * 256) % ((2 ^ 64 : Nat) : Int)).toNat = a * 256 := by omega
 have e2 : ((b : Int) % ((2 ^ 64 : Nat) : Int)).toNat = b := by omega
 rw [e1, e2, or_nat a b (by omega), u64w]
 omega
theorem or_i64 (a b : Int) (h0 : -9223372036854775808 ≤ a * 256) (h1 : a * 256 ≤ 9223372036854775807) (hb0 : 0 ≤ b) (hb1 : b < 256) : Go.bits .or .i64 (a * 256) b = a * 256 + b := by
 obtain ⟨b, rfl⟩ := Int.eq_ofNat_of_zero_le hb0
 show IntKind.i64.wrap (((BitVec.ofInt 64 (a * 256)) ||| (BitVec.ofInt 64 (b : Int))).toNat : Int) = _
 rw [BitVec.toNat_or, BitVec.toNat_ofInt, BitVec.toNat_ofInt]
 have e1 : ((a * 256) % ((2 ^ 64 : Nat) : Int)).toNat = (a % 72057594037927936).toNat * 256 := by omega
 have e2 : ((b : Int) % ((2 ^ 64 : Nat) : Int)).toNat = b := by omega
 rw [e1, e2, or_nat _ b (by omega), i64w]
 unfold wrap64
 omega
theorem not_i64 (a : Int) (h0 : -9223372036854775808 ≤ a) (h1 : a < 0) : IntKind.u64.wrap (Go.bits .xor .i64 (-1) a) = -1 - a := by
 show IntKind.u64.wrap (IntKind.i64.wrap (((BitVec.ofInt 64 (-1)) ^^^ (BitVec.ofInt 64 a)).toNat : Int)) = _
 have e : (BitVec.ofInt 64 (-1)) = BitVec.allOnes 64 := by decide
 rw [e, BitVec.allOnes_xor, BitVec.toNat_not, BitVec.toNat_ofInt, i64w, u64w]
 unfold wrap64
 omega
def nb (x : Int) : Int := if x < 256 then 1 else if x < 65536 then 2 else if x < 16777216 then 3 else if x < 4294967296 then 4 else if x < 1099511627776 then 5 else if x < 281474976710656 then 6 else if x < 72057594037927936 then 7 else 8
def sb (x : Int) : Int := if x < 128 then 1 else if x < 32768 then 2 else if x < 8388608 then 3 else if x < 2147483648 then 4 else if x < 549755813888 then 5 else if x < 140737488355328 then 6 else if x < 36028797018963968 then 7 else if x < 9223372036854775808 then 8 else 9
def ss (x : Int) : Int := if x < 0 then sb (-1 - x) else sb x
theorem nb_range (x : Int) : 1 ≤ nb x ∧ nb x ≤ 8 := by unfold nb; omega
theorem ss_range (x : Int) (h0 : -9223372036854775808 ≤ x) (h1 : x ≤ 9223372036854775807) : 1 ≤ ss x ∧ ss x ≤ 8 := by unfold ss sb; omega
theorem nb_div {x : Int} (h : 255 < x) (h1 : x < 18446744073709551616) : nb (x / 256) = nb x - 1 := by unfold nb; omega
theorem nb_small {x : Int} (h : x ≤ 255) : nb x = 1 := by unfold nb; omega
theorem ss_div {x : Int} (h : x < -128 ∨ 127 < x) (h0 : -9223372036854775808 ≤ x) (h1 : x ≤ 9223372036854775807) : ss (x / 256) = ss x - 1 := by unfold ss sb; omega
theorem ss_small {x : Int} (h0 : -128 ≤ x) (h1 : x ≤ 127) : ss x = 1 := by unfold ss sb; omega
end Go.Proofs.YtbgabhknmpbgiaaDoor.Pure
end
section
namespace Go.Proofs.YtbgabhknmpbgiaaDoor.S
open Go.RowKit Go.Proofs.YtbgabhknmpbgiaaDoorW.PrintWords Go.Proofs.YtbgabhknmpbgiaaDoorW.PrintLast Go.Proofs.YtbgabhknmpbgiaaDoorW.PrintMore
attribute [local go_sem] max2_int min2_int max_two min_two max_three min_three max_four min_four
set_option linter.unusedVariables false
set_option linter.unusedSimpArgs false
def bits_Len64.j0 : Nat → Int → Int → Option (Int)
 | 0, _, _ => none
 | k + 1, x0, x2 => if x0 ≥ 65536 then (if (x0 / 65536) ≥ 256 then (if 0 ≤ (((x0 / 65536) / 256) % 256) then (if (((x0 / 65536) / 256) % 256) < 256 then (some (wrap64 ((wrap64 ((wrap64 (x2 + 16)) + 8)) + (wrap64 (bt (⟨#[0, 1, 2, 2, 3, 3, 3, 3, 4, 4, 4, 4, 4, 4, 4, 4, 5, 5, 5, 5, 5, 5, 5, 5, 5, 5, 5, 5, 5, 5, 5, 5, 6, 6, 6, 6, 6, 6, 6, 6, 6, 6, 6, 6, 6, 6, 6, 6, 6, 6, 6, 6, 6, 6, 6, 6, 6, 6, 6, 6, 6, 6, 6, 6, 7, 7, 7, 7, 7, 7, 7, 7, 7, 7, 7, 7, 7, 7, 7, 7, 7, 7, 7, 7, 7, 7, 7, 7, 7, 7, 7, 7, 7, 7, 7, 7, 7, 7, 7, 7, 7, 7, 7, 7, 7, 7, 7, 7, 7, 7, 7, 7, 7, 7, 7, 7, 7, 7, 7, 7, 7, 7, 7, 7, 7, 7, 7, 7, 8, 8, 8, 8, 8, 8, 8, 8, 8, 8, 8, 8, 8, 8, 8, 8, 8, 8, 8, 8, 8, 8, 8, 8, 8, 8, 8, 8, 8, 8, 8, 8, 8, 8, 8, 8, 8, 8, 8, 8, 8, 8, 8, 8, 8, 8, 8, 8, 8, 8, 8, 8, 8, 8, 8, 8, 8, 8, 8, 8, 8, 8, 8, 8, 8, 8, 8, 8, 8, 8, 8, 8, 8, 8, 8, 8, 8, 8, 8, 8, 8, 8, 8, 8, 8, 8, 8, 8, 8, 8, 8, 8, 8, 8, 8, 8, 8, 8, 8, 8, 8, 8, 8, 8, 8, 8, 8, 8, 8, 8, 8, 8, 8, 8, 8, 8, 8, 8, 8, 8, 8, 8, 8, 8, 8, 8, 8, 8]⟩ : ByteArray) (((x0 / 65536) / 256) % 256)))))) else (none)) else (none)) else (if 0 ≤ ((x0 / 65536) % 256) then (if ((x0 / 65536) % 256) < 256 then (some (wrap64 ((wrap64 (x2 + 16)) + (wrap64 (bt (⟨#[0, 1, 2, 2, 3, 3, 3, 3, 4, 4, 4, 4, 4, 4, 4, 4, 5, 5, 5, 5, 5, 5, 5, 5, 5, 5, 5, 5, 5, 5, 5, 5, 6, 6, 6, 6, 6, 6, 6, 6, 6, 6, 6, 6, 6, 6, 6, 6, 6, 6, 6, 6, 6, 6, 6, 6, 6, 6, 6, 6, 6, 6, 6, 6, 7, 7, 7, 7, 7, 7, 7, 7, 7, 7, 7, 7, 7, 7, 7, 7, 7, 7, 7, 7, 7, 7, 7, 7, 7, 7, 7, 7, 7, 7, 7, 7, 7, 7, 7, 7, 7, 7, 7, 7, 7, 7, 7, 7, 7, 7, 7, 7, 7, 7, 7, 7, 7, 7, 7, 7, 7, 7, 7, 7, 7, 7, 7, 7, 8, 8, 8, 8, 8, 8, 8, 8, 8, 8, 8, 8, 8, 8, 8, 8, 8, 8, 8, 8, 8, 8, 8, 8, 8, 8, 8, 8, 8, 8, 8, 8, 8, 8, 8, 8, 8, 8, 8, 8, 8, 8, 8, 8, 8, 8, 8, 8, 8, 8, 8, 8, 8, 8, 8, 8, 8, 8, 8, 8, 8, 8, 8, 8, 8, 8, 8, 8, 8, 8, 8, 8, 8, 8, 8, 8, 8, 8, 8, 8, 8, 8, 8, 8, 8, 8, 8, 8, 8, 8, 8, 8, 8, 8, 8, 8, 8, 8, 8, 8, 8, 8, 8, 8, 8, 8, 8, 8, 8, 8, 8, 8, 8, 8, 8, 8, 8, 8, 8, 8, 8, 8, 8, 8, 8, 8, 8, 8]⟩ : ByteArray) ((x0 / 65536) % 256)))))) else (none)) else (none))) else (if x0 ≥ 256 then (if 0 ≤ ((x0 / 256) % 256) then (if ((x0 / 256) % 256) < 256 then (some (wrap64 ((wrap64 (x2 + 8)) + (wrap64 (bt (⟨#[0, 1, 2, 2, 3, 3, 3, 3, 4, 4, 4, 4, 4, 4, 4, 4, 5, 5, 5, 5, 5, 5, 5, 5, 5, 5, 5, 5, 5, 5, 5, 5, 6, 6, 6, 6, 6, 6, 6, 6, 6, 6, 6, 6, 6, 6, 6, 6, 6, 6, 6, 6, 6, 6, 6, 6, 6, 6, 6, 6, 6, 6, 6, 6, 7, 7, 7, 7, 7, 7, 7, 7, 7, 7, 7, 7, 7, 7, 7, 7, 7, 7, 7, 7, 7, 7, 7, 7, 7, 7, 7, 7, 7, 7, 7, 7, 7, 7, 7, 7, 7, 7, 7, 7, 7, 7, 7, 7, 7, 7, 7, 7, 7, 7, 7, 7, 7, 7, 7, 7, 7, 7, 7, 7, 7, 7, 7, 7, 8, 8, 8, 8, 8, 8, 8, 8, 8, 8, 8, 8, 8, 8, 8, 8, 8, 8, 8, 8, 8, 8, 8, 8, 8, 8, 8, 8, 8, 8, 8, 8, 8, 8, 8, 8, 8, 8, 8, 8, 8, 8, 8, 8, 8, 8, 8, 8, 8, 8, 8, 8, 8, 8, 8, 8, 8, 8, 8, 8, 8, 8, 8, 8, 8, 8, 8, 8, 8, 8, 8, 8, 8, 8, 8, 8, 8, 8, 8, 8, 8, 8, 8, 8, 8, 8, 8, 8, 8, 8, 8, 8, 8, 8, 8, 8, 8, 8, 8, 8, 8, 8, 8, 8, 8, 8, 8, 8, 8, 8, 8, 8, 8, 8, 8, 8, 8, 8, 8, 8, 8, 8, 8, 8, 8, 8, 8, 8]⟩ : ByteArray) ((x0 / 256) % 256)))))) else (none)) else (none)) else (if 0 ≤ ((x0) % 256) then (if ((x0) % 256) < 256 then (some (wrap64 (x2 + (wrap64 (bt (⟨#[0, 1, 2, 2, 3, 3, 3, 3, 4, 4, 4, 4, 4, 4, 4, 4, 5, 5, 5, 5, 5, 5, 5, 5, 5, 5, 5, 5, 5, 5, 5, 5, 6, 6, 6, 6, 6, 6, 6, 6, 6, 6, 6, 6, 6, 6, 6, 6, 6, 6, 6, 6, 6, 6, 6, 6, 6, 6, 6, 6, 6, 6, 6, 6, 7, 7, 7, 7, 7, 7, 7, 7, 7, 7, 7, 7, 7, 7, 7, 7, 7, 7, 7, 7, 7, 7, 7, 7, 7, 7, 7, 7, 7, 7, 7, 7, 7, 7, 7, 7, 7, 7, 7, 7, 7, 7, 7, 7, 7, 7, 7, 7, 7, 7, 7, 7, 7, 7, 7, 7, 7, 7, 7, 7, 7, 7, 7, 7, 8, 8, 8, 8, 8, 8, 8, 8, 8, 8, 8, 8, 8, 8, 8, 8, 8, 8, 8, 8, 8, 8, 8, 8, 8, 8, 8, 8, 8, 8, 8, 8, 8, 8, 8, 8, 8, 8, 8, 8, 8, 8, 8, 8, 8, 8, 8, 8, 8, 8, 8, 8, 8, 8, 8, 8, 8, 8, 8, 8, 8, 8, 8, 8, 8, 8, 8, 8, 8, 8, 8, 8, 8, 8, 8, 8, 8, 8, 8, 8, 8, 8, 8, 8, 8, 8, 8, 8, 8, 8, 8, 8, 8, 8, 8, 8, 8, 8, 8, 8, 8, 8, 8, 8, 8, 8, 8, 8, 8, 8, 8, 8, 8, 8, 8, 8, 8, 8, 8, 8, 8, 8, 8, 8, 8, 8, 8, 8]⟩ : ByteArray) ((x0) % 256)))))) else (none)) else (none)))
def bits_Len64.f (k : Nat) (a0 : Int) : Option (Int) := if a0 ≥ 4294967296 then (bits_Len64.j0 k (a0 / 4294967296) 32) else (bits_Len64.j0 k a0 0)
set_option maxHeartbeats 8000000 in
set_option maxRecDepth 100000 in
theorem bits_Len64.calls (k : Nat) (a0 : Int) (r : Int) (w : World) (hG : Glob w) (h : bits_Len64.f k a0 = some r) :
  Calls Tryd.prog 86 #[.int .u64 a0] w fun e w' => e = .returned (.int .i64 r) ∧ Drawn0 w w' := by
 have HG := Aside0.mk hG
 clear hG
 have H : (if a0 ≥ 4294967296 then (bits_Len64.j0 k (a0 / 4294967296) 32) else (bits_Len64.j0 k a0 0)) = some r := h
 clear h
 have HC2 := Aside0.mk H
 clear H
 go_enter Tryd.func86, Tryd.ntmps86
 go_upto_if 4 with (fail)
 go_cut [0, 2] (fun v0 v2 wc => ∃ (kq : Nat) (x0_1 : Int) (x2_1 : Int), v0 = .int .u64 x0_1 ∧ v2 = .int .i64 x2_1 ∧ Aside0 (bits_Len64.j0 kq x0_1 x2_1 = some r) ∧ Aside0 (kq ≤ k) ∧ Drawn0 w wc)
 case first =>
  have H := HC2.out
  clear HC2
  by_cases c3 : a0 ≥ 4294967296
  ·rw [if_pos c3] at H
   have c3b0 : decide (4294967296 ≤ a0) = true := decide_eq_true c3
   clear c3
   (first | rw [c3b0] | (simp only [i64_w, i32_w]; rw [c3b0]) | skip)
   have H' := Aside0.mk H
   clear H
   go_wp2
   go_meet
   case rel => exact ⟨_, (a0 / 4294967296), (32), (by first | rfl | (simp; done) | (simp [*]; done)), (by first | rfl | (simp; done) | (simp [*]; done)), H', ⟨by first | omega | exact Nat.le_refl _⟩, by repeat (first | exact Drawn0.refl _ | apply Drawn0.step)⟩
  ·rw [if_neg c3] at H
   have c3b0 : decide (4294967296 ≤ a0) = false := decide_eq_false c3
   clear c3
   (first | rw [c3b0] | (simp only [i64_w, i32_w]; rw [c3b0]) | skip)
   have H' := Aside0.mk H
   clear H
   go_wp2
   go_meet
   case rel => exact ⟨_, (a0), (0), (by first | rfl | (simp; done) | (simp [*]; done)), (by first | rfl | (simp; done) | (simp [*]; done)), H', ⟨by first | omega | exact Nat.le_refl _⟩, by repeat (first | exact Drawn0.refl _ | apply Drawn0.step)⟩
 case rest =>
  clear HC2
  try clear p2
  try clear c3
  try clear c3b0
  obtain ⟨kq, x0_1, x2_1, rfl, rfl, HA, HJ1, ⟨mc1, rfl⟩⟩ := hcut
  cases kq with
  | zero => exact absurd HA.out (by simp [bits_Len64.j0])
  | succ kj1 =>
   have H := HA.out
   clear HA
   simp only [bits_Len64.j0] at H
   by_cases c4 : x0_1 ≥ 65536
   ·rw [if_pos c4] at H
    have c4b0 : decide (65536 ≤ x0_1) = true := decide_eq_true c4
    clear c4
    by_cases c5 : (x0_1 / 65536) ≥ 256
    ·rw [if_pos c5] at H
     have c5b0 : decide (256 ≤ (x0_1 / 65536)) = true := decide_eq_true c5
     clear c5
     obtain ⟨ji6, hji6⟩ : ∃ j_ : Int, (((x0_1 / 65536) / 256) % 256) = j_ := ⟨_, rfl⟩
     replace H : (if 0 ≤ (ji6) then (if (ji6) < 256 then (some (wrap64 ((wrap64 ((wrap64 (x2_1 + 16)) + 8)) + (wrap64 (bt (⟨#[0, 1, 2, 2, 3, 3, 3, 3, 4, 4, 4, 4, 4, 4, 4, 4, 5, 5, 5, 5, 5, 5, 5, 5, 5, 5, 5, 5, 5, 5, 5, 5, 6, 6, 6, 6, 6, 6, 6, 6, 6, 6, 6, 6, 6, 6, 6, 6, 6, 6, 6, 6, 6, 6, 6, 6, 6, 6, 6, 6, 6, 6, 6, 6, 7, 7, 7, 7, 7, 7, 7, 7, 7, 7, 7, 7, 7, 7, 7, 7, 7, 7, 7, 7, 7, 7, 7, 7, 7, 7, 7, 7, 7, 7, 7, 7, 7, 7, 7, 7, 7, 7, 7, 7, 7, 7, 7, 7, 7, 7, 7, 7, 7, 7, 7, 7, 7, 7, 7, 7, 7, 7, 7, 7, 7, 7, 7, 7, 8, 8, 8, 8, 8, 8, 8, 8, 8, 8, 8, 8, 8, 8, 8, 8, 8, 8, 8, 8, 8, 8, 8, 8, 8, 8, 8, 8, 8, 8, 8, 8, 8, 8, 8, 8, 8, 8, 8, 8, 8, 8, 8, 8, 8, 8, 8, 8, 8, 8, 8, 8, 8, 8, 8, 8, 8, 8, 8, 8, 8, 8, 8, 8, 8, 8, 8, 8, 8, 8, 8, 8, 8, 8, 8, 8, 8, 8, 8, 8, 8, 8, 8, 8, 8, 8, 8, 8, 8, 8, 8, 8, 8, 8, 8, 8, 8, 8, 8, 8, 8, 8, 8, 8, 8, 8, 8, 8, 8, 8, 8, 8, 8, 8, 8, 8, 8, 8, 8, 8, 8, 8, 8, 8, 8, 8, 8, 8]⟩ : ByteArray) (ji6)))))) else (none)) else (none)) = some r := by first | (rw [hji6] at H; exact H) | (simp only [hji6] at H ⊢; exact H)
     by_cases c7 : 0 ≤ (ji6)
     ·rw [if_pos c7] at H
      have c7b0 : decide (0 ≤ (ji6)) = true := decide_eq_true c7
      clear c7
      by_cases c8 : (ji6) < 256
      ·rw [if_pos c8] at H
       have c8b0 : decide ((ji6) < 256) = true := decide_eq_true c8
       clear c8
       obtain rfl := Option.some.inj H
       have p9 : 0 ≤ ((ji6) : Int) := of_decide_eq_true (by first | (with_reducible assumption) | assumption)
       have q9 : (ji6) < (256 : Int) := of_decide_eq_true (by first | (with_reducible assumption) | assumption)
       have hx9 := bt_at (⟨#[0, 1, 2, 2, 3, 3, 3, 3, 4, 4, 4, 4, 4, 4, 4, 4, 5, 5, 5, 5, 5, 5, 5, 5, 5, 5, 5, 5, 5, 5, 5, 5, 6, 6, 6, 6, 6, 6, 6, 6, 6, 6, 6, 6, 6, 6, 6, 6, 6, 6, 6, 6, 6, 6, 6, 6, 6, 6, 6, 6, 6, 6, 6, 6, 7, 7, 7, 7, 7, 7, 7, 7, 7, 7, 7, 7, 7, 7, 7, 7, 7, 7, 7, 7, 7, 7, 7, 7, 7, 7, 7, 7, 7, 7, 7, 7, 7, 7, 7, 7, 7, 7, 7, 7, 7, 7, 7, 7, 7, 7, 7, 7, 7, 7, 7, 7, 7, 7, 7, 7, 7, 7, 7, 7, 7, 7, 7, 7, 8, 8, 8, 8, 8, 8, 8, 8, 8, 8, 8, 8, 8, 8, 8, 8, 8, 8, 8, 8, 8, 8, 8, 8, 8, 8, 8, 8, 8, 8, 8, 8, 8, 8, 8, 8, 8, 8, 8, 8, 8, 8, 8, 8, 8, 8, 8, 8, 8, 8, 8, 8, 8, 8, 8, 8, 8, 8, 8, 8, 8, 8, 8, 8, 8, 8, 8, 8, 8, 8, 8, 8, 8, 8, 8, 8, 8, 8, 8, 8, 8, 8, 8, 8, 8, 8, 8, 8, 8, 8, 8, 8, 8, 8, 8, 8, 8, 8, 8, 8, 8, 8, 8, 8, 8, 8, 8, 8, 8, 8, 8, 8, 8, 8, 8, 8, 8, 8, 8, 8, 8, 8, 8, 8, 8, 8, 8, 8]⟩ : ByteArray) (ji6)
       replace p9 := eq_true p9
       replace q9 := eq_true q9
       go_wp2
       go_ret
       exact ⟨by first | rfl | (simp; done) | (simp only [← hji6] <;> (first | rfl | simp)) | (simp [*]; done), by repeat (first | exact Drawn0.refl _ | apply Drawn0.step)⟩
      ·rw [if_neg c8] at H
       exact absurd H (by simp)
     ·rw [if_neg c7] at H
      exact absurd H (by simp)
    ·rw [if_neg c5] at H
     have c5b0 : decide (256 ≤ (x0_1 / 65536)) = false := decide_eq_false c5
     clear c5
     obtain ⟨ji10, hji10⟩ : ∃ j_ : Int, ((x0_1 / 65536) % 256) = j_ := ⟨_, rfl⟩
     replace H : (if 0 ≤ (ji10) then (if (ji10) < 256 then (some (wrap64 ((wrap64 (x2_1 + 16)) + (wrap64 (bt (⟨#[0, 1, 2, 2, 3, 3, 3, 3, 4, 4, 4, 4, 4, 4, 4, 4, 5, 5, 5, 5, 5, 5, 5, 5, 5, 5, 5, 5, 5, 5, 5, 5, 6, 6, 6, 6, 6, 6, 6, 6, 6, 6, 6, 6, 6, 6, 6, 6, 6, 6, 6, 6, 6, 6, 6, 6, 6, 6, 6, 6, 6, 6, 6, 6, 7, 7, 7, 7, 7, 7, 7, 7, 7, 7, 7, 7, 7, 7, 7, 7, 7, 7, 7, 7, 7, 7, 7, 7, 7, 7, 7, 7, 7, 7, 7, 7, 7, 7, 7, 7, 7, 7, 7, 7, 7, 7, 7, 7, 7, 7, 7, 7, 7, 7, 7, 7, 7, 7, 7, 7, 7, 7, 7, 7, 7, 7, 7, 7, 8, 8, 8, 8, 8, 8, 8, 8, 8, 8, 8, 8, 8, 8, 8, 8, 8, 8, 8, 8, 8, 8, 8, 8, 8, 8, 8, 8, 8, 8, 8, 8, 8, 8, 8, 8, 8, 8, 8, 8, 8, 8, 8, 8, 8, 8, 8, 8, 8, 8, 8, 8, 8, 8, 8, 8, 8, 8, 8, 8, 8, 8, 8, 8, 8, 8, 8, 8, 8, 8, 8, 8, 8, 8, 8, 8, 8, 8, 8, 8, 8, 8, 8, 8, 8, 8, 8, 8, 8, 8, 8, 8, 8, 8, 8, 8, 8, 8, 8, 8, 8, 8, 8, 8, 8, 8, 8, 8, 8, 8, 8, 8, 8, 8, 8, 8, 8, 8, 8, 8, 8, 8, 8, 8, 8, 8, 8, 8]⟩ : ByteArray) (ji10)))))) else (none)) else (none)) = some r := by first | (rw [hji10] at H; exact H) | (simp only [hji10] at H ⊢; exact H)
     by_cases c11 : 0 ≤ (ji10)
     ·rw [if_pos c11] at H
      have c11b0 : decide (0 ≤ (ji10)) = true := decide_eq_true c11
      clear c11
      by_cases c12 : (ji10) < 256
      ·rw [if_pos c12] at H
       have c12b0 : decide ((ji10) < 256) = true := decide_eq_true c12
       clear c12
       obtain rfl := Option.some.inj H
       have p13 : 0 ≤ ((ji10) : Int) := of_decide_eq_true (by first | (with_reducible assumption) | assumption)
       have q13 : (ji10) < (256 : Int) := of_decide_eq_true (by first | (with_reducible assumption) | assumption)
       have hx13 := bt_at (⟨#[0, 1, 2, 2, 3, 3, 3, 3, 4, 4, 4, 4, 4, 4, 4, 4, 5, 5, 5, 5, 5, 5, 5, 5, 5, 5, 5, 5, 5, 5, 5, 5, 6, 6, 6, 6, 6, 6, 6, 6, 6, 6, 6, 6, 6, 6, 6, 6, 6, 6, 6, 6, 6, 6, 6, 6, 6, 6, 6, 6, 6, 6, 6, 6, 7, 7, 7, 7, 7, 7, 7, 7, 7, 7, 7, 7, 7, 7, 7, 7, 7, 7, 7, 7, 7, 7, 7, 7, 7, 7, 7, 7, 7, 7, 7, 7, 7, 7, 7, 7, 7, 7, 7, 7, 7, 7, 7, 7, 7, 7, 7, 7, 7, 7, 7, 7, 7, 7, 7, 7, 7, 7, 7, 7, 7, 7, 7, 7, 8, 8, 8, 8, 8, 8, 8, 8, 8, 8, 8, 8, 8, 8, 8, 8, 8, 8, 8, 8, 8, 8, 8, 8, 8, 8, 8, 8, 8, 8, 8, 8, 8, 8, 8, 8, 8, 8, 8, 8, 8, 8, 8, 8, 8, 8, 8, 8, 8, 8, 8, 8, 8, 8, 8, 8, 8, 8, 8, 8, 8, 8, 8, 8, 8, 8, 8, 8, 8, 8, 8, 8, 8, 8, 8, 8, 8, 8, 8, 8, 8, 8, 8, 8, 8, 8, 8, 8, 8, 8, 8, 8, 8, 8, 8, 8, 8, 8, 8, 8, 8, 8, 8, 8, 8, 8, 8, 8, 8, 8, 8, 8, 8, 8, 8, 8, 8, 8, 8, 8, 8, 8, 8, 8, 8, 8, 8, 8]⟩ : ByteArray) (ji10)
       replace p13 := eq_true p13
       replace q13 := eq_true q13
       go_wp2
       go_ret
       exact ⟨by first | rfl | (simp; done) | (simp only [← hji10] <;> (first | rfl | simp)) | (simp [*]; done), by repeat (first | exact Drawn0.refl _ | apply Drawn0.step)⟩
      ·rw [if_neg c12] at H
       exact absurd H (by simp)
     ·rw [if_neg c11] at H
      exact absurd H (by simp)
   ·rw [if_neg c4] at H
    have c4b0 : decide (65536 ≤ x0_1) = false := decide_eq_false c4
    clear c4
    by_cases c14 : x0_1 ≥ 256
    ·rw [if_pos c14] at H
     have c14b0 : decide (256 ≤ x0_1) = true := decide_eq_true c14
     clear c14
     obtain ⟨ji15, hji15⟩ : ∃ j_ : Int, ((x0_1 / 256) % 256) = j_ := ⟨_, rfl⟩
     replace H : (if 0 ≤ (ji15) then (if (ji15) < 256 then (some (wrap64 ((wrap64 (x2_1 + 8)) + (wrap64 (bt (⟨#[0, 1, 2, 2, 3, 3, 3, 3, 4, 4, 4, 4, 4, 4, 4, 4, 5, 5, 5, 5, 5, 5, 5, 5, 5, 5, 5, 5, 5, 5, 5, 5, 6, 6, 6, 6, 6, 6, 6, 6, 6, 6, 6, 6, 6, 6, 6, 6, 6, 6, 6, 6, 6, 6, 6, 6, 6, 6, 6, 6, 6, 6, 6, 6, 7, 7, 7, 7, 7, 7, 7, 7, 7, 7, 7, 7, 7, 7, 7, 7, 7, 7, 7, 7, 7, 7, 7, 7, 7, 7, 7, 7, 7, 7, 7, 7, 7, 7, 7, 7, 7, 7, 7, 7, 7, 7, 7, 7, 7, 7, 7, 7, 7, 7, 7, 7, 7, 7, 7, 7, 7, 7, 7, 7, 7, 7, 7, 7, 8, 8, 8, 8, 8, 8, 8, 8, 8, 8, 8, 8, 8, 8, 8, 8, 8, 8, 8, 8, 8, 8, 8, 8, 8, 8, 8, 8, 8, 8, 8, 8, 8, 8, 8, 8, 8, 8, 8, 8, 8, 8, 8, 8, 8, 8, 8, 8, 8, 8, 8, 8, 8, 8, 8, 8, 8, 8, 8, 8, 8, 8, 8, 8, 8, 8, 8, 8, 8, 8, 8, 8, 8, 8, 8, 8, 8, 8, 8, 8, 8, 8, 8, 8, 8, 8, 8, 8, 8, 8, 8, 8, 8, 8, 8, 8, 8, 8, 8, 8, 8, 8, 8, 8, 8, 8, 8, 8, 8, 8, 8, 8, 8, 8, 8, 8, 8, 8, 8, 8, 8, 8, 8, 8, 8, 8, 8, 8]⟩ : ByteArray) (ji15)))))) else (none)) else (none)) = some r := by first | (rw [hji15] at H; exact H) | (simp only [hji15] at H ⊢; exact H)
     by_cases c16 : 0 ≤ (ji15)
     ·rw [if_pos c16] at H
      have c16b0 : decide (0 ≤ (ji15)) = true := decide_eq_true c16
      clear c16
      by_cases c17 : (ji15) < 256
      ·rw [if_pos c17] at H
       have c17b0 : decide ((ji15) < 256) = true := decide_eq_true c17
       clear c17
       obtain rfl := Option.some.inj H
       have p18 : 0 ≤ ((ji15) : Int) := of_decide_eq_true (by first | (with_reducible assumption) | assumption)
       have q18 : (ji15) < (256 : Int) := of_decide_eq_true (by first | (with_reducible assumption) | assumption)
       have hx18 := bt_at (⟨#[0, 1, 2, 2, 3, 3, 3, 3, 4, 4, 4, 4, 4, 4, 4, 4, 5, 5, 5, 5, 5, 5, 5, 5, 5, 5, 5, 5, 5, 5, 5, 5, 6, 6, 6, 6, 6, 6, 6, 6, 6, 6, 6, 6, 6, 6, 6, 6, 6, 6, 6, 6, 6, 6, 6, 6, 6, 6, 6, 6, 6, 6, 6, 6, 7, 7, 7, 7, 7, 7, 7, 7, 7, 7, 7, 7, 7, 7, 7, 7, 7, 7, 7, 7, 7, 7, 7, 7, 7, 7, 7, 7, 7, 7, 7, 7, 7, 7, 7, 7, 7, 7, 7, 7, 7, 7, 7, 7, 7, 7, 7, 7, 7, 7, 7, 7, 7, 7, 7, 7, 7, 7, 7, 7, 7, 7, 7, 7, 8, 8, 8, 8, 8, 8, 8, 8, 8, 8, 8, 8, 8, 8, 8, 8, 8, 8, 8, 8, 8, 8, 8, 8, 8, 8, 8, 8, 8, 8, 8, 8, 8, 8, 8, 8, 8, 8, 8, 8, 8, 8, 8, 8, 8, 8, 8, 8, 8, 8, 8, 8, 8, 8, 8, 8, 8, 8, 8, 8, 8, 8, 8, 8, 8, 8, 8, 8, 8, 8, 8, 8, 8, 8, 8, 8, 8, 8, 8, 8, 8, 8, 8, 8, 8, 8, 8, 8, 8, 8, 8, 8, 8, 8, 8, 8, 8, 8, 8, 8, 8, 8, 8, 8, 8, 8, 8, 8, 8, 8, 8, 8, 8, 8, 8, 8, 8, 8, 8, 8, 8, 8, 8, 8, 8, 8, 8, 8]⟩ : ByteArray) (ji15)
       replace p18 := eq_true p18
       replace q18 := eq_true q18
       go_wp2
       go_ret
       exact ⟨by first | rfl | (simp; done) | (simp only [← hji15] <;> (first | rfl | simp)) | (simp [*]; done), by repeat (first | exact Drawn0.refl _ | apply Drawn0.step)⟩
      ·rw [if_neg c17] at H
       exact absurd H (by simp)
     ·rw [if_neg c16] at H
      exact absurd H (by simp)
    ·rw [if_neg c14] at H
     have c14b0 : decide (256 ≤ x0_1) = false := decide_eq_false c14
     clear c14
     obtain ⟨ji19, hji19⟩ : ∃ j_ : Int, ((x0_1) % 256) = j_ := ⟨_, rfl⟩
     replace H : (if 0 ≤ (ji19) then (if (ji19) < 256 then (some (wrap64 (x2_1 + (wrap64 (bt (⟨#[0, 1, 2, 2, 3, 3, 3, 3, 4, 4, 4, 4, 4, 4, 4, 4, 5, 5, 5, 5, 5, 5, 5, 5, 5, 5, 5, 5, 5, 5, 5, 5, 6, 6, 6, 6, 6, 6, 6, 6, 6, 6, 6, 6, 6, 6, 6, 6, 6, 6, 6, 6, 6, 6, 6, 6, 6, 6, 6, 6, 6, 6, 6, 6, 7, 7, 7, 7, 7, 7, 7, 7, 7, 7, 7, 7, 7, 7, 7, 7, 7, 7, 7, 7, 7, 7, 7, 7, 7, 7, 7, 7, 7, 7, 7, 7, 7, 7, 7, 7, 7, 7, 7, 7, 7, 7, 7, 7, 7, 7, 7, 7, 7, 7, 7, 7, 7, 7, 7, 7, 7, 7, 7, 7, 7, 7, 7, 7, 8, 8, 8, 8, 8, 8, 8, 8, 8, 8, 8, 8, 8, 8, 8, 8, 8, 8, 8, 8, 8, 8, 8, 8, 8, 8, 8, 8, 8, 8, 8, 8, 8, 8, 8, 8, 8, 8, 8, 8, 8, 8, 8, 8, 8, 8, 8, 8, 8, 8, 8, 8, 8, 8, 8, 8, 8, 8, 8, 8, 8, 8, 8, 8, 8, 8, 8, 8, 8, 8, 8, 8, 8, 8, 8, 8, 8, 8, 8, 8, 8, 8, 8, 8, 8, 8, 8, 8, 8, 8, 8, 8, 8, 8, 8, 8, 8, 8, 8, 8, 8, 8, 8, 8, 8, 8, 8, 8, 8, 8, 8, 8, 8, 8, 8, 8, 8, 8, 8, 8, 8, 8, 8, 8, 8, 8, 8, 8]⟩ : ByteArray) (ji19)))))) else (none)) else (none)) = some r := by first | (rw [hji19] at H; exact H) | (simp only [hji19] at H ⊢; exact H)
     by_cases c20 : 0 ≤ (ji19)
     ·rw [if_pos c20] at H
      have c20b0 : decide (0 ≤ (ji19)) = true := decide_eq_true c20
      clear c20
      by_cases c21 : (ji19) < 256
      ·rw [if_pos c21] at H
       have c21b0 : decide ((ji19) < 256) = true := decide_eq_true c21
       clear c21
       obtain rfl := Option.some.inj H
       have p22 : 0 ≤ ((ji19) : Int) := of_decide_eq_true (by first | (with_reducible assumption) | assumption)
       have q22 : (ji19) < (256 : Int) := of_decide_eq_true (by first | (with_reducible assumption) | assumption)
       have hx22 := bt_at (⟨#[0, 1, 2, 2, 3, 3, 3, 3, 4, 4, 4, 4, 4, 4, 4, 4, 5, 5, 5, 5, 5, 5, 5, 5, 5, 5, 5, 5, 5, 5, 5, 5, 6, 6, 6, 6, 6, 6, 6, 6, 6, 6, 6, 6, 6, 6, 6, 6, 6, 6, 6, 6, 6, 6, 6, 6, 6, 6, 6, 6, 6, 6, 6, 6, 7, 7, 7, 7, 7, 7, 7, 7, 7, 7, 7, 7, 7, 7, 7, 7, 7, 7, 7, 7, 7, 7, 7, 7, 7, 7, 7, 7, 7, 7, 7, 7, 7, 7, 7, 7, 7, 7, 7, 7, 7, 7, 7, 7, 7, 7, 7, 7, 7, 7, 7, 7, 7, 7, 7, 7, 7, 7, 7, 7, 7, 7, 7, 7, 8, 8, 8, 8, 8, 8, 8, 8, 8, 8, 8, 8, 8, 8, 8, 8, 8, 8, 8, 8, 8, 8, 8, 8, 8, 8, 8, 8, 8, 8, 8, 8, 8, 8, 8, 8, 8, 8, 8, 8, 8, 8, 8, 8, 8, 8, 8, 8, 8, 8, 8, 8, 8, 8, 8, 8, 8, 8, 8, 8, 8, 8, 8, 8, 8, 8, 8, 8, 8, 8, 8, 8, 8, 8, 8, 8, 8, 8, 8, 8, 8, 8, 8, 8, 8, 8, 8, 8, 8, 8, 8, 8, 8, 8, 8, 8, 8, 8, 8, 8, 8, 8, 8, 8, 8, 8, 8, 8, 8, 8, 8, 8, 8, 8, 8, 8, 8, 8, 8, 8, 8, 8, 8, 8, 8, 8, 8, 8]⟩ : ByteArray) (ji19)
       replace p22 := eq_true p22
       replace q22 := eq_true q22
       go_wp2
       go_ret
       exact ⟨by first | rfl | (simp; done) | (simp only [← hji19] <;> (first | rfl | simp)) | (simp [*]; done), by repeat (first | exact Drawn0.refl _ | apply Drawn0.step)⟩
      ·rw [if_neg c21] at H
       exact absurd H (by simp)
     ·rw [if_neg c20] at H
      exact absurd H (by simp)
end Go.Proofs.YtbgabhknmpbgiaaDoor.S
end
section
namespace Go.Proofs.YtbgabhknmpbgiaaDoor.S
open Go.RowKit Go.Proofs.YtbgabhknmpbgiaaDoorW.PrintWords Go.Proofs.YtbgabhknmpbgiaaDoorW.PrintLast Go.Proofs.YtbgabhknmpbgiaaDoorW.PrintMore
attribute [local go_sem] max2_int min2_int max_two min_two max_three min_three max_four min_four
set_option linter.unusedVariables false
set_option linter.unusedSimpArgs false
def codec_spread.f (k : Nat) (a0 : Int) : Option (Int) := if a0 < 0 then ((bits_Len64.f k (IntKind.u64.wrap (Go.bits .xor .i64 (-1) a0))).bind fun t117 => (some (wrap64 (Int.tdiv (wrap64 (t117 + 8)) 8)))) else ((bits_Len64.f k (IntKind.u64.wrap (a0))).bind fun t118 => (some (wrap64 (Int.tdiv (wrap64 (t118 + 8)) 8))))
set_option maxHeartbeats 8000000 in
set_option maxRecDepth 100000 in
theorem codec_spread.calls (k : Nat) (a0 : Int) (r : Int) (w : World) (hG : Glob w) (h : codec_spread.f k a0 = some r) :
  Calls Tryd.prog 70 #[.int .i64 a0] w fun e w' => e = .returned (.int .i64 r) ∧ Drawn0 w w' := by
 have HG := Aside0.mk hG
 clear hG
 have H : (if a0 < 0 then ((bits_Len64.f k (IntKind.u64.wrap (Go.bits .xor .i64 (-1) a0))).bind fun t117 => (some (wrap64 (Int.tdiv (wrap64 (t117 + 8)) 8)))) else ((bits_Len64.f k (IntKind.u64.wrap (a0))).bind fun t118 => (some (wrap64 (Int.tdiv (wrap64 (t118 + 8)) 8))))) = some r := h
 clear h
 by_cases c2 : a0 < 0
 ·rw [if_pos c2] at H
  have c2b0 : decide (a0 < 0) = true := decide_eq_true c2
  clear c2
  replace H := Option.bind_eq_some_iff.mp H
  obtain ⟨t117, A30, H⟩ := H
  replace H : (some (wrap64 (Int.tdiv (wrap64 (t117 + 8)) 8))) = some r := H
  have A3 := Aside0.mk A30
  clear A30
  obtain rfl := Option.some.inj H
  go_enter Tryd.func70, Tryd.ntmps70
  go_wp2_with (first | ((with_reducible refine gate_callee (f := 86) rfl ?_); refine goesL_ (some 9) rfl rfl Tryd.func86 (by kernel_rfl) rfl #[.int .u64 (IntKind.u64.wrap (Go.bits .xor .i64 (-1) a0))] rfl (by (try simp only [List.map_toArray, List.map_cons, List.map_nil]); first | done | rfl | (simp only [List.length_drop, List.length_take]; rfl)) ?_; (with_reducible refine (bits_Len64.calls k (IntKind.u64.wrap (Go.bits .xor .i64 (-1) a0)) t117 _ ?side99  A3.out).mono ?_); (case side99 => first | exact HG.out | exact Glob.below HG.out (by repeat (first | (with_reducible first | exact HB.out | apply below_alloc | apply pw_below_drewN | apply below_drew1) | exact HB.out))); rintro e w' ⟨rfl, ⟨nd, rfl⟩⟩; refine ⟨_, rfl, ?_⟩))
  go_ret
  exact ⟨by first | rfl | (simp; done) | (simp [*]; done), by repeat (first | exact Drawn0.refl _ | apply Drawn0.step)⟩
 ·rw [if_neg c2] at H
  have c2b0 : decide (a0 < 0) = false := decide_eq_false c2
  clear c2
  replace H := Option.bind_eq_some_iff.mp H
  obtain ⟨t118, A40, H⟩ := H
  replace H : (some (wrap64 (Int.tdiv (wrap64 (t118 + 8)) 8))) = some r := H
  have A4 := Aside0.mk A40
  clear A40
  obtain rfl := Option.some.inj H
  go_enter Tryd.func70, Tryd.ntmps70
  go_wp2_with (first | ((with_reducible refine gate_callee (f := 86) rfl ?_); refine goesL_ (some 9) rfl rfl Tryd.func86 (by kernel_rfl) rfl #[.int .u64 (IntKind.u64.wrap (a0))] rfl (by (try simp only [List.map_toArray, List.map_cons, List.map_nil]); first | done | rfl | (simp only [List.length_drop, List.length_take]; rfl)) ?_; (with_reducible refine (bits_Len64.calls k (IntKind.u64.wrap (a0)) t118 _ ?side99  A4.out).mono ?_); (case side99 => first | exact HG.out | exact Glob.below HG.out (by repeat (first | (with_reducible first | exact HB.out | apply below_alloc | apply pw_below_drewN | apply below_drew1) | exact HB.out))); rintro e w' ⟨rfl, ⟨nd, rfl⟩⟩; refine ⟨_, rfl, ?_⟩))
  go_ret
  exact ⟨by first | rfl | (simp; done) | (simp [*]; done), by repeat (first | exact Drawn0.refl _ | apply Drawn0.step)⟩
end Go.Proofs.YtbgabhknmpbgiaaDoor.S
end
section
namespace Go.Proofs.YtbgabhknmpbgiaaDoor.S
open Go.RowKit Go.Proofs.YtbgabhknmpbgiaaDoorW.PrintWords Go.Proofs.YtbgabhknmpbgiaaDoorW.PrintLast Go.Proofs.YtbgabhknmpbgiaaDoorW.PrintMore
attribute [local go_sem] max2_int min2_int max_two min_two max_three min_three max_four min_four
set_option linter.unusedVariables false
set_option linter.unusedSimpArgs false
def codec_width.f (k : Nat) (a0 : Int) : Option (Int) := (bits_Len64.f k a0).bind fun t112 => (some (mx 1 (wrap64 (Int.tdiv (wrap64 (t112 + 7)) 8))))
set_option maxHeartbeats 8000000 in
set_option maxRecDepth 100000 in
theorem codec_width.calls (k : Nat) (a0 : Int) (r : Int) (w : World) (hG : Glob w) (h : codec_width.f k a0 = some r) :
  Calls Tryd.prog 69 #[.int .u64 a0] w fun e w' => e = .returned (.int .i64 r) ∧ Below w.heap.size w w' := by
 have HG := Aside0.mk hG
 clear hG
 have HB := Aside0.mk (Below.refl w.heap.size w)
 have H : ((bits_Len64.f k a0).bind fun t112 => (some (mx 1 (wrap64 (Int.tdiv (wrap64 (t112 + 7)) 8))))) = some r := h
 clear h
 replace H := Option.bind_eq_some_iff.mp H
 obtain ⟨t112, A20, H⟩ := H
 replace H : (some (mx 1 (wrap64 (Int.tdiv (wrap64 (t112 + 7)) 8)))) = some r := H
 have A2 := Aside0.mk A20
 clear A20
 obtain ⟨ji3, hji3⟩ : ∃ j_ : Int, (mx 1 (wrap64 (Int.tdiv (wrap64 (t112 + 7)) 8))) = j_ := ⟨_, rfl⟩
 replace H : (some ji3) = some r := by first | (rw [hji3] at H; exact H) | (simp only [hji3] at H ⊢; exact H)
 (try rw [hji3] at A2)
 (try (have hji3l : 1 ≤ ji3 := by (rw [← hji3]; unfold mx; (repeat' split) <;> omega)))
 (try (have hji3m : 0 ≤ ji3 := by omega))
 have hji3_ : (if 1 < (wrap64 (Int.tdiv (wrap64 (t112 + 7)) 8)) then (wrap64 (Int.tdiv (wrap64 (t112 + 7)) 8)) else 1) = ji3 := hji3
 obtain rfl := Option.some.inj H
 go_enter Tryd.func69, Tryd.ntmps69
 go_wp2_with (first | ((with_reducible refine gate_callee (f := 86) rfl ?_); refine goesL_ (some 4) rfl rfl Tryd.func86 (by kernel_rfl) rfl #[.int .u64 a0] rfl (by (try simp only [List.map_toArray, List.map_cons, List.map_nil]); first | done | rfl | (simp only [List.length_drop, List.length_take]; rfl)) ?_; (with_reducible refine (bits_Len64.calls k a0 t112 _ ?side99  A2.out).mono ?_); (case side99 => first | exact HG.out | exact Glob.below HG.out (by repeat (first | (with_reducible first | exact HB.out | apply below_alloc | apply pw_below_drewN | apply below_drew1) | exact HB.out))); rintro e w' ⟨rfl, ⟨nd, rfl⟩⟩; refine ⟨_, rfl, ?_⟩))
 go_ret
 exact ⟨by first | rfl | (simp [errW_none, errW_some] <;> rfl) | (simp only [← hji3]; first | rfl | (simp [errW_none, errW_some] <;> rfl)) | (simp [*, errW_none, errW_some] <;> rfl), by repeat (first | (with_reducible first | exact HB.out | apply below_alloc | apply pw_below_drewN | apply below_drew1) | exact HB.out)⟩
end Go.Proofs.YtbgabhknmpbgiaaDoor.S
end
section
namespace Go.Proofs.YtbgabhknmpbgiaaDoor.Pure
open Go.RowKit Go.Proofs.YtbgabhknmpbgiaaDoor.S Go.Proofs.YtbgabhknmpbgiaaDoorW.PrintWords Go.Proofs.YtbgabhknmpbgiaaDoorW.PrintLast Go.Proofs.YtbgabhknmpbgiaaDoorW.PrintMore
set_option linter.unusedVariables false
def lenTab : ByteArray := (⟨#[0, 1, 2, 2, 3, 3, 3, 3, 4, 4, 4, 4, 4, 4, 4, 4, 5, 5, 5, 5, 5, 5, 5, 5, 5, 5, 5, 5, 5, 5, 5, 5, 6, 6, 6, 6, 6, 6, 6, 6, 6, 6, 6, 6, 6, 6, 6, 6, 6, 6, 6, 6, 6, 6, 6, 6, 6, 6, 6, 6, 6, 6, 6, 6, 7, 7, 7, 7, 7, 7, 7, 7, 7, 7, 7, 7, 7, 7, 7, 7, 7, 7, 7, 7, 7, 7, 7, 7, 7, 7, 7, 7, 7, 7, 7, 7, 7, 7, 7, 7, 7, 7, 7, 7, 7, 7, 7, 7, 7, 7, 7, 7, 7, 7, 7, 7, 7, 7, 7, 7, 7, 7, 7, 7, 7, 7, 7, 7, 8, 8, 8, 8, 8, 8, 8, 8, 8, 8, 8, 8, 8, 8, 8, 8, 8, 8, 8, 8, 8, 8, 8, 8, 8, 8, 8, 8, 8, 8, 8, 8, 8, 8, 8, 8, 8, 8, 8, 8, 8, 8, 8, 8, 8, 8, 8, 8, 8, 8, 8, 8, 8, 8, 8, 8, 8, 8, 8, 8, 8, 8, 8, 8, 8, 8, 8, 8, 8, 8, 8, 8, 8, 8, 8, 8, 8, 8, 8, 8, 8, 8, 8, 8, 8, 8, 8, 8, 8, 8, 8, 8, 8, 8, 8, 8, 8, 8, 8, 8, 8, 8, 8, 8, 8, 8, 8, 8, 8, 8, 8, 8, 8, 8, 8, 8, 8, 8, 8, 8, 8, 8, 8, 8, 8, 8, 8, 8]⟩ : ByteArray)
theorem lenTab_at (i : Int) (h0 : 0 ≤ i) (h1 : i < 256) : (i = 0 → bt lenTab i = 0) ∧ (1 ≤ i → 1 ≤ bt lenTab i) ∧ (i < 128 → bt lenTab i ≤ 7) ∧ (128 ≤ i → bt lenTab i = 8) ∧ 0 ≤ bt lenTab i ∧ bt lenTab i ≤ 8 := by
 have : ∀ m : Fin 256, (((m.val : Int) = 0 → bt lenTab (m.val : Int) = 0) ∧ (1 ≤ (m.val : Int) → 1 ≤ bt lenTab (m.val : Int)) ∧ ((m.val : Int) < 128 → bt lenTab (m.val : Int) ≤ 7) ∧ (128 ≤ (m.val : Int) → bt lenTab (m.val : Int) = 8) ∧ 0 ≤ bt lenTab (m.val : Int) ∧ bt lenTab (m.val : Int) ≤ 8) := by decide +kernel
 have e := this ⟨i.toNat, by omega⟩
 have hn : ((i.toNat : Nat) : Int) = i := by omega
 simpa only [hn] using e
theorem wsmall {n : Int} (h0 : 0 ≤ n) (h1 : n ≤ 1000) : wrap64 n = n := by unfold wrap64; omega
set_option maxRecDepth 20000 in
theorem len64_j0 (k : Nat) (x c : Int) (h0 : 0 ≤ x) (h1 : x < 4294967296) (hc : c = 0 ∨ c = 32) : ∃ n, bits_Len64.j0 (k + 1) x c = some n ∧ 0 ≤ n ∧ n ≤ 64 ∧ (x = 0 → n = c) ∧ (1 ≤ x → (n + 7) / 8 = nb x + c / 8) ∧ (n + 8) / 8 = sb x + c / 8 := by
 have hl : ∀ i, bt (⟨#[0, 1, 2, 2, 3, 3, 3, 3, 4, 4, 4, 4, 4, 4, 4, 4, 5, 5, 5, 5, 5, 5, 5, 5, 5, 5, 5, 5, 5, 5, 5, 5, 6, 6, 6, 6, 6, 6, 6, 6, 6, 6, 6, 6, 6, 6, 6, 6, 6, 6, 6, 6, 6, 6, 6, 6, 6, 6, 6, 6, 6, 6, 6, 6, 7, 7, 7, 7, 7, 7, 7, 7, 7, 7, 7, 7, 7, 7, 7, 7, 7, 7, 7, 7, 7, 7, 7, 7, 7, 7, 7, 7, 7, 7, 7, 7, 7, 7, 7, 7, 7, 7, 7, 7, 7, 7, 7, 7, 7, 7, 7, 7, 7, 7, 7, 7, 7, 7, 7, 7, 7, 7, 7, 7, 7, 7, 7, 7, 8, 8, 8, 8, 8, 8, 8, 8, 8, 8, 8, 8, 8, 8, 8, 8, 8, 8, 8, 8, 8, 8, 8, 8, 8, 8, 8, 8, 8, 8, 8, 8, 8, 8, 8, 8, 8, 8, 8, 8, 8, 8, 8, 8, 8, 8, 8, 8, 8, 8, 8, 8, 8, 8, 8, 8, 8, 8, 8, 8, 8, 8, 8, 8, 8, 8, 8, 8, 8, 8, 8, 8, 8, 8, 8, 8, 8, 8, 8, 8, 8, 8, 8, 8, 8, 8, 8, 8, 8, 8, 8, 8, 8, 8, 8, 8, 8, 8, 8, 8, 8, 8, 8, 8, 8, 8, 8, 8, 8, 8, 8, 8, 8, 8, 8, 8, 8, 8, 8, 8, 8, 8, 8, 8, 8, 8, 8, 8]⟩ : ByteArray) i = bt lenTab i := fun _ => rfl
 rw [bits_Len64.j0]
 simp only [hl]
 by_cases c1 : x ≥ 65536
 ·by_cases c2 : x / 65536 ≥ 256
  ·rw [if_pos c1, if_pos c2, if_pos (by omega), if_pos (by omega)]
   obtain ⟨t1, t2, t3, t4, t5, t6⟩ := lenTab_at (x / 65536 / 256 % 256) (by omega) (by omega)
   generalize bt lenTab (x / 65536 / 256 % 256) = q at *
   rw [wsmall (n := q) (by omega) (by omega), wsmall (n := c + 16) (by omega) (by omega), wsmall (n := c + 16 + 8) (by omega) (by omega), wsmall (by omega) (by omega)]
   refine ⟨_, rfl, by omega, by omega, by omega, by unfold nb; omega, by unfold sb; omega⟩
  ·rw [if_pos c1, if_neg c2, if_pos (by omega), if_pos (by omega)]
   obtain ⟨t1, t2, t3, t4, t5, t6⟩ := lenTab_at (x / 65536 % 256) (by omega) (by omega)
   generalize bt lenTab (x / 65536 % 256) = q at *
   rw [wsmall (n := q) (by omega) (by omega), wsmall (n := c + 16) (by omega) (by omega), wsmall (by omega) (by omega)]
   refine ⟨_, rfl, by omega, by omega, by omega, by unfold nb; omega, by unfold sb; omega⟩
 ·by_cases c2 : x ≥ 256
  ·rw [if_neg c1, if_pos c2, if_pos (by omega), if_pos (by omega)]
   obtain ⟨t1, t2, t3, t4, t5, t6⟩ := lenTab_at (x / 256 % 256) (by omega) (by omega)
   generalize bt lenTab (x / 256 % 256) = q at *
   rw [wsmall (n := q) (by omega) (by omega), wsmall (n := c + 8) (by omega) (by omega), wsmall (by omega) (by omega)]
   refine ⟨_, rfl, by omega, by omega, by omega, by unfold nb; omega, by unfold sb; omega⟩
  ·rw [if_neg c1, if_neg c2, if_pos (by omega), if_pos (by omega)]
   obtain ⟨t1, t2, t3, t4, t5, t6⟩ := lenTab_at (x % 256) (by omega) (by omega)
   generalize bt lenTab (x % 256) = q at *
   rw [wsmall (n := q) (by omega) (by omega), wsmall (by omega) (by omega)]
   refine ⟨_, rfl, by omega, by omega, by omega, by unfold nb; omega, by unfold sb; omega⟩
theorem len64 (k : Nat) (x : Int) (h0 : 0 ≤ x) (h1 : x < 18446744073709551616) : ∃ n, bits_Len64.f (k + 1) x = some n ∧ 0 ≤ n ∧ n ≤ 64 ∧ (x = 0 → n = 0) ∧ (1 ≤ x → (n + 7) / 8 = nb x) ∧ (n + 8) / 8 = sb x := by
 unfold bits_Len64.f
 by_cases c : x ≥ 4294967296
 ·rw [if_pos c]
  obtain ⟨n, e, a1, a2, a3, a4, a5⟩ := len64_j0 k (x / 4294967296) 32 (by omega) (by omega) (Or.inr rfl)
  refine ⟨n, e, a1, a2, by omega, fun _ => ?_, ?_⟩
  ·rw [a4 (by omega)]; unfold nb; omega
  ·rw [a5]; unfold sb; omega
 ·rw [if_neg c]
  obtain ⟨n, e, a1, a2, a3, a4, a5⟩ := len64_j0 k x 0 h0 (by omega) (Or.inl rfl)
  exact ⟨n, e, a1, a2, a3, fun h => by rw [a4 h]; omega, by rw [a5]; omega⟩
theorem width_eq (k : Nat) (x : Int) (h0 : 0 ≤ x) (h1 : x < 18446744073709551616) : codec_width.f (k + 1) x = some (nb x) := by
 obtain ⟨n, e, a1, a2, a3, a4, a5⟩ := len64 k x h0 h1
 unfold codec_width.f
 rw [e]
 simp only [Option.bind_some]
 rw [wsmall (n := n + 7) (by omega) (by omega), Int.tdiv_eq_ediv_of_nonneg (by omega), wsmall (by omega) (by omega)]
 congr 1
 unfold mx
 by_cases c : x = 0
 ·rw [a3 c]; subst c; rfl
 ·rw [a4 (by omega)]; have := nb_range x
  split <;> omega
theorem spread_eq (k : Nat) (x : Int) (h0 : -9223372036854775808 ≤ x) (h1 : x ≤ 9223372036854775807) : codec_spread.f (k + 1) x = some (ss x) := by
 unfold codec_spread.f ss
 by_cases c : x < 0
 ·rw [if_pos c, if_pos c, not_i64 x h0 c]
  obtain ⟨n, e, a1, a2, a3, a4, a5⟩ := len64 k (-1 - x) (by omega) (by omega)
  rw [e]
  simp only [Option.bind_some]
  rw [wsmall (n := n + 8) (by omega) (by omega), Int.tdiv_eq_ediv_of_nonneg (by omega), wsmall (by omega) (by omega), a5]
 ·rw [if_neg c, if_neg c, u64w, Int.emod_eq_of_lt (by omega) (by omega)]
  obtain ⟨n, e, a1, a2, a3, a4, a5⟩ := len64 k x (by omega) (by omega)
  rw [e]
  simp only [Option.bind_some]
  rw [wsmall (n := n + 8) (by omega) (by omega), Int.tdiv_eq_ediv_of_nonneg (by omega), wsmall (by omega) (by omega), a5]
end Go.Proofs.YtbgabhknmpbgiaaDoor.Pure
end
section
namespace Go.Proofs.YtbgabhknmpbgiaaDoor.S
open Go.RowKit Go.Proofs.YtbgabhknmpbgiaaDoorW.PrintWords Go.Proofs.YtbgabhknmpbgiaaDoorW.PrintLast Go.Proofs.YtbgabhknmpbgiaaDoorW.PrintMore
attribute [local go_sem] max2_int min2_int max_two min_two max_three min_three max_four min_four
set_option linter.unusedVariables false
set_option linter.unusedSimpArgs false
mutual
def codec_kind.j0 : Nat → ByteArray → Int → Bool → Option (Int)
 | 0, _, _, _ => none
 | k + 1, x0, x1, x14 => if x14 = true then (some 0) else (if 0 ≤ x1 then (if x1 < (x0.size : Int) then (if (bt x0 x1) = 0 then (some 1) else (if ((bt x0 x1) / 16) > 4 then (some 0) else (if ((bt x0 x1) / 16) = 0 then (codec_kind.j1 k ((bt x0 x1) / 16) (Go.bits .and .u8 (bt x0 x1) 15) (decide ((Go.bits .and .u8 (bt x0 x1) 15) > 2))) else (codec_kind.j1 k ((bt x0 x1) / 16) (Go.bits .and .u8 (bt x0 x1) 15) false)))) else (none)) else (none))
def codec_kind.j1 : Nat → Int → Int → Bool → Option (Int)
 | 0, _, _, _ => none
 | k + 1, x5, x6, x31 => if x31 = true then (some 0) else (if x5 ≥ 3 then (codec_kind.j2 k x5 x6 (x6 != 0)) else (codec_kind.j2 k x5 x6 false))
def codec_kind.j2 : Nat → Int → Int → Bool → Option (Int)
 | 0, _, _, _ => none
 | k + 1, x5, x6, x31 => if x31 = true then (some 0) else (if x5 = 1 then (if x6 < 1 then (some 0) else (if x6 > 8 then (some 0) else (if 0 ≤ x5 then (if x5 < 5 then (some (rd gtab x5)) else (none)) else (none)))) else (if x5 = 2 then (if x6 < 1 then (some 0) else (if x6 > 8 then (some 0) else (if 0 ≤ x5 then (if x5 < 5 then (some (rd gtab x5)) else (none)) else (none)))) else (if 0 ≤ x5 then (if x5 < 5 then (some (rd gtab x5)) else (none)) else (none))))
end
def codec_kind.f (k : Nat) (a0 : ByteArray) (a1 : Int) : Option (Int) := if a1 < 0 then (codec_kind.j0 k a0 a1 true) else (codec_kind.j0 k a0 a1 (decide (a1 ≥ (a0.size : Int))))
set_option maxHeartbeats 8000000 in
set_option maxRecDepth 100000 in
theorem codec_kind.calls (k : Nat) (a0 : ByteArray) (a1 : Int) (r : Int) (w : World) (hG : Glob w) (h : codec_kind.f k a0 a1 = some r) :
  Calls Tryd.prog 79 #[.string a0, .int .i64 a1] w fun e w' => e = .returned (.int .i64 r) ∧ Drawn0 w w' := by
 have HG := Aside0.mk hG
 clear hG
 have H : (if a1 < 0 then (codec_kind.j0 k a0 a1 true) else (codec_kind.j0 k a0 a1 (decide (a1 ≥ (a0.size : Int))))) = some r := h
 clear h
 have HC3 := Aside0.mk H
 clear H
 go_enter Tryd.func79, Tryd.ntmps79
 go_upto_region 1 with (fail)
 repeat (go_quiet (fail); go_upto_region 1 with (fail))
 go_cut [14] (fun v14 wc => ∃ (kq : Nat) (x14_2 : Bool), v14 = .bool x14_2 ∧ Aside0 (codec_kind.j0 kq a0 a1 x14_2 = some r) ∧ Aside0 (kq ≤ k) ∧ Drawn0 w wc)
 case first =>
  have H := HC3.out
  clear HC3
  by_cases c4 : a1 < 0
  ·rw [if_pos c4] at H
   have c4b0 : decide (a1 < 0) = true := decide_eq_true c4
   clear c4
   (first | rw [c4b0] | (simp only [i64_w, i32_w]; rw [c4b0]) | skip)
   have H' := Aside0.mk H
   clear H
   go_wp2
   repeat (go_quiet (fail); try go_wp2)
   go_meet
   case rel => exact ⟨_, (true), (by first | rfl | (simp; done) | (simp [*]; done)), H', ⟨by first | omega | exact Nat.le_refl _⟩, by repeat (first | exact Drawn0.refl _ | apply Drawn0.step)⟩
  ·rw [if_neg c4] at H
   have c4b0 : decide (a1 < 0) = false := decide_eq_false c4
   clear c4
   (first | rw [c4b0] | (simp only [i64_w, i32_w]; rw [c4b0]) | skip)
   have H' := Aside0.mk H
   clear H
   go_wp2
   repeat (go_quiet (fail); try go_wp2)
   go_meet
   case rel => exact ⟨_, (decide (a1 ≥ (a0.size : Int))), (by first | rfl | (simp; done) | (simp [*]; done)), H', ⟨by first | omega | exact Nat.le_refl _⟩, by repeat (first | exact Drawn0.refl _ | apply Drawn0.step)⟩
 case rest =>
  clear HC3
  try clear p2
  try clear c4
  try clear c4b0
  obtain ⟨kq, x14_2, rfl, HA, HJ2, ⟨mc2, rfl⟩⟩ := hcut
  cases kq with
  | zero => exact absurd HA.out (by simp [codec_kind.j0])
  | succ kj2 =>
   have H := HA.out
   clear HA
   simp only [codec_kind.j0] at H
   by_cases c5 : x14_2 = true
   ·subst c5
    have H1 : (some 0) = some r := by rw [if_pos rfl] at H; exact H
    clear H
    have H := H1
    clear H1
    obtain rfl := Option.some.inj H
    go_wp2
    repeat (go_quiet (fail); try go_wp2)
    go_ret
    exact ⟨by first | rfl | (simp; done) | (simp [*]; done), by repeat (first | exact Drawn0.refl _ | apply Drawn0.step)⟩
   ·replace c5 := Bool.eq_false_iff.mpr c5
    subst c5
    have H1 : (if 0 ≤ a1 then (if a1 < (a0.size : Int) then (if (bt a0 a1) = 0 then (some 1) else (if ((bt a0 a1) / 16) > 4 then (some 0) else (if ((bt a0 a1) / 16) = 0 then (codec_kind.j1 kj2 ((bt a0 a1) / 16) (Go.bits .and .u8 (bt a0 a1) 15) (decide ((Go.bits .and .u8 (bt a0 a1) 15) > 2))) else (codec_kind.j1 kj2 ((bt a0 a1) / 16) (Go.bits .and .u8 (bt a0 a1) 15) false)))) else (none)) else (none)) = some r := by rw [if_neg (show ¬ (false = true) by decide)] at H; exact H
    clear H
    have H := H1
    clear H1
    by_cases c6 : 0 ≤ a1
    ·rw [if_pos c6] at H
     have c6b0 : decide (0 ≤ a1) = true := decide_eq_true c6
     clear c6
     by_cases c7 : a1 < (a0.size : Int)
     ·rw [if_pos c7] at H
      have c7b0 : decide (a1 < (a0.size : Int)) = true := decide_eq_true c7
      clear c7
      by_cases c11 : (bt a0 a1) = 0
      ·rw [if_pos c11] at H
       have c11b0 : ((bt a0 a1) == 0) = true := beq_iff_eq.mpr c11
       have c11b1 : ((bt a0 a1) != 0) = false := bne_eq_false_iff_eq.mpr c11
       clear c11
       obtain rfl := Option.some.inj H
       have p8 : 0 ≤ (a1 : Int) := of_decide_eq_true (by first | (with_reducible assumption) | assumption)
       have q8 : a1 < (a0.size : Int) := of_decide_eq_true (by first | (with_reducible assumption) | assumption)
       have hx8 := bt_at a0 a1
       replace p8 := eq_true p8
       replace q8 := eq_true q8
       have p9 : 0 ≤ (a1 : Int) := of_decide_eq_true (by first | (with_reducible assumption) | assumption)
       have q9 : a1 < (a0.size : Int) := of_decide_eq_true (by first | (with_reducible assumption) | assumption)
       have hx9 := bt_at a0 a1
       replace p9 := eq_true p9
       replace q9 := eq_true q9
       have p10 : 0 ≤ (a1 : Int) := of_decide_eq_true (by first | (with_reducible assumption) | assumption)
       have q10 : a1 < (a0.size : Int) := of_decide_eq_true (by first | (with_reducible assumption) | assumption)
       have hx10 := bt_at a0 a1
       replace p10 := eq_true p10
       replace q10 := eq_true q10
       go_wp2
       repeat (go_quiet (fail); try go_wp2)
       go_ret
       exact ⟨by first | rfl | (simp; done) | (simp [*]; done), by repeat (first | exact Drawn0.refl _ | apply Drawn0.step)⟩
      ·rw [if_neg c11] at H
       have c11b0 : ((bt a0 a1) == 0) = false := beq_eq_false_iff_ne.mpr c11
       have c11b1 : ((bt a0 a1) != 0) = true := bne_iff_ne.mpr c11
       by_cases c12 : ((bt a0 a1) / 16) > 4
       ·rw [if_pos c12] at H
        have c12b0 : decide (4 < ((bt a0 a1) / 16)) = true := decide_eq_true c12
        clear c12
        obtain rfl := Option.some.inj H
        have p8 : 0 ≤ (a1 : Int) := of_decide_eq_true (by first | (with_reducible assumption) | assumption)
        have q8 : a1 < (a0.size : Int) := of_decide_eq_true (by first | (with_reducible assumption) | assumption)
        have hx8 := bt_at a0 a1
        replace p8 := eq_true p8
        replace q8 := eq_true q8
        have p9 : 0 ≤ (a1 : Int) := of_decide_eq_true (by first | (with_reducible assumption) | assumption)
        have q9 : a1 < (a0.size : Int) := of_decide_eq_true (by first | (with_reducible assumption) | assumption)
        have hx9 := bt_at a0 a1
        replace p9 := eq_true p9
        replace q9 := eq_true q9
        have p10 : 0 ≤ (a1 : Int) := of_decide_eq_true (by first | (with_reducible assumption) | assumption)
        have q10 : a1 < (a0.size : Int) := of_decide_eq_true (by first | (with_reducible assumption) | assumption)
        have hx10 := bt_at a0 a1
        replace p10 := eq_true p10
        replace q10 := eq_true q10
        go_wp2
        repeat (go_quiet (fail); try go_wp2)
        go_ret
        exact ⟨by first | rfl | (simp; done) | (simp [*]; done), by repeat (first | exact Drawn0.refl _ | apply Drawn0.step)⟩
       ·rw [if_neg c12] at H
        have c12b0 : decide (4 < ((bt a0 a1) / 16)) = false := decide_eq_false c12
        clear c12
        have HC13 := Aside0.mk H
        clear H
        have p8 : 0 ≤ (a1 : Int) := of_decide_eq_true (by first | (with_reducible assumption) | assumption)
        have q8 : a1 < (a0.size : Int) := of_decide_eq_true (by first | (with_reducible assumption) | assumption)
        have hx8 := bt_at a0 a1
        replace p8 := eq_true p8
        replace q8 := eq_true q8
        have p9 : 0 ≤ (a1 : Int) := of_decide_eq_true (by first | (with_reducible assumption) | assumption)
        have q9 : a1 < (a0.size : Int) := of_decide_eq_true (by first | (with_reducible assumption) | assumption)
        have hx9 := bt_at a0 a1
        replace p9 := eq_true p9
        replace q9 := eq_true q9
        have p10 : 0 ≤ (a1 : Int) := of_decide_eq_true (by first | (with_reducible assumption) | assumption)
        have q10 : a1 < (a0.size : Int) := of_decide_eq_true (by first | (with_reducible assumption) | assumption)
        have hx10 := bt_at a0 a1
        replace p10 := eq_true p10
        replace q10 := eq_true q10
        go_upto_region 8 with (fail)
        repeat (go_quiet (fail); go_upto_region 8 with (fail))
        go_cut [31] (fun v31 wc => ∃ (kq : Nat) (x31_12 : Bool), v31 = .bool x31_12 ∧ Aside0 (codec_kind.j1 kq ((bt a0 a1) / 16) (Go.bits .and .u8 (bt a0 a1) 15) x31_12 = some r) ∧ Aside0 (kq ≤ kj2) ∧ Drawn0 w wc)
        case first =>
         have H := HC13.out
         clear HC13
         by_cases c14 : ((bt a0 a1) / 16) = 0
         ·rw [if_pos c14] at H
          have c14b0 : (((bt a0 a1) / 16) == 0) = true := beq_iff_eq.mpr c14
          have c14b1 : (((bt a0 a1) / 16) != 0) = false := bne_eq_false_iff_eq.mpr c14
          clear c14
          (first | rw [c14b0] | (simp only [i64_w, i32_w]; rw [c14b0]) | skip)
          have H' := Aside0.mk H
          clear H
          go_wp2
          repeat (go_quiet (fail); try go_wp2)
          go_meet
          case rel => exact ⟨_, (decide ((Go.bits .and .u8 (bt a0 a1) 15) > 2)), (by first | rfl | (simp; done) | (simp [*]; done)), H', ⟨by have := HJ2.out; first | omega | exact Nat.le_refl _⟩, by repeat (first | exact Drawn0.refl _ | apply Drawn0.step)⟩
         ·rw [if_neg c14] at H
          have c14b0 : (((bt a0 a1) / 16) == 0) = false := beq_eq_false_iff_ne.mpr c14
          have c14b1 : (((bt a0 a1) / 16) != 0) = true := bne_iff_ne.mpr c14
          (first | rw [c14b0] | (simp only [i64_w, i32_w]; rw [c14b0]) | skip)
          have H' := Aside0.mk H
          clear H
          go_wp2
          repeat (go_quiet (fail); try go_wp2)
          go_meet
          case rel => exact ⟨_, (false), (by first | rfl | (simp; done) | (simp [*]; done)), H', ⟨by have := HJ2.out; first | omega | exact Nat.le_refl _⟩, by repeat (first | exact Drawn0.refl _ | apply Drawn0.step)⟩
        case rest =>
         clear HC13
         try clear c1
         try clear p1
         try clear q1
         try clear hx1
         try clear c2
         try clear p2
         try clear c4
         try clear c4b0
         try clear c5
         try clear c6
         try clear c6b0
         try clear c7
         try clear c7b0
         try clear p8
         try clear q8
         try clear hx8
         try clear p9
         try clear q9
         try clear hx9
         try clear p10
         try clear q10
         try clear hx10
         try clear c11
         try clear c11b0
         try clear c11b1
         try clear c12
         try clear c12b0
         try clear c14
         try clear c14b0
         try clear c14b1
         try clear p10
         try clear p2
         try clear p8
         try clear p9
         try clear q10
         try clear q8
         try clear q9
         obtain ⟨kq, x31_12, rfl, HA, HJ12, ⟨mc12, rfl⟩⟩ := hcut
         cases kq with
         | zero => exact absurd HA.out (by simp [codec_kind.j1])
         | succ kj12 =>
          have H := HA.out
          clear HA
          simp only [codec_kind.j1] at H
          by_cases c15 : x31_12 = true
          ·subst c15
           have H1 : (some 0) = some r := by rw [if_pos rfl] at H; exact H
           clear H
           have H := H1
           clear H1
           obtain rfl := Option.some.inj H
           go_wp2
           repeat (go_quiet (fail); try go_wp2)
           go_ret
           exact ⟨by first | rfl | (simp; done) | (simp [*]; done), by repeat (first | exact Drawn0.refl _ | apply Drawn0.step)⟩
          ·replace c15 := Bool.eq_false_iff.mpr c15
           subst c15
           have H1 : (if ((bt a0 a1) / 16) ≥ 3 then (codec_kind.j2 kj12 ((bt a0 a1) / 16) (Go.bits .and .u8 (bt a0 a1) 15) ((Go.bits .and .u8 (bt a0 a1) 15) != 0)) else (codec_kind.j2 kj12 ((bt a0 a1) / 16) (Go.bits .and .u8 (bt a0 a1) 15) false)) = some r := by rw [if_neg (show ¬ (false = true) by decide)] at H; exact H
           clear H
           have H := H1
           clear H1
           have HC16 := Aside0.mk H
           clear H
           go_upto_region 9 with (fail)
           repeat (go_quiet (fail); go_upto_region 9 with (fail))
           go_cut [31] (fun v31 wc => ∃ (kq : Nat) (x31_15 : Bool), v31 = .bool x31_15 ∧ Aside0 (codec_kind.j2 kq ((bt a0 a1) / 16) (Go.bits .and .u8 (bt a0 a1) 15) x31_15 = some r) ∧ Aside0 (kq ≤ kj12) ∧ Drawn0 w wc)
           case first =>
            have H := HC16.out
            clear HC16
            by_cases c17 : ((bt a0 a1) / 16) ≥ 3
            ·rw [if_pos c17] at H
             have c17b0 : decide (3 ≤ ((bt a0 a1) / 16)) = true := decide_eq_true c17
             clear c17
             (first | rw [c17b0] | (simp only [i64_w, i32_w]; rw [c17b0]) | skip)
             have H' := Aside0.mk H
             clear H
             go_wp2
             repeat (go_quiet (fail); try go_wp2)
             go_meet
             case rel => exact ⟨_, (((Go.bits .and .u8 (bt a0 a1) 15) != 0)), (by first | rfl | (simp; done) | (simp [*]; done)), H', ⟨by have := HJ2.out; have := HJ12.out; first | omega | exact Nat.le_refl _⟩, by repeat (first | exact Drawn0.refl _ | apply Drawn0.step)⟩
            ·rw [if_neg c17] at H
             have c17b0 : decide (3 ≤ ((bt a0 a1) / 16)) = false := decide_eq_false c17
             clear c17
             (first | rw [c17b0] | (simp only [i64_w, i32_w]; rw [c17b0]) | skip)
             have H' := Aside0.mk H
             clear H
             go_wp2
             repeat (go_quiet (fail); try go_wp2)
             go_meet
             case rel => exact ⟨_, (false), (by first | rfl | (simp; done) | (simp [*]; done)), H', ⟨by have := HJ2.out; have := HJ12.out; first | omega | exact Nat.le_refl _⟩, by repeat (first | exact Drawn0.refl _ | apply Drawn0.step)⟩
           case rest =>
            clear HC16
            try clear c1
            try clear p1
            try clear q1
            try clear hx1
            try clear c2
            try clear p2
            try clear c4
            try clear c4b0
            try clear c5
            try clear c6
            try clear c6b0
            try clear c7
            try clear c7b0
            try clear p8
            try clear q8
            try clear hx8
            try clear p9
            try clear q9
            try clear hx9
            try clear p10
            try clear q10
            try clear hx10
            try clear c11
            try clear c11b0
            try clear c11b1
            try clear c12
            try clear c12b0
            try clear c14
            try clear c14b0
            try clear c14b1
            try clear c15
            try clear c17
            try clear c17b0
            try clear p1
            try clear p10
            try clear p2
            try clear p8
            try clear p9
            try clear q1
            try clear q10
            try clear q8
            try clear q9
            obtain ⟨kq, x31_15, rfl, HA, HJ15, ⟨mc15, rfl⟩⟩ := hcut
            cases kq with
            | zero => exact absurd HA.out (by simp [codec_kind.j2])
            | succ kj15 =>
             have H := HA.out
             clear HA
             simp only [codec_kind.j2] at H
             by_cases c18 : x31_15 = true
             ·subst c18
              have H1 : (some 0) = some r := by rw [if_pos rfl] at H; exact H
              clear H
              have H := H1
              clear H1
              obtain rfl := Option.some.inj H
              go_wp2
              repeat (go_quiet (fail); try go_wp2)
              go_ret
              exact ⟨by first | rfl | (simp; done) | (simp [*]; done), by repeat (first | exact Drawn0.refl _ | apply Drawn0.step)⟩
             ·replace c18 := Bool.eq_false_iff.mpr c18
              subst c18
              have H1 : (if ((bt a0 a1) / 16) = 1 then (if (Go.bits .and .u8 (bt a0 a1) 15) < 1 then (some 0) else (if (Go.bits .and .u8 (bt a0 a1) 15) > 8 then (some 0) else (if 0 ≤ ((bt a0 a1) / 16) then (if ((bt a0 a1) / 16) < 5 then (some (rd gtab ((bt a0 a1) / 16))) else (none)) else (none)))) else (if ((bt a0 a1) / 16) = 2 then (if (Go.bits .and .u8 (bt a0 a1) 15) < 1 then (some 0) else (if (Go.bits .and .u8 (bt a0 a1) 15) > 8 then (some 0) else (if 0 ≤ ((bt a0 a1) / 16) then (if ((bt a0 a1) / 16) < 5 then (some (rd gtab ((bt a0 a1) / 16))) else (none)) else (none)))) else (if 0 ≤ ((bt a0 a1) / 16) then (if ((bt a0 a1) / 16) < 5 then (some (rd gtab ((bt a0 a1) / 16))) else (none)) else (none)))) = some r := by rw [if_neg (show ¬ (false = true) by decide)] at H; exact H
              clear H
              have H := H1
              clear H1
              by_cases c19 : ((bt a0 a1) / 16) = 1
              ·rw [if_pos c19] at H
               have c19b0 : (((bt a0 a1) / 16) == 1) = true := beq_iff_eq.mpr c19
               have c19b1 : (((bt a0 a1) / 16) != 1) = false := bne_eq_false_iff_eq.mpr c19
               clear c19
               by_cases c20 : (Go.bits .and .u8 (bt a0 a1) 15) < 1
               ·rw [if_pos c20] at H
                have c20b0 : decide ((Go.bits .and .u8 (bt a0 a1) 15) < 1) = true := decide_eq_true c20
                clear c20
                obtain rfl := Option.some.inj H
                go_wp2
                repeat (go_quiet (fail); try go_wp2)
                go_ret
                exact ⟨by first | rfl | (simp; done) | (simp [*]; done), by repeat (first | exact Drawn0.refl _ | apply Drawn0.step)⟩
               ·rw [if_neg c20] at H
                have c20b0 : decide ((Go.bits .and .u8 (bt a0 a1) 15) < 1) = false := decide_eq_false c20
                clear c20
                by_cases c21 : (Go.bits .and .u8 (bt a0 a1) 15) > 8
                ·rw [if_pos c21] at H
                 have c21b0 : decide (8 < (Go.bits .and .u8 (bt a0 a1) 15)) = true := decide_eq_true c21
                 clear c21
                 obtain rfl := Option.some.inj H
                 go_wp2
                 repeat (go_quiet (fail); try go_wp2)
                 go_ret
                 exact ⟨by first | rfl | (simp; done) | (simp [*]; done), by repeat (first | exact Drawn0.refl _ | apply Drawn0.step)⟩
                ·rw [if_neg c21] at H
                 have c21b0 : decide (8 < (Go.bits .and .u8 (bt a0 a1) 15)) = false := decide_eq_false c21
                 clear c21
                 obtain ⟨ji22, hji22⟩ : ∃ j_ : Int, ((bt a0 a1) / 16) = j_ := ⟨_, rfl⟩
                 replace H : (if 0 ≤ (ji22) then (if (ji22) < 5 then (some (rd gtab (ji22))) else (none)) else (none)) = some r := by first | (rw [hji22] at H; exact H) | (simp only [hji22] at H ⊢; exact H)
                 (try rw [hji22] at c12b0)
                 (try rw [hji22] at c19b0)
                 (try rw [hji22] at c19b1)
                 by_cases c23 : 0 ≤ (ji22)
                 ·rw [if_pos c23] at H
                  have c23b0 : decide (0 ≤ (ji22)) = true := decide_eq_true c23
                  clear c23
                  by_cases c24 : (ji22) < 5
                  ·rw [if_pos c24] at H
                   have c24b0 : decide ((ji22) < 5) = true := decide_eq_true c24
                   clear c24
                   have hgc25 := gt_at HG.out (i := (ji22)) (by first | omega | (apply of_decide_eq_true; assumption)) (by first | omega | (apply of_decide_eq_true; assumption))
                   have hgb26 : 0 ≤ (ji22) ∧ (ji22) < 5 := ⟨by first | omega | (apply of_decide_eq_true; assumption), by first | omega | (apply of_decide_eq_true; assumption)⟩
                   obtain rfl := Option.some.inj H
                   go_wp2
                   repeat (go_quiet (fail); try go_wp2)
                   go_ret
                   exact ⟨by first | rfl | (simp; done) | (simp only [← hji22] <;> (first | rfl | simp)) | (simp [*]; done), by repeat (first | exact Drawn0.refl _ | apply Drawn0.step)⟩
                  ·rw [if_neg c24] at H
                   exact absurd H (by simp)
                 ·rw [if_neg c23] at H
                  exact absurd H (by simp)
              ·rw [if_neg c19] at H
               have c19b0 : (((bt a0 a1) / 16) == 1) = false := beq_eq_false_iff_ne.mpr c19
               have c19b1 : (((bt a0 a1) / 16) != 1) = true := bne_iff_ne.mpr c19
               by_cases c27 : ((bt a0 a1) / 16) = 2
               ·rw [if_pos c27] at H
                have c27b0 : (((bt a0 a1) / 16) == 2) = true := beq_iff_eq.mpr c27
                have c27b1 : (((bt a0 a1) / 16) != 2) = false := bne_eq_false_iff_eq.mpr c27
                clear c27
                by_cases c28 : (Go.bits .and .u8 (bt a0 a1) 15) < 1
                ·rw [if_pos c28] at H
                 have c28b0 : decide ((Go.bits .and .u8 (bt a0 a1) 15) < 1) = true := decide_eq_true c28
                 clear c28
                 obtain rfl := Option.some.inj H
                 go_wp2
                 repeat (go_quiet (fail); try go_wp2)
                 go_ret
                 exact ⟨by first | rfl | (simp; done) | (simp [*]; done), by repeat (first | exact Drawn0.refl _ | apply Drawn0.step)⟩
                ·rw [if_neg c28] at H
                 have c28b0 : decide ((Go.bits .and .u8 (bt a0 a1) 15) < 1) = false := decide_eq_false c28
                 clear c28
                 by_cases c29 : (Go.bits .and .u8 (bt a0 a1) 15) > 8
                 ·rw [if_pos c29] at H
                  have c29b0 : decide (8 < (Go.bits .and .u8 (bt a0 a1) 15)) = true := decide_eq_true c29
                  clear c29
                  obtain rfl := Option.some.inj H
                  go_wp2
                  repeat (go_quiet (fail); try go_wp2)
                  go_ret
                  exact ⟨by first | rfl | (simp; done) | (simp [*]; done), by repeat (first | exact Drawn0.refl _ | apply Drawn0.step)⟩
                 ·rw [if_neg c29] at H
                  have c29b0 : decide (8 < (Go.bits .and .u8 (bt a0 a1) 15)) = false := decide_eq_false c29
                  clear c29
                  obtain ⟨ji30, hji30⟩ : ∃ j_ : Int, ((bt a0 a1) / 16) = j_ := ⟨_, rfl⟩
                  replace H : (if 0 ≤ (ji30) then (if (ji30) < 5 then (some (rd gtab (ji30))) else (none)) else (none)) = some r := by first | (rw [hji30] at H; exact H) | (simp only [hji30] at H ⊢; exact H)
                  (try rw [hji30] at c12b0)
                  (try rw [hji30] at c19b0)
                  (try rw [hji30] at c19b1)
                  (try rw [hji30] at c27b0)
                  (try rw [hji30] at c27b1)
                  by_cases c31 : 0 ≤ (ji30)
                  ·rw [if_pos c31] at H
                   have c31b0 : decide (0 ≤ (ji30)) = true := decide_eq_true c31
                   clear c31
                   by_cases c32 : (ji30) < 5
                   ·rw [if_pos c32] at H
                    have c32b0 : decide ((ji30) < 5) = true := decide_eq_true c32
                    clear c32
                    have hgc33 := gt_at HG.out (i := (ji30)) (by first | omega | (apply of_decide_eq_true; assumption)) (by first | omega | (apply of_decide_eq_true; assumption))
                    have hgb34 : 0 ≤ (ji30) ∧ (ji30) < 5 := ⟨by first | omega | (apply of_decide_eq_true; assumption), by first | omega | (apply of_decide_eq_true; assumption)⟩
                    obtain rfl := Option.some.inj H
                    go_wp2
                    repeat (go_quiet (fail); try go_wp2)
                    go_ret
                    exact ⟨by first | rfl | (simp; done) | (simp only [← hji30] <;> (first | rfl | simp)) | (simp [*]; done), by repeat (first | exact Drawn0.refl _ | apply Drawn0.step)⟩
                   ·rw [if_neg c32] at H
                    exact absurd H (by simp)
                  ·rw [if_neg c31] at H
                   exact absurd H (by simp)
               ·rw [if_neg c27] at H
                have c27b0 : (((bt a0 a1) / 16) == 2) = false := beq_eq_false_iff_ne.mpr c27
                have c27b1 : (((bt a0 a1) / 16) != 2) = true := bne_iff_ne.mpr c27
                obtain ⟨ji35, hji35⟩ : ∃ j_ : Int, ((bt a0 a1) / 16) = j_ := ⟨_, rfl⟩
                replace H : (if 0 ≤ (ji35) then (if (ji35) < 5 then (some (rd gtab (ji35))) else (none)) else (none)) = some r := by first | (rw [hji35] at H; exact H) | (simp only [hji35] at H ⊢; exact H)
                (try rw [hji35] at c12b0)
                (try rw [hji35] at c19b0)
                (try rw [hji35] at c19b1)
                (try rw [hji35] at c27b0)
                (try rw [hji35] at c27b1)
                by_cases c36 : 0 ≤ (ji35)
                ·rw [if_pos c36] at H
                 have c36b0 : decide (0 ≤ (ji35)) = true := decide_eq_true c36
                 clear c36
                 by_cases c37 : (ji35) < 5
                 ·rw [if_pos c37] at H
                  have c37b0 : decide ((ji35) < 5) = true := decide_eq_true c37
                  clear c37
                  have hgc38 := gt_at HG.out (i := (ji35)) (by first | omega | (apply of_decide_eq_true; assumption)) (by first | omega | (apply of_decide_eq_true; assumption))
                  have hgb39 : 0 ≤ (ji35) ∧ (ji35) < 5 := ⟨by first | omega | (apply of_decide_eq_true; assumption), by first | omega | (apply of_decide_eq_true; assumption)⟩
                  obtain rfl := Option.some.inj H
                  go_wp2
                  repeat (go_quiet (fail); try go_wp2)
                  go_ret
                  exact ⟨by first | rfl | (simp; done) | (simp only [← hji35] <;> (first | rfl | simp)) | (simp [*]; done), by repeat (first | exact Drawn0.refl _ | apply Drawn0.step)⟩
                 ·rw [if_neg c37] at H
                  exact absurd H (by simp)
                ·rw [if_neg c36] at H
                 exact absurd H (by simp)
     ·rw [if_neg c7] at H
      exact absurd H (by simp)
    ·rw [if_neg c6] at H
     exact absurd H (by simp)
end Go.Proofs.YtbgabhknmpbgiaaDoor.S
end
section
namespace Go.Proofs.YtbgabhknmpbgiaaDoor.S
open Go.RowKit Go.Proofs.YtbgabhknmpbgiaaDoorW.PrintWords Go.Proofs.YtbgabhknmpbgiaaDoorW.PrintLast Go.Proofs.YtbgabhknmpbgiaaDoorW.PrintMore
attribute [local go_sem] max2_int min2_int max_two min_two max_three min_three max_four min_four
set_option linter.unusedVariables false
set_option linter.unusedSimpArgs false
def codec_raw.l0 : Nat → ByteArray → Int → Int → Int → Int → Int → Int → Option (Int × Int × Bool)
 | 0, _, _, _, _, _, _, _ => none
 | k + 1, x0, x1, x2, x9, x10, x31, x32 => if x32 < x31 then (if 0 ≤ (wrap64 ((wrap64 (x1 + 1)) + x32)) then (if (wrap64 ((wrap64 (x1 + 1)) + x32)) < (x0.size : Int) then (codec_raw.l0 k x0 x1 x2 x9 (Go.bits .or .u64 (IntKind.u64.wrap (x10 * 256)) (IntKind.u64.wrap (bt x0 (wrap64 ((wrap64 (x1 + 1)) + x32))))) x31 (wrap64 (x32 + 1))) else (none)) else (none)) else (if x2 = 3 then ((codec_width.f k x10).bind fun t125 => (some (x10, wrap64 ((wrap64 (x1 + 1)) + x9), (t125 == x9)))) else (if 0 ≤ (wrap64 (64 - (wrap64 (8 * x9)))) then ((codec_spread.f k (shr .i64 (wrap64 (shl .u64 x10 (wrap64 (64 - (wrap64 (8 * x9)))))) (wrap64 (64 - (wrap64 (8 * x9)))))).bind fun t126 => (some (IntKind.u64.wrap (shr .i64 (wrap64 (shl .u64 x10 (wrap64 (64 - (wrap64 (8 * x9)))))) (wrap64 (64 - (wrap64 (8 * x9))))), wrap64 ((wrap64 (x1 + 1)) + x9), (t126 == x9)))) else (none)))
def codec_raw.f (k : Nat) (a0 : ByteArray) (a1 : Int) (a2 : Int) : Option (Int × Int × Bool) := (codec_kind.f k a0 a1).bind fun t124 => (if t124 = a2 then (if 0 ≤ a1 then (if a1 < (a0.size : Int) then (if (wrap64 ((wrap64 (a1 + 1)) + (wrap64 (Go.bits .and .u8 (bt a0 a1) 15)))) > (a0.size : Int) then (some (0, 0, false)) else (codec_raw.l0 k a0 a1 a2 (wrap64 (Go.bits .and .u8 (bt a0 a1) 15)) 0 (wrap64 (Go.bits .and .u8 (bt a0 a1) 15)) 0)) else (none)) else (none)) else (some (0, 0, false)))
set_option maxHeartbeats 8000000 in
set_option maxRecDepth 100000 in
theorem codec_raw.calls (k : Nat) (a0 : ByteArray) (a1 : Int) (a2 : Int) (r1 : Int) (r2 : Int) (r3 : Bool) (w : World) (hG : Glob w) (h : codec_raw.f k a0 a1 a2 = some (r1, r2, r3)) :
  Calls Tryd.prog 75 #[.string a0, .int .i64 a1, .int .i64 a2] w fun e w' => e = .returned (.tuple #[.int .u64 r1, .int .i64 r2, .bool r3]) ∧ Below w.heap.size w w' := by
 have HG := Aside0.mk hG
 clear hG
 have HB := Aside0.mk (Below.refl w.heap.size w)
 have H : ((codec_kind.f k a0 a1).bind fun t124 => (if t124 = a2 then (if 0 ≤ a1 then (if a1 < (a0.size : Int) then (if (wrap64 ((wrap64 (a1 + 1)) + (wrap64 (Go.bits .and .u8 (bt a0 a1) 15)))) > (a0.size : Int) then (some (0, 0, false)) else (codec_raw.l0 k a0 a1 a2 (wrap64 (Go.bits .and .u8 (bt a0 a1) 15)) 0 (wrap64 (Go.bits .and .u8 (bt a0 a1) 15)) 0)) else (none)) else (none)) else (some (0, 0, false)))) = some (r1, r2, r3) := h
 clear h
 replace H := Option.bind_eq_some_iff.mp H
 obtain ⟨t124, A40, H⟩ := H
 replace H : (if t124 = a2 then (if 0 ≤ a1 then (if a1 < (a0.size : Int) then (if (wrap64 ((wrap64 (a1 + 1)) + (wrap64 (Go.bits .and .u8 (bt a0 a1) 15)))) > (a0.size : Int) then (some (0, 0, false)) else (codec_raw.l0 k a0 a1 a2 (wrap64 (Go.bits .and .u8 (bt a0 a1) 15)) 0 (wrap64 (Go.bits .and .u8 (bt a0 a1) 15)) 0)) else (none)) else (none)) else (some (0, 0, false))) = some (r1, r2, r3) := H
 have A4 := Aside0.mk A40
 clear A40
 by_cases c5 : t124 = a2
 ·rw [if_pos c5] at H
  have c5b0 : (t124 == a2) = true := beq_iff_eq.mpr c5
  have c5b1 : (t124 != a2) = false := bne_eq_false_iff_eq.mpr c5
  clear c5
  by_cases c6 : 0 ≤ a1
  ·rw [if_pos c6] at H
   have c6b0 : decide (0 ≤ a1) = true := decide_eq_true c6
   clear c6
   by_cases c7 : a1 < (a0.size : Int)
   ·rw [if_pos c7] at H
    have c7b0 : decide (a1 < (a0.size : Int)) = true := decide_eq_true c7
    clear c7
    by_cases c9 : (wrap64 ((wrap64 (a1 + 1)) + (wrap64 (Go.bits .and .u8 (bt a0 a1) 15)))) > (a0.size : Int)
    ·rw [if_pos c9] at H
     have c9b0 : decide ((a0.size : Int) < (wrap64 ((wrap64 (a1 + 1)) + (wrap64 (Go.bits .and .u8 (bt a0 a1) 15))))) = true := decide_eq_true c9
     clear c9
     simp only [Option.some.injEq, Prod.mk.injEq] at H
     obtain ⟨rfl, rfl, rfl⟩ := H
     go_enter Tryd.func75, Tryd.ntmps75
     go_wp2_with (first | ((with_reducible refine gate_callee (f := 79) rfl ?_); refine goesL_ (some 16) rfl rfl Tryd.func79 (by kernel_rfl) rfl #[.string a0, .int .i64 a1] rfl (by (try simp only [List.map_toArray, List.map_cons, List.map_nil]); first | done | rfl | (simp only [List.length_drop, List.length_take]; rfl)) ?_; (with_reducible refine (codec_kind.calls k a0 a1 t124 _ ?side99  A4.out).mono ?_); (case side99 => first | exact HG.out | exact Glob.below HG.out (by repeat (first | (with_reducible first | exact HB.out | apply below_alloc | apply pw_below_drewN | apply below_drew1) | exact HB.out))); rintro e w' ⟨rfl, ⟨nd, rfl⟩⟩; refine ⟨_, rfl, ?_⟩; have p8 : 0 ≤ (a1 : Int) := of_decide_eq_true (by first | (with_reducible assumption) | assumption); have q8 : a1 < (a0.size : Int) := of_decide_eq_true (by first | (with_reducible assumption) | assumption); have hx8 := bt_at a0 a1; replace p8 := eq_true p8; replace q8 := eq_true q8))
     go_ret3
     exact ⟨by first | rfl | (simp [errW_none, errW_some] <;> rfl) | (simp [*, errW_none, errW_some] <;> rfl), by repeat (first | (with_reducible first | exact HB.out | apply below_alloc | apply pw_below_drewN | apply below_drew1) | exact HB.out)⟩
    ·rw [if_neg c9] at H
     have c9b0 : decide ((a0.size : Int) < (wrap64 ((wrap64 (a1 + 1)) + (wrap64 (Go.bits .and .u8 (bt a0 a1) 15))))) = false := decide_eq_false c9
     clear c9
     have H' := Aside0.mk H
     clear H
     go_enter Tryd.func75, Tryd.ntmps75
     go_wp2_with (first | ((with_reducible refine gate_callee (f := 79) rfl ?_); refine goesL_ (some 16) rfl rfl Tryd.func79 (by kernel_rfl) rfl #[.string a0, .int .i64 a1] rfl (by (try simp only [List.map_toArray, List.map_cons, List.map_nil]); first | done | rfl | (simp only [List.length_drop, List.length_take]; rfl)) ?_; (with_reducible refine (codec_kind.calls k a0 a1 t124 _ ?side99  A4.out).mono ?_); (case side99 => first | exact HG.out | exact Glob.below HG.out (by repeat (first | (with_reducible first | exact HB.out | apply below_alloc | apply pw_below_drewN | apply below_drew1) | exact HB.out))); rintro e w' ⟨rfl, ⟨nd, rfl⟩⟩; refine ⟨_, rfl, ?_⟩; have p8 : 0 ≤ (a1 : Int) := of_decide_eq_true (by first | (with_reducible assumption) | assumption); have q8 : a1 < (a0.size : Int) := of_decide_eq_true (by first | (with_reducible assumption) | assumption); have hx8 := bt_at a0 a1; replace p8 := eq_true p8; replace q8 := eq_true q8))
     go_loopg [10, 32] k (fun kq v10 v32 w' => ∃ (x10_1 : Int) (x32_1 : Int), v10 = .int .u64 x10_1 ∧ v32 = .int .i64 x32_1 ∧ Aside0 (codec_raw.l0 kq a0 a1 a2 (wrap64 (Go.bits .and .u8 (bt a0 a1) 15)) x10_1 (wrap64 (Go.bits .and .u8 (bt a0 a1) 15)) x32_1 = some (r1, r2, r3)) ∧ Aside0 (kq ≤ k) ∧ Aside0 (Below w.heap.size w w'))
     case atStart => exact ⟨(0), (0), (by first | rfl | (simp; done) | (simp [*]; done)), (by first | rfl | (simp; done) | (simp [*]; done)), H', ⟨Nat.le_refl _⟩, ⟨by repeat (first | (with_reducible first | exact HB.out | apply below_alloc | apply pw_below_drewN | apply below_drew1) | exact HB.out)⟩⟩
     case round =>
      clear H'
      try clear p2
      try clear c5
      try clear c5b0
      try clear c5b1
      try clear c6
      try clear c6b0
      try clear p6
      try clear c7
      try clear c7b0
      try clear p8
      try clear q8
      try clear hx8
      try clear c9
      try clear c9b0
      try clear p8
      try clear q8
      obtain ⟨x10_1, x32_1, rfl, rfl, HA, HK1, HB⟩ := hrel
      cases gk with
      | zero => exact absurd HA.out (by simp [codec_raw.l0])
      | succ k1 =>
       have H := HA.out
       clear HA
       simp only [codec_raw.l0] at H
       by_cases c10 : x32_1 < (wrap64 (Go.bits .and .u8 (bt a0 a1) 15))
       ·rw [if_pos c10] at H
        have c10b0 : decide (x32_1 < (wrap64 (Go.bits .and .u8 (bt a0 a1) 15))) = true := decide_eq_true c10
        clear c10
        obtain ⟨ji11, hji11⟩ : ∃ j_ : Int, (wrap64 ((wrap64 (a1 + 1)) + x32_1)) = j_ := ⟨_, rfl⟩
        replace H : (if 0 ≤ (ji11) then (if (ji11) < (a0.size : Int) then (codec_raw.l0 k1 a0 a1 a2 (wrap64 (Go.bits .and .u8 (bt a0 a1) 15)) (Go.bits .or .u64 (IntKind.u64.wrap (x10_1 * 256)) (IntKind.u64.wrap (bt a0 (ji11)))) (wrap64 (Go.bits .and .u8 (bt a0 a1) 15)) (wrap64 (x32_1 + 1))) else (none)) else (none)) = some (r1, r2, r3) := by first | (rw [hji11] at H; exact H) | (simp only [hji11] at H ⊢; exact H)
        have hji11w : (IntKind.i64.wrap ((wrap64 (a1 + 1)) + x32_1)) = ji11 := (i64_w _).trans hji11
        by_cases c12 : 0 ≤ (ji11)
        ·rw [if_pos c12] at H
         have c12b0 : decide (0 ≤ (ji11)) = true := decide_eq_true c12
         clear c12
         by_cases c13 : (ji11) < (a0.size : Int)
         ·rw [if_pos c13] at H
          have c13b0 : decide ((ji11) < (a0.size : Int)) = true := decide_eq_true c13
          clear c13
          have H' := Aside0.mk H
          clear H
          have p14 : 0 ≤ ((ji11) : Int) := of_decide_eq_true (by first | (with_reducible assumption) | assumption)
          have q14 : (ji11) < (a0.size : Int) := of_decide_eq_true (by first | (with_reducible assumption) | assumption)
          have hx14 := bt_at a0 (ji11)
          replace p14 := eq_true p14
          replace q14 := eq_true q14
          go_wp2
          go_roundg k1
          case measure => have := HK1.out; omega
          case rel => exact ⟨(Go.bits .or .u64 (IntKind.u64.wrap (x10_1 * 256)) (IntKind.u64.wrap (bt a0 (ji11)))), (wrap64 (x32_1 + 1)), (by first | rfl | (simp; done) | (simp only [← hji11] <;> (first | rfl | simp)) | (simp [*]; done)), (by first | rfl | (simp; done) | (simp [*]; done)), H', ⟨by have := HK1.out; omega⟩, ⟨by repeat (first | (with_reducible first | exact HB.out | apply below_alloc | apply pw_below_drewN | apply below_drew1) | exact HB.out)⟩⟩
         ·rw [if_neg c13] at H
          exact absurd H (by simp)
        ·rw [if_neg c12] at H
         exact absurd H (by simp)
       ·rw [if_neg c10] at H
        have c10b0 : decide (x32_1 < (wrap64 (Go.bits .and .u8 (bt a0 a1) 15))) = false := decide_eq_false c10
        clear c10
        by_cases c15 : a2 = 3
        ·rw [if_pos c15] at H
         have c15b0 : (a2 == 3) = true := beq_iff_eq.mpr c15
         have c15b1 : (a2 != 3) = false := bne_eq_false_iff_eq.mpr c15
         clear c15
         replace H := Option.bind_eq_some_iff.mp H
         obtain ⟨t125, A160, H⟩ := H
         replace H : (some (x10_1, wrap64 ((wrap64 (a1 + 1)) + (wrap64 (Go.bits .and .u8 (bt a0 a1) 15))), (t125 == (wrap64 (Go.bits .and .u8 (bt a0 a1) 15))))) = some (r1, r2, r3) := H
         have A16 := Aside0.mk A160
         clear A160
         simp only [Option.some.injEq, Prod.mk.injEq] at H
         obtain ⟨rfl, rfl, rfl⟩ := H
         go_wp2_with (first | ((with_reducible refine gate_callee (f := 69) rfl ?_); refine goesL_ (some 54) rfl rfl Tryd.func69 (by kernel_rfl) rfl #[.int .u64 x10_1] rfl (by (try simp only [List.map_toArray, List.map_cons, List.map_nil]); first | done | rfl | (simp only [List.length_drop, List.length_take]; rfl)) ?_; (with_reducible refine (codec_width.calls k1 x10_1 t125 _ ?side99  A16.out).mono ?_); (case side99 => first | exact HG.out | exact Glob.below HG.out (by repeat (first | (with_reducible first | exact HB.out | apply below_alloc | apply pw_below_drewN | apply below_drew1) | exact HB.out))); rintro e w17 ⟨rfl, hb⟩; refine ⟨_, rfl, ?_⟩; have n0_ := Aside0.mk (below_step (by repeat (first | (with_reducible first | exact HB.out | apply below_alloc | apply pw_below_drewN | apply below_drew1) | exact HB.out)) hb); clear HB; have HB := n0_; clear n0_; (try clear hb); (try clear hb2); (try clear hk); (try clear hi)))
         go_ret3
         exact ⟨by first | rfl | (simp [errW_none, errW_some] <;> rfl) | (simp [*, errW_none, errW_some] <;> rfl), by repeat (first | (with_reducible first | exact HB.out | apply below_alloc | apply pw_below_drewN | apply below_drew1) | exact HB.out)⟩
        ·rw [if_neg c15] at H
         have c15b0 : (a2 == 3) = false := beq_eq_false_iff_ne.mpr c15
         have c15b1 : (a2 != 3) = true := bne_iff_ne.mpr c15
         obtain ⟨ji18, hji18⟩ : ∃ j_ : Int, (wrap64 (64 - (wrap64 (8 * (wrap64 (Go.bits .and .u8 (bt a0 a1) 15)))))) = j_ := ⟨_, rfl⟩
         replace H : (if 0 ≤ (ji18) then ((codec_spread.f k1 (shr .i64 (wrap64 (shl .u64 x10_1 (ji18))) (ji18))).bind fun t126 => (some (IntKind.u64.wrap (shr .i64 (wrap64 (shl .u64 x10_1 (ji18))) (ji18)), wrap64 ((wrap64 (a1 + 1)) + (wrap64 (Go.bits .and .u8 (bt a0 a1) 15))), (t126 == (wrap64 (Go.bits .and .u8 (bt a0 a1) 15)))))) else (none)) = some (r1, r2, r3) := by first | (rw [hji18] at H; exact H) | (simp only [hji18] at H ⊢; exact H)
         have hji18w : (IntKind.i64.wrap (64 - (wrap64 (8 * (wrap64 (Go.bits .and .u8 (bt a0 a1) 15)))))) = ji18 := (i64_w _).trans hji18
         by_cases c19 : 0 ≤ (ji18)
         ·rw [if_pos c19] at H
          have c19b0 := eq_true c19
          have c19b1 : decide (0 ≤ (ji18)) = true := decide_eq_true c19
          clear c19
          obtain ⟨ji20, hji20⟩ : ∃ j_ : Int, (shl .u64 x10_1 (ji18)) = j_ := ⟨_, rfl⟩
          replace H : ((codec_spread.f k1 (shr .i64 (wrap64 (ji20)) (ji18))).bind fun t126 => (some (IntKind.u64.wrap (shr .i64 (wrap64 (ji20)) (ji18)), wrap64 ((wrap64 (a1 + 1)) + (wrap64 (Go.bits .and .u8 (bt a0 a1) 15))), (t126 == (wrap64 (Go.bits .and .u8 (bt a0 a1) 15)))))) = some (r1, r2, r3) := by first | (rw [hji20] at H; exact H) | (simp only [hji20] at H ⊢; exact H)
          have hji20_ : (IntKind.u64.wrap (x10_1 * 2 ^ min (ji18).toNat 64)) = ji20 := hji20
          have hji20z : (ji18) ≤ 64 → (IntKind.u64.wrap (x10_1 * 2 ^ (ji18).toNat)) = ji20 := shl_small hji20
          have c21b0 := eq_true (of_decide_eq_true (by first | (with_reducible assumption) | assumption) : 0 ≤ (ji18))
          obtain ⟨ji22, hji22⟩ : ∃ j_ : Int, (shr .i64 (wrap64 (ji20)) (ji18)) = j_ := ⟨_, rfl⟩
          replace H : ((codec_spread.f k1 (ji22)).bind fun t126 => (some (IntKind.u64.wrap (ji22), wrap64 ((wrap64 (a1 + 1)) + (wrap64 (Go.bits .and .u8 (bt a0 a1) 15))), (t126 == (wrap64 (Go.bits .and .u8 (bt a0 a1) 15)))))) = some (r1, r2, r3) := by first | (rw [hji22] at H; exact H) | (simp only [hji22] at H ⊢; exact H)
          have hji22_ : ((wrap64 (ji20)) / 2 ^ min (ji18).toNat 64) = ji22 := hji22
          have hji22z : (ji18) ≤ 64 → ((wrap64 (ji20)) / 2 ^ (ji18).toNat) = ji22 := shr_small hji22
          replace H := Option.bind_eq_some_iff.mp H
          obtain ⟨t126, A230, H⟩ := H
          replace H : (some (IntKind.u64.wrap (ji22), wrap64 ((wrap64 (a1 + 1)) + (wrap64 (Go.bits .and .u8 (bt a0 a1) 15))), (t126 == (wrap64 (Go.bits .and .u8 (bt a0 a1) 15))))) = some (r1, r2, r3) := H
          have A23 := Aside0.mk A230
          clear A230
          simp only [Option.some.injEq, Prod.mk.injEq] at H
          obtain ⟨rfl, rfl, rfl⟩ := H
          go_wp2_with (first | ((with_reducible refine gate_callee (f := 70) rfl ?_); refine goesL_ (some 73) rfl rfl Tryd.func70 (by kernel_rfl) rfl #[.int .i64 ji22] rfl (by (try simp only [List.map_toArray, List.map_cons, List.map_nil]); first | done | (simp only [hji22]; rfl) | rfl | (simp only [List.length_drop, List.length_take]; rfl)) ?_; (with_reducible refine (codec_spread.calls k1 ji22 t126 _ ?side99  A23.out).mono ?_); (case side99 => first | exact HG.out | exact Glob.below HG.out (by repeat (first | (with_reducible first | exact HB.out | apply below_alloc | apply pw_below_drewN | apply below_drew1) | exact HB.out))); rintro e w' ⟨rfl, ⟨nd, rfl⟩⟩; refine ⟨_, rfl, ?_⟩))
          go_ret3
          exact ⟨by first | rfl | (simp [errW_none, errW_some] <;> rfl) | (simp only [← hji18, ← hji20, ← hji22]; first | rfl | (simp [errW_none, errW_some] <;> rfl)) | (simp [*, errW_none, errW_some] <;> rfl), by repeat (first | (with_reducible first | exact HB.out | apply below_alloc | apply pw_below_drewN | apply below_drew1) | exact HB.out)⟩
         ·rw [if_neg c19] at H
          exact absurd H (by simp)
   ·rw [if_neg c7] at H
    exact absurd H (by simp)
  ·rw [if_neg c6] at H
   exact absurd H (by simp)
 ·rw [if_neg c5] at H
  have c5b0 : (t124 == a2) = false := beq_eq_false_iff_ne.mpr c5
  have c5b1 : (t124 != a2) = true := bne_iff_ne.mpr c5
  simp only [Option.some.injEq, Prod.mk.injEq] at H
  obtain ⟨rfl, rfl, rfl⟩ := H
  go_enter Tryd.func75, Tryd.ntmps75
  go_wp2_with (first | ((with_reducible refine gate_callee (f := 79) rfl ?_); refine goesL_ (some 16) rfl rfl Tryd.func79 (by kernel_rfl) rfl #[.string a0, .int .i64 a1] rfl (by (try simp only [List.map_toArray, List.map_cons, List.map_nil]); first | done | rfl | (simp only [List.length_drop, List.length_take]; rfl)) ?_; (with_reducible refine (codec_kind.calls k a0 a1 t124 _ ?side99  A4.out).mono ?_); (case side99 => first | exact HG.out | exact Glob.below HG.out (by repeat (first | (with_reducible first | exact HB.out | apply below_alloc | apply pw_below_drewN | apply below_drew1) | exact HB.out))); rintro e w' ⟨rfl, ⟨nd, rfl⟩⟩; refine ⟨_, rfl, ?_⟩))
  go_ret3
  exact ⟨by first | rfl | (simp [errW_none, errW_some] <;> rfl) | (simp [*, errW_none, errW_some] <;> rfl), by repeat (first | (with_reducible first | exact HB.out | apply below_alloc | apply pw_below_drewN | apply below_drew1) | exact HB.out)⟩
end Go.Proofs.YtbgabhknmpbgiaaDoor.S
end
section
namespace Go.Proofs.YtbgabhknmpbgiaaDoor.S
open Go.RowKit Go.Proofs.YtbgabhknmpbgiaaDoorW.PrintWords Go.Proofs.YtbgabhknmpbgiaaDoorW.PrintLast Go.Proofs.YtbgabhknmpbgiaaDoorW.PrintMore
attribute [local go_sem] max2_int min2_int max_two min_two max_three min_three max_four min_four
set_option linter.unusedVariables false
set_option linter.unusedSimpArgs false
def plenumref02_Unsigned.l0 : Nat → Int → List Int → Option (ByteArray)
 | 0, _, _ => none
 | k + 1, x0, x3 => if x0 > 255 then ((some (([(IntKind.u64.wrap (Int.tdiv x0 256)) % 256] : List Int) : List Int)).bind fun y179 => (if y179.length + x3.length < 140737488355328 then (plenumref02_Unsigned.l0 k (IntKind.u64.wrap (Int.tdiv x0 256)) (y179 ++ x3)) else (none))) else ((some (([(wrap64 (16 + (x3.length : Int))) % 256] : List Int) : List Int)).bind fun y185 => (if y185.length + x3.length < 140737488355328 then (some (strOfNums (y185 ++ x3))) else (none)))
def plenumref02_Unsigned.f (k : Nat) (a0 : Int) : Option (ByteArray) := plenumref02_Unsigned.l0 k a0 (([(a0) % 256] : List Int))
set_option maxHeartbeats 8000000 in
set_option maxRecDepth 100000 in
theorem plenumref02_Unsigned.calls (k : Nat) (a0 : Int) (r : ByteArray) (w : World) (hG : Glob w) (h : plenumref02_Unsigned.f k a0 = some r) :
  Calls Tryd.prog 60 #[.int .u64 a0] w fun e w' => e = .returned (.string r) ∧ Below w.heap.size w w' := by
 have HG := Aside0.mk hG
 clear hG
 have HB := Aside0.mk (Below.refl w.heap.size w)
 have H : (plenumref02_Unsigned.l0 k a0 (([(a0) % 256] : List Int))) = some r := h
 clear h
 obtain ⟨y176, hy176⟩ : ∃ y_ : List Int, y_ = (([(a0) % 256] : List Int)) := ⟨_, rfl⟩
 replace H : (plenumref02_Unsigned.l0 k a0 y176) = some r := by first | (rw [hy176]; with_reducible exact H) | (have H2_ := (Option.bind_some _ _).symm.trans H; rw [hy176]; with_reducible exact H2_) | (have H2_ := (Option.bind_some _ _).symm.trans H; with_reducible exact H2_) | with_reducible exact H | (rw [hy176]; exact H) | exact H
 have Ny176 := Aside0.mk hy176
 clear hy176
 have H' := Aside0.mk H
 clear H
 go_enter Tryd.func60, Tryd.ntmps60
 go_wp2_with (first | ((with_reducible refine gate_dst (N := 6) rfl ?_); refine Kd.R_lit (Kd.int .u8) _ 5 ?hg (N := 6) ?hd (xs := ([(a0) % 256] : List Int)) (inner := [.int .u8 ((a0) % 256)]) (ok := fun _ => True) (okp := fun _ => True) ?hr ?hp (fun _ hk => hk) trivial (Below.refl _ _) (Nat.le_refl _) (by simp) ?_; (case hd => rfl); (case hg => rfl); (case hr => first | (go_simp; done) | (go_simp; rfl)); (case hp => exact (Reps.one (show Kd.M (Kd.int .u8) _ _ _ ((a0) % 256) [.int .u8 ((a0) % 256)] from rfl) (Reps.none _ _))); intro v177 w2 ho3 hb hg_ hnew_; clear hg_ hnew_; (first | rw [← Ny176.out] at ho3 | (simp only [Int.reduceToNat] at ho3; rw [← Ny176.out] at ho3)); have n0_ := Aside0.mk (Kd.R_lower ho3 (below_size (by repeat (first | (with_reducible first | exact HB.out | apply below_alloc | apply pw_below_drewN | apply below_drew1) | exact HB.out)))); have n1_ := Aside0.mk (below_step (by repeat (first | (with_reducible first | exact HB.out | apply below_alloc | apply pw_below_drewN | apply below_drew1) | exact HB.out)) hb); clear HB; have HO178 := n0_; have HB := n1_; clear n0_ n1_; clear hb ho3))
 go_loopg [0, 3] k (fun kq v0 v3 w' => ∃ (x0_1 : Int) (x3_1 : List Int), v0 = .int .u64 x0_1 ∧ Aside0 (plenumref02_Unsigned.l0 kq x0_1 x3_1 = some r) ∧ Aside0 (kq ≤ k) ∧ Aside0 (Kd.R (Kd.int .u8) 5 w' w.heap.size (fun _ => True) v3 x3_1) ∧ Aside0 (Below w.heap.size w w'))
 case atStart => exact ⟨(a0), (y176), (by first | rfl | (simp; done) | (simp [*]; done)), H', ⟨Nat.le_refl _⟩, ⟨by (with_reducible repeat (first | apply Kd.R_alloc | apply Kd.R_drewN | apply Kd.R_drew)); exact HO178.out⟩, ⟨by repeat (first | (with_reducible first | exact HB.out | apply below_alloc | apply pw_below_drewN | apply below_drew1) | exact HB.out)⟩⟩
 case round =>
  clear H'
  try clear p2
  obtain ⟨x0_1, x3_1, rfl, HA, HK1, HO_3, HB⟩ := hrel
  cases gk with
  | zero => exact absurd HA.out (by simp [plenumref02_Unsigned.l0])
  | succ k1 =>
   have H := HA.out
   clear HA
   simp only [plenumref02_Unsigned.l0] at H
   by_cases c4 : x0_1 > 255
   ·rw [if_pos c4] at H
    have c4b0 : decide (255 < x0_1) = true := decide_eq_true c4
    clear c4
    obtain ⟨y179, hy179⟩ : ∃ y_ : List Int, y_ = (([(IntKind.u64.wrap (Int.tdiv x0_1 256)) % 256] : List Int)) := ⟨_, rfl⟩
    replace H : (if y179.length + x3_1.length < 140737488355328 then (plenumref02_Unsigned.l0 k1 (IntKind.u64.wrap (Int.tdiv x0_1 256)) (y179 ++ x3_1)) else (none)) = some r := by first | (rw [hy179]; with_reducible exact H) | (have H2_ := (Option.bind_some _ _).symm.trans H; rw [hy179]; with_reducible exact H2_) | (have H2_ := (Option.bind_some _ _).symm.trans H; with_reducible exact H2_) | with_reducible exact H | (rw [hy179]; exact H) | exact H
    have Ny179 := Aside0.mk hy179
    clear hy179
    by_cases c5 : y179.length + x3_1.length < 140737488355328
    ·rw [if_pos c5] at H
     have LMc5 := Aside0.mk c5
     clear c5
     obtain ⟨y182, hy182⟩ : ∃ y_ : List Int, y_ = (y179 ++ x3_1) := ⟨_, rfl⟩
     replace H : (plenumref02_Unsigned.l0 k1 (IntKind.u64.wrap (Int.tdiv x0_1 256)) y182) = some r := by first | (rw [hy182]; with_reducible exact H) | (have H2_ := (Option.bind_some _ _).symm.trans H; rw [hy182]; with_reducible exact H2_) | (have H2_ := (Option.bind_some _ _).symm.trans H; with_reducible exact H2_) | with_reducible exact H | (rw [hy182]; exact H) | exact H
     have Ny182 := Aside0.mk hy182
     clear hy182
     have H' := Aside0.mk H
     clear H
     go_wp2_with (first | ((with_reducible refine gate_dst (N := 13) rfl ?_); refine Kd.R_lit (Kd.int .u8) _ 5 ?hg (N := 13) ?hd (xs := ([(IntKind.u64.wrap (Int.tdiv x0_1 256)) % 256] : List Int)) (inner := [.int .u8 ((IntKind.u64.wrap (Int.tdiv x0_1 256)) % 256)]) (ok := fun _ => True) (okp := fun _ => True) ?hr ?hp (fun _ hk => hk) trivial (Below.refl _ _) (Nat.le_refl _) (by simp) ?_; (case hd => rfl); (case hg => rfl); (case hr => first | (go_simp; done) | (go_simp; rfl)); (case hp => exact (Reps.one (show Kd.M (Kd.int .u8) _ _ _ ((IntKind.u64.wrap (Int.tdiv x0_1 256)) % 256) [.int .u8 ((IntKind.u64.wrap (Int.tdiv x0_1 256)) % 256)] from rfl) (Reps.none _ _))); intro v180 w6 ho7 hb hg_ hnew_; clear hg_ hnew_; (first | rw [← Ny179.out] at ho7 | (simp only [Int.reduceToNat] at ho7; rw [← Ny179.out] at ho7)); have n0_ := Aside0.mk (Kd.R_elder' (by (with_reducible repeat (first | apply Kd.R_alloc | apply Kd.R_drewN | apply Kd.R_drew)); exact HO_3.out) (Kd.R_base ho7) hb); have n1_ := Aside0.mk (Kd.R_lower (Kd.R_new' ho7 (Kd.R_lt (by (with_reducible repeat (first | apply Kd.R_alloc | apply Kd.R_drewN | apply Kd.R_drew)); exact HO_3.out))) (below_size (by repeat (first | (with_reducible first | exact HB.out | apply below_alloc | apply pw_below_drewN | apply below_drew1) | exact HB.out)))); have n2_ := Aside0.mk (below_step (by repeat (first | (with_reducible first | exact HB.out | apply below_alloc | apply pw_below_drewN | apply below_drew1) | exact HB.out)) hb); clear HO_3; clear HB; have HO_3 := n0_; have HO181 := n1_; have HB := n2_; clear n0_ n1_ n2_; clear hb ho7; obtain ⟨Ao9, co9, eo9⟩ := Kd.R_slice HO_3.out; subst eo9) | ((with_reducible refine gate_builtin (b := .append) (xs := #[.tmp 13, .tmp 14]) rfl ?_); at_builtin; refine Kd.R_append_rows (Kd.int .u8) (w0 := w) w.heap.size rfl (.tmp 13) (.tmp 14) 80 5 (.int .u8 0) 1 rfl Tryd.underlying80 info5 rfl (by decide) (by omega) v180 y179 x3_1 _ _ _ (fun k_ => some k_ ≠ (.slice Ao9 x3_1.length co9 : Value).ownBlock) (fun _ => False) rfl rfl ?aO ?aR (fun _ _ h => h) (fun _ h => h.elim) ?aF ?aB ?aS ?aL ?_; (case aR => repeat (first | exact (Kd.R_reads' HO_3.out).2.2 | (with_reducible refine Kd.C_alloc ?_ _) | (with_reducible refine Kd.C_drewN ?_ _) | (with_reducible refine Kd.C_drew ?_))); (case aB => exact (by repeat (first | (with_reducible first | exact HB.out | apply below_alloc | apply pw_below_drewN | apply below_drew1) | exact HB.out))); (case aF => exact (fun k_ hk => Kd.fresh' (Kd.R_lt (by (with_reducible repeat (first | apply Kd.R_alloc | apply Kd.R_drewN | apply Kd.R_drew)); exact HO_3.out)) k_ hk)); (case aO => exact (by (with_reducible repeat (first | apply Kd.R_alloc | apply Kd.R_drewN | apply Kd.R_drew)); exact Kd.R_mono HO181.out (fun _ hk => hk.2))); (case aS => exact (below_size (by repeat (first | (with_reducible first | exact HB.out | apply below_alloc | apply pw_below_drewN | apply below_drew1) | exact HB.out)))); (case aL => have := LMc5.out; first | omega | (simp only [ByteArray.size, List.size_toArray, List.length_cons, List.length_nil] at this ⊢; omega)); intro v183 w8 ho hb hg hat; rw [← Ny182.out] at ho; have n0_ := Aside0.mk (Kd.R_after (ok := (fun _ => True)) (by (with_reducible repeat (first | apply Kd.R_alloc | apply Kd.R_drewN | apply Kd.R_drew)); exact HO_3.out) hg hat); have n1_ := Aside0.mk (hb); have n2_ := Aside0.mk (ho); clear HO_3; clear HB; clear HO181; have HO_3 := n0_; have HB := n1_; have HO184 := n2_; clear n0_ n1_ n2_; clear ho hb hg hat))
     go_roundg k1
     case measure => have := HK1.out; omega
     case rel => exact ⟨(IntKind.u64.wrap (Int.tdiv x0_1 256)), (y182), (by first | rfl | (simp; done) | (simp [*]; done)), H', ⟨by have := HK1.out; omega⟩, ⟨by (with_reducible repeat (first | apply Kd.R_alloc | apply Kd.R_drewN | apply Kd.R_drew)); exact Kd.R_mono HO184.out (fun _ hk => trivial)⟩, ⟨by repeat (first | (with_reducible first | exact HB.out | apply below_alloc | apply pw_below_drewN | apply below_drew1) | exact HB.out)⟩⟩
    ·rw [if_neg c5] at H
     exact absurd H (by simp)
   ·rw [if_neg c4] at H
    have c4b0 : decide (255 < x0_1) = false := decide_eq_false c4
    clear c4
    obtain ⟨y185, hy185⟩ : ∃ y_ : List Int, y_ = (([(wrap64 (16 + (x3_1.length : Int))) % 256] : List Int)) := ⟨_, rfl⟩
    replace H : (if y185.length + x3_1.length < 140737488355328 then (some (strOfNums (y185 ++ x3_1))) else (none)) = some r := by first | (rw [hy185]; with_reducible exact H) | (have H2_ := (Option.bind_some _ _).symm.trans H; rw [hy185]; with_reducible exact H2_) | (have H2_ := (Option.bind_some _ _).symm.trans H; with_reducible exact H2_) | with_reducible exact H | (rw [hy185]; exact H) | exact H
    have Ny185 := Aside0.mk hy185
    clear hy185
    by_cases c10 : y185.length + x3_1.length < 140737488355328
    ·rw [if_pos c10] at H
     have LMc10 := Aside0.mk c10
     clear c10
     obtain ⟨y188, hy188⟩ : ∃ y_ : List Int, y_ = (y185 ++ x3_1) := ⟨_, rfl⟩
     replace H : (some (strOfNums y188)) = some r := by first | (rw [hy188]; with_reducible exact H) | (have H2_ := (Option.bind_some _ _).symm.trans H; rw [hy188]; with_reducible exact H2_) | (have H2_ := (Option.bind_some _ _).symm.trans H; with_reducible exact H2_) | with_reducible exact H | (rw [hy188]; exact H) | exact H
     have Ny188 := Aside0.mk hy188
     clear hy188
     obtain rfl := Option.some.inj H
     obtain ⟨Ao11, co11, eo11⟩ := Kd.R_slice HO_3.out
     subst eo11
     go_wp2_with (first | ((with_reducible refine gate_dst (N := 20) rfl ?_); refine Kd.R_lit (Kd.int .u8) _ 5 ?hg (N := 20) ?hd (xs := ([(wrap64 (16 + (x3_1.length : Int))) % 256] : List Int)) (inner := [.int .u8 ((wrap64 (16 + (x3_1.length : Int))) % 256)]) (ok := fun _ => True) (okp := fun _ => True) ?hr ?hp (fun _ hk => hk) trivial (Below.refl _ _) (Nat.le_refl _) (by simp) ?_; (case hd => rfl); (case hg => rfl); (case hr => first | (go_simp; done) | (go_simp; rfl)); (case hp => exact (Reps.one (show Kd.M (Kd.int .u8) _ _ _ ((wrap64 (16 + (x3_1.length : Int))) % 256) [.int .u8 ((wrap64 (16 + (x3_1.length : Int))) % 256)] from rfl) (Reps.none _ _))); intro v186 w12 ho13 hb hg_ hnew_; clear hg_ hnew_; (first | rw [← Ny185.out] at ho13 | (simp only [Int.reduceToNat] at ho13; rw [← Ny185.out] at ho13)); have n0_ := Aside0.mk (Kd.R_elder' (by (with_reducible repeat (first | apply Kd.R_alloc | apply Kd.R_drewN | apply Kd.R_drew)); exact HO_3.out) (Kd.R_base ho13) hb); have n1_ := Aside0.mk (Kd.R_lower (Kd.R_new' ho13 (Kd.R_lt (by (with_reducible repeat (first | apply Kd.R_alloc | apply Kd.R_drewN | apply Kd.R_drew)); exact HO_3.out))) (below_size (by repeat (first | (with_reducible first | exact HB.out | apply below_alloc | apply pw_below_drewN | apply below_drew1) | exact HB.out)))); have n2_ := Aside0.mk (below_step (by repeat (first | (with_reducible first | exact HB.out | apply below_alloc | apply pw_below_drewN | apply below_drew1) | exact HB.out)) hb); clear HO_3; clear HB; have HO_3 := n0_; have HO187 := n1_; have HB := n2_; clear n0_ n1_ n2_; clear hb ho13) | ((with_reducible refine gate_builtin (b := .append) (xs := #[.tmp 20, .tmp 21]) rfl ?_); at_builtin; refine Kd.R_append_rows (Kd.int .u8) (w0 := w) w.heap.size rfl (.tmp 20) (.tmp 21) 80 5 (.int .u8 0) 1 rfl Tryd.underlying80 info5 rfl (by decide) (by omega) v186 y185 x3_1 _ _ _ (fun k_ => some k_ ≠ (.slice Ao11 x3_1.length co11 : Value).ownBlock) (fun _ => False) rfl rfl ?aO ?aR (fun _ _ h => h) (fun _ h => h.elim) ?aF ?aB ?aS ?aL ?_; (case aR => repeat (first | exact (Kd.R_reads' HO_3.out).2.2 | (with_reducible refine Kd.C_alloc ?_ _) | (with_reducible refine Kd.C_drewN ?_ _) | (with_reducible refine Kd.C_drew ?_))); (case aB => exact (by repeat (first | (with_reducible first | exact HB.out | apply below_alloc | apply pw_below_drewN | apply below_drew1) | exact HB.out))); (case aF => exact (fun k_ hk => Kd.fresh' (Kd.R_lt (by (with_reducible repeat (first | apply Kd.R_alloc | apply Kd.R_drewN | apply Kd.R_drew)); exact HO_3.out)) k_ hk)); (case aO => exact (by (with_reducible repeat (first | apply Kd.R_alloc | apply Kd.R_drewN | apply Kd.R_drew)); exact Kd.R_mono HO187.out (fun _ hk => hk.2))); (case aS => exact (below_size (by repeat (first | (with_reducible first | exact HB.out | apply below_alloc | apply pw_below_drewN | apply below_drew1) | exact HB.out)))); (case aL => have := LMc10.out; first | omega | (simp only [ByteArray.size, List.size_toArray, List.length_cons, List.length_nil] at this ⊢; omega)); intro v189 w14 ho hb hg hat; rw [← Ny188.out] at ho; have n0_ := Aside0.mk (Kd.R_after (ok := (fun _ => True)) (by (with_reducible repeat (first | apply Kd.R_alloc | apply Kd.R_drewN | apply Kd.R_drew)); exact HO_3.out) hg hat); have n1_ := Aside0.mk (hb); have n2_ := Aside0.mk (ho); clear HO_3; clear HB; clear HO187; have HO_3 := n0_; have HB := n1_; have HO190 := n2_; clear n0_ n1_ n2_; clear ho hb hg hat; have hcv15 := own_string (P := Tryd.prog) Tryd.underlying80 Tryd.underlying5 Tryd.underlying9 (Kd.own_of_R HO190.out)))
     go_ret
     exact ⟨by first | rfl | (simp [errW_none, errW_some] <;> rfl) | (simp [*, errW_none, errW_some] <;> rfl), by repeat (first | (with_reducible first | exact HB.out | apply below_alloc | apply pw_below_drewN | apply below_drew1) | exact HB.out)⟩
    ·rw [if_neg c10] at H
     exact absurd H (by simp)
end Go.Proofs.YtbgabhknmpbgiaaDoor.S
end
section
namespace Go.Proofs.YtbgabhknmpbgiaaDoor.S
open Go.RowKit Go.Proofs.YtbgabhknmpbgiaaDoorW.PrintWords Go.Proofs.YtbgabhknmpbgiaaDoorW.PrintLast Go.Proofs.YtbgabhknmpbgiaaDoorW.PrintMore
attribute [local go_sem] max2_int min2_int max_two min_two max_three min_three max_four min_four
set_option linter.unusedVariables false
set_option linter.unusedSimpArgs false
def plenumref02_number.j0 : Nat → ByteArray → Int → Int → Bool → Option (ByteArray × Bool)
 | 0, _, _, _, _ => none
 | k + 1, x0, x1, x2, x27 => if x27 = true then (some ((⟨#[]⟩ : ByteArray), false)) else (if 0 ≤ x1 then (if x1 < (x0.size : Int) then (if (((bt x0 x1) - x2) % 256) > (wrap64 ((wrap64 ((x0.size : Int) - x1)) - 1)) then (some ((⟨#[]⟩ : ByteArray), false)) else (if 0 ≤ (wrap64 (x1 + 1)) then (if (wrap64 (x1 + 1)) ≤ (wrap64 ((wrap64 (x1 + 1)) + (((bt x0 x1) - x2) % 256))) then (if (wrap64 ((wrap64 (x1 + 1)) + (((bt x0 x1) - x2) % 256))) ≤ (x0.size : Int) then (some (x0.extract ((wrap64 (x1 + 1)) : Int).toNat ((wrap64 ((wrap64 (x1 + 1)) + (((bt x0 x1) - x2) % 256))) : Int).toNat, true)) else (none)) else (none)) else (none))) else (none)) else (none))
def plenumref02_number.f (k : Nat) (a0 : ByteArray) (a1 : Int) (a2 : Int) : Option (ByteArray × Bool) := if a1 ≥ (a0.size : Int) then (plenumref02_number.j0 k a0 a1 a2 true) else (if 0 ≤ a1 then (if a1 < (a0.size : Int) then (if (bt a0 a1) ≤ a2 then (plenumref02_number.j0 k a0 a1 a2 true) else (plenumref02_number.j0 k a0 a1 a2 (decide ((bt a0 a1) > ((a2 + 8) % 256))))) else (none)) else (none))
set_option maxHeartbeats 8000000 in
set_option maxRecDepth 100000 in
theorem plenumref02_number.calls (k : Nat) (a0 : ByteArray) (a1 : Int) (a2 : Int) (r1 : ByteArray) (r2 : Bool) (w : World) (hG : Glob w) (h : plenumref02_number.f k a0 a1 a2 = some (r1, r2)) :
  Calls Tryd.prog 83 #[.string a0, .int .i64 a1, .int .u8 a2] w fun e w' => e = .returned (.tuple #[.string r1, .bool r2]) ∧ Drawn0 w w' := by
 have HG := Aside0.mk hG
 clear hG
 have H : (if a1 ≥ (a0.size : Int) then (plenumref02_number.j0 k a0 a1 a2 true) else (if 0 ≤ a1 then (if a1 < (a0.size : Int) then (if (bt a0 a1) ≤ a2 then (plenumref02_number.j0 k a0 a1 a2 true) else (plenumref02_number.j0 k a0 a1 a2 (decide ((bt a0 a1) > ((a2 + 8) % 256))))) else (none)) else (none))) = some (r1, r2) := h
 clear h
 have HC4 := Aside0.mk H
 clear H
 go_enter Tryd.func83, Tryd.ntmps83
 go_upto_region 1 with (fail)
 go_cut [27] (fun v27 wc => ∃ (kq : Nat) (x27_3 : Bool), v27 = .bool x27_3 ∧ Aside0 (plenumref02_number.j0 kq a0 a1 a2 x27_3 = some (r1, r2)) ∧ Aside0 (kq ≤ k) ∧ Drawn0 w wc)
 case first =>
  have H := HC4.out
  clear HC4
  by_cases c5 : a1 ≥ (a0.size : Int)
  ·rw [if_pos c5] at H
   have c5b0 : decide ((a0.size : Int) ≤ a1) = true := decide_eq_true c5
   clear c5
   (first | rw [c5b0] | (simp only [i64_w, i32_w]; rw [c5b0]) | skip)
   have H' := Aside0.mk H
   clear H
   go_wp2
   go_meet
   case rel => exact ⟨_, (true), (by first | rfl | (simp; done) | (simp [*]; done)), H', ⟨by first | omega | exact Nat.le_refl _⟩, by repeat (first | exact Drawn0.refl _ | apply Drawn0.step)⟩
  ·rw [if_neg c5] at H
   have c5b0 : decide ((a0.size : Int) ≤ a1) = false := decide_eq_false c5
   clear c5
   (first | rw [c5b0] | (simp only [i64_w, i32_w]; rw [c5b0]) | skip)
   by_cases c6 : 0 ≤ a1
   ·rw [if_pos c6] at H
    have c6b0 : decide (0 ≤ a1) = true := decide_eq_true c6
    clear c6
    by_cases c7 : a1 < (a0.size : Int)
    ·rw [if_pos c7] at H
     have c7b0 : decide (a1 < (a0.size : Int)) = true := decide_eq_true c7
     clear c7
     by_cases c9 : (bt a0 a1) ≤ a2
     ·rw [if_pos c9] at H
      have c9b0 : decide ((bt a0 a1) ≤ a2) = true := decide_eq_true c9
      clear c9
      have H' := Aside0.mk H
      clear H
      have p8 : 0 ≤ (a1 : Int) := of_decide_eq_true (by first | (with_reducible assumption) | assumption)
      have q8 : a1 < (a0.size : Int) := of_decide_eq_true (by first | (with_reducible assumption) | assumption)
      have hx8 := bt_at a0 a1
      replace p8 := eq_true p8
      replace q8 := eq_true q8
      go_wp2
      go_meet
      case rel => exact ⟨_, (true), (by first | rfl | (simp; done) | (simp [*]; done)), H', ⟨by first | omega | exact Nat.le_refl _⟩, by repeat (first | exact Drawn0.refl _ | apply Drawn0.step)⟩
     ·rw [if_neg c9] at H
      have c9b0 : decide ((bt a0 a1) ≤ a2) = false := decide_eq_false c9
      clear c9
      have H' := Aside0.mk H
      clear H
      have p8 : 0 ≤ (a1 : Int) := of_decide_eq_true (by first | (with_reducible assumption) | assumption)
      have q8 : a1 < (a0.size : Int) := of_decide_eq_true (by first | (with_reducible assumption) | assumption)
      have hx8 := bt_at a0 a1
      replace p8 := eq_true p8
      replace q8 := eq_true q8
      have p10 : 0 ≤ (a1 : Int) := of_decide_eq_true (by first | (with_reducible assumption) | assumption)
      have q10 : a1 < (a0.size : Int) := of_decide_eq_true (by first | (with_reducible assumption) | assumption)
      have hx10 := bt_at a0 a1
      replace p10 := eq_true p10
      replace q10 := eq_true q10
      go_wp2
      go_meet
      case rel => exact ⟨_, (decide ((bt a0 a1) > ((a2 + 8) % 256))), (by first | rfl | (simp; done) | (simp [*]; done)), H', ⟨by first | omega | exact Nat.le_refl _⟩, by repeat (first | exact Drawn0.refl _ | apply Drawn0.step)⟩
    ·rw [if_neg c7] at H
     exact absurd H (by simp)
   ·rw [if_neg c6] at H
    exact absurd H (by simp)
 case rest =>
  clear HC4
  try clear p1
  try clear q1
  try clear hx1
  try clear p2
  try clear c5
  try clear c5b0
  try clear c6
  try clear c6b0
  try clear c7
  try clear c7b0
  try clear c8
  try clear p8
  try clear q8
  try clear hx8
  try clear c9
  try clear c9b0
  try clear p10
  try clear q10
  try clear hx10
  try clear p10
  try clear p8
  try clear q10
  try clear q8
  obtain ⟨kq, x27_3, rfl, HA, HJ3, ⟨mc3, rfl⟩⟩ := hcut
  cases kq with
  | zero => exact absurd HA.out (by simp [plenumref02_number.j0])
  | succ kj3 =>
   have H := HA.out
   clear HA
   simp only [plenumref02_number.j0] at H
   by_cases c11 : x27_3 = true
   ·subst c11
    have H1 : (some ((⟨#[]⟩ : ByteArray), false)) = some (r1, r2) := by rw [if_pos rfl] at H; exact H
    clear H
    have H := H1
    clear H1
    simp only [Option.some.injEq, Prod.mk.injEq] at H
    obtain ⟨rfl, rfl⟩ := H
    go_wp2
    go_ret2
    exact ⟨by first | rfl | (simp; done) | (simp [*]; done), by repeat (first | exact Drawn0.refl _ | apply Drawn0.step)⟩
   ·replace c11 := Bool.eq_false_iff.mpr c11
    subst c11
    have H1 : (if 0 ≤ a1 then (if a1 < (a0.size : Int) then (if (((bt a0 a1) - a2) % 256) > (wrap64 ((wrap64 ((a0.size : Int) - a1)) - 1)) then (some ((⟨#[]⟩ : ByteArray), false)) else (if 0 ≤ (wrap64 (a1 + 1)) then (if (wrap64 (a1 + 1)) ≤ (wrap64 ((wrap64 (a1 + 1)) + (((bt a0 a1) - a2) % 256))) then (if (wrap64 ((wrap64 (a1 + 1)) + (((bt a0 a1) - a2) % 256))) ≤ (a0.size : Int) then (some (a0.extract ((wrap64 (a1 + 1)) : Int).toNat ((wrap64 ((wrap64 (a1 + 1)) + (((bt a0 a1) - a2) % 256))) : Int).toNat, true)) else (none)) else (none)) else (none))) else (none)) else (none)) = some (r1, r2) := by rw [if_neg (show ¬ (false = true) by decide)] at H; exact H
    clear H
    have H := H1
    clear H1
    by_cases c12 : 0 ≤ a1
    ·rw [if_pos c12] at H
     have c12b0 : decide (0 ≤ a1) = true := decide_eq_true c12
     clear c12
     by_cases c13 : a1 < (a0.size : Int)
     ·rw [if_pos c13] at H
      have c13b0 : decide (a1 < (a0.size : Int)) = true := decide_eq_true c13
      clear c13
      by_cases c15 : (((bt a0 a1) - a2) % 256) > (wrap64 ((wrap64 ((a0.size : Int) - a1)) - 1))
      ·rw [if_pos c15] at H
       have c15b0 : decide ((wrap64 ((wrap64 ((a0.size : Int) - a1)) - 1)) < (((bt a0 a1) - a2) % 256)) = true := decide_eq_true c15
       clear c15
       simp only [Option.some.injEq, Prod.mk.injEq] at H
       obtain ⟨rfl, rfl⟩ := H
       have p14 : 0 ≤ (a1 : Int) := of_decide_eq_true (by first | (with_reducible assumption) | assumption)
       have q14 : a1 < (a0.size : Int) := of_decide_eq_true (by first | (with_reducible assumption) | assumption)
       have hx14 := bt_at a0 a1
       replace p14 := eq_true p14
       replace q14 := eq_true q14
       go_wp2
       go_ret2
       exact ⟨by first | rfl | (simp; done) | (simp [*]; done), by repeat (first | exact Drawn0.refl _ | apply Drawn0.step)⟩
      ·rw [if_neg c15] at H
       have c15b0 : decide ((wrap64 ((wrap64 ((a0.size : Int) - a1)) - 1)) < (((bt a0 a1) - a2) % 256)) = false := decide_eq_false c15
       clear c15
       obtain ⟨ji16, hji16⟩ : ∃ j_ : Int, (wrap64 (a1 + 1)) = j_ := ⟨_, rfl⟩
       replace H : (if 0 ≤ (ji16) then (if (ji16) ≤ (wrap64 ((ji16) + (((bt a0 a1) - a2) % 256))) then (if (wrap64 ((ji16) + (((bt a0 a1) - a2) % 256))) ≤ (a0.size : Int) then (some (a0.extract ((ji16) : Int).toNat ((wrap64 ((ji16) + (((bt a0 a1) - a2) % 256))) : Int).toNat, true)) else (none)) else (none)) else (none)) = some (r1, r2) := by first | (rw [hji16] at H; exact H) | (simp only [hji16] at H ⊢; exact H)
       have hji16w : (IntKind.i64.wrap (a1 + 1)) = ji16 := (i64_w _).trans hji16
       by_cases c17 : 0 ≤ (ji16)
       ·rw [if_pos c17] at H
        have c17b0 := eq_true c17
        have c17b1 : decide (0 ≤ (ji16)) = true := decide_eq_true c17
        clear c17
        by_cases c18 : (ji16) ≤ (wrap64 ((ji16) + (((bt a0 a1) - a2) % 256)))
        ·rw [if_pos c18] at H
         have c18b0 := eq_true c18
         have c18b1 : decide ((ji16) ≤ (wrap64 ((ji16) + (((bt a0 a1) - a2) % 256)))) = true := decide_eq_true c18
         by_cases c19 : (wrap64 ((ji16) + (((bt a0 a1) - a2) % 256))) ≤ (a0.size : Int)
         ·rw [if_pos c19] at H
          have c19b0 := eq_true c19
          have c19b1 : decide ((wrap64 ((ji16) + (((bt a0 a1) - a2) % 256))) ≤ (a0.size : Int)) = true := decide_eq_true c19
          simp only [Option.some.injEq, Prod.mk.injEq] at H
          obtain ⟨rfl, rfl⟩ := H
          have p14 : 0 ≤ (a1 : Int) := of_decide_eq_true (by first | (with_reducible assumption) | assumption)
          have q14 : a1 < (a0.size : Int) := of_decide_eq_true (by first | (with_reducible assumption) | assumption)
          have hx14 := bt_at a0 a1
          replace p14 := eq_true p14
          replace q14 := eq_true q14
          go_wp2
          go_ret2
          exact ⟨by first | rfl | (simp; done) | (simp only [← hji16] <;> (first | rfl | simp)) | (simp [*]; done), by repeat (first | exact Drawn0.refl _ | apply Drawn0.step)⟩
         ·rw [if_neg c19] at H
          exact absurd H (by simp)
        ·rw [if_neg c18] at H
         exact absurd H (by simp)
       ·rw [if_neg c17] at H
        exact absurd H (by simp)
     ·rw [if_neg c13] at H
      exact absurd H (by simp)
    ·rw [if_neg c12] at H
     exact absurd H (by simp)
end Go.Proofs.YtbgabhknmpbgiaaDoor.S
end
section
namespace Go.Proofs.YtbgabhknmpbgiaaDoor.S
open Go.RowKit Go.Proofs.YtbgabhknmpbgiaaDoorW.PrintWords Go.Proofs.YtbgabhknmpbgiaaDoorW.PrintLast Go.Proofs.YtbgabhknmpbgiaaDoorW.PrintMore
attribute [local go_sem] max2_int min2_int max_two min_two max_three min_three max_four min_four
set_option linter.unusedVariables false
set_option linter.unusedSimpArgs false
def plenumref02_ReadUnsigned.l0 : Nat → Int → ByteArray → Bool → Int → Int → Option (Int × Int × Bool)
 | 0, _, _, _, _, _ => none
 | k + 1, x1, x7, x8, x9, x10 => if x10 < (x7.size : Int) then (if 0 ≤ x10 then (plenumref02_ReadUnsigned.l0 k x1 x7 x8 (Go.bits .or .u64 (IntKind.u64.wrap (x9 * 256)) (IntKind.u64.wrap (bt x7 x10))) (wrap64 (x10 + 1))) else (none)) else (if x8 = true then ((plenumref02_Unsigned.f k x9).bind fun t193 => (if (t193.size : Int) = (wrap64 ((x7.size : Int) + 1)) then (some (x9, wrap64 ((wrap64 (x1 + 1)) + (x7.size : Int)), true)) else (some (0, 0, false)))) else (some (0, 0, false)))
def plenumref02_ReadUnsigned.f (k : Nat) (a0 : ByteArray) (a1 : Int) : Option (Int × Int × Bool) := (plenumref02_number.f k a0 a1 16).bind fun bt191 => (plenumref02_ReadUnsigned.l0 k a1 bt191.1 bt191.2 0 0)
set_option maxHeartbeats 8000000 in
set_option maxRecDepth 100000 in
theorem plenumref02_ReadUnsigned.calls (k : Nat) (a0 : ByteArray) (a1 : Int) (r1 : Int) (r2 : Int) (r3 : Bool) (w : World) (hG : Glob w) (h : plenumref02_ReadUnsigned.f k a0 a1 = some (r1, r2, r3)) :
  Calls Tryd.prog 82 #[.string a0, .int .i64 a1] w fun e w' => e = .returned (.tuple #[.int .u64 r1, .int .i64 r2, .bool r3]) ∧ Below w.heap.size w w' := by
 have HG := Aside0.mk hG
 clear hG
 have HB := Aside0.mk (Below.refl w.heap.size w)
 have H : ((plenumref02_number.f k a0 a1 16).bind fun bt191 => (plenumref02_ReadUnsigned.l0 k a1 bt191.1 bt191.2 0 0)) = some (r1, r2, r3) := h
 clear h
 replace H := Option.bind_eq_some_iff.mp H
 obtain ⟨⟨t191, t192⟩, A30, H⟩ := H
 replace H : (plenumref02_ReadUnsigned.l0 k a1 t191 t192 0 0) = some (r1, r2, r3) := H
 have A3 := Aside0.mk A30
 clear A30
 have H' := Aside0.mk H
 clear H
 go_enter Tryd.func82, Tryd.ntmps82
 go_wp2_with (first | ((with_reducible refine gate_callee (f := 83) rfl ?_); refine goesL_ (some 14) rfl rfl Tryd.func83 (by kernel_rfl) rfl #[.string a0, .int .i64 a1, .int .u8 16] rfl (by (try simp only [List.map_toArray, List.map_cons, List.map_nil]); first | done | rfl | (simp only [List.length_drop, List.length_take]; rfl)) ?_; (with_reducible refine (plenumref02_number.calls k a0 a1 16 t191 t192 _ ?side99  A3.out).mono ?_); (case side99 => first | exact HG.out | exact Glob.below HG.out (by repeat (first | (with_reducible first | exact HB.out | apply below_alloc | apply pw_below_drewN | apply below_drew1) | exact HB.out))); rintro e w' ⟨rfl, ⟨nd, rfl⟩⟩; refine ⟨_, rfl, ?_⟩))
 go_loopg [9, 10] k (fun kq v9 v10 w' => ∃ (x9_1 : Int) (x10_1 : Int), v9 = .int .u64 x9_1 ∧ v10 = .int .i64 x10_1 ∧ Aside0 (plenumref02_ReadUnsigned.l0 kq a1 t191 t192 x9_1 x10_1 = some (r1, r2, r3)) ∧ Aside0 (kq ≤ k) ∧ Aside0 (Below w.heap.size w w'))
 case atStart => exact ⟨(0), (0), (by first | rfl | (simp; done) | (simp [*]; done)), (by first | rfl | (simp; done) | (simp [*]; done)), H', ⟨Nat.le_refl _⟩, ⟨by repeat (first | (with_reducible first | exact HB.out | apply below_alloc | apply pw_below_drewN | apply below_drew1) | exact HB.out)⟩⟩
 case round =>
  clear H'
  try clear p2
  obtain ⟨x9_1, x10_1, rfl, rfl, HA, HK1, HB⟩ := hrel
  cases gk with
  | zero => exact absurd HA.out (by simp [plenumref02_ReadUnsigned.l0])
  | succ k1 =>
   have H := HA.out
   clear HA
   simp only [plenumref02_ReadUnsigned.l0] at H
   by_cases c4 : x10_1 < (t191.size : Int)
   ·rw [if_pos c4] at H
    have c4b0 : decide (x10_1 < (t191.size : Int)) = true := decide_eq_true c4
    clear c4
    by_cases c5 : 0 ≤ x10_1
    ·rw [if_pos c5] at H
     have c5b0 : decide (0 ≤ x10_1) = true := decide_eq_true c5
     clear c5
     have H' := Aside0.mk H
     clear H
     have p6 : 0 ≤ (x10_1 : Int) := of_decide_eq_true (by first | (with_reducible assumption) | assumption)
     have q6 : x10_1 < (t191.size : Int) := of_decide_eq_true (by first | (with_reducible assumption) | assumption)
     have hx6 := bt_at t191 x10_1
     replace p6 := eq_true p6
     replace q6 := eq_true q6
     go_wp2
     go_roundg k1
     case measure => have := HK1.out; omega
     case rel => exact ⟨(Go.bits .or .u64 (IntKind.u64.wrap (x9_1 * 256)) (IntKind.u64.wrap (bt t191 x10_1))), (wrap64 (x10_1 + 1)), (by first | rfl | (simp; done) | (simp [*]; done)), (by first | rfl | (simp; done) | (simp [*]; done)), H', ⟨by have := HK1.out; omega⟩, ⟨by repeat (first | (with_reducible first | exact HB.out | apply below_alloc | apply pw_below_drewN | apply below_drew1) | exact HB.out)⟩⟩
    ·rw [if_neg c5] at H
     exact absurd H (by simp)
   ·rw [if_neg c4] at H
    have c4b0 : decide (x10_1 < (t191.size : Int)) = false := decide_eq_false c4
    clear c4
    by_cases c7 : t192 = true
    ·subst c7
     have H1 : ((plenumref02_Unsigned.f k1 x9_1).bind fun t193 => (if (t193.size : Int) = (wrap64 ((t191.size : Int) + 1)) then (some (x9_1, wrap64 ((wrap64 (a1 + 1)) + (t191.size : Int)), true)) else (some (0, 0, false)))) = some (r1, r2, r3) := by rw [if_pos rfl] at H; exact H
     clear H
     have H := H1
     clear H1
     replace H := Option.bind_eq_some_iff.mp H
     obtain ⟨t193, A80, H⟩ := H
     replace H : (if (t193.size : Int) = (wrap64 ((t191.size : Int) + 1)) then (some (x9_1, wrap64 ((wrap64 (a1 + 1)) + (t191.size : Int)), true)) else (some (0, 0, false))) = some (r1, r2, r3) := H
     have A8 := Aside0.mk A80
     clear A80
     by_cases c9 : (t193.size : Int) = (wrap64 ((t191.size : Int) + 1))
     ·rw [if_pos c9] at H
      have c9b0 : ((t193.size : Int) == (wrap64 ((t191.size : Int) + 1))) = true := beq_iff_eq.mpr c9
      have c9b1 : ((t193.size : Int) != (wrap64 ((t191.size : Int) + 1))) = false := bne_eq_false_iff_eq.mpr c9
      clear c9
      simp only [Option.some.injEq, Prod.mk.injEq] at H
      obtain ⟨rfl, rfl, rfl⟩ := H
      go_wp2_with (first | (go_at_call 60; (with_reducible refine (plenumref02_Unsigned.calls k1 x9_1 t193 _ ?side99  A8.out).mono ?_); (case side99 => first | exact HG.out | exact Glob.below HG.out (by repeat (first | (with_reducible first | exact HB.out | apply below_alloc | apply pw_below_drewN | apply below_drew1) | exact HB.out))); rintro e w10 ⟨rfl, hb⟩; have n0_ := Aside0.mk (below_step (by repeat (first | (with_reducible first | exact HB.out | apply below_alloc | apply pw_below_drewN | apply below_drew1) | exact HB.out)) hb); clear HB; have HB := n0_; clear n0_; (try clear hb); (try clear hb2); (try clear hk); (try clear hi)))
      go_ret3
      exact ⟨by first | rfl | (simp [errW_none, errW_some] <;> rfl) | (simp [*, errW_none, errW_some] <;> rfl), by repeat (first | (with_reducible first | exact HB.out | apply below_alloc | apply pw_below_drewN | apply below_drew1) | exact HB.out)⟩
     ·rw [if_neg c9] at H
      have c9b0 : ((t193.size : Int) == (wrap64 ((t191.size : Int) + 1))) = false := beq_eq_false_iff_ne.mpr c9
      have c9b1 : ((t193.size : Int) != (wrap64 ((t191.size : Int) + 1))) = true := bne_iff_ne.mpr c9
      simp only [Option.some.injEq, Prod.mk.injEq] at H
      obtain ⟨rfl, rfl, rfl⟩ := H
      go_wp2_with (first | (go_at_call 60; (with_reducible refine (plenumref02_Unsigned.calls k1 x9_1 t193 _ ?side99  A8.out).mono ?_); (case side99 => first | exact HG.out | exact Glob.below HG.out (by repeat (first | (with_reducible first | exact HB.out | apply below_alloc | apply pw_below_drewN | apply below_drew1) | exact HB.out))); rintro e w11 ⟨rfl, hb⟩; have n0_ := Aside0.mk (below_step (by repeat (first | (with_reducible first | exact HB.out | apply below_alloc | apply pw_below_drewN | apply below_drew1) | exact HB.out)) hb); clear HB; have HB := n0_; clear n0_; (try clear hb); (try clear hb2); (try clear hk); (try clear hi)))
      go_ret3
      exact ⟨by first | rfl | (simp [errW_none, errW_some] <;> rfl) | (simp [*, errW_none, errW_some] <;> rfl), by repeat (first | (with_reducible first | exact HB.out | apply below_alloc | apply pw_below_drewN | apply below_drew1) | exact HB.out)⟩
    ·replace c7 := Bool.eq_false_iff.mpr c7
     subst c7
     have H1 : (some (0, 0, false)) = some (r1, r2, r3) := by rw [if_neg (show ¬ (false = true) by decide)] at H; exact H
     clear H
     have H := H1
     clear H1
     simp only [Option.some.injEq, Prod.mk.injEq] at H
     obtain ⟨rfl, rfl, rfl⟩ := H
     go_wp2
     go_ret3
     exact ⟨by first | rfl | (simp [errW_none, errW_some] <;> rfl) | (simp [*, errW_none, errW_some] <;> rfl), by repeat (first | (with_reducible first | exact HB.out | apply below_alloc | apply pw_below_drewN | apply below_drew1) | exact HB.out)⟩
end Go.Proofs.YtbgabhknmpbgiaaDoor.S
end
section
namespace Go.Proofs.YtbgabhknmpbgiaaDoor.S
open Go.RowKit Go.Proofs.YtbgabhknmpbgiaaDoorW.PrintWords Go.Proofs.YtbgabhknmpbgiaaDoorW.PrintLast Go.Proofs.YtbgabhknmpbgiaaDoorW.PrintMore
attribute [local go_sem] max2_int min2_int max_two min_two max_three min_three max_four min_four
set_option linter.unusedVariables false
set_option linter.unusedSimpArgs false
def plenumref02_Signed.l0 : Nat → Int → List Int → Option (ByteArray)
 | 0, _, _ => none
 | k + 1, x0, x3 => if x0 < (-128) then ((some (([(x0 / 256) % 256] : List Int) : List Int)).bind fun y203 => (if y203.length + x3.length < 140737488355328 then (plenumref02_Signed.l0 k (x0 / 256) (y203 ++ x3)) else (none))) else (if x0 > 127 then ((some (([(x0 / 256) % 256] : List Int) : List Int)).bind fun y209 => (if y209.length + x3.length < 140737488355328 then (plenumref02_Signed.l0 k (x0 / 256) (y209 ++ x3)) else (none))) else ((some (([(wrap64 (32 + (x3.length : Int))) % 256] : List Int) : List Int)).bind fun y215 => (if y215.length + x3.length < 140737488355328 then (some (strOfNums (y215 ++ x3))) else (none))))
def plenumref02_Signed.f (k : Nat) (a0 : Int) : Option (ByteArray) := plenumref02_Signed.l0 k a0 (([(a0) % 256] : List Int))
set_option maxHeartbeats 8000000 in
set_option maxRecDepth 100000 in
theorem plenumref02_Signed.calls (k : Nat) (a0 : Int) (r : ByteArray) (w : World) (hG : Glob w) (h : plenumref02_Signed.f k a0 = some r) :
  Calls Tryd.prog 61 #[.int .i64 a0] w fun e w' => e = .returned (.string r) ∧ Below w.heap.size w w' := by
 have HG := Aside0.mk hG
 clear hG
 have HB := Aside0.mk (Below.refl w.heap.size w)
 have H : (plenumref02_Signed.l0 k a0 (([(a0) % 256] : List Int))) = some r := h
 clear h
 obtain ⟨y200, hy200⟩ : ∃ y_ : List Int, y_ = (([(a0) % 256] : List Int)) := ⟨_, rfl⟩
 replace H : (plenumref02_Signed.l0 k a0 y200) = some r := by first | (rw [hy200]; with_reducible exact H) | (have H2_ := (Option.bind_some _ _).symm.trans H; rw [hy200]; with_reducible exact H2_) | (have H2_ := (Option.bind_some _ _).symm.trans H; with_reducible exact H2_) | with_reducible exact H | (rw [hy200]; exact H) | exact H
 have Ny200 := Aside0.mk hy200
 clear hy200
 have H' := Aside0.mk H
 clear H
 go_enter Tryd.func61, Tryd.ntmps61
 go_wp2_with (first | ((with_reducible refine gate_dst (N := 6) rfl ?_); refine Kd.R_lit (Kd.int .u8) _ 5 ?hg (N := 6) ?hd (xs := ([(a0) % 256] : List Int)) (inner := [.int .u8 ((a0) % 256)]) (ok := fun _ => True) (okp := fun _ => True) ?hr ?hp (fun _ hk => hk) trivial (Below.refl _ _) (Nat.le_refl _) (by simp) ?_; (case hd => rfl); (case hg => rfl); (case hr => first | (go_simp; done) | (go_simp; rfl)); (case hp => exact (Reps.one (show Kd.M (Kd.int .u8) _ _ _ ((a0) % 256) [.int .u8 ((a0) % 256)] from rfl) (Reps.none _ _))); intro v201 w2 ho3 hb hg_ hnew_; clear hg_ hnew_; (first | rw [← Ny200.out] at ho3 | (simp only [Int.reduceToNat] at ho3; rw [← Ny200.out] at ho3)); have n0_ := Aside0.mk (Kd.R_lower ho3 (below_size (by repeat (first | (with_reducible first | exact HB.out | apply below_alloc | apply pw_below_drewN | apply below_drew1) | exact HB.out)))); have n1_ := Aside0.mk (below_step (by repeat (first | (with_reducible first | exact HB.out | apply below_alloc | apply pw_below_drewN | apply below_drew1) | exact HB.out)) hb); clear HB; have HO202 := n0_; have HB := n1_; clear n0_ n1_; clear hb ho3))
 go_loopg [0, 3] k (fun kq v0 v3 w' => ∃ (x0_1 : Int) (x3_1 : List Int), v0 = .int .i64 x0_1 ∧ Aside0 (plenumref02_Signed.l0 kq x0_1 x3_1 = some r) ∧ Aside0 (kq ≤ k) ∧ Aside0 (Kd.R (Kd.int .u8) 5 w' w.heap.size (fun _ => True) v3 x3_1) ∧ Aside0 (Below w.heap.size w w'))
 case atStart => exact ⟨(a0), (y200), (by first | rfl | (simp; done) | (simp [*]; done)), H', ⟨Nat.le_refl _⟩, ⟨by (with_reducible repeat (first | apply Kd.R_alloc | apply Kd.R_drewN | apply Kd.R_drew)); exact HO202.out⟩, ⟨by repeat (first | (with_reducible first | exact HB.out | apply below_alloc | apply pw_below_drewN | apply below_drew1) | exact HB.out)⟩⟩
 case round =>
  clear H'
  try clear p2
  obtain ⟨x0_1, x3_1, rfl, HA, HK1, HO_3, HB⟩ := hrel
  cases gk with
  | zero => exact absurd HA.out (by simp [plenumref02_Signed.l0])
  | succ k1 =>
   have H := HA.out
   clear HA
   simp only [plenumref02_Signed.l0] at H
   by_cases c4 : x0_1 < (-128)
   ·rw [if_pos c4] at H
    have c4b0 : decide (x0_1 < (-128)) = true := decide_eq_true c4
    clear c4
    obtain ⟨y203, hy203⟩ : ∃ y_ : List Int, y_ = (([(x0_1 / 256) % 256] : List Int)) := ⟨_, rfl⟩
    replace H : (if y203.length + x3_1.length < 140737488355328 then (plenumref02_Signed.l0 k1 (x0_1 / 256) (y203 ++ x3_1)) else (none)) = some r := by first | (rw [hy203]; with_reducible exact H) | (have H2_ := (Option.bind_some _ _).symm.trans H; rw [hy203]; with_reducible exact H2_) | (have H2_ := (Option.bind_some _ _).symm.trans H; with_reducible exact H2_) | with_reducible exact H | (rw [hy203]; exact H) | exact H
    have Ny203 := Aside0.mk hy203
    clear hy203
    by_cases c5 : y203.length + x3_1.length < 140737488355328
    ·rw [if_pos c5] at H
     have LMc5 := Aside0.mk c5
     clear c5
     obtain ⟨y206, hy206⟩ : ∃ y_ : List Int, y_ = (y203 ++ x3_1) := ⟨_, rfl⟩
     replace H : (plenumref02_Signed.l0 k1 (x0_1 / 256) y206) = some r := by first | (rw [hy206]; with_reducible exact H) | (have H2_ := (Option.bind_some _ _).symm.trans H; rw [hy206]; with_reducible exact H2_) | (have H2_ := (Option.bind_some _ _).symm.trans H; with_reducible exact H2_) | with_reducible exact H | (rw [hy206]; exact H) | exact H
     have Ny206 := Aside0.mk hy206
     clear hy206
     have H' := Aside0.mk H
     clear H
     go_wp2_with (first | ((with_reducible refine gate_dst (N := 17) rfl ?_); refine Kd.R_lit (Kd.int .u8) _ 5 ?hg (N := 17) ?hd (xs := ([(x0_1 / 256) % 256] : List Int)) (inner := [.int .u8 ((x0_1 / 256) % 256)]) (ok := fun _ => True) (okp := fun _ => True) ?hr ?hp (fun _ hk => hk) trivial (Below.refl _ _) (Nat.le_refl _) (by simp) ?_; (case hd => rfl); (case hg => rfl); (case hr => first | (go_simp; done) | (go_simp; rfl)); (case hp => exact (Reps.one (show Kd.M (Kd.int .u8) _ _ _ ((x0_1 / 256) % 256) [.int .u8 ((x0_1 / 256) % 256)] from rfl) (Reps.none _ _))); intro v204 w6 ho7 hb hg_ hnew_; clear hg_ hnew_; (first | rw [← Ny203.out] at ho7 | (simp only [Int.reduceToNat] at ho7; rw [← Ny203.out] at ho7)); have n0_ := Aside0.mk (Kd.R_elder' (by (with_reducible repeat (first | apply Kd.R_alloc | apply Kd.R_drewN | apply Kd.R_drew)); exact HO_3.out) (Kd.R_base ho7) hb); have n1_ := Aside0.mk (Kd.R_lower (Kd.R_new' ho7 (Kd.R_lt (by (with_reducible repeat (first | apply Kd.R_alloc | apply Kd.R_drewN | apply Kd.R_drew)); exact HO_3.out))) (below_size (by repeat (first | (with_reducible first | exact HB.out | apply below_alloc | apply pw_below_drewN | apply below_drew1) | exact HB.out)))); have n2_ := Aside0.mk (below_step (by repeat (first | (with_reducible first | exact HB.out | apply below_alloc | apply pw_below_drewN | apply below_drew1) | exact HB.out)) hb); clear HO_3; clear HB; have HO_3 := n0_; have HO205 := n1_; have HB := n2_; clear n0_ n1_ n2_; clear hb ho7; obtain ⟨Ao9, co9, eo9⟩ := Kd.R_slice HO_3.out; subst eo9) | ((with_reducible refine gate_builtin (b := .append) (xs := #[.tmp 17, .tmp 18]) rfl ?_); at_builtin; refine Kd.R_append_rows (Kd.int .u8) (w0 := w) w.heap.size rfl (.tmp 17) (.tmp 18) 80 5 (.int .u8 0) 1 rfl Tryd.underlying80 info5 rfl (by decide) (by omega) v204 y203 x3_1 _ _ _ (fun k_ => some k_ ≠ (.slice Ao9 x3_1.length co9 : Value).ownBlock) (fun _ => False) rfl rfl ?aO ?aR (fun _ _ h => h) (fun _ h => h.elim) ?aF ?aB ?aS ?aL ?_; (case aR => repeat (first | exact (Kd.R_reads' HO_3.out).2.2 | (with_reducible refine Kd.C_alloc ?_ _) | (with_reducible refine Kd.C_drewN ?_ _) | (with_reducible refine Kd.C_drew ?_))); (case aB => exact (by repeat (first | (with_reducible first | exact HB.out | apply below_alloc | apply pw_below_drewN | apply below_drew1) | exact HB.out))); (case aF => exact (fun k_ hk => Kd.fresh' (Kd.R_lt (by (with_reducible repeat (first | apply Kd.R_alloc | apply Kd.R_drewN | apply Kd.R_drew)); exact HO_3.out)) k_ hk)); (case aO => exact (by (with_reducible repeat (first | apply Kd.R_alloc | apply Kd.R_drewN | apply Kd.R_drew)); exact Kd.R_mono HO205.out (fun _ hk => hk.2))); (case aS => exact (below_size (by repeat (first | (with_reducible first | exact HB.out | apply below_alloc | apply pw_below_drewN | apply below_drew1) | exact HB.out)))); (case aL => have := LMc5.out; first | omega | (simp only [ByteArray.size, List.size_toArray, List.length_cons, List.length_nil] at this ⊢; omega)); intro v207 w8 ho hb hg hat; rw [← Ny206.out] at ho; have n0_ := Aside0.mk (Kd.R_after (ok := (fun _ => True)) (by (with_reducible repeat (first | apply Kd.R_alloc | apply Kd.R_drewN | apply Kd.R_drew)); exact HO_3.out) hg hat); have n1_ := Aside0.mk (hb); have n2_ := Aside0.mk (ho); clear HO_3; clear HB; clear HO205; have HO_3 := n0_; have HB := n1_; have HO208 := n2_; clear n0_ n1_ n2_; clear ho hb hg hat))
     go_roundg k1
     case measure => have := HK1.out; omega
     case rel => exact ⟨(x0_1 / 256), (y206), (by first | rfl | (simp; done) | (simp [*]; done)), H', ⟨by have := HK1.out; omega⟩, ⟨by (with_reducible repeat (first | apply Kd.R_alloc | apply Kd.R_drewN | apply Kd.R_drew)); exact Kd.R_mono HO208.out (fun _ hk => trivial)⟩, ⟨by repeat (first | (with_reducible first | exact HB.out | apply below_alloc | apply pw_below_drewN | apply below_drew1) | exact HB.out)⟩⟩
    ·rw [if_neg c5] at H
     exact absurd H (by simp)
   ·rw [if_neg c4] at H
    have c4b0 : decide (x0_1 < (-128)) = false := decide_eq_false c4
    clear c4
    by_cases c10 : x0_1 > 127
    ·rw [if_pos c10] at H
     have c10b0 : decide (127 < x0_1) = true := decide_eq_true c10
     clear c10
     obtain ⟨y209, hy209⟩ : ∃ y_ : List Int, y_ = (([(x0_1 / 256) % 256] : List Int)) := ⟨_, rfl⟩
     replace H : (if y209.length + x3_1.length < 140737488355328 then (plenumref02_Signed.l0 k1 (x0_1 / 256) (y209 ++ x3_1)) else (none)) = some r := by first | (rw [hy209]; with_reducible exact H) | (have H2_ := (Option.bind_some _ _).symm.trans H; rw [hy209]; with_reducible exact H2_) | (have H2_ := (Option.bind_some _ _).symm.trans H; with_reducible exact H2_) | with_reducible exact H | (rw [hy209]; exact H) | exact H
     have Ny209 := Aside0.mk hy209
     clear hy209
     by_cases c11 : y209.length + x3_1.length < 140737488355328
     ·rw [if_pos c11] at H
      have LMc11 := Aside0.mk c11
      clear c11
      obtain ⟨y212, hy212⟩ : ∃ y_ : List Int, y_ = (y209 ++ x3_1) := ⟨_, rfl⟩
      replace H : (plenumref02_Signed.l0 k1 (x0_1 / 256) y212) = some r := by first | (rw [hy212]; with_reducible exact H) | (have H2_ := (Option.bind_some _ _).symm.trans H; rw [hy212]; with_reducible exact H2_) | (have H2_ := (Option.bind_some _ _).symm.trans H; with_reducible exact H2_) | with_reducible exact H | (rw [hy212]; exact H) | exact H
      have Ny212 := Aside0.mk hy212
      clear hy212
      have H' := Aside0.mk H
      clear H
      go_wp2_with (first | ((with_reducible refine gate_dst (N := 17) rfl ?_); refine Kd.R_lit (Kd.int .u8) _ 5 ?hg (N := 17) ?hd (xs := ([(x0_1 / 256) % 256] : List Int)) (inner := [.int .u8 ((x0_1 / 256) % 256)]) (ok := fun _ => True) (okp := fun _ => True) ?hr ?hp (fun _ hk => hk) trivial (Below.refl _ _) (Nat.le_refl _) (by simp) ?_; (case hd => rfl); (case hg => rfl); (case hr => first | (go_simp; done) | (go_simp; rfl)); (case hp => exact (Reps.one (show Kd.M (Kd.int .u8) _ _ _ ((x0_1 / 256) % 256) [.int .u8 ((x0_1 / 256) % 256)] from rfl) (Reps.none _ _))); intro v210 w12 ho13 hb hg_ hnew_; clear hg_ hnew_; (first | rw [← Ny209.out] at ho13 | (simp only [Int.reduceToNat] at ho13; rw [← Ny209.out] at ho13)); have n0_ := Aside0.mk (Kd.R_elder' (by (with_reducible repeat (first | apply Kd.R_alloc | apply Kd.R_drewN | apply Kd.R_drew)); exact HO_3.out) (Kd.R_base ho13) hb); have n1_ := Aside0.mk (Kd.R_lower (Kd.R_new' ho13 (Kd.R_lt (by (with_reducible repeat (first | apply Kd.R_alloc | apply Kd.R_drewN | apply Kd.R_drew)); exact HO_3.out))) (below_size (by repeat (first | (with_reducible first | exact HB.out | apply below_alloc | apply pw_below_drewN | apply below_drew1) | exact HB.out)))); have n2_ := Aside0.mk (below_step (by repeat (first | (with_reducible first | exact HB.out | apply below_alloc | apply pw_below_drewN | apply below_drew1) | exact HB.out)) hb); clear HO_3; clear HB; have HO_3 := n0_; have HO211 := n1_; have HB := n2_; clear n0_ n1_ n2_; clear hb ho13; obtain ⟨Ao15, co15, eo15⟩ := Kd.R_slice HO_3.out; subst eo15) | ((with_reducible refine gate_builtin (b := .append) (xs := #[.tmp 17, .tmp 18]) rfl ?_); at_builtin; refine Kd.R_append_rows (Kd.int .u8) (w0 := w) w.heap.size rfl (.tmp 17) (.tmp 18) 80 5 (.int .u8 0) 1 rfl Tryd.underlying80 info5 rfl (by decide) (by omega) v210 y209 x3_1 _ _ _ (fun k_ => some k_ ≠ (.slice Ao15 x3_1.length co15 : Value).ownBlock) (fun _ => False) rfl rfl ?aO ?aR (fun _ _ h => h) (fun _ h => h.elim) ?aF ?aB ?aS ?aL ?_; (case aR => repeat (first | exact (Kd.R_reads' HO_3.out).2.2 | (with_reducible refine Kd.C_alloc ?_ _) | (with_reducible refine Kd.C_drewN ?_ _) | (with_reducible refine Kd.C_drew ?_))); (case aB => exact (by repeat (first | (with_reducible first | exact HB.out | apply below_alloc | apply pw_below_drewN | apply below_drew1) | exact HB.out))); (case aF => exact (fun k_ hk => Kd.fresh' (Kd.R_lt (by (with_reducible repeat (first | apply Kd.R_alloc | apply Kd.R_drewN | apply Kd.R_drew)); exact HO_3.out)) k_ hk)); (case aO => exact (by (with_reducible repeat (first | apply Kd.R_alloc | apply Kd.R_drewN | apply Kd.R_drew)); exact Kd.R_mono HO211.out (fun _ hk => hk.2))); (case aS => exact (below_size (by repeat (first | (with_reducible first | exact HB.out | apply below_alloc | apply pw_below_drewN | apply below_drew1) | exact HB.out)))); (case aL => have := LMc11.out; first | omega | (simp only [ByteArray.size, List.size_toArray, List.length_cons, List.length_nil] at this ⊢; omega)); intro v213 w14 ho hb hg hat; rw [← Ny212.out] at ho; have n0_ := Aside0.mk (Kd.R_after (ok := (fun _ => True)) (by (with_reducible repeat (first | apply Kd.R_alloc | apply Kd.R_drewN | apply Kd.R_drew)); exact HO_3.out) hg hat); have n1_ := Aside0.mk (hb); have n2_ := Aside0.mk (ho); clear HO_3; clear HB; clear HO211; have HO_3 := n0_; have HB := n1_; have HO214 := n2_; clear n0_ n1_ n2_; clear ho hb hg hat))
      go_roundg k1
      case measure => have := HK1.out; omega
      case rel => exact ⟨(x0_1 / 256), (y212), (by first | rfl | (simp; done) | (simp [*]; done)), H', ⟨by have := HK1.out; omega⟩, ⟨by (with_reducible repeat (first | apply Kd.R_alloc | apply Kd.R_drewN | apply Kd.R_drew)); exact Kd.R_mono HO214.out (fun _ hk => trivial)⟩, ⟨by repeat (first | (with_reducible first | exact HB.out | apply below_alloc | apply pw_below_drewN | apply below_drew1) | exact HB.out)⟩⟩
     ·rw [if_neg c11] at H
      exact absurd H (by simp)
    ·rw [if_neg c10] at H
     have c10b0 : decide (127 < x0_1) = false := decide_eq_false c10
     clear c10
     obtain ⟨y215, hy215⟩ : ∃ y_ : List Int, y_ = (([(wrap64 (32 + (x3_1.length : Int))) % 256] : List Int)) := ⟨_, rfl⟩
     replace H : (if y215.length + x3_1.length < 140737488355328 then (some (strOfNums (y215 ++ x3_1))) else (none)) = some r := by first | (rw [hy215]; with_reducible exact H) | (have H2_ := (Option.bind_some _ _).symm.trans H; rw [hy215]; with_reducible exact H2_) | (have H2_ := (Option.bind_some _ _).symm.trans H; with_reducible exact H2_) | with_reducible exact H | (rw [hy215]; exact H) | exact H
     have Ny215 := Aside0.mk hy215
     clear hy215
     by_cases c16 : y215.length + x3_1.length < 140737488355328
     ·rw [if_pos c16] at H
      have LMc16 := Aside0.mk c16
      clear c16
      obtain ⟨y218, hy218⟩ : ∃ y_ : List Int, y_ = (y215 ++ x3_1) := ⟨_, rfl⟩
      replace H : (some (strOfNums y218)) = some r := by first | (rw [hy218]; with_reducible exact H) | (have H2_ := (Option.bind_some _ _).symm.trans H; rw [hy218]; with_reducible exact H2_) | (have H2_ := (Option.bind_some _ _).symm.trans H; with_reducible exact H2_) | with_reducible exact H | (rw [hy218]; exact H) | exact H
      have Ny218 := Aside0.mk hy218
      clear hy218
      obtain rfl := Option.some.inj H
      obtain ⟨Ao17, co17, eo17⟩ := Kd.R_slice HO_3.out
      subst eo17
      go_wp2_with (first | ((with_reducible refine gate_dst (N := 24) rfl ?_); refine Kd.R_lit (Kd.int .u8) _ 5 ?hg (N := 24) ?hd (xs := ([(wrap64 (32 + (x3_1.length : Int))) % 256] : List Int)) (inner := [.int .u8 ((wrap64 (32 + (x3_1.length : Int))) % 256)]) (ok := fun _ => True) (okp := fun _ => True) ?hr ?hp (fun _ hk => hk) trivial (Below.refl _ _) (Nat.le_refl _) (by simp) ?_; (case hd => rfl); (case hg => rfl); (case hr => first | (go_simp; done) | (go_simp; rfl)); (case hp => exact (Reps.one (show Kd.M (Kd.int .u8) _ _ _ ((wrap64 (32 + (x3_1.length : Int))) % 256) [.int .u8 ((wrap64 (32 + (x3_1.length : Int))) % 256)] from rfl) (Reps.none _ _))); intro v216 w18 ho19 hb hg_ hnew_; clear hg_ hnew_; (first | rw [← Ny215.out] at ho19 | (simp only [Int.reduceToNat] at ho19; rw [← Ny215.out] at ho19)); have n0_ := Aside0.mk (Kd.R_elder' (by (with_reducible repeat (first | apply Kd.R_alloc | apply Kd.R_drewN | apply Kd.R_drew)); exact HO_3.out) (Kd.R_base ho19) hb); have n1_ := Aside0.mk (Kd.R_lower (Kd.R_new' ho19 (Kd.R_lt (by (with_reducible repeat (first | apply Kd.R_alloc | apply Kd.R_drewN | apply Kd.R_drew)); exact HO_3.out))) (below_size (by repeat (first | (with_reducible first | exact HB.out | apply below_alloc | apply pw_below_drewN | apply below_drew1) | exact HB.out)))); have n2_ := Aside0.mk (below_step (by repeat (first | (with_reducible first | exact HB.out | apply below_alloc | apply pw_below_drewN | apply below_drew1) | exact HB.out)) hb); clear HO_3; clear HB; have HO_3 := n0_; have HO217 := n1_; have HB := n2_; clear n0_ n1_ n2_; clear hb ho19) | ((with_reducible refine gate_builtin (b := .append) (xs := #[.tmp 24, .tmp 25]) rfl ?_); at_builtin; refine Kd.R_append_rows (Kd.int .u8) (w0 := w) w.heap.size rfl (.tmp 24) (.tmp 25) 80 5 (.int .u8 0) 1 rfl Tryd.underlying80 info5 rfl (by decide) (by omega) v216 y215 x3_1 _ _ _ (fun k_ => some k_ ≠ (.slice Ao17 x3_1.length co17 : Value).ownBlock) (fun _ => False) rfl rfl ?aO ?aR (fun _ _ h => h) (fun _ h => h.elim) ?aF ?aB ?aS ?aL ?_; (case aR => repeat (first | exact (Kd.R_reads' HO_3.out).2.2 | (with_reducible refine Kd.C_alloc ?_ _) | (with_reducible refine Kd.C_drewN ?_ _) | (with_reducible refine Kd.C_drew ?_))); (case aB => exact (by repeat (first | (with_reducible first | exact HB.out | apply below_alloc | apply pw_below_drewN | apply below_drew1) | exact HB.out))); (case aF => exact (fun k_ hk => Kd.fresh' (Kd.R_lt (by (with_reducible repeat (first | apply Kd.R_alloc | apply Kd.R_drewN | apply Kd.R_drew)); exact HO_3.out)) k_ hk)); (case aO => exact (by (with_reducible repeat (first | apply Kd.R_alloc | apply Kd.R_drewN | apply Kd.R_drew)); exact Kd.R_mono HO217.out (fun _ hk => hk.2))); (case aS => exact (below_size (by repeat (first | (with_reducible first | exact HB.out | apply below_alloc | apply pw_below_drewN | apply below_drew1) | exact HB.out)))); (case aL => have := LMc16.out; first | omega | (simp only [ByteArray.size, List.size_toArray, List.length_cons, List.length_nil] at this ⊢; omega)); intro v219 w20 ho hb hg hat; rw [← Ny218.out] at ho; have n0_ := Aside0.mk (Kd.R_after (ok := (fun _ => True)) (by (with_reducible repeat (first | apply Kd.R_alloc | apply Kd.R_drewN | apply Kd.R_drew)); exact HO_3.out) hg hat); have n1_ := Aside0.mk (hb); have n2_ := Aside0.mk (ho); clear HO_3; clear HB; clear HO217; have HO_3 := n0_; have HB := n1_; have HO220 := n2_; clear n0_ n1_ n2_; clear ho hb hg hat; have hcv21 := own_string (P := Tryd.prog) Tryd.underlying80 Tryd.underlying5 Tryd.underlying9 (Kd.own_of_R HO220.out)))
      go_ret
      exact ⟨by first | rfl | (simp [errW_none, errW_some] <;> rfl) | (simp [*, errW_none, errW_some] <;> rfl), by repeat (first | (with_reducible first | exact HB.out | apply below_alloc | apply pw_below_drewN | apply below_drew1) | exact HB.out)⟩
     ·rw [if_neg c16] at H
      exact absurd H (by simp)
end Go.Proofs.YtbgabhknmpbgiaaDoor.S
end
section
namespace Go.Proofs.YtbgabhknmpbgiaaDoor.S
open Go.RowKit Go.Proofs.YtbgabhknmpbgiaaDoorW.PrintWords Go.Proofs.YtbgabhknmpbgiaaDoorW.PrintLast Go.Proofs.YtbgabhknmpbgiaaDoorW.PrintMore
attribute [local go_sem] max2_int min2_int max_two min_two max_three min_three max_four min_four
set_option linter.unusedVariables false
set_option linter.unusedSimpArgs false
mutual
def plenumref02_ReadSigned.j0 : Nat → Int → ByteArray → Bool → Int → Bool → Option (Int × Int × Bool)
 | 0, _, _, _, _, _ => none
 | k + 1, x1, x7, x8, x9, x22 => if x22 = true then (plenumref02_ReadSigned.j1 k x1 x7 x8 (-1)) else (plenumref02_ReadSigned.j1 k x1 x7 x8 x9)
def plenumref02_ReadSigned.j1 : Nat → Int → ByteArray → Bool → Int → Option (Int × Int × Bool)
 | 0, _, _, _, _ => none
 | k + 1, x1, x7, x8, x9 => plenumref02_ReadSigned.l0 k x1 x7 x8 x9 0
def plenumref02_ReadSigned.l0 : Nat → Int → ByteArray → Bool → Int → Int → Option (Int × Int × Bool)
 | 0, _, _, _, _, _ => none
 | k + 1, x1, x7, x8, x9, x10 => if x10 < (x7.size : Int) then (if 0 ≤ x10 then (plenumref02_ReadSigned.l0 k x1 x7 x8 (Go.bits .or .i64 (wrap64 (x9 * 256)) (wrap64 (bt x7 x10))) (wrap64 (x10 + 1))) else (none)) else (if x8 = true then ((plenumref02_Signed.f k x9).bind fun t223 => (if (t223.size : Int) = (wrap64 ((x7.size : Int) + 1)) then (some (x9, wrap64 ((wrap64 (x1 + 1)) + (x7.size : Int)), true)) else (some (0, 0, false)))) else (some (0, 0, false)))
end
def plenumref02_ReadSigned.f (k : Nat) (a0 : ByteArray) (a1 : Int) : Option (Int × Int × Bool) := (plenumref02_number.f k a0 a1 32).bind fun bt221 => (if bt221.2 = true then (if 0 < (bt221.1.size : Int) then (plenumref02_ReadSigned.j0 k a1 bt221.1 bt221.2 0 (decide ((bt bt221.1 0) ≥ 128))) else (none)) else (plenumref02_ReadSigned.j0 k a1 bt221.1 bt221.2 0 false))
set_option maxHeartbeats 8000000 in
set_option maxRecDepth 100000 in
theorem plenumref02_ReadSigned.calls (k : Nat) (a0 : ByteArray) (a1 : Int) (r1 : Int) (r2 : Int) (r3 : Bool) (w : World) (hG : Glob w) (h : plenumref02_ReadSigned.f k a0 a1 = some (r1, r2, r3)) :
  Calls Tryd.prog 54 #[.string a0, .int .i64 a1] w fun e w' => e = .returned (.tuple #[.int .i64 r1, .int .i64 r2, .bool r3]) ∧ Below w.heap.size w w' := by
 have HG := Aside0.mk hG
 clear hG
 have HB := Aside0.mk (Below.refl w.heap.size w)
 have H : ((plenumref02_number.f k a0 a1 32).bind fun bt221 => (if bt221.2 = true then (if 0 < (bt221.1.size : Int) then (plenumref02_ReadSigned.j0 k a1 bt221.1 bt221.2 0 (decide ((bt bt221.1 0) ≥ 128))) else (none)) else (plenumref02_ReadSigned.j0 k a1 bt221.1 bt221.2 0 false))) = some (r1, r2, r3) := h
 clear h
 replace H := Option.bind_eq_some_iff.mp H
 obtain ⟨⟨t221, t222⟩, A30, H⟩ := H
 replace H : (if t222 = true then (if 0 < (t221.size : Int) then (plenumref02_ReadSigned.j0 k a1 t221 t222 0 (decide ((bt t221 0) ≥ 128))) else (none)) else (plenumref02_ReadSigned.j0 k a1 t221 t222 0 false)) = some (r1, r2, r3) := H
 have A3 := Aside0.mk A30
 clear A30
 have HC4 := Aside0.mk H
 clear H
 go_enter Tryd.func54, Tryd.ntmps54
 go_upto_region 3 with (first | ((with_reducible refine gate_callee (f := 83) rfl ?_); refine goesL_ (some 14) rfl rfl Tryd.func83 (by kernel_rfl) rfl #[.string a0, .int .i64 a1, .int .u8 32] rfl (by (try simp only [List.map_toArray, List.map_cons, List.map_nil]); first | done | rfl | (simp only [List.length_drop, List.length_take]; rfl)) ?_; (with_reducible refine (plenumref02_number.calls k a0 a1 32 t221 t222 _ ?side99  A3.out).mono ?_); (case side99 => first | exact HG.out | exact Glob.below HG.out (by repeat (first | (with_reducible first | exact HB.out | apply below_alloc | apply pw_below_drewN | apply below_drew1) | exact HB.out))); rintro e w' ⟨rfl, ⟨nd, rfl⟩⟩; refine ⟨_, rfl, ?_⟩))
 (try simp only [Act.put, List.setIfInBounds_toArray, List.set_cons_zero, List.set_cons_succ])
 go_cut [22] (fun v22 wc => ∃ (kq : Nat) (x22_3 : Bool), v22 = .bool x22_3 ∧ Aside0 (plenumref02_ReadSigned.j0 kq a1 t221 t222 0 x22_3 = some (r1, r2, r3)) ∧ Aside0 (kq ≤ k) ∧ Aside0 (Below w.heap.size w wc))
 case first =>
  have H := HC4.out
  clear HC4
  by_cases c5 : t222 = true
  ·subst c5
   have H1 : (if 0 < (t221.size : Int) then (plenumref02_ReadSigned.j0 k a1 t221 true 0 (decide ((bt t221 0) ≥ 128))) else (none)) = some (r1, r2, r3) := by rw [if_pos rfl] at H; exact H
   clear H
   have H := H1
   clear H1
   by_cases c6 : 0 < (t221.size : Int)
   ·rw [if_pos c6] at H
    have c6b0 : decide (0 < (t221.size : Int)) = true := decide_eq_true c6
    have c6b1 : decide (0 < t221.size) = true := decide_eq_true (by omega)
    clear c6
    (first | rw [c6b0] | (simp only [i64_w, i32_w]; rw [c6b0]) | skip)
    have H' := Aside0.mk H
    clear H
    have p7 : 0 ≤ (0 : Int) := (by omega)
    have q7 : 0 < t221.size := (by have : (0 : Int) < (t221.size : Int) := of_decide_eq_true (by first | (with_reducible assumption) | assumption); omega)
    have hx7 : ∀ h : 0 < t221.size, ((t221[0]'h).toNat : Int) = bt t221 0 := bt_at t221 0
    clear p7
    have qi7 : (0 < (t221.size : Int)) = True := eq_true (of_decide_eq_true (by first | (with_reducible assumption) | assumption))
    replace q7 := eq_true q7
    go_wp2
    go_meet
    case rel => exact ⟨_, (decide ((bt t221 0) ≥ 128)), (by first | rfl | (simp; done) | (simp [*]; done)), H', ⟨by first | omega | exact Nat.le_refl _⟩, ⟨by repeat (first | (with_reducible first | exact HB.out | apply below_alloc | apply pw_below_drewN | apply below_drew1) | exact HB.out)⟩⟩
   ·rw [if_neg c6] at H
    exact absurd H (by simp)
  ·replace c5 := Bool.eq_false_iff.mpr c5
   subst c5
   have H1 : (plenumref02_ReadSigned.j0 k a1 t221 false 0 false) = some (r1, r2, r3) := by rw [if_neg (show ¬ (false = true) by decide)] at H; exact H
   clear H
   have H := H1
   clear H1
   have H' := Aside0.mk H
   clear H
   go_wp2
   go_meet
   case rel => exact ⟨_, (false), (by first | rfl | (simp; done) | (simp [*]; done)), H', ⟨by first | omega | exact Nat.le_refl _⟩, ⟨by repeat (first | (with_reducible first | exact HB.out | apply below_alloc | apply pw_below_drewN | apply below_drew1) | exact HB.out)⟩⟩
 case rest =>
  clear HC4
  try clear p2
  try clear c5
  try clear c6
  try clear c6b0
  try clear c6b1
  try clear p7
  try clear q7
  try clear hx7
  try clear qi7
  try clear p7
  try clear q7
  obtain ⟨kq, x22_3, rfl, HA, HJ3, HB⟩ := hcut
  cases kq with
  | zero => exact absurd HA.out (by simp [plenumref02_ReadSigned.j0])
  | succ kj3 =>
   have H := HA.out
   clear HA
   simp only [plenumref02_ReadSigned.j0] at H
   have HC8 := Aside0.mk H
   clear H
   go_upto_if 22 with (fail)
   go_cut [9] (fun v9 wc => ∃ (kq : Nat) (x9_7 : Int), v9 = .int .i64 x9_7 ∧ Aside0 (plenumref02_ReadSigned.j1 kq a1 t221 t222 x9_7 = some (r1, r2, r3)) ∧ Aside0 (kq ≤ kj3) ∧ Aside0 (Below w.heap.size w wc))
   case first =>
    have H := HC8.out
    clear HC8
    by_cases c9 : x22_3 = true
    ·subst c9
     have H1 : (plenumref02_ReadSigned.j1 kj3 a1 t221 t222 (-1)) = some (r1, r2, r3) := by rw [if_pos rfl] at H; exact H
     clear H
     have H := H1
     clear H1
     have H' := Aside0.mk H
     clear H
     go_wp2
     go_meet
     case rel => exact ⟨_, ((-1)), (by first | rfl | (simp; done) | (simp [*]; done)), H', ⟨by have := HJ3.out; first | omega | exact Nat.le_refl _⟩, ⟨by repeat (first | (with_reducible first | exact HB.out | apply below_alloc | apply pw_below_drewN | apply below_drew1) | exact HB.out)⟩⟩
    ·replace c9 := Bool.eq_false_iff.mpr c9
     subst c9
     have H1 : (plenumref02_ReadSigned.j1 kj3 a1 t221 t222 0) = some (r1, r2, r3) := by rw [if_neg (show ¬ (false = true) by decide)] at H; exact H
     clear H
     have H := H1
     clear H1
     have H' := Aside0.mk H
     clear H
     go_wp2
     go_meet
     case rel => exact ⟨_, (0), (by first | rfl | (simp; done) | (simp [*]; done)), H', ⟨by have := HJ3.out; first | omega | exact Nat.le_refl _⟩, ⟨by repeat (first | (with_reducible first | exact HB.out | apply below_alloc | apply pw_below_drewN | apply below_drew1) | exact HB.out)⟩⟩
   case rest =>
    clear HC8
    try clear p2
    try clear c5
    try clear c6
    try clear c6b0
    try clear c6b1
    try clear p7
    try clear q7
    try clear hx7
    try clear qi7
    try clear c8
    try clear c9
    try clear p2
    try clear p7
    try clear q7
    obtain ⟨kq, x9_7, rfl, HA, HJ7, HB⟩ := hcut
    cases kq with
    | zero => exact absurd HA.out (by simp [plenumref02_ReadSigned.j1])
    | succ kj7 =>
     have H := HA.out
     clear HA
     simp only [plenumref02_ReadSigned.j1] at H
     have H' := Aside0.mk H
     clear H
     go_wp2
     go_loopg [9, 10] kj7 (fun kq v9 v10 w' => ∃ (x9_3 : Int) (x10_3 : Int), v9 = .int .i64 x9_3 ∧ v10 = .int .i64 x10_3 ∧ Aside0 (plenumref02_ReadSigned.l0 kq a1 t221 t222 x9_3 x10_3 = some (r1, r2, r3)) ∧ Aside0 (kq ≤ kj7) ∧ Aside0 (Below w.heap.size w w'))
     case atStart => exact ⟨(x9_7), (0), (by first | rfl | (simp; done) | (simp [*]; done)), (by first | rfl | (simp; done) | (simp [*]; done)), H', ⟨Nat.le_refl _⟩, ⟨by repeat (first | (with_reducible first | exact HB.out | apply below_alloc | apply pw_below_drewN | apply below_drew1) | exact HB.out)⟩⟩
     case round =>
      clear H'
      try clear p2
      try clear c5
      try clear c6
      try clear c6b0
      try clear c6b1
      try clear p7
      try clear q7
      try clear hx7
      try clear qi7
      try clear c8
      try clear c9
      try clear p2
      try clear p7
      try clear q7
      obtain ⟨x9_3, x10_3, rfl, rfl, HA, HK3, HB⟩ := hrel
      cases gk with
      | zero => exact absurd HA.out (by simp [plenumref02_ReadSigned.l0])
      | succ k3 =>
       have H := HA.out
       clear HA
       simp only [plenumref02_ReadSigned.l0] at H
       by_cases c10 : x10_3 < (t221.size : Int)
       ·rw [if_pos c10] at H
        have c10b0 : decide (x10_3 < (t221.size : Int)) = true := decide_eq_true c10
        clear c10
        by_cases c11 : 0 ≤ x10_3
        ·rw [if_pos c11] at H
         have c11b0 : decide (0 ≤ x10_3) = true := decide_eq_true c11
         clear c11
         have H' := Aside0.mk H
         clear H
         have p12 : 0 ≤ (x10_3 : Int) := of_decide_eq_true (by first | (with_reducible assumption) | assumption)
         have q12 : x10_3 < (t221.size : Int) := of_decide_eq_true (by first | (with_reducible assumption) | assumption)
         have hx12 := bt_at t221 x10_3
         replace p12 := eq_true p12
         replace q12 := eq_true q12
         go_wp2
         go_roundg k3
         case measure => have := HJ3.out; have := HJ7.out; have := HK3.out; omega
         case rel => exact ⟨(Go.bits .or .i64 (wrap64 (x9_3 * 256)) (wrap64 (bt t221 x10_3))), (wrap64 (x10_3 + 1)), (by first | rfl | (simp; done) | (simp [*]; done)), (by first | rfl | (simp; done) | (simp [*]; done)), H', ⟨by have := HJ3.out; have := HJ7.out; have := HK3.out; omega⟩, ⟨by repeat (first | (with_reducible first | exact HB.out | apply below_alloc | apply pw_below_drewN | apply below_drew1) | exact HB.out)⟩⟩
        ·rw [if_neg c11] at H
         exact absurd H (by simp)
       ·rw [if_neg c10] at H
        have c10b0 : decide (x10_3 < (t221.size : Int)) = false := decide_eq_false c10
        clear c10
        by_cases c13 : t222 = true
        ·subst c13
         have H1 : ((plenumref02_Signed.f k3 x9_3).bind fun t223 => (if (t223.size : Int) = (wrap64 ((t221.size : Int) + 1)) then (some (x9_3, wrap64 ((wrap64 (a1 + 1)) + (t221.size : Int)), true)) else (some (0, 0, false)))) = some (r1, r2, r3) := by rw [if_pos rfl] at H; exact H
         clear H
         have H := H1
         clear H1
         replace H := Option.bind_eq_some_iff.mp H
         obtain ⟨t223, A140, H⟩ := H
         replace H : (if (t223.size : Int) = (wrap64 ((t221.size : Int) + 1)) then (some (x9_3, wrap64 ((wrap64 (a1 + 1)) + (t221.size : Int)), true)) else (some (0, 0, false))) = some (r1, r2, r3) := H
         have A14 := Aside0.mk A140
         clear A140
         by_cases c15 : (t223.size : Int) = (wrap64 ((t221.size : Int) + 1))
         ·rw [if_pos c15] at H
          have c15b0 : ((t223.size : Int) == (wrap64 ((t221.size : Int) + 1))) = true := beq_iff_eq.mpr c15
          have c15b1 : ((t223.size : Int) != (wrap64 ((t221.size : Int) + 1))) = false := bne_eq_false_iff_eq.mpr c15
          clear c15
          simp only [Option.some.injEq, Prod.mk.injEq] at H
          obtain ⟨rfl, rfl, rfl⟩ := H
          go_wp2_with (first | (go_at_call 61; (with_reducible refine (plenumref02_Signed.calls k3 x9_3 t223 _ ?side99  A14.out).mono ?_); (case side99 => first | exact HG.out | exact Glob.below HG.out (by repeat (first | (with_reducible first | exact HB.out | apply below_alloc | apply pw_below_drewN | apply below_drew1) | exact HB.out))); rintro e w16 ⟨rfl, hb⟩; have n0_ := Aside0.mk (below_step (by repeat (first | (with_reducible first | exact HB.out | apply below_alloc | apply pw_below_drewN | apply below_drew1) | exact HB.out)) hb); clear HB; have HB := n0_; clear n0_; (try clear hb); (try clear hb2); (try clear hk); (try clear hi)))
          go_ret3
          exact ⟨by first | rfl | (simp [errW_none, errW_some] <;> rfl) | (simp [*, errW_none, errW_some] <;> rfl), by repeat (first | (with_reducible first | exact HB.out | apply below_alloc | apply pw_below_drewN | apply below_drew1) | exact HB.out)⟩
         ·rw [if_neg c15] at H
          have c15b0 : ((t223.size : Int) == (wrap64 ((t221.size : Int) + 1))) = false := beq_eq_false_iff_ne.mpr c15
          have c15b1 : ((t223.size : Int) != (wrap64 ((t221.size : Int) + 1))) = true := bne_iff_ne.mpr c15
          simp only [Option.some.injEq, Prod.mk.injEq] at H
          obtain ⟨rfl, rfl, rfl⟩ := H
          go_wp2_with (first | (go_at_call 61; (with_reducible refine (plenumref02_Signed.calls k3 x9_3 t223 _ ?side99  A14.out).mono ?_); (case side99 => first | exact HG.out | exact Glob.below HG.out (by repeat (first | (with_reducible first | exact HB.out | apply below_alloc | apply pw_below_drewN | apply below_drew1) | exact HB.out))); rintro e w17 ⟨rfl, hb⟩; have n0_ := Aside0.mk (below_step (by repeat (first | (with_reducible first | exact HB.out | apply below_alloc | apply pw_below_drewN | apply below_drew1) | exact HB.out)) hb); clear HB; have HB := n0_; clear n0_; (try clear hb); (try clear hb2); (try clear hk); (try clear hi)))
          go_ret3
          exact ⟨by first | rfl | (simp [errW_none, errW_some] <;> rfl) | (simp [*, errW_none, errW_some] <;> rfl), by repeat (first | (with_reducible first | exact HB.out | apply below_alloc | apply pw_below_drewN | apply below_drew1) | exact HB.out)⟩
        ·replace c13 := Bool.eq_false_iff.mpr c13
         subst c13
         have H1 : (some (0, 0, false)) = some (r1, r2, r3) := by rw [if_neg (show ¬ (false = true) by decide)] at H; exact H
         clear H
         have H := H1
         clear H1
         simp only [Option.some.injEq, Prod.mk.injEq] at H
         obtain ⟨rfl, rfl, rfl⟩ := H
         go_wp2
         go_ret3
         exact ⟨by first | rfl | (simp [errW_none, errW_some] <;> rfl) | (simp [*, errW_none, errW_some] <;> rfl), by repeat (first | (with_reducible first | exact HB.out | apply below_alloc | apply pw_below_drewN | apply below_drew1) | exact HB.out)⟩
end Go.Proofs.YtbgabhknmpbgiaaDoor.S
end
section
namespace Go.Proofs.YtbgabhknmpbgiaaDoor.S
open Go.RowKit Go.Proofs.YtbgabhknmpbgiaaDoorW.PrintWords Go.Proofs.YtbgabhknmpbgiaaDoorW.PrintLast Go.Proofs.YtbgabhknmpbgiaaDoorW.PrintMore
attribute [local go_sem] max2_int min2_int max_two min_two max_three min_three max_four min_four
set_option linter.unusedVariables false
set_option linter.unusedSimpArgs false
mutual
def plenumref02_Kind.j0 : Nat → ByteArray → Int → Bool → Option (Int)
 | 0, _, _, _ => none
 | k + 1, x0, x1, x13 => if x13 = true then (some 0) else (if 0 ≤ x1 then (if x1 < (x0.size : Int) then (if (bt x0 x1) = 0 then (some 1) else (if (bt x0 x1) = 1 then (plenumref02_Kind.j1 k (bt x0 x1) true) else (plenumref02_Kind.j1 k (bt x0 x1) ((bt x0 x1) == 2)))) else (none)) else (none))
def plenumref02_Kind.j1 : Nat → Int → Bool → Option (Int)
 | 0, _, _ => none
 | k + 1, x5, x20 => if x20 = true then (some 2) else (if x5 > 16 then (plenumref02_Kind.j2 k x5 (decide (x5 ≤ 24))) else (plenumref02_Kind.j2 k x5 false))
def plenumref02_Kind.j2 : Nat → Int → Bool → Option (Int)
 | 0, _, _ => none
 | k + 1, x5, x27 => if x27 = true then (some 3) else (if x5 > 32 then (plenumref02_Kind.j3 k x5 (decide (x5 ≤ 40))) else (plenumref02_Kind.j3 k x5 false))
def plenumref02_Kind.j3 : Nat → Int → Bool → Option (Int)
 | 0, _, _ => none
 | k + 1, x5, x34 => if x34 = true then (some 4) else (if x5 = 48 then (some 5) else (if x5 = 64 then (some 6) else (some 0)))
end
def plenumref02_Kind.f (k : Nat) (a0 : ByteArray) (a1 : Int) : Option (Int) := if a1 < 0 then (plenumref02_Kind.j0 k a0 a1 true) else (plenumref02_Kind.j0 k a0 a1 (decide (a1 ≥ (a0.size : Int))))
set_option maxHeartbeats 8000000 in
set_option maxRecDepth 100000 in
theorem plenumref02_Kind.calls (k : Nat) (a0 : ByteArray) (a1 : Int) (r : Int) (w : World) (hG : Glob w) (h : plenumref02_Kind.f k a0 a1 = some r) :
  Calls Tryd.prog 55 #[.string a0, .int .i64 a1] w fun e w' => e = .returned (.int .i64 r) ∧ Drawn0 w w' := by
 have HG := Aside0.mk hG
 clear hG
 have H : (if a1 < 0 then (plenumref02_Kind.j0 k a0 a1 true) else (plenumref02_Kind.j0 k a0 a1 (decide (a1 ≥ (a0.size : Int))))) = some r := h
 clear h
 have HC3 := Aside0.mk H
 clear H
 go_enter Tryd.func55, Tryd.ntmps55
 go_upto_region 1 with (fail)
 go_cut [13] (fun v13 wc => ∃ (kq : Nat) (x13_2 : Bool), v13 = .bool x13_2 ∧ Aside0 (plenumref02_Kind.j0 kq a0 a1 x13_2 = some r) ∧ Aside0 (kq ≤ k) ∧ Drawn0 w wc)
 case first =>
  have H := HC3.out
  clear HC3
  by_cases c4 : a1 < 0
  ·rw [if_pos c4] at H
   have c4b0 : decide (a1 < 0) = true := decide_eq_true c4
   clear c4
   (first | rw [c4b0] | (simp only [i64_w, i32_w]; rw [c4b0]) | skip)
   have H' := Aside0.mk H
   clear H
   go_wp2
   go_meet
   case rel => exact ⟨_, (true), (by first | rfl | (simp; done) | (simp [*]; done)), H', ⟨by first | omega | exact Nat.le_refl _⟩, by repeat (first | exact Drawn0.refl _ | apply Drawn0.step)⟩
  ·rw [if_neg c4] at H
   have c4b0 : decide (a1 < 0) = false := decide_eq_false c4
   clear c4
   (first | rw [c4b0] | (simp only [i64_w, i32_w]; rw [c4b0]) | skip)
   have H' := Aside0.mk H
   clear H
   go_wp2
   go_meet
   case rel => exact ⟨_, (decide (a1 ≥ (a0.size : Int))), (by first | rfl | (simp; done) | (simp [*]; done)), H', ⟨by first | omega | exact Nat.le_refl _⟩, by repeat (first | exact Drawn0.refl _ | apply Drawn0.step)⟩
 case rest =>
  clear HC3
  try clear p2
  try clear c4
  try clear c4b0
  obtain ⟨kq, x13_2, rfl, HA, HJ2, ⟨mc2, rfl⟩⟩ := hcut
  cases kq with
  | zero => exact absurd HA.out (by simp [plenumref02_Kind.j0])
  | succ kj2 =>
   have H := HA.out
   clear HA
   simp only [plenumref02_Kind.j0] at H
   by_cases c5 : x13_2 = true
   ·subst c5
    have H1 : (some 0) = some r := by rw [if_pos rfl] at H; exact H
    clear H
    have H := H1
    clear H1
    obtain rfl := Option.some.inj H
    go_wp2
    go_ret
    exact ⟨by first | rfl | (simp; done) | (simp [*]; done), by repeat (first | exact Drawn0.refl _ | apply Drawn0.step)⟩
   ·replace c5 := Bool.eq_false_iff.mpr c5
    subst c5
    have H1 : (if 0 ≤ a1 then (if a1 < (a0.size : Int) then (if (bt a0 a1) = 0 then (some 1) else (if (bt a0 a1) = 1 then (plenumref02_Kind.j1 kj2 (bt a0 a1) true) else (plenumref02_Kind.j1 kj2 (bt a0 a1) ((bt a0 a1) == 2)))) else (none)) else (none)) = some r := by rw [if_neg (show ¬ (false = true) by decide)] at H; exact H
    clear H
    have H := H1
    clear H1
    by_cases c6 : 0 ≤ a1
    ·rw [if_pos c6] at H
     have c6b0 : decide (0 ≤ a1) = true := decide_eq_true c6
     clear c6
     by_cases c7 : a1 < (a0.size : Int)
     ·rw [if_pos c7] at H
      have c7b0 : decide (a1 < (a0.size : Int)) = true := decide_eq_true c7
      clear c7
      by_cases c9 : (bt a0 a1) = 0
      ·rw [if_pos c9] at H
       have c9b0 : ((bt a0 a1) == 0) = true := beq_iff_eq.mpr c9
       have c9b1 : ((bt a0 a1) != 0) = false := bne_eq_false_iff_eq.mpr c9
       clear c9
       obtain rfl := Option.some.inj H
       have p8 : 0 ≤ (a1 : Int) := of_decide_eq_true (by first | (with_reducible assumption) | assumption)
       have q8 : a1 < (a0.size : Int) := of_decide_eq_true (by first | (with_reducible assumption) | assumption)
       have hx8 := bt_at a0 a1
       replace p8 := eq_true p8
       replace q8 := eq_true q8
       go_wp2
       go_ret
       exact ⟨by first | rfl | (simp; done) | (simp [*]; done), by repeat (first | exact Drawn0.refl _ | apply Drawn0.step)⟩
      ·rw [if_neg c9] at H
       have c9b0 : ((bt a0 a1) == 0) = false := beq_eq_false_iff_ne.mpr c9
       have c9b1 : ((bt a0 a1) != 0) = true := bne_iff_ne.mpr c9
       have HC10 := Aside0.mk H
       clear H
       have p8 : 0 ≤ (a1 : Int) := of_decide_eq_true (by first | (with_reducible assumption) | assumption)
       have q8 : a1 < (a0.size : Int) := of_decide_eq_true (by first | (with_reducible assumption) | assumption)
       have hx8 := bt_at a0 a1
       replace p8 := eq_true p8
       replace q8 := eq_true q8
       go_upto_region 6 with (fail)
       go_cut [20] (fun v20 wc => ∃ (kq : Nat) (x20_9 : Bool), v20 = .bool x20_9 ∧ Aside0 (plenumref02_Kind.j1 kq (bt a0 a1) x20_9 = some r) ∧ Aside0 (kq ≤ kj2) ∧ Drawn0 w wc)
       case first =>
        have H := HC10.out
        clear HC10
        by_cases c11 : (bt a0 a1) = 1
        ·rw [if_pos c11] at H
         have c11b0 : ((bt a0 a1) == 1) = true := beq_iff_eq.mpr c11
         have c11b1 : ((bt a0 a1) != 1) = false := bne_eq_false_iff_eq.mpr c11
         clear c11
         (first | rw [c11b0] | (simp only [i64_w, i32_w]; rw [c11b0]) | skip)
         have H' := Aside0.mk H
         clear H
         go_wp2
         go_meet
         case rel => exact ⟨_, (true), (by first | rfl | (simp; done) | (simp [*]; done)), H', ⟨by have := HJ2.out; first | omega | exact Nat.le_refl _⟩, by repeat (first | exact Drawn0.refl _ | apply Drawn0.step)⟩
        ·rw [if_neg c11] at H
         have c11b0 : ((bt a0 a1) == 1) = false := beq_eq_false_iff_ne.mpr c11
         have c11b1 : ((bt a0 a1) != 1) = true := bne_iff_ne.mpr c11
         (first | rw [c11b0] | (simp only [i64_w, i32_w]; rw [c11b0]) | skip)
         have H' := Aside0.mk H
         clear H
         go_wp2
         go_meet
         case rel => exact ⟨_, (((bt a0 a1) == 2)), (by first | rfl | (simp; done) | (simp [*]; done)), H', ⟨by have := HJ2.out; first | omega | exact Nat.le_refl _⟩, by repeat (first | exact Drawn0.refl _ | apply Drawn0.step)⟩
       case rest =>
        clear HC10
        try clear c1
        try clear c2
        try clear p2
        try clear c4
        try clear c4b0
        try clear c5
        try clear c6
        try clear c6b0
        try clear c7
        try clear c7b0
        try clear p8
        try clear q8
        try clear hx8
        try clear c9
        try clear c9b0
        try clear c9b1
        try clear c11
        try clear c11b0
        try clear c11b1
        try clear p2
        try clear p8
        try clear q8
        obtain ⟨kq, x20_9, rfl, HA, HJ9, ⟨mc9, rfl⟩⟩ := hcut
        cases kq with
        | zero => exact absurd HA.out (by simp [plenumref02_Kind.j1])
        | succ kj9 =>
         have H := HA.out
         clear HA
         simp only [plenumref02_Kind.j1] at H
         by_cases c12 : x20_9 = true
         ·subst c12
          have H1 : (some 2) = some r := by rw [if_pos rfl] at H; exact H
          clear H
          have H := H1
          clear H1
          obtain rfl := Option.some.inj H
          go_wp2
          go_ret
          exact ⟨by first | rfl | (simp; done) | (simp [*]; done), by repeat (first | exact Drawn0.refl _ | apply Drawn0.step)⟩
         ·replace c12 := Bool.eq_false_iff.mpr c12
          subst c12
          have H1 : (if (bt a0 a1) > 16 then (plenumref02_Kind.j2 kj9 (bt a0 a1) (decide ((bt a0 a1) ≤ 24))) else (plenumref02_Kind.j2 kj9 (bt a0 a1) false)) = some r := by rw [if_neg (show ¬ (false = true) by decide)] at H; exact H
          clear H
          have H := H1
          clear H1
          have HC13 := Aside0.mk H
          clear H
          go_upto_region 8 with (fail)
          go_cut [27] (fun v27 wc => ∃ (kq : Nat) (x27_12 : Bool), v27 = .bool x27_12 ∧ Aside0 (plenumref02_Kind.j2 kq (bt a0 a1) x27_12 = some r) ∧ Aside0 (kq ≤ kj9) ∧ Drawn0 w wc)
          case first =>
           have H := HC13.out
           clear HC13
           by_cases c14 : (bt a0 a1) > 16
           ·rw [if_pos c14] at H
            have c14b0 : decide (16 < (bt a0 a1)) = true := decide_eq_true c14
            clear c14
            (first | rw [c14b0] | (simp only [i64_w, i32_w]; rw [c14b0]) | skip)
            have H' := Aside0.mk H
            clear H
            go_wp2
            go_meet
            case rel => exact ⟨_, (decide ((bt a0 a1) ≤ 24)), (by first | rfl | (simp; done) | (simp [*]; done)), H', ⟨by have := HJ2.out; have := HJ9.out; first | omega | exact Nat.le_refl _⟩, by repeat (first | exact Drawn0.refl _ | apply Drawn0.step)⟩
           ·rw [if_neg c14] at H
            have c14b0 : decide (16 < (bt a0 a1)) = false := decide_eq_false c14
            clear c14
            (first | rw [c14b0] | (simp only [i64_w, i32_w]; rw [c14b0]) | skip)
            have H' := Aside0.mk H
            clear H
            go_wp2
            go_meet
            case rel => exact ⟨_, (false), (by first | rfl | (simp; done) | (simp [*]; done)), H', ⟨by have := HJ2.out; have := HJ9.out; first | omega | exact Nat.le_refl _⟩, by repeat (first | exact Drawn0.refl _ | apply Drawn0.step)⟩
          case rest =>
           clear HC13
           try clear c1
           try clear c2
           try clear p2
           try clear c4
           try clear c4b0
           try clear c5
           try clear c6
           try clear c6b0
           try clear c7
           try clear c7b0
           try clear p8
           try clear q8
           try clear hx8
           try clear c9
           try clear c9b0
           try clear c9b1
           try clear c11
           try clear c11b0
           try clear c11b1
           try clear c12
           try clear c14
           try clear c14b0
           try clear p2
           try clear p8
           try clear q8
           obtain ⟨kq, x27_12, rfl, HA, HJ12, ⟨mc12, rfl⟩⟩ := hcut
           cases kq with
           | zero => exact absurd HA.out (by simp [plenumref02_Kind.j2])
           | succ kj12 =>
            have H := HA.out
            clear HA
            simp only [plenumref02_Kind.j2] at H
            by_cases c15 : x27_12 = true
            ·subst c15
             have H1 : (some 3) = some r := by rw [if_pos rfl] at H; exact H
             clear H
             have H := H1
             clear H1
             obtain rfl := Option.some.inj H
             go_wp2
             go_ret
             exact ⟨by first | rfl | (simp; done) | (simp [*]; done), by repeat (first | exact Drawn0.refl _ | apply Drawn0.step)⟩
            ·replace c15 := Bool.eq_false_iff.mpr c15
             subst c15
             have H1 : (if (bt a0 a1) > 32 then (plenumref02_Kind.j3 kj12 (bt a0 a1) (decide ((bt a0 a1) ≤ 40))) else (plenumref02_Kind.j3 kj12 (bt a0 a1) false)) = some r := by rw [if_neg (show ¬ (false = true) by decide)] at H; exact H
             clear H
             have H := H1
             clear H1
             have HC16 := Aside0.mk H
             clear H
             go_upto_region 10 with (fail)
             go_cut [34] (fun v34 wc => ∃ (kq : Nat) (x34_15 : Bool), v34 = .bool x34_15 ∧ Aside0 (plenumref02_Kind.j3 kq (bt a0 a1) x34_15 = some r) ∧ Aside0 (kq ≤ kj12) ∧ Drawn0 w wc)
             case first =>
              have H := HC16.out
              clear HC16
              by_cases c17 : (bt a0 a1) > 32
              ·rw [if_pos c17] at H
               have c17b0 : decide (32 < (bt a0 a1)) = true := decide_eq_true c17
               clear c17
               (first | rw [c17b0] | (simp only [i64_w, i32_w]; rw [c17b0]) | skip)
               have H' := Aside0.mk H
               clear H
               go_wp2
               go_meet
               case rel => exact ⟨_, (decide ((bt a0 a1) ≤ 40)), (by first | rfl | (simp; done) | (simp [*]; done)), H', ⟨by have := HJ2.out; have := HJ9.out; have := HJ12.out; first | omega | exact Nat.le_refl _⟩, by repeat (first | exact Drawn0.refl _ | apply Drawn0.step)⟩
              ·rw [if_neg c17] at H
               have c17b0 : decide (32 < (bt a0 a1)) = false := decide_eq_false c17
               clear c17
               (first | rw [c17b0] | (simp only [i64_w, i32_w]; rw [c17b0]) | skip)
               have H' := Aside0.mk H
               clear H
               go_wp2
               go_meet
               case rel => exact ⟨_, (false), (by first | rfl | (simp; done) | (simp [*]; done)), H', ⟨by have := HJ2.out; have := HJ9.out; have := HJ12.out; first | omega | exact Nat.le_refl _⟩, by repeat (first | exact Drawn0.refl _ | apply Drawn0.step)⟩
             case rest =>
              clear HC16
              try clear c1
              try clear c2
              try clear p2
              try clear c4
              try clear c4b0
              try clear c5
              try clear c6
              try clear c6b0
              try clear c7
              try clear c7b0
              try clear p8
              try clear q8
              try clear hx8
              try clear c9
              try clear c9b0
              try clear c9b1
              try clear c11
              try clear c11b0
              try clear c11b1
              try clear c12
              try clear c14
              try clear c14b0
              try clear c15
              try clear c17
              try clear c17b0
              try clear p2
              try clear p8
              try clear q8
              obtain ⟨kq, x34_15, rfl, HA, HJ15, ⟨mc15, rfl⟩⟩ := hcut
              cases kq with
              | zero => exact absurd HA.out (by simp [plenumref02_Kind.j3])
              | succ kj15 =>
               have H := HA.out
               clear HA
               simp only [plenumref02_Kind.j3] at H
               by_cases c18 : x34_15 = true
               ·subst c18
                have H1 : (some 4) = some r := by rw [if_pos rfl] at H; exact H
                clear H
                have H := H1
                clear H1
                obtain rfl := Option.some.inj H
                go_wp2
                go_ret
                exact ⟨by first | rfl | (simp; done) | (simp [*]; done), by repeat (first | exact Drawn0.refl _ | apply Drawn0.step)⟩
               ·replace c18 := Bool.eq_false_iff.mpr c18
                subst c18
                have H1 : (if (bt a0 a1) = 48 then (some 5) else (if (bt a0 a1) = 64 then (some 6) else (some 0))) = some r := by rw [if_neg (show ¬ (false = true) by decide)] at H; exact H
                clear H
                have H := H1
                clear H1
                by_cases c19 : (bt a0 a1) = 48
                ·rw [if_pos c19] at H
                 have c19b0 : ((bt a0 a1) == 48) = true := beq_iff_eq.mpr c19
                 have c19b1 : ((bt a0 a1) != 48) = false := bne_eq_false_iff_eq.mpr c19
                 clear c19
                 obtain rfl := Option.some.inj H
                 go_wp2
                 go_ret
                 exact ⟨by first | rfl | (simp; done) | (simp [*]; done), by repeat (first | exact Drawn0.refl _ | apply Drawn0.step)⟩
                ·rw [if_neg c19] at H
                 have c19b0 : ((bt a0 a1) == 48) = false := beq_eq_false_iff_ne.mpr c19
                 have c19b1 : ((bt a0 a1) != 48) = true := bne_iff_ne.mpr c19
                 by_cases c20 : (bt a0 a1) = 64
                 ·rw [if_pos c20] at H
                  have c20b0 : ((bt a0 a1) == 64) = true := beq_iff_eq.mpr c20
                  have c20b1 : ((bt a0 a1) != 64) = false := bne_eq_false_iff_eq.mpr c20
                  clear c20
                  obtain rfl := Option.some.inj H
                  go_wp2
                  go_ret
                  exact ⟨by first | rfl | (simp; done) | (simp [*]; done), by repeat (first | exact Drawn0.refl _ | apply Drawn0.step)⟩
                 ·rw [if_neg c20] at H
                  have c20b0 : ((bt a0 a1) == 64) = false := beq_eq_false_iff_ne.mpr c20
                  have c20b1 : ((bt a0 a1) != 64) = true := bne_iff_ne.mpr c20
                  obtain rfl := Option.some.inj H
                  go_wp2
                  go_ret
                  exact ⟨by first | rfl | (simp; done) | (simp [*]; done), by repeat (first | exact Drawn0.refl _ | apply Drawn0.step)⟩
     ·rw [if_neg c7] at H
      exact absurd H (by simp)
    ·rw [if_neg c6] at H
     exact absurd H (by simp)
end Go.Proofs.YtbgabhknmpbgiaaDoor.S
end
section
namespace Go.Proofs.YtbgabhknmpbgiaaDoor.Pure
open Go.RowKit Go.Proofs.YtbgabhknmpbgiaaDoor.S Go.Proofs.YtbgabhknmpbgiaaDoorW.PrintWords Go.Proofs.YtbgabhknmpbgiaaDoorW.PrintLast Go.Proofs.YtbgabhknmpbgiaaDoorW.PrintMore
set_option linter.unusedVariables false
set_option linter.unusedSimpArgs false
def kd (b : Int) : Int := if b = 0 then 1 else if b = 1 ∨ b = 2 then 2 else if 16 < b ∧ b ≤ 24 then 3 else if 32 < b ∧ b ≤ 40 then 4 else if b = 48 then 5 else if b = 64 then 6 else 0
def kindS (s : ByteArray) (p : Int) : Int := if p < 0 ∨ p ≥ (s.size : Int) then 0 else kd (bt s p)
theorem byte_fin (s : ByteArray) (p : Int) : ∃ m : Fin 256, ((m.val : Nat) : Int) = bt s p := by
 have := bt_range s p
 exact ⟨⟨(bt s p).toNat, by omega⟩, by show (((bt s p).toNat : Nat) : Int) = _; omega⟩
theorem kind_eq (k : Nat) (s : ByteArray) (p : Int) : codec_kind.f (k + 3) s p = some (kindS s p) := by
 have h1 : ∀ x5 x6 x31, codec_kind.j1 (k + 2) x5 x6 x31 = codec_kind.j1 2 x5 x6 x31 := by intros; simp only [codec_kind.j1, codec_kind.j2]
 unfold codec_kind.f kindS
 by_cases c : p < 0
 ·rw [if_pos c, if_pos (Or.inl c)]; simp only [codec_kind.j0, if_true]
 ·by_cases c2 : p ≥ (s.size : Int)
  ·rw [if_neg c, if_pos (Or.inr c2), decide_eq_true c2]; simp only [codec_kind.j0, if_true]
  ·rw [if_neg c, if_neg (by omega), decide_eq_false c2]; simp only [codec_kind.j0, Bool.false_eq_true, if_false]
   rw [if_pos (by omega), if_pos (by omega)]
   simp only [h1]
   obtain ⟨m, hm⟩ := byte_fin s p
   rw [← hm]
   have hb : ∀ m : Fin 256, (if ((m.val : Nat) : Int) = 0 then (some 1) else (if (((m.val : Nat) : Int) / 16) > 4 then (some 0) else (if (((m.val : Nat) : Int) / 16) = 0 then (codec_kind.j1 2 (((m.val : Nat) : Int) / 16) (Go.bits .and .u8 ((m.val : Nat) : Int) 15) (decide ((Go.bits .and .u8 ((m.val : Nat) : Int) 15) > 2))) else (codec_kind.j1 2 (((m.val : Nat) : Int) / 16) (Go.bits .and .u8 ((m.val : Nat) : Int) 15) false)))) = some (kd ((m.val : Nat) : Int)) := by decide +kernel
   exact hb m
theorem refKind_eq (k : Nat) (s : ByteArray) (p : Int) : plenumref02_Kind.f (k + 4) s p = some (kindS s p) := by
 have h1 : ∀ x5 x31, plenumref02_Kind.j1 (k + 3) x5 x31 = plenumref02_Kind.j1 3 x5 x31 := by intros; simp only [plenumref02_Kind.j1, plenumref02_Kind.j2, plenumref02_Kind.j3]
 unfold plenumref02_Kind.f kindS
 by_cases c : p < 0
 ·rw [if_pos c, if_pos (Or.inl c)]; simp only [plenumref02_Kind.j0, if_true]
 ·by_cases c2 : p ≥ (s.size : Int)
  ·rw [if_neg c, if_pos (Or.inr c2), decide_eq_true c2]; simp only [plenumref02_Kind.j0, if_true]
  ·rw [if_neg c, if_neg (by omega), decide_eq_false c2]; simp only [plenumref02_Kind.j0, Bool.false_eq_true, if_false]
   rw [if_pos (by omega), if_pos (by omega)]
   simp only [h1]
   obtain ⟨m, hm⟩ := byte_fin s p
   rw [← hm]
   have hb : ∀ m : Fin 256, (if ((m.val : Nat) : Int) = 0 then (some 1) else (if ((m.val : Nat) : Int) = 1 then (plenumref02_Kind.j1 3 ((m.val : Nat) : Int) true) else (plenumref02_Kind.j1 3 ((m.val : Nat) : Int) (((m.val : Nat) : Int) == 2)))) = some (kd ((m.val : Nat) : Int)) := by decide +kernel
   exact hb m
theorem kindS_in {s : ByteArray} {p : Int} (h : kindS s p ≠ 0) : 0 ≤ p ∧ p < (s.size : Int) ∧ kindS s p = kd (bt s p) := by
 unfold kindS at *
 split at h
 ·exact absurd rfl h
 ·rename_i c
  exact ⟨by omega, by omega, if_neg c⟩
theorem kd3 {b : Int} : kd b = 3 ↔ 16 < b ∧ b ≤ 24 := by unfold kd; omega
theorem kd4 {b : Int} : kd b = 4 ↔ 32 < b ∧ b ≤ 40 := by unfold kd; omega
def beN (s : ByteArray) (q : Int) : Nat → Int
 | 0 => 0
 | n + 1 => beN s q n * 256 + bt s (q + (n : Int))
theorem beN_range (s : ByteArray) (q : Int) (n : Nat) : 0 ≤ beN s q n ∧ beN s q n < 256 ^ n := by
 induction n with
 | zero => simp [beN]
 | succ n ih =>
  have := bt_range s (q + n)
  rw [Int.pow_succ]
  simp only [beN]
  omega
theorem pow256 {n m : Nat} (h : n ≤ m) : (256 : Int) ^ n ≤ 256 ^ m := by
 have := Nat.pow_le_pow_right (n := 256) (by decide) h
 have e : ∀ j : Nat, (256 : Int) ^ j = ((256 ^ j : Nat) : Int) := fun j => by rw [Int.natCast_pow]; rfl
 rw [e, e]
 omega
theorem beN_lt {s : ByteArray} {q : Int} {n m : Nat} (h : n ≤ m) : beN s q n < 256 ^ m := by
 have h1 := (beN_range s q n).2
 have h2 := pow256 h
 omega
def sgn (n : Nat) (V : Int) : Int := if V < 128 * 256 ^ (n - 1) then V else V - 256 ^ n
theorem sgn_range {n : Nat} {V : Int} (h1 : 1 ≤ n) (h8 : n ≤ 8) (h : 0 ≤ V ∧ V < 256 ^ n) : -9223372036854775808 ≤ sgn n V ∧ sgn n V ≤ 9223372036854775807 := by
 unfold sgn
 obtain rfl | rfl | rfl | rfl | rfl | rfl | rfl | rfl : n = 1 ∨ n = 2 ∨ n = 3 ∨ n = 4 ∨ n = 5 ∨ n = 6 ∨ n = 7 ∨ n = 8 := by omega
 all_goals simp only [Int.reducePow, Nat.reduceSub] at h ⊢
 all_goals split <;> omega
theorem sgn_shift {n : Nat} {V : Int} (h1 : 1 ≤ n) (h8 : n ≤ 8) (h : 0 ≤ V ∧ V < 256 ^ n) : shr .i64 (wrap64 (shl .u64 V (wrap64 (64 - (wrap64 (8 * (n : Int))))))) (wrap64 (64 - (wrap64 (8 * (n : Int))))) = sgn n V := by
 have hw : wrap64 (64 - (wrap64 (8 * (n : Int)))) = 64 - 8 * (n : Int) := by rw [w64 (n := 8 * (n : Int)) (by omega) (by omega), w64 (by omega) (by omega)]
 rw [hw]
 unfold sgn shr shl
 obtain rfl | rfl | rfl | rfl | rfl | rfl | rfl | rfl : n = 1 ∨ n = 2 ∨ n = 3 ∨ n = 4 ∨ n = 5 ∨ n = 6 ∨ n = 7 ∨ n = 8 := by omega
 ·rw [show (2 : Int) ^ min (64 - 8 * ((1 : Nat) : Int)).toNat IntKind.u64.bits = 72057594037927936 from rfl, show (2 : Int) ^ min (64 - 8 * ((1 : Nat) : Int)).toNat IntKind.i64.bits = 72057594037927936 from rfl, u64w]; unfold wrap64; simp only [Int.reducePow, Nat.reduceSub] at h ⊢; split <;> omega
 ·rw [show (2 : Int) ^ min (64 - 8 * ((2 : Nat) : Int)).toNat IntKind.u64.bits = 281474976710656 from rfl, show (2 : Int) ^ min (64 - 8 * ((2 : Nat) : Int)).toNat IntKind.i64.bits = 281474976710656 from rfl, u64w]; unfold wrap64; simp only [Int.reducePow, Nat.reduceSub] at h ⊢; split <;> omega
 ·rw [show (2 : Int) ^ min (64 - 8 * ((3 : Nat) : Int)).toNat IntKind.u64.bits = 1099511627776 from rfl, show (2 : Int) ^ min (64 - 8 * ((3 : Nat) : Int)).toNat IntKind.i64.bits = 1099511627776 from rfl, u64w]; unfold wrap64; simp only [Int.reducePow, Nat.reduceSub] at h ⊢; split <;> omega
 ·rw [show (2 : Int) ^ min (64 - 8 * ((4 : Nat) : Int)).toNat IntKind.u64.bits = 4294967296 from rfl, show (2 : Int) ^ min (64 - 8 * ((4 : Nat) : Int)).toNat IntKind.i64.bits = 4294967296 from rfl, u64w]; unfold wrap64; simp only [Int.reducePow, Nat.reduceSub] at h ⊢; split <;> omega
 ·rw [show (2 : Int) ^ min (64 - 8 * ((5 : Nat) : Int)).toNat IntKind.u64.bits = 16777216 from rfl, show (2 : Int) ^ min (64 - 8 * ((5 : Nat) : Int)).toNat IntKind.i64.bits = 16777216 from rfl, u64w]; unfold wrap64; simp only [Int.reducePow, Nat.reduceSub] at h ⊢; split <;> omega
 ·rw [show (2 : Int) ^ min (64 - 8 * ((6 : Nat) : Int)).toNat IntKind.u64.bits = 65536 from rfl, show (2 : Int) ^ min (64 - 8 * ((6 : Nat) : Int)).toNat IntKind.i64.bits = 65536 from rfl, u64w]; unfold wrap64; simp only [Int.reducePow, Nat.reduceSub] at h ⊢; split <;> omega
 ·rw [show (2 : Int) ^ min (64 - 8 * ((7 : Nat) : Int)).toNat IntKind.u64.bits = 256 from rfl, show (2 : Int) ^ min (64 - 8 * ((7 : Nat) : Int)).toNat IntKind.i64.bits = 256 from rfl, u64w]; unfold wrap64; simp only [Int.reducePow, Nat.reduceSub] at h ⊢; split <;> omega
 ·rw [show (2 : Int) ^ min (64 - 8 * ((8 : Nat) : Int)).toNat IntKind.u64.bits = 1 from rfl, show (2 : Int) ^ min (64 - 8 * ((8 : Nat) : Int)).toNat IntKind.i64.bits = 1 from rfl, u64w]; unfold wrap64; simp only [Int.reducePow, Nat.reduceSub] at h ⊢; split <;> omega
def cnt (s : ByteArray) (p : Int) : Nat := (bt s p % 16).toNat
def val (s : ByteArray) (p : Int) : Int := beN s (p + 1) (cnt s p)
def rawS (s : ByteArray) (p want : Int) : Int × Int × Bool :=
 if kindS s p = want then
  if p + 1 + (cnt s p : Int) > (s.size : Int) then (0, 0, false)
  else if want = 3 then (val s p, p + 1 + (cnt s p : Int), nb (val s p) == (cnt s p : Int))
  else (IntKind.u64.wrap (sgn (cnt s p) (val s p)), p + 1 + (cnt s p : Int), ss (sgn (cnt s p) (val s p)) == (cnt s p : Int))
 else (0, 0, false)
theorem raw_loop (s : ByteArray) (p want : Int) (n : Nat) (hp : 0 ≤ p) (h1 : 1 ≤ n) (h8 : n ≤ 8) (hn : p + 1 + (n : Int) ≤ (s.size : Int)) (hz : s.size ≤ 140737488355327) :
  ∀ (d i : Nat), i + d = n → ∀ k, codec_raw.l0 (k + d + 2) s p want n (beN s (p + 1) i) n i =
   if want = 3 then some (beN s (p + 1) n, p + 1 + (n : Int), nb (beN s (p + 1) n) == (n : Int)) else some (IntKind.u64.wrap (sgn n (beN s (p + 1) n)), p + 1 + (n : Int), ss (sgn n (beN s (p + 1) n)) == (n : Int)) := by
 intro d
 have w1 : wrap64 (p + 1) = p + 1 := w64 (by omega) (by omega)
 induction d with
 | zero =>
  intro i hi k
  obtain rfl : i = n := by omega
  have hr := beN_range s (p + 1) i
  have hlt : beN s (p + 1) i < 256 ^ 8 := beN_lt h8
  simp only [Int.reducePow] at hlt
  have hr' := sgn_range h1 h8 hr
  show codec_raw.l0 ((k + 1) + 1) s p want i _ i i = _
  rw [codec_raw.l0]
  rw [if_neg (by omega), w1, w64 (n := p + 1 + (i : Int)) (by omega) (by omega)]
  by_cases c : want = 3
  ·rw [if_pos c, if_pos c, width_eq _ _ hr.1 (by omega)]; rfl
  ·have hw : 0 ≤ wrap64 (64 - (wrap64 (8 * (i : Int)))) := by rw [w64 (n := 8 * (i : Int)) (by omega) (by omega), w64 (by omega) (by omega)]; omega
   rw [if_neg c, if_neg c, if_pos hw, sgn_shift h1 h8 hr, spread_eq _ _ hr'.1 hr'.2]; rfl
 | succ d ih =>
  intro i hi k
  have hr := beN_range s (p + 1) i
  have hlt : beN s (p + 1) i < 256 ^ 7 := beN_lt (by omega)
  simp only [Int.reducePow] at hlt
  have hb := bt_range s (p + 1 + (i : Int))
  show codec_raw.l0 ((k + d + 2) + 1) s p want n _ n i = _
  rw [codec_raw.l0]
  rw [if_pos (by omega), w1, w64 (n := p + 1 + (i : Int)) (by omega) (by omega), if_pos (by omega), if_pos (by omega), w64 (n := (i : Int) + 1) (by omega) (by omega), u64w, u64w,
   Int.emod_eq_of_lt (b := 18446744073709551616) (a := beN s (p + 1) i * 256) (by omega) (by omega), Int.emod_eq_of_lt (b := 18446744073709551616) (a := bt s (p + 1 + (i : Int))) (by omega) (by omega), or_u64 _ _ hr.1 (by omega) hb.1 (by omega)]
  have := ih (i + 1) (by omega) k
  have e : ((i + 1 : Nat) : Int) = (i : Int) + 1 := by omega
  rw [e] at this
  exact this
theorem raw_eq (k : Nat) (s : ByteArray) (p want : Int) (hw : want = 3 ∨ want = 4) (hz : s.size ≤ 140737488355327) : codec_raw.f (k + 12) s p want = some (rawS s p want) := by
 unfold codec_raw.f rawS
 rw [show k + 12 = (k + 9) + 3 from rfl, kind_eq]
 simp only [Option.bind_some]
 by_cases c : kindS s p = want
 ·rw [if_pos c, if_pos c]
  obtain ⟨p0, p1, hk⟩ := kindS_in (s := s) (p := p) (by omega)
  have hb : (16 < bt s p ∧ bt s p ≤ 24) ∨ (32 < bt s p ∧ bt s p ≤ 40) := by
   rcases hw with rfl | rfl
   ·left; exact kd3.1 (hk.symm.trans c)
   ·right; exact kd4.1 (hk.symm.trans c)
  have hc : (bt s p % 16) = (cnt s p : Int) := by unfold cnt; omega
  have h1 : 1 ≤ bt s p % 16 ∧ bt s p % 16 ≤ 8 := by omega
  rw [if_pos p0, if_pos p1, and15_bt, hc]
  rw [hc] at h1
  rw [w64 (n := (cnt s p : Int)) (by omega) (by omega), w64 (n := p + 1) (by omega) (by omega), w64 (n := p + 1 + (cnt s p : Int)) (by omega) (by omega)]
  by_cases c2 : p + 1 + (cnt s p : Int) > (s.size : Int)
  ·rw [if_pos c2, if_pos c2]
  ·rw [if_neg c2, if_neg c2]
   have := raw_loop s p want (cnt s p) p0 (by omega) (by omega) (by omega) hz (cnt s p) 0 (by omega) (k + 10 - cnt s p)
   rw [show k + 10 - cnt s p + cnt s p + 2 = k + 9 + 3 by omega] at this
   refine this.trans ?_
   unfold val
   split <;> rfl
 ·rw [if_neg c, if_neg c]
end Go.Proofs.YtbgabhknmpbgiaaDoor.Pure
end
section
namespace Go.Proofs.YtbgabhknmpbgiaaDoor.S
open Go.RowKit Go.Proofs.YtbgabhknmpbgiaaDoorW.PrintWords Go.Proofs.YtbgabhknmpbgiaaDoorW.PrintLast Go.Proofs.YtbgabhknmpbgiaaDoorW.PrintMore
attribute [local go_sem] max2_int min2_int max_two min_two max_three min_three max_four min_four
set_option linter.unusedVariables false
set_option linter.unusedSimpArgs false
def codec_list.f (k : Nat) (a0 : ByteArray) (a1 : Int) : Option (Int × Int × Bool) := (codec_kind.f k a0 a1).bind fun t127 => (if t127 = 6 then ((codec_raw.f k a0 (wrap64 (a1 + 1)) 3).bind fun bt128 => (if bt128.2.2 = true then (if bt128.1 > 65535 then (some (0, 0, false)) else (some (wrap64 (bt128.1), bt128.2.1, true))) else (some (0, 0, false)))) else (some (0, 0, false)))
set_option maxHeartbeats 8000000 in
set_option maxRecDepth 100000 in
theorem codec_list.calls (k : Nat) (a0 : ByteArray) (a1 : Int) (r1 : Int) (r2 : Int) (r3 : Bool) (w : World) (hG : Glob w) (h : codec_list.f k a0 a1 = some (r1, r2, r3)) :
  Calls Tryd.prog 72 #[.string a0, .int .i64 a1] w fun e w' => e = .returned (.tuple #[.int .i64 r1, .int .i64 r2, .bool r3]) ∧ Below w.heap.size w w' := by
 have HG := Aside0.mk hG
 clear hG
 have HB := Aside0.mk (Below.refl w.heap.size w)
 have H : ((codec_kind.f k a0 a1).bind fun t127 => (if t127 = 6 then ((codec_raw.f k a0 (wrap64 (a1 + 1)) 3).bind fun bt128 => (if bt128.2.2 = true then (if bt128.1 > 65535 then (some (0, 0, false)) else (some (wrap64 (bt128.1), bt128.2.1, true))) else (some (0, 0, false)))) else (some (0, 0, false)))) = some (r1, r2, r3) := h
 clear h
 replace H := Option.bind_eq_some_iff.mp H
 obtain ⟨t127, A30, H⟩ := H
 replace H : (if t127 = 6 then ((codec_raw.f k a0 (wrap64 (a1 + 1)) 3).bind fun bt128 => (if bt128.2.2 = true then (if bt128.1 > 65535 then (some (0, 0, false)) else (some (wrap64 (bt128.1), bt128.2.1, true))) else (some (0, 0, false)))) else (some (0, 0, false))) = some (r1, r2, r3) := H
 have A3 := Aside0.mk A30
 clear A30
 by_cases c4 : t127 = 6
 ·rw [if_pos c4] at H
  have c4b0 : (t127 == 6) = true := beq_iff_eq.mpr c4
  have c4b1 : (t127 != 6) = false := bne_eq_false_iff_eq.mpr c4
  clear c4
  replace H := Option.bind_eq_some_iff.mp H
  obtain ⟨⟨t128, t129, t130⟩, A50, H⟩ := H
  replace H : (if t130 = true then (if t128 > 65535 then (some (0, 0, false)) else (some (wrap64 (t128), t129, true))) else (some (0, 0, false))) = some (r1, r2, r3) := H
  have A5 := Aside0.mk A50
  clear A50
  by_cases c6 : t130 = true
  ·subst c6
   have H1 : (if t128 > 65535 then (some (0, 0, false)) else (some (wrap64 (t128), t129, true))) = some (r1, r2, r3) := by rw [if_pos rfl] at H; exact H
   clear H
   have H := H1
   clear H1
   by_cases c7 : t128 > 65535
   ·rw [if_pos c7] at H
    have c7b0 : decide (65535 < t128) = true := decide_eq_true c7
    clear c7
    simp only [Option.some.injEq, Prod.mk.injEq] at H
    obtain ⟨rfl, rfl, rfl⟩ := H
    go_enter Tryd.func72, Tryd.ntmps72
    go_wp2_with (first | ((with_reducible refine gate_callee (f := 79) rfl ?_); refine goesL_ (some 12) rfl rfl Tryd.func79 (by kernel_rfl) rfl #[.string a0, .int .i64 a1] rfl (by (try simp only [List.map_toArray, List.map_cons, List.map_nil]); first | done | rfl | (simp only [List.length_drop, List.length_take]; rfl)) ?_; (with_reducible refine (codec_kind.calls k a0 a1 t127 _ ?side99  A3.out).mono ?_); (case side99 => first | exact HG.out | exact Glob.below HG.out (by repeat (first | (with_reducible first | exact HB.out | apply below_alloc | apply pw_below_drewN | apply below_drew1) | exact HB.out))); rintro e w' ⟨rfl, ⟨nd, rfl⟩⟩; refine ⟨_, rfl, ?_⟩) | ((with_reducible refine gate_callee (f := 75) rfl ?_); refine goesL_ (some 18) rfl rfl Tryd.func75 (by kernel_rfl) rfl #[.string a0, .int .i64 (wrap64 (a1 + 1)), .int .i64 3] rfl (by (try simp only [List.map_toArray, List.map_cons, List.map_nil]); first | done | rfl | (simp only [List.length_drop, List.length_take]; rfl)) ?_; (with_reducible refine (codec_raw.calls k a0 (wrap64 (a1 + 1)) 3 t128 t129 true _ ?side99  A5.out).mono ?_); (case side99 => first | exact HG.out | exact Glob.below HG.out (by repeat (first | (with_reducible first | exact HB.out | apply below_alloc | apply pw_below_drewN | apply below_drew1) | exact HB.out))); rintro e w8 ⟨rfl, hb⟩; refine ⟨_, rfl, ?_⟩; have n0_ := Aside0.mk (below_step (by repeat (first | (with_reducible first | exact HB.out | apply below_alloc | apply pw_below_drewN | apply below_drew1) | exact HB.out)) hb); clear HB; have HB := n0_; clear n0_; (try clear hb); (try clear hb2); (try clear hk); (try clear hi)))
    go_ret3
    exact ⟨by first | rfl | (simp [errW_none, errW_some] <;> rfl) | (simp [*, errW_none, errW_some] <;> rfl), by repeat (first | (with_reducible first | exact HB.out | apply below_alloc | apply pw_below_drewN | apply below_drew1) | exact HB.out)⟩
   ·rw [if_neg c7] at H
    have c7b0 : decide (65535 < t128) = false := decide_eq_false c7
    clear c7
    simp only [Option.some.injEq, Prod.mk.injEq] at H
    obtain ⟨rfl, rfl, rfl⟩ := H
    go_enter Tryd.func72, Tryd.ntmps72
    go_wp2_with (first | ((with_reducible refine gate_callee (f := 79) rfl ?_); refine goesL_ (some 12) rfl rfl Tryd.func79 (by kernel_rfl) rfl #[.string a0, .int .i64 a1] rfl (by (try simp only [List.map_toArray, List.map_cons, List.map_nil]); first | done | rfl | (simp only [List.length_drop, List.length_take]; rfl)) ?_; (with_reducible refine (codec_kind.calls k a0 a1 t127 _ ?side99  A3.out).mono ?_); (case side99 => first | exact HG.out | exact Glob.below HG.out (by repeat (first | (with_reducible first | exact HB.out | apply below_alloc | apply pw_below_drewN | apply below_drew1) | exact HB.out))); rintro e w' ⟨rfl, ⟨nd, rfl⟩⟩; refine ⟨_, rfl, ?_⟩) | ((with_reducible refine gate_callee (f := 75) rfl ?_); refine goesL_ (some 18) rfl rfl Tryd.func75 (by kernel_rfl) rfl #[.string a0, .int .i64 (wrap64 (a1 + 1)), .int .i64 3] rfl (by (try simp only [List.map_toArray, List.map_cons, List.map_nil]); first | done | rfl | (simp only [List.length_drop, List.length_take]; rfl)) ?_; (with_reducible refine (codec_raw.calls k a0 (wrap64 (a1 + 1)) 3 t128 t129 true _ ?side99  A5.out).mono ?_); (case side99 => first | exact HG.out | exact Glob.below HG.out (by repeat (first | (with_reducible first | exact HB.out | apply below_alloc | apply pw_below_drewN | apply below_drew1) | exact HB.out))); rintro e w9 ⟨rfl, hb⟩; refine ⟨_, rfl, ?_⟩; have n0_ := Aside0.mk (below_step (by repeat (first | (with_reducible first | exact HB.out | apply below_alloc | apply pw_below_drewN | apply below_drew1) | exact HB.out)) hb); clear HB; have HB := n0_; clear n0_; (try clear hb); (try clear hb2); (try clear hk); (try clear hi)))
    go_ret3
    exact ⟨by first | rfl | (simp [errW_none, errW_some] <;> rfl) | (simp [*, errW_none, errW_some] <;> rfl), by repeat (first | (with_reducible first | exact HB.out | apply below_alloc | apply pw_below_drewN | apply below_drew1) | exact HB.out)⟩
  ·replace c6 := Bool.eq_false_iff.mpr c6
   subst c6
   have H1 : (some (0, 0, false)) = some (r1, r2, r3) := by rw [if_neg (show ¬ (false = true) by decide)] at H; exact H
   clear H
   have H := H1
   clear H1
   simp only [Option.some.injEq, Prod.mk.injEq] at H
   obtain ⟨rfl, rfl, rfl⟩ := H
   go_enter Tryd.func72, Tryd.ntmps72
   go_wp2_with (first | ((with_reducible refine gate_callee (f := 79) rfl ?_); refine goesL_ (some 12) rfl rfl Tryd.func79 (by kernel_rfl) rfl #[.string a0, .int .i64 a1] rfl (by (try simp only [List.map_toArray, List.map_cons, List.map_nil]); first | done | rfl | (simp only [List.length_drop, List.length_take]; rfl)) ?_; (with_reducible refine (codec_kind.calls k a0 a1 t127 _ ?side99  A3.out).mono ?_); (case side99 => first | exact HG.out | exact Glob.below HG.out (by repeat (first | (with_reducible first | exact HB.out | apply below_alloc | apply pw_below_drewN | apply below_drew1) | exact HB.out))); rintro e w' ⟨rfl, ⟨nd, rfl⟩⟩; refine ⟨_, rfl, ?_⟩) | ((with_reducible refine gate_callee (f := 75) rfl ?_); refine goesL_ (some 18) rfl rfl Tryd.func75 (by kernel_rfl) rfl #[.string a0, .int .i64 (wrap64 (a1 + 1)), .int .i64 3] rfl (by (try simp only [List.map_toArray, List.map_cons, List.map_nil]); first | done | rfl | (simp only [List.length_drop, List.length_take]; rfl)) ?_; (with_reducible refine (codec_raw.calls k a0 (wrap64 (a1 + 1)) 3 t128 t129 false _ ?side99  A5.out).mono ?_); (case side99 => first | exact HG.out | exact Glob.below HG.out (by repeat (first | (with_reducible first | exact HB.out | apply below_alloc | apply pw_below_drewN | apply below_drew1) | exact HB.out))); rintro e w10 ⟨rfl, hb⟩; refine ⟨_, rfl, ?_⟩; have n0_ := Aside0.mk (below_step (by repeat (first | (with_reducible first | exact HB.out | apply below_alloc | apply pw_below_drewN | apply below_drew1) | exact HB.out)) hb); clear HB; have HB := n0_; clear n0_; (try clear hb); (try clear hb2); (try clear hk); (try clear hi)))
   go_ret3
   exact ⟨by first | rfl | (simp [errW_none, errW_some] <;> rfl) | (simp [*, errW_none, errW_some] <;> rfl), by repeat (first | (with_reducible first | exact HB.out | apply below_alloc | apply pw_below_drewN | apply below_drew1) | exact HB.out)⟩
 ·rw [if_neg c4] at H
  have c4b0 : (t127 == 6) = false := beq_eq_false_iff_ne.mpr c4
  have c4b1 : (t127 != 6) = true := bne_iff_ne.mpr c4
  simp only [Option.some.injEq, Prod.mk.injEq] at H
  obtain ⟨rfl, rfl, rfl⟩ := H
  go_enter Tryd.func72, Tryd.ntmps72
  go_wp2_with (first | ((with_reducible refine gate_callee (f := 79) rfl ?_); refine goesL_ (some 12) rfl rfl Tryd.func79 (by kernel_rfl) rfl #[.string a0, .int .i64 a1] rfl (by (try simp only [List.map_toArray, List.map_cons, List.map_nil]); first | done | rfl | (simp only [List.length_drop, List.length_take]; rfl)) ?_; (with_reducible refine (codec_kind.calls k a0 a1 t127 _ ?side99  A3.out).mono ?_); (case side99 => first | exact HG.out | exact Glob.below HG.out (by repeat (first | (with_reducible first | exact HB.out | apply below_alloc | apply pw_below_drewN | apply below_drew1) | exact HB.out))); rintro e w' ⟨rfl, ⟨nd, rfl⟩⟩; refine ⟨_, rfl, ?_⟩))
  go_ret3
  exact ⟨by first | rfl | (simp [errW_none, errW_some] <;> rfl) | (simp [*, errW_none, errW_some] <;> rfl), by repeat (first | (with_reducible first | exact HB.out | apply below_alloc | apply pw_below_drewN | apply below_drew1) | exact HB.out)⟩
end Go.Proofs.YtbgabhknmpbgiaaDoor.S
end
section
namespace Go.Proofs.YtbgabhknmpbgiaaDoor.S
open Go.RowKit Go.Proofs.YtbgabhknmpbgiaaDoorW.PrintWords Go.Proofs.YtbgabhknmpbgiaaDoorW.PrintLast Go.Proofs.YtbgabhknmpbgiaaDoorW.PrintMore
attribute [local go_sem] max2_int min2_int max_two min_two max_three min_three max_four min_four
set_option linter.unusedVariables false
set_option linter.unusedSimpArgs false
def codec_text.f (k : Nat) (a0 : ByteArray) (a1 : Int) : Option (ByteArray × Int × Bool) := (codec_kind.f k a0 a1).bind fun t150 => (if t150 = 5 then ((codec_raw.f k a0 (wrap64 (a1 + 1)) 3).bind fun bt151 => (if bt151.2.2 = true then (if bt151.1 > 65535 then (some ((⟨#[]⟩ : ByteArray), 0, false)) else (if (wrap64 (bt151.1)) > (wrap64 ((a0.size : Int) - bt151.2.1)) then (some ((⟨#[]⟩ : ByteArray), 0, false)) else (if 0 ≤ bt151.2.1 then (if bt151.2.1 ≤ (wrap64 (bt151.2.1 + (wrap64 (bt151.1)))) then (if (wrap64 (bt151.2.1 + (wrap64 (bt151.1)))) ≤ (a0.size : Int) then (some (a0.extract (bt151.2.1 : Int).toNat ((wrap64 (bt151.2.1 + (wrap64 (bt151.1)))) : Int).toNat, wrap64 (bt151.2.1 + (wrap64 (bt151.1))), true)) else (none)) else (none)) else (none)))) else (some ((⟨#[]⟩ : ByteArray), 0, false)))) else (some ((⟨#[]⟩ : ByteArray), 0, false)))
set_option maxHeartbeats 8000000 in
set_option maxRecDepth 100000 in
theorem codec_text.calls (k : Nat) (a0 : ByteArray) (a1 : Int) (r1 : ByteArray) (r2 : Int) (r3 : Bool) (w : World) (hG : Glob w) (h : codec_text.f k a0 a1 = some (r1, r2, r3)) :
  Calls Tryd.prog 81 #[.string a0, .int .i64 a1] w fun e w' => e = .returned (.tuple #[.string r1, .int .i64 r2, .bool r3]) ∧ Below w.heap.size w w' := by
 have HG := Aside0.mk hG
 clear hG
 have HB := Aside0.mk (Below.refl w.heap.size w)
 have H : ((codec_kind.f k a0 a1).bind fun t150 => (if t150 = 5 then ((codec_raw.f k a0 (wrap64 (a1 + 1)) 3).bind fun bt151 => (if bt151.2.2 = true then (if bt151.1 > 65535 then (some ((⟨#[]⟩ : ByteArray), 0, false)) else (if (wrap64 (bt151.1)) > (wrap64 ((a0.size : Int) - bt151.2.1)) then (some ((⟨#[]⟩ : ByteArray), 0, false)) else (if 0 ≤ bt151.2.1 then (if bt151.2.1 ≤ (wrap64 (bt151.2.1 + (wrap64 (bt151.1)))) then (if (wrap64 (bt151.2.1 + (wrap64 (bt151.1)))) ≤ (a0.size : Int) then (some (a0.extract (bt151.2.1 : Int).toNat ((wrap64 (bt151.2.1 + (wrap64 (bt151.1)))) : Int).toNat, wrap64 (bt151.2.1 + (wrap64 (bt151.1))), true)) else (none)) else (none)) else (none)))) else (some ((⟨#[]⟩ : ByteArray), 0, false)))) else (some ((⟨#[]⟩ : ByteArray), 0, false)))) = some (r1, r2, r3) := h
 clear h
 replace H := Option.bind_eq_some_iff.mp H
 obtain ⟨t150, A30, H⟩ := H
 replace H : (if t150 = 5 then ((codec_raw.f k a0 (wrap64 (a1 + 1)) 3).bind fun bt151 => (if bt151.2.2 = true then (if bt151.1 > 65535 then (some ((⟨#[]⟩ : ByteArray), 0, false)) else (if (wrap64 (bt151.1)) > (wrap64 ((a0.size : Int) - bt151.2.1)) then (some ((⟨#[]⟩ : ByteArray), 0, false)) else (if 0 ≤ bt151.2.1 then (if bt151.2.1 ≤ (wrap64 (bt151.2.1 + (wrap64 (bt151.1)))) then (if (wrap64 (bt151.2.1 + (wrap64 (bt151.1)))) ≤ (a0.size : Int) then (some (a0.extract (bt151.2.1 : Int).toNat ((wrap64 (bt151.2.1 + (wrap64 (bt151.1)))) : Int).toNat, wrap64 (bt151.2.1 + (wrap64 (bt151.1))), true)) else (none)) else (none)) else (none)))) else (some ((⟨#[]⟩ : ByteArray), 0, false)))) else (some ((⟨#[]⟩ : ByteArray), 0, false))) = some (r1, r2, r3) := H
 have A3 := Aside0.mk A30
 clear A30
 by_cases c4 : t150 = 5
 ·rw [if_pos c4] at H
  have c4b0 : (t150 == 5) = true := beq_iff_eq.mpr c4
  have c4b1 : (t150 != 5) = false := bne_eq_false_iff_eq.mpr c4
  clear c4
  replace H := Option.bind_eq_some_iff.mp H
  obtain ⟨⟨t151, t152, t153⟩, A50, H⟩ := H
  replace H : (if t153 = true then (if t151 > 65535 then (some ((⟨#[]⟩ : ByteArray), 0, false)) else (if (wrap64 (t151)) > (wrap64 ((a0.size : Int) - t152)) then (some ((⟨#[]⟩ : ByteArray), 0, false)) else (if 0 ≤ t152 then (if t152 ≤ (wrap64 (t152 + (wrap64 (t151)))) then (if (wrap64 (t152 + (wrap64 (t151)))) ≤ (a0.size : Int) then (some (a0.extract (t152 : Int).toNat ((wrap64 (t152 + (wrap64 (t151)))) : Int).toNat, wrap64 (t152 + (wrap64 (t151))), true)) else (none)) else (none)) else (none)))) else (some ((⟨#[]⟩ : ByteArray), 0, false))) = some (r1, r2, r3) := H
  have A5 := Aside0.mk A50
  clear A50
  by_cases c6 : t153 = true
  ·subst c6
   have H1 : (if t151 > 65535 then (some ((⟨#[]⟩ : ByteArray), 0, false)) else (if (wrap64 (t151)) > (wrap64 ((a0.size : Int) - t152)) then (some ((⟨#[]⟩ : ByteArray), 0, false)) else (if 0 ≤ t152 then (if t152 ≤ (wrap64 (t152 + (wrap64 (t151)))) then (if (wrap64 (t152 + (wrap64 (t151)))) ≤ (a0.size : Int) then (some (a0.extract (t152 : Int).toNat ((wrap64 (t152 + (wrap64 (t151)))) : Int).toNat, wrap64 (t152 + (wrap64 (t151))), true)) else (none)) else (none)) else (none)))) = some (r1, r2, r3) := by rw [if_pos rfl] at H; exact H
   clear H
   have H := H1
   clear H1
   by_cases c7 : t151 > 65535
   ·rw [if_pos c7] at H
    have c7b0 : decide (65535 < t151) = true := decide_eq_true c7
    clear c7
    simp only [Option.some.injEq, Prod.mk.injEq] at H
    obtain ⟨rfl, rfl, rfl⟩ := H
    go_enter Tryd.func81, Tryd.ntmps81
    go_wp2_with (first | ((with_reducible refine gate_callee (f := 79) rfl ?_); refine goesL_ (some 12) rfl rfl Tryd.func79 (by kernel_rfl) rfl #[.string a0, .int .i64 a1] rfl (by (try simp only [List.map_toArray, List.map_cons, List.map_nil]); first | done | rfl | (simp only [List.length_drop, List.length_take]; rfl)) ?_; (with_reducible refine (codec_kind.calls k a0 a1 t150 _ ?side99  A3.out).mono ?_); (case side99 => first | exact HG.out | exact Glob.below HG.out (by repeat (first | (with_reducible first | exact HB.out | apply below_alloc | apply pw_below_drewN | apply below_drew1) | exact HB.out))); rintro e w' ⟨rfl, ⟨nd, rfl⟩⟩; refine ⟨_, rfl, ?_⟩) | ((with_reducible refine gate_callee (f := 75) rfl ?_); refine goesL_ (some 18) rfl rfl Tryd.func75 (by kernel_rfl) rfl #[.string a0, .int .i64 (wrap64 (a1 + 1)), .int .i64 3] rfl (by (try simp only [List.map_toArray, List.map_cons, List.map_nil]); first | done | rfl | (simp only [List.length_drop, List.length_take]; rfl)) ?_; (with_reducible refine (codec_raw.calls k a0 (wrap64 (a1 + 1)) 3 t151 t152 true _ ?side99  A5.out).mono ?_); (case side99 => first | exact HG.out | exact Glob.below HG.out (by repeat (first | (with_reducible first | exact HB.out | apply below_alloc | apply pw_below_drewN | apply below_drew1) | exact HB.out))); rintro e w8 ⟨rfl, hb⟩; refine ⟨_, rfl, ?_⟩; have n0_ := Aside0.mk (below_step (by repeat (first | (with_reducible first | exact HB.out | apply below_alloc | apply pw_below_drewN | apply below_drew1) | exact HB.out)) hb); clear HB; have HB := n0_; clear n0_; (try clear hb); (try clear hb2); (try clear hk); (try clear hi)))
    go_ret3
    exact ⟨by first | rfl | (simp [errW_none, errW_some] <;> rfl) | (simp [*, errW_none, errW_some] <;> rfl), by repeat (first | (with_reducible first | exact HB.out | apply below_alloc | apply pw_below_drewN | apply below_drew1) | exact HB.out)⟩
   ·rw [if_neg c7] at H
    have c7b0 : decide (65535 < t151) = false := decide_eq_false c7
    clear c7
    by_cases c9 : (wrap64 (t151)) > (wrap64 ((a0.size : Int) - t152))
    ·rw [if_pos c9] at H
     have c9b0 : decide ((wrap64 ((a0.size : Int) - t152)) < (wrap64 (t151))) = true := decide_eq_true c9
     clear c9
     simp only [Option.some.injEq, Prod.mk.injEq] at H
     obtain ⟨rfl, rfl, rfl⟩ := H
     go_enter Tryd.func81, Tryd.ntmps81
     go_wp2_with (first | ((with_reducible refine gate_callee (f := 79) rfl ?_); refine goesL_ (some 12) rfl rfl Tryd.func79 (by kernel_rfl) rfl #[.string a0, .int .i64 a1] rfl (by (try simp only [List.map_toArray, List.map_cons, List.map_nil]); first | done | rfl | (simp only [List.length_drop, List.length_take]; rfl)) ?_; (with_reducible refine (codec_kind.calls k a0 a1 t150 _ ?side99  A3.out).mono ?_); (case side99 => first | exact HG.out | exact Glob.below HG.out (by repeat (first | (with_reducible first | exact HB.out | apply below_alloc | apply pw_below_drewN | apply below_drew1) | exact HB.out))); rintro e w' ⟨rfl, ⟨nd, rfl⟩⟩; refine ⟨_, rfl, ?_⟩) | ((with_reducible refine gate_callee (f := 75) rfl ?_); refine goesL_ (some 18) rfl rfl Tryd.func75 (by kernel_rfl) rfl #[.string a0, .int .i64 (wrap64 (a1 + 1)), .int .i64 3] rfl (by (try simp only [List.map_toArray, List.map_cons, List.map_nil]); first | done | rfl | (simp only [List.length_drop, List.length_take]; rfl)) ?_; (with_reducible refine (codec_raw.calls k a0 (wrap64 (a1 + 1)) 3 t151 t152 true _ ?side99  A5.out).mono ?_); (case side99 => first | exact HG.out | exact Glob.below HG.out (by repeat (first | (with_reducible first | exact HB.out | apply below_alloc | apply pw_below_drewN | apply below_drew1) | exact HB.out))); rintro e w10 ⟨rfl, hb⟩; refine ⟨_, rfl, ?_⟩; have n0_ := Aside0.mk (below_step (by repeat (first | (with_reducible first | exact HB.out | apply below_alloc | apply pw_below_drewN | apply below_drew1) | exact HB.out)) hb); clear HB; have HB := n0_; clear n0_; (try clear hb); (try clear hb2); (try clear hk); (try clear hi)))
     go_ret3
     exact ⟨by first | rfl | (simp [errW_none, errW_some] <;> rfl) | (simp [*, errW_none, errW_some] <;> rfl), by repeat (first | (with_reducible first | exact HB.out | apply below_alloc | apply pw_below_drewN | apply below_drew1) | exact HB.out)⟩
    ·rw [if_neg c9] at H
     have c9b0 : decide ((wrap64 ((a0.size : Int) - t152)) < (wrap64 (t151))) = false := decide_eq_false c9
     clear c9
     by_cases c11 : 0 ≤ t152
     ·rw [if_pos c11] at H
      have c11b0 := eq_true c11
      have c11b1 : decide (0 ≤ t152) = true := decide_eq_true c11
      clear c11
      by_cases c12 : t152 ≤ (wrap64 (t152 + (wrap64 (t151))))
      ·rw [if_pos c12] at H
       have c12b0 := eq_true c12
       have c12b1 : decide (t152 ≤ (wrap64 (t152 + (wrap64 (t151))))) = true := decide_eq_true c12
       by_cases c13 : (wrap64 (t152 + (wrap64 (t151)))) ≤ (a0.size : Int)
       ·rw [if_pos c13] at H
        have c13b0 := eq_true c13
        have c13b1 : decide ((wrap64 (t152 + (wrap64 (t151)))) ≤ (a0.size : Int)) = true := decide_eq_true c13
        simp only [Option.some.injEq, Prod.mk.injEq] at H
        obtain ⟨rfl, rfl, rfl⟩ := H
        go_enter Tryd.func81, Tryd.ntmps81
        go_wp2_with (first | ((with_reducible refine gate_callee (f := 79) rfl ?_); refine goesL_ (some 12) rfl rfl Tryd.func79 (by kernel_rfl) rfl #[.string a0, .int .i64 a1] rfl (by (try simp only [List.map_toArray, List.map_cons, List.map_nil]); first | done | rfl | (simp only [List.length_drop, List.length_take]; rfl)) ?_; (with_reducible refine (codec_kind.calls k a0 a1 t150 _ ?side99  A3.out).mono ?_); (case side99 => first | exact HG.out | exact Glob.below HG.out (by repeat (first | (with_reducible first | exact HB.out | apply below_alloc | apply pw_below_drewN | apply below_drew1) | exact HB.out))); rintro e w' ⟨rfl, ⟨nd, rfl⟩⟩; refine ⟨_, rfl, ?_⟩) | ((with_reducible refine gate_callee (f := 75) rfl ?_); refine goesL_ (some 18) rfl rfl Tryd.func75 (by kernel_rfl) rfl #[.string a0, .int .i64 (wrap64 (a1 + 1)), .int .i64 3] rfl (by (try simp only [List.map_toArray, List.map_cons, List.map_nil]); first | done | rfl | (simp only [List.length_drop, List.length_take]; rfl)) ?_; (with_reducible refine (codec_raw.calls k a0 (wrap64 (a1 + 1)) 3 t151 t152 true _ ?side99  A5.out).mono ?_); (case side99 => first | exact HG.out | exact Glob.below HG.out (by repeat (first | (with_reducible first | exact HB.out | apply below_alloc | apply pw_below_drewN | apply below_drew1) | exact HB.out))); rintro e w14 ⟨rfl, hb⟩; refine ⟨_, rfl, ?_⟩; have n0_ := Aside0.mk (below_step (by repeat (first | (with_reducible first | exact HB.out | apply below_alloc | apply pw_below_drewN | apply below_drew1) | exact HB.out)) hb); clear HB; have HB := n0_; clear n0_; (try clear hb); (try clear hb2); (try clear hk); (try clear hi)))
        go_ret3
        exact ⟨by first | rfl | (simp [errW_none, errW_some] <;> rfl) | (simp [*, errW_none, errW_some] <;> rfl), by repeat (first | (with_reducible first | exact HB.out | apply below_alloc | apply pw_below_drewN | apply below_drew1) | exact HB.out)⟩
       ·rw [if_neg c13] at H
        exact absurd H (by simp)
      ·rw [if_neg c12] at H
       exact absurd H (by simp)
     ·rw [if_neg c11] at H
      exact absurd H (by simp)
  ·replace c6 := Bool.eq_false_iff.mpr c6
   subst c6
   have H1 : (some ((⟨#[]⟩ : ByteArray), 0, false)) = some (r1, r2, r3) := by rw [if_neg (show ¬ (false = true) by decide)] at H; exact H
   clear H
   have H := H1
   clear H1
   simp only [Option.some.injEq, Prod.mk.injEq] at H
   obtain ⟨rfl, rfl, rfl⟩ := H
   go_enter Tryd.func81, Tryd.ntmps81
   go_wp2_with (first | ((with_reducible refine gate_callee (f := 79) rfl ?_); refine goesL_ (some 12) rfl rfl Tryd.func79 (by kernel_rfl) rfl #[.string a0, .int .i64 a1] rfl (by (try simp only [List.map_toArray, List.map_cons, List.map_nil]); first | done | rfl | (simp only [List.length_drop, List.length_take]; rfl)) ?_; (with_reducible refine (codec_kind.calls k a0 a1 t150 _ ?side99  A3.out).mono ?_); (case side99 => first | exact HG.out | exact Glob.below HG.out (by repeat (first | (with_reducible first | exact HB.out | apply below_alloc | apply pw_below_drewN | apply below_drew1) | exact HB.out))); rintro e w' ⟨rfl, ⟨nd, rfl⟩⟩; refine ⟨_, rfl, ?_⟩) | ((with_reducible refine gate_callee (f := 75) rfl ?_); refine goesL_ (some 18) rfl rfl Tryd.func75 (by kernel_rfl) rfl #[.string a0, .int .i64 (wrap64 (a1 + 1)), .int .i64 3] rfl (by (try simp only [List.map_toArray, List.map_cons, List.map_nil]); first | done | rfl | (simp only [List.length_drop, List.length_take]; rfl)) ?_; (with_reducible refine (codec_raw.calls k a0 (wrap64 (a1 + 1)) 3 t151 t152 false _ ?side99  A5.out).mono ?_); (case side99 => first | exact HG.out | exact Glob.below HG.out (by repeat (first | (with_reducible first | exact HB.out | apply below_alloc | apply pw_below_drewN | apply below_drew1) | exact HB.out))); rintro e w15 ⟨rfl, hb⟩; refine ⟨_, rfl, ?_⟩; have n0_ := Aside0.mk (below_step (by repeat (first | (with_reducible first | exact HB.out | apply below_alloc | apply pw_below_drewN | apply below_drew1) | exact HB.out)) hb); clear HB; have HB := n0_; clear n0_; (try clear hb); (try clear hb2); (try clear hk); (try clear hi)))
   go_ret3
   exact ⟨by first | rfl | (simp [errW_none, errW_some] <;> rfl) | (simp [*, errW_none, errW_some] <;> rfl), by repeat (first | (with_reducible first | exact HB.out | apply below_alloc | apply pw_below_drewN | apply below_drew1) | exact HB.out)⟩
 ·rw [if_neg c4] at H
  have c4b0 : (t150 == 5) = false := beq_eq_false_iff_ne.mpr c4
  have c4b1 : (t150 != 5) = true := bne_iff_ne.mpr c4
  simp only [Option.some.injEq, Prod.mk.injEq] at H
  obtain ⟨rfl, rfl, rfl⟩ := H
  go_enter Tryd.func81, Tryd.ntmps81
  go_wp2_with (first | ((with_reducible refine gate_callee (f := 79) rfl ?_); refine goesL_ (some 12) rfl rfl Tryd.func79 (by kernel_rfl) rfl #[.string a0, .int .i64 a1] rfl (by (try simp only [List.map_toArray, List.map_cons, List.map_nil]); first | done | rfl | (simp only [List.length_drop, List.length_take]; rfl)) ?_; (with_reducible refine (codec_kind.calls k a0 a1 t150 _ ?side99  A3.out).mono ?_); (case side99 => first | exact HG.out | exact Glob.below HG.out (by repeat (first | (with_reducible first | exact HB.out | apply below_alloc | apply pw_below_drewN | apply below_drew1) | exact HB.out))); rintro e w' ⟨rfl, ⟨nd, rfl⟩⟩; refine ⟨_, rfl, ?_⟩))
  go_ret3
  exact ⟨by first | rfl | (simp [errW_none, errW_some] <;> rfl) | (simp [*, errW_none, errW_some] <;> rfl), by repeat (first | (with_reducible first | exact HB.out | apply below_alloc | apply pw_below_drewN | apply below_drew1) | exact HB.out)⟩
end Go.Proofs.YtbgabhknmpbgiaaDoor.S
end
section
namespace Go.Proofs.YtbgabhknmpbgiaaDoor.S
open Go.RowKit Go.Proofs.YtbgabhknmpbgiaaDoorW.PrintWords Go.Proofs.YtbgabhknmpbgiaaDoorW.PrintLast Go.Proofs.YtbgabhknmpbgiaaDoorW.PrintMore
attribute [local go_sem] max2_int min2_int max_two min_two max_three min_three max_four min_four
set_option linter.unusedVariables false
set_option linter.unusedSimpArgs false
def plenumref02_ReadHead.j0 : Nat → ByteArray → Int → Bool → Option (Int × Int × Bool)
 | 0, _, _, _ => none
 | k + 1, x0, x1, x19 => if x19 = true then (some (0, 0, false)) else ((plenumref02_ReadUnsigned.f k x0 (wrap64 (x1 + 1))).bind fun bt194 => (if bt194.2.2 = true then (if bt194.1 > 65535 then (some (0, 0, false)) else (some (wrap64 (bt194.1), bt194.2.1, true))) else (some (0, 0, false))))
def plenumref02_ReadHead.f (k : Nat) (a0 : ByteArray) (a1 : Int) : Option (Int × Int × Bool) := if a1 ≥ (a0.size : Int) then (plenumref02_ReadHead.j0 k a0 a1 true) else (if 0 ≤ a1 then (if a1 < (a0.size : Int) then (plenumref02_ReadHead.j0 k a0 a1 ((bt a0 a1) != 64)) else (none)) else (none))
set_option maxHeartbeats 8000000 in
set_option maxRecDepth 100000 in
theorem plenumref02_ReadHead.calls (k : Nat) (a0 : ByteArray) (a1 : Int) (r1 : Int) (r2 : Int) (r3 : Bool) (w : World) (hG : Glob w) (h : plenumref02_ReadHead.f k a0 a1 = some (r1, r2, r3)) :
  Calls Tryd.prog 52 #[.string a0, .int .i64 a1] w fun e w' => e = .returned (.tuple #[.int .i64 r1, .int .i64 r2, .bool r3]) ∧ Below w.heap.size w w' := by
 have HG := Aside0.mk hG
 clear hG
 have HB := Aside0.mk (Below.refl w.heap.size w)
 have H : (if a1 ≥ (a0.size : Int) then (plenumref02_ReadHead.j0 k a0 a1 true) else (if 0 ≤ a1 then (if a1 < (a0.size : Int) then (plenumref02_ReadHead.j0 k a0 a1 ((bt a0 a1) != 64)) else (none)) else (none))) = some (r1, r2, r3) := h
 clear h
 have HC3 := Aside0.mk H
 clear H
 go_enter Tryd.func52, Tryd.ntmps52
 go_upto_region 1 with (fail)
 go_cut [19] (fun v19 wc => ∃ (kq : Nat) (x19_2 : Bool), v19 = .bool x19_2 ∧ Aside0 (plenumref02_ReadHead.j0 kq a0 a1 x19_2 = some (r1, r2, r3)) ∧ Aside0 (kq ≤ k) ∧ Aside0 (Below w.heap.size w wc))
 case first =>
  have H := HC3.out
  clear HC3
  by_cases c4 : a1 ≥ (a0.size : Int)
  ·rw [if_pos c4] at H
   have c4b0 : decide ((a0.size : Int) ≤ a1) = true := decide_eq_true c4
   clear c4
   (first | rw [c4b0] | (simp only [i64_w, i32_w]; rw [c4b0]) | skip)
   have H' := Aside0.mk H
   clear H
   go_wp2
   go_meet
   case rel => exact ⟨_, (true), (by first | rfl | (simp; done) | (simp [*]; done)), H', ⟨by first | omega | exact Nat.le_refl _⟩, ⟨by repeat (first | (with_reducible first | exact HB.out | apply below_alloc | apply pw_below_drewN | apply below_drew1) | exact HB.out)⟩⟩
  ·rw [if_neg c4] at H
   have c4b0 : decide ((a0.size : Int) ≤ a1) = false := decide_eq_false c4
   clear c4
   (first | rw [c4b0] | (simp only [i64_w, i32_w]; rw [c4b0]) | skip)
   by_cases c5 : 0 ≤ a1
   ·rw [if_pos c5] at H
    have c5b0 : decide (0 ≤ a1) = true := decide_eq_true c5
    clear c5
    by_cases c6 : a1 < (a0.size : Int)
    ·rw [if_pos c6] at H
     have c6b0 : decide (a1 < (a0.size : Int)) = true := decide_eq_true c6
     clear c6
     have H' := Aside0.mk H
     clear H
     have p7 : 0 ≤ (a1 : Int) := of_decide_eq_true (by first | (with_reducible assumption) | assumption)
     have q7 : a1 < (a0.size : Int) := of_decide_eq_true (by first | (with_reducible assumption) | assumption)
     have hx7 := bt_at a0 a1
     replace p7 := eq_true p7
     replace q7 := eq_true q7
     go_wp2
     go_meet
     case rel => exact ⟨_, (((bt a0 a1) != 64)), (by first | rfl | (simp; done) | (simp [*]; done)), H', ⟨by first | omega | exact Nat.le_refl _⟩, ⟨by repeat (first | (with_reducible first | exact HB.out | apply below_alloc | apply pw_below_drewN | apply below_drew1) | exact HB.out)⟩⟩
    ·rw [if_neg c6] at H
     exact absurd H (by simp)
   ·rw [if_neg c5] at H
    exact absurd H (by simp)
 case rest =>
  clear HC3
  try clear p2
  try clear c4
  try clear c4b0
  try clear c5
  try clear c5b0
  try clear c6
  try clear c6b0
  try clear p7
  try clear q7
  try clear hx7
  try clear p7
  try clear q7
  obtain ⟨kq, x19_2, rfl, HA, HJ2, HB⟩ := hcut
  cases kq with
  | zero => exact absurd HA.out (by simp [plenumref02_ReadHead.j0])
  | succ kj2 =>
   have H := HA.out
   clear HA
   simp only [plenumref02_ReadHead.j0] at H
   by_cases c8 : x19_2 = true
   ·subst c8
    have H1 : (some (0, 0, false)) = some (r1, r2, r3) := by rw [if_pos rfl] at H; exact H
    clear H
    have H := H1
    clear H1
    simp only [Option.some.injEq, Prod.mk.injEq] at H
    obtain ⟨rfl, rfl, rfl⟩ := H
    go_wp2
    go_ret3
    exact ⟨by first | rfl | (simp [errW_none, errW_some] <;> rfl) | (simp [*, errW_none, errW_some] <;> rfl), by repeat (first | (with_reducible first | exact HB.out | apply below_alloc | apply pw_below_drewN | apply below_drew1) | exact HB.out)⟩
   ·replace c8 := Bool.eq_false_iff.mpr c8
    subst c8
    have H1 : ((plenumref02_ReadUnsigned.f kj2 a0 (wrap64 (a1 + 1))).bind fun bt194 => (if bt194.2.2 = true then (if bt194.1 > 65535 then (some (0, 0, false)) else (some (wrap64 (bt194.1), bt194.2.1, true))) else (some (0, 0, false)))) = some (r1, r2, r3) := by rw [if_neg (show ¬ (false = true) by decide)] at H; exact H
    clear H
    have H := H1
    clear H1
    replace H := Option.bind_eq_some_iff.mp H
    obtain ⟨⟨t194, t195, t196⟩, A90, H⟩ := H
    replace H : (if t196 = true then (if t194 > 65535 then (some (0, 0, false)) else (some (wrap64 (t194), t195, true))) else (some (0, 0, false))) = some (r1, r2, r3) := H
    have A9 := Aside0.mk A90
    clear A90
    by_cases c10 : t196 = true
    ·subst c10
     have H1 : (if t194 > 65535 then (some (0, 0, false)) else (some (wrap64 (t194), t195, true))) = some (r1, r2, r3) := by rw [if_pos rfl] at H; exact H
     clear H
     have H := H1
     clear H1
     by_cases c11 : t194 > 65535
     ·rw [if_pos c11] at H
      have c11b0 : decide (65535 < t194) = true := decide_eq_true c11
      clear c11
      simp only [Option.some.injEq, Prod.mk.injEq] at H
      obtain ⟨rfl, rfl, rfl⟩ := H
      go_wp2_with (first | ((with_reducible refine gate_callee (f := 82) rfl ?_); refine goesL_ (some 24) rfl rfl Tryd.func82 (by kernel_rfl) rfl #[.string a0, .int .i64 (wrap64 (a1 + 1))] rfl (by (try simp only [List.map_toArray, List.map_cons, List.map_nil]); first | done | rfl | (simp only [List.length_drop, List.length_take]; rfl)) ?_; (with_reducible refine (plenumref02_ReadUnsigned.calls kj2 a0 (wrap64 (a1 + 1)) t194 t195 true _ ?side99  A9.out).mono ?_); (case side99 => first | exact HG.out | exact Glob.below HG.out (by repeat (first | (with_reducible first | exact HB.out | apply below_alloc | apply pw_below_drewN | apply below_drew1) | exact HB.out))); rintro e w12 ⟨rfl, hb⟩; refine ⟨_, rfl, ?_⟩; have n0_ := Aside0.mk (below_step (by repeat (first | (with_reducible first | exact HB.out | apply below_alloc | apply pw_below_drewN | apply below_drew1) | exact HB.out)) hb); clear HB; have HB := n0_; clear n0_; (try clear hb); (try clear hb2); (try clear hk); (try clear hi)))
      go_ret3
      exact ⟨by first | rfl | (simp [errW_none, errW_some] <;> rfl) | (simp [*, errW_none, errW_some] <;> rfl), by repeat (first | (with_reducible first | exact HB.out | apply below_alloc | apply pw_below_drewN | apply below_drew1) | exact HB.out)⟩
     ·rw [if_neg c11] at H
      have c11b0 : decide (65535 < t194) = false := decide_eq_false c11
      clear c11
      simp only [Option.some.injEq, Prod.mk.injEq] at H
      obtain ⟨rfl, rfl, rfl⟩ := H
      go_wp2_with (first | ((with_reducible refine gate_callee (f := 82) rfl ?_); refine goesL_ (some 24) rfl rfl Tryd.func82 (by kernel_rfl) rfl #[.string a0, .int .i64 (wrap64 (a1 + 1))] rfl (by (try simp only [List.map_toArray, List.map_cons, List.map_nil]); first | done | rfl | (simp only [List.length_drop, List.length_take]; rfl)) ?_; (with_reducible refine (plenumref02_ReadUnsigned.calls kj2 a0 (wrap64 (a1 + 1)) t194 t195 true _ ?side99  A9.out).mono ?_); (case side99 => first | exact HG.out | exact Glob.below HG.out (by repeat (first | (with_reducible first | exact HB.out | apply below_alloc | apply pw_below_drewN | apply below_drew1) | exact HB.out))); rintro e w13 ⟨rfl, hb⟩; refine ⟨_, rfl, ?_⟩; have n0_ := Aside0.mk (below_step (by repeat (first | (with_reducible first | exact HB.out | apply below_alloc | apply pw_below_drewN | apply below_drew1) | exact HB.out)) hb); clear HB; have HB := n0_; clear n0_; (try clear hb); (try clear hb2); (try clear hk); (try clear hi)))
      go_ret3
      exact ⟨by first | rfl | (simp [errW_none, errW_some] <;> rfl) | (simp [*, errW_none, errW_some] <;> rfl), by repeat (first | (with_reducible first | exact HB.out | apply below_alloc | apply pw_below_drewN | apply below_drew1) | exact HB.out)⟩
    ·replace c10 := Bool.eq_false_iff.mpr c10
     subst c10
     have H1 : (some (0, 0, false)) = some (r1, r2, r3) := by rw [if_neg (show ¬ (false = true) by decide)] at H; exact H
     clear H
     have H := H1
     clear H1
     simp only [Option.some.injEq, Prod.mk.injEq] at H
     obtain ⟨rfl, rfl, rfl⟩ := H
     go_wp2_with (first | ((with_reducible refine gate_callee (f := 82) rfl ?_); refine goesL_ (some 24) rfl rfl Tryd.func82 (by kernel_rfl) rfl #[.string a0, .int .i64 (wrap64 (a1 + 1))] rfl (by (try simp only [List.map_toArray, List.map_cons, List.map_nil]); first | done | rfl | (simp only [List.length_drop, List.length_take]; rfl)) ?_; (with_reducible refine (plenumref02_ReadUnsigned.calls kj2 a0 (wrap64 (a1 + 1)) t194 t195 false _ ?side99  A9.out).mono ?_); (case side99 => first | exact HG.out | exact Glob.below HG.out (by repeat (first | (with_reducible first | exact HB.out | apply below_alloc | apply pw_below_drewN | apply below_drew1) | exact HB.out))); rintro e w14 ⟨rfl, hb⟩; refine ⟨_, rfl, ?_⟩; have n0_ := Aside0.mk (below_step (by repeat (first | (with_reducible first | exact HB.out | apply below_alloc | apply pw_below_drewN | apply below_drew1) | exact HB.out)) hb); clear HB; have HB := n0_; clear n0_; (try clear hb); (try clear hb2); (try clear hk); (try clear hi)))
     go_ret3
     exact ⟨by first | rfl | (simp [errW_none, errW_some] <;> rfl) | (simp [*, errW_none, errW_some] <;> rfl), by repeat (first | (with_reducible first | exact HB.out | apply below_alloc | apply pw_below_drewN | apply below_drew1) | exact HB.out)⟩
end Go.Proofs.YtbgabhknmpbgiaaDoor.S
end
section
namespace Go.Proofs.YtbgabhknmpbgiaaDoor.S
open Go.RowKit Go.Proofs.YtbgabhknmpbgiaaDoorW.PrintWords Go.Proofs.YtbgabhknmpbgiaaDoorW.PrintLast Go.Proofs.YtbgabhknmpbgiaaDoorW.PrintMore
attribute [local go_sem] max2_int min2_int max_two min_two max_three min_three max_four min_four
set_option linter.unusedVariables false
set_option linter.unusedSimpArgs false
def plenumref02_ReadText.j0 : Nat → ByteArray → Int → Bool → Option (ByteArray × Int × Bool)
 | 0, _, _, _ => none
 | k + 1, x0, x1, x19 => if x19 = true then (some ((⟨#[]⟩ : ByteArray), 0, false)) else ((plenumref02_ReadUnsigned.f k x0 (wrap64 (x1 + 1))).bind fun bt224 => (if bt224.2.2 = true then (if bt224.1 > 65535 then (some ((⟨#[]⟩ : ByteArray), 0, false)) else (if (wrap64 (bt224.1)) > (wrap64 ((x0.size : Int) - bt224.2.1)) then (some ((⟨#[]⟩ : ByteArray), 0, false)) else (if 0 ≤ bt224.2.1 then (if bt224.2.1 ≤ (wrap64 (bt224.2.1 + (wrap64 (bt224.1)))) then (if (wrap64 (bt224.2.1 + (wrap64 (bt224.1)))) ≤ (x0.size : Int) then (some (x0.extract (bt224.2.1 : Int).toNat ((wrap64 (bt224.2.1 + (wrap64 (bt224.1)))) : Int).toNat, wrap64 (bt224.2.1 + (wrap64 (bt224.1))), true)) else (none)) else (none)) else (none)))) else (some ((⟨#[]⟩ : ByteArray), 0, false))))
def plenumref02_ReadText.f (k : Nat) (a0 : ByteArray) (a1 : Int) : Option (ByteArray × Int × Bool) := if a1 ≥ (a0.size : Int) then (plenumref02_ReadText.j0 k a0 a1 true) else (if 0 ≤ a1 then (if a1 < (a0.size : Int) then (plenumref02_ReadText.j0 k a0 a1 ((bt a0 a1) != 48)) else (none)) else (none))
set_option maxHeartbeats 8000000 in
set_option maxRecDepth 100000 in
theorem plenumref02_ReadText.calls (k : Nat) (a0 : ByteArray) (a1 : Int) (r1 : ByteArray) (r2 : Int) (r3 : Bool) (w : World) (hG : Glob w) (h : plenumref02_ReadText.f k a0 a1 = some (r1, r2, r3)) :
  Calls Tryd.prog 57 #[.string a0, .int .i64 a1] w fun e w' => e = .returned (.tuple #[.string r1, .int .i64 r2, .bool r3]) ∧ Below w.heap.size w w' := by
 have HG := Aside0.mk hG
 clear hG
 have HB := Aside0.mk (Below.refl w.heap.size w)
 have H : (if a1 ≥ (a0.size : Int) then (plenumref02_ReadText.j0 k a0 a1 true) else (if 0 ≤ a1 then (if a1 < (a0.size : Int) then (plenumref02_ReadText.j0 k a0 a1 ((bt a0 a1) != 48)) else (none)) else (none))) = some (r1, r2, r3) := h
 clear h
 have HC3 := Aside0.mk H
 clear H
 go_enter Tryd.func57, Tryd.ntmps57
 go_upto_region 1 with (fail)
 go_cut [19] (fun v19 wc => ∃ (kq : Nat) (x19_2 : Bool), v19 = .bool x19_2 ∧ Aside0 (plenumref02_ReadText.j0 kq a0 a1 x19_2 = some (r1, r2, r3)) ∧ Aside0 (kq ≤ k) ∧ Aside0 (Below w.heap.size w wc))
 case first =>
  have H := HC3.out
  clear HC3
  by_cases c4 : a1 ≥ (a0.size : Int)
  ·rw [if_pos c4] at H
   have c4b0 : decide ((a0.size : Int) ≤ a1) = true := decide_eq_true c4
   clear c4
   (first | rw [c4b0] | (simp only [i64_w, i32_w]; rw [c4b0]) | skip)
   have H' := Aside0.mk H
   clear H
   go_wp2
   go_meet
   case rel => exact ⟨_, (true), (by first | rfl | (simp; done) | (simp [*]; done)), H', ⟨by first | omega | exact Nat.le_refl _⟩, ⟨by repeat (first | (with_reducible first | exact HB.out | apply below_alloc | apply pw_below_drewN | apply below_drew1) | exact HB.out)⟩⟩
  ·rw [if_neg c4] at H
   have c4b0 : decide ((a0.size : Int) ≤ a1) = false := decide_eq_false c4
   clear c4
   (first | rw [c4b0] | (simp only [i64_w, i32_w]; rw [c4b0]) | skip)
   by_cases c5 : 0 ≤ a1
   ·rw [if_pos c5] at H
    have c5b0 : decide (0 ≤ a1) = true := decide_eq_true c5
    clear c5
    by_cases c6 : a1 < (a0.size : Int)
    ·rw [if_pos c6] at H
     have c6b0 : decide (a1 < (a0.size : Int)) = true := decide_eq_true c6
     clear c6
     have H' := Aside0.mk H
     clear H
     have p7 : 0 ≤ (a1 : Int) := of_decide_eq_true (by first | (with_reducible assumption) | assumption)
     have q7 : a1 < (a0.size : Int) := of_decide_eq_true (by first | (with_reducible assumption) | assumption)
     have hx7 := bt_at a0 a1
     replace p7 := eq_true p7
     replace q7 := eq_true q7
     go_wp2
     go_meet
     case rel => exact ⟨_, (((bt a0 a1) != 48)), (by first | rfl | (simp; done) | (simp [*]; done)), H', ⟨by first | omega | exact Nat.le_refl _⟩, ⟨by repeat (first | (with_reducible first | exact HB.out | apply below_alloc | apply pw_below_drewN | apply below_drew1) | exact HB.out)⟩⟩
    ·rw [if_neg c6] at H
     exact absurd H (by simp)
   ·rw [if_neg c5] at H
    exact absurd H (by simp)
 case rest =>
  clear HC3
  try clear p2
  try clear c4
  try clear c4b0
  try clear c5
  try clear c5b0
  try clear c6
  try clear c6b0
  try clear p7
  try clear q7
  try clear hx7
  try clear p7
  try clear q7
  obtain ⟨kq, x19_2, rfl, HA, HJ2, HB⟩ := hcut
  cases kq with
  | zero => exact absurd HA.out (by simp [plenumref02_ReadText.j0])
  | succ kj2 =>
   have H := HA.out
   clear HA
   simp only [plenumref02_ReadText.j0] at H
   by_cases c8 : x19_2 = true
   ·subst c8
    have H1 : (some ((⟨#[]⟩ : ByteArray), 0, false)) = some (r1, r2, r3) := by rw [if_pos rfl] at H; exact H
    clear H
    have H := H1
    clear H1
    simp only [Option.some.injEq, Prod.mk.injEq] at H
    obtain ⟨rfl, rfl, rfl⟩ := H
    go_wp2
    go_ret3
    exact ⟨by first | rfl | (simp [errW_none, errW_some] <;> rfl) | (simp [*, errW_none, errW_some] <;> rfl), by repeat (first | (with_reducible first | exact HB.out | apply below_alloc | apply pw_below_drewN | apply below_drew1) | exact HB.out)⟩
   ·replace c8 := Bool.eq_false_iff.mpr c8
    subst c8
    have H1 : ((plenumref02_ReadUnsigned.f kj2 a0 (wrap64 (a1 + 1))).bind fun bt224 => (if bt224.2.2 = true then (if bt224.1 > 65535 then (some ((⟨#[]⟩ : ByteArray), 0, false)) else (if (wrap64 (bt224.1)) > (wrap64 ((a0.size : Int) - bt224.2.1)) then (some ((⟨#[]⟩ : ByteArray), 0, false)) else (if 0 ≤ bt224.2.1 then (if bt224.2.1 ≤ (wrap64 (bt224.2.1 + (wrap64 (bt224.1)))) then (if (wrap64 (bt224.2.1 + (wrap64 (bt224.1)))) ≤ (a0.size : Int) then (some (a0.extract (bt224.2.1 : Int).toNat ((wrap64 (bt224.2.1 + (wrap64 (bt224.1)))) : Int).toNat, wrap64 (bt224.2.1 + (wrap64 (bt224.1))), true)) else (none)) else (none)) else (none)))) else (some ((⟨#[]⟩ : ByteArray), 0, false)))) = some (r1, r2, r3) := by rw [if_neg (show ¬ (false = true) by decide)] at H; exact H
    clear H
    have H := H1
    clear H1
    replace H := Option.bind_eq_some_iff.mp H
    obtain ⟨⟨t224, t225, t226⟩, A90, H⟩ := H
    replace H : (if t226 = true then (if t224 > 65535 then (some ((⟨#[]⟩ : ByteArray), 0, false)) else (if (wrap64 (t224)) > (wrap64 ((a0.size : Int) - t225)) then (some ((⟨#[]⟩ : ByteArray), 0, false)) else (if 0 ≤ t225 then (if t225 ≤ (wrap64 (t225 + (wrap64 (t224)))) then (if (wrap64 (t225 + (wrap64 (t224)))) ≤ (a0.size : Int) then (some (a0.extract (t225 : Int).toNat ((wrap64 (t225 + (wrap64 (t224)))) : Int).toNat, wrap64 (t225 + (wrap64 (t224))), true)) else (none)) else (none)) else (none)))) else (some ((⟨#[]⟩ : ByteArray), 0, false))) = some (r1, r2, r3) := H
    have A9 := Aside0.mk A90
    clear A90
    by_cases c10 : t226 = true
    ·subst c10
     have H1 : (if t224 > 65535 then (some ((⟨#[]⟩ : ByteArray), 0, false)) else (if (wrap64 (t224)) > (wrap64 ((a0.size : Int) - t225)) then (some ((⟨#[]⟩ : ByteArray), 0, false)) else (if 0 ≤ t225 then (if t225 ≤ (wrap64 (t225 + (wrap64 (t224)))) then (if (wrap64 (t225 + (wrap64 (t224)))) ≤ (a0.size : Int) then (some (a0.extract (t225 : Int).toNat ((wrap64 (t225 + (wrap64 (t224)))) : Int).toNat, wrap64 (t225 + (wrap64 (t224))), true)) else (none)) else (none)) else (none)))) = some (r1, r2, r3) := by rw [if_pos rfl] at H; exact H
     clear H
     have H := H1
     clear H1
     by_cases c11 : t224 > 65535
     ·rw [if_pos c11] at H
      have c11b0 : decide (65535 < t224) = true := decide_eq_true c11
      clear c11
      simp only [Option.some.injEq, Prod.mk.injEq] at H
      obtain ⟨rfl, rfl, rfl⟩ := H
      go_wp2_with (first | ((with_reducible refine gate_callee (f := 82) rfl ?_); refine goesL_ (some 24) rfl rfl Tryd.func82 (by kernel_rfl) rfl #[.string a0, .int .i64 (wrap64 (a1 + 1))] rfl (by (try simp only [List.map_toArray, List.map_cons, List.map_nil]); first | done | rfl | (simp only [List.length_drop, List.length_take]; rfl)) ?_; (with_reducible refine (plenumref02_ReadUnsigned.calls kj2 a0 (wrap64 (a1 + 1)) t224 t225 true _ ?side99  A9.out).mono ?_); (case side99 => first | exact HG.out | exact Glob.below HG.out (by repeat (first | (with_reducible first | exact HB.out | apply below_alloc | apply pw_below_drewN | apply below_drew1) | exact HB.out))); rintro e w12 ⟨rfl, hb⟩; refine ⟨_, rfl, ?_⟩; have n0_ := Aside0.mk (below_step (by repeat (first | (with_reducible first | exact HB.out | apply below_alloc | apply pw_below_drewN | apply below_drew1) | exact HB.out)) hb); clear HB; have HB := n0_; clear n0_; (try clear hb); (try clear hb2); (try clear hk); (try clear hi)))
      go_ret3
      exact ⟨by first | rfl | (simp [errW_none, errW_some] <;> rfl) | (simp [*, errW_none, errW_some] <;> rfl), by repeat (first | (with_reducible first | exact HB.out | apply below_alloc | apply pw_below_drewN | apply below_drew1) | exact HB.out)⟩
     ·rw [if_neg c11] at H
      have c11b0 : decide (65535 < t224) = false := decide_eq_false c11
      clear c11
      by_cases c13 : (wrap64 (t224)) > (wrap64 ((a0.size : Int) - t225))
      ·rw [if_pos c13] at H
       have c13b0 : decide ((wrap64 ((a0.size : Int) - t225)) < (wrap64 (t224))) = true := decide_eq_true c13
       clear c13
       simp only [Option.some.injEq, Prod.mk.injEq] at H
       obtain ⟨rfl, rfl, rfl⟩ := H
       go_wp2_with (first | ((with_reducible refine gate_callee (f := 82) rfl ?_); refine goesL_ (some 24) rfl rfl Tryd.func82 (by kernel_rfl) rfl #[.string a0, .int .i64 (wrap64 (a1 + 1))] rfl (by (try simp only [List.map_toArray, List.map_cons, List.map_nil]); first | done | rfl | (simp only [List.length_drop, List.length_take]; rfl)) ?_; (with_reducible refine (plenumref02_ReadUnsigned.calls kj2 a0 (wrap64 (a1 + 1)) t224 t225 true _ ?side99  A9.out).mono ?_); (case side99 => first | exact HG.out | exact Glob.below HG.out (by repeat (first | (with_reducible first | exact HB.out | apply below_alloc | apply pw_below_drewN | apply below_drew1) | exact HB.out))); rintro e w14 ⟨rfl, hb⟩; refine ⟨_, rfl, ?_⟩; have n0_ := Aside0.mk (below_step (by repeat (first | (with_reducible first | exact HB.out | apply below_alloc | apply pw_below_drewN | apply below_drew1) | exact HB.out)) hb); clear HB; have HB := n0_; clear n0_; (try clear hb); (try clear hb2); (try clear hk); (try clear hi)))
       go_ret3
       exact ⟨by first | rfl | (simp [errW_none, errW_some] <;> rfl) | (simp [*, errW_none, errW_some] <;> rfl), by repeat (first | (with_reducible first | exact HB.out | apply below_alloc | apply pw_below_drewN | apply below_drew1) | exact HB.out)⟩
      ·rw [if_neg c13] at H
       have c13b0 : decide ((wrap64 ((a0.size : Int) - t225)) < (wrap64 (t224))) = false := decide_eq_false c13
       clear c13
       by_cases c15 : 0 ≤ t225
       ·rw [if_pos c15] at H
        have c15b0 := eq_true c15
        have c15b1 : decide (0 ≤ t225) = true := decide_eq_true c15
        clear c15
        by_cases c16 : t225 ≤ (wrap64 (t225 + (wrap64 (t224))))
        ·rw [if_pos c16] at H
         have c16b0 := eq_true c16
         have c16b1 : decide (t225 ≤ (wrap64 (t225 + (wrap64 (t224))))) = true := decide_eq_true c16
         by_cases c17 : (wrap64 (t225 + (wrap64 (t224)))) ≤ (a0.size : Int)
         ·rw [if_pos c17] at H
          have c17b0 := eq_true c17
          have c17b1 : decide ((wrap64 (t225 + (wrap64 (t224)))) ≤ (a0.size : Int)) = true := decide_eq_true c17
          simp only [Option.some.injEq, Prod.mk.injEq] at H
          obtain ⟨rfl, rfl, rfl⟩ := H
          go_wp2_with (first | ((with_reducible refine gate_callee (f := 82) rfl ?_); refine goesL_ (some 24) rfl rfl Tryd.func82 (by kernel_rfl) rfl #[.string a0, .int .i64 (wrap64 (a1 + 1))] rfl (by (try simp only [List.map_toArray, List.map_cons, List.map_nil]); first | done | rfl | (simp only [List.length_drop, List.length_take]; rfl)) ?_; (with_reducible refine (plenumref02_ReadUnsigned.calls kj2 a0 (wrap64 (a1 + 1)) t224 t225 true _ ?side99  A9.out).mono ?_); (case side99 => first | exact HG.out | exact Glob.below HG.out (by repeat (first | (with_reducible first | exact HB.out | apply below_alloc | apply pw_below_drewN | apply below_drew1) | exact HB.out))); rintro e w18 ⟨rfl, hb⟩; refine ⟨_, rfl, ?_⟩; have n0_ := Aside0.mk (below_step (by repeat (first | (with_reducible first | exact HB.out | apply below_alloc | apply pw_below_drewN | apply below_drew1) | exact HB.out)) hb); clear HB; have HB := n0_; clear n0_; (try clear hb); (try clear hb2); (try clear hk); (try clear hi)))
          go_ret3
          exact ⟨by first | rfl | (simp [errW_none, errW_some] <;> rfl) | (simp [*, errW_none, errW_some] <;> rfl), by repeat (first | (with_reducible first | exact HB.out | apply below_alloc | apply pw_below_drewN | apply below_drew1) | exact HB.out)⟩
         ·rw [if_neg c17] at H
          exact absurd H (by simp)
        ·rw [if_neg c16] at H
         exact absurd H (by simp)
       ·rw [if_neg c15] at H
        exact absurd H (by simp)
    ·replace c10 := Bool.eq_false_iff.mpr c10
     subst c10
     have H1 : (some ((⟨#[]⟩ : ByteArray), 0, false)) = some (r1, r2, r3) := by rw [if_neg (show ¬ (false = true) by decide)] at H; exact H
     clear H
     have H := H1
     clear H1
     simp only [Option.some.injEq, Prod.mk.injEq] at H
     obtain ⟨rfl, rfl, rfl⟩ := H
     go_wp2_with (first | ((with_reducible refine gate_callee (f := 82) rfl ?_); refine goesL_ (some 24) rfl rfl Tryd.func82 (by kernel_rfl) rfl #[.string a0, .int .i64 (wrap64 (a1 + 1))] rfl (by (try simp only [List.map_toArray, List.map_cons, List.map_nil]); first | done | rfl | (simp only [List.length_drop, List.length_take]; rfl)) ?_; (with_reducible refine (plenumref02_ReadUnsigned.calls kj2 a0 (wrap64 (a1 + 1)) t224 t225 false _ ?side99  A9.out).mono ?_); (case side99 => first | exact HG.out | exact Glob.below HG.out (by repeat (first | (with_reducible first | exact HB.out | apply below_alloc | apply pw_below_drewN | apply below_drew1) | exact HB.out))); rintro e w19 ⟨rfl, hb⟩; refine ⟨_, rfl, ?_⟩; have n0_ := Aside0.mk (below_step (by repeat (first | (with_reducible first | exact HB.out | apply below_alloc | apply pw_below_drewN | apply below_drew1) | exact HB.out)) hb); clear HB; have HB := n0_; clear n0_; (try clear hb); (try clear hb2); (try clear hk); (try clear hi)))
     go_ret3
     exact ⟨by first | rfl | (simp [errW_none, errW_some] <;> rfl) | (simp [*, errW_none, errW_some] <;> rfl), by repeat (first | (with_reducible first | exact HB.out | apply below_alloc | apply pw_below_drewN | apply below_drew1) | exact HB.out)⟩
end Go.Proofs.YtbgabhknmpbgiaaDoor.S
end
section
namespace Go.Proofs.YtbgabhknmpbgiaaDoor.Pure
open Go.RowKit Go.Proofs.YtbgabhknmpbgiaaDoor.S Go.Proofs.YtbgabhknmpbgiaaDoorW.PrintWords Go.Proofs.YtbgabhknmpbgiaaDoorW.PrintLast Go.Proofs.YtbgabhknmpbgiaaDoorW.PrintMore
set_option linter.unusedVariables false
set_option linter.unusedSimpArgs false
def beL (V : Int) : Nat → List Int
 | 0 => []
 | n + 1 => beL (V / 256) n ++ [V % 256]
theorem beL_length (V : Int) (n : Nat) : (beL V n).length = n := by
 induction n generalizing V with
 | zero => rfl
 | succ n ih => simp [beL, ih]
theorem strOfNums_size (l : List Int) : (strOfNums l).size = l.length := by
 show ((l.map fun n => UInt8.ofNat n.toNat).toArray).size = _
 simp
theorem refU_loop : ∀ (d : Nat) (x0 : Int) (x3 : List Int) (k : Nat), 0 ≤ x0 → x0 < 18446744073709551616 → nb x0 = (d : Int) + 1 → x3.length + d ≤ 100 →
  plenumref02_Unsigned.l0 (k + d + 1) x0 x3 = some (strOfNums ((16 + ((d + x3.length : Nat) : Int)) :: (beL (x0 / 256) d ++ x3))) := by
 intro d
 induction d with
 | zero =>
  intro x0 x3 k h0 h1 h2 h3
  have hx : ¬ x0 > 255 := by intro h; unfold nb at h2; omega
  show plenumref02_Unsigned.l0 (k + 1) x0 x3 = _
  rw [plenumref02_Unsigned.l0, if_neg hx]
  simp only [Option.bind_some]
  rw [if_pos (by simp; omega), w64 (n := 16 + (x3.length : Int)) (by omega) (by omega), Int.emod_eq_of_lt (by omega) (by omega)]
  simp [beL]
 | succ d ih =>
  intro x0 x3 k h0 h1 h2 h3
  have hx : x0 > 255 := by have := @nb_small x0; omega
  show plenumref02_Unsigned.l0 ((k + d + 1) + 1) x0 x3 = _
  rw [plenumref02_Unsigned.l0, if_pos hx]
  simp only [Option.bind_some]
  rw [if_pos (by simp; omega), Int.tdiv_eq_ediv_of_nonneg h0, u64w, Int.emod_eq_of_lt (b := 18446744073709551616) (by omega) (by omega), ih _ _ k (by omega) (by omega) (by rw [nb_div hx h1]; omega) (by simp; omega)]
  rw [show d + ([x0 / 256 % 256] ++ x3).length = d + 1 + x3.length by simp; omega]
  simp [beL]
theorem refU_eq (k : Nat) (V : Int) (h0 : 0 ≤ V) (h1 : V < 18446744073709551616) : plenumref02_Unsigned.f (k + 8) V = some (strOfNums ((16 + nb V) :: beL V (nb V).toNat)) := by
 have hr := nb_range V
 have := refU_loop (nb V - 1).toNat V [V % 256] (k + 8 - (nb V - 1).toNat - 1) h0 h1 (by omega) (by simp; omega)
 rw [show k + 8 - (nb V - 1).toNat - 1 + (nb V - 1).toNat + 1 = k + 8 by omega] at this
 unfold plenumref02_Unsigned.f
 rw [this]
 congr 2
 obtain ⟨m, hm⟩ : ∃ m : Nat, nb V = (m : Int) + 1 := ⟨(nb V - 1).toNat, by omega⟩
 rw [hm, show ((m : Int) + 1 - 1).toNat = m by omega, show ((m : Int) + 1).toNat = m + 1 by omega]
 congr 1
theorem refS_loop : ∀ (d : Nat) (x0 : Int) (x3 : List Int) (k : Nat), -9223372036854775808 ≤ x0 → x0 ≤ 9223372036854775807 → ss x0 = (d : Int) + 1 → x3.length + d ≤ 100 →
  plenumref02_Signed.l0 (k + d + 1) x0 x3 = some (strOfNums ((32 + ((d + x3.length : Nat) : Int)) :: (beL (x0 / 256) d ++ x3))) := by
 intro d
 induction d with
 | zero =>
  intro x0 x3 k h0 h1 h2 h3
  have hx : -128 ≤ x0 ∧ x0 ≤ 127 := by unfold ss sb at h2; omega
  show plenumref02_Signed.l0 (k + 1) x0 x3 = _
  rw [plenumref02_Signed.l0, if_neg (by omega), if_neg (by omega)]
  simp only [Option.bind_some]
  rw [if_pos (by simp; omega), w64 (n := 32 + (x3.length : Int)) (by omega) (by omega), Int.emod_eq_of_lt (by omega) (by omega)]
  simp [beL]
 | succ d ih =>
  intro x0 x3 k h0 h1 h2 h3
  have hx : x0 < -128 ∨ 127 < x0 := by have := @ss_small x0; omega
  have e := ih (x0 / 256) ([x0 / 256 % 256] ++ x3) k (by omega) (by omega) (by rw [ss_div hx h0 h1]; omega) (by simp; omega)
  show plenumref02_Signed.l0 ((k + d + 1) + 1) x0 x3 = _
  have e2 : some (strOfNums ((32 + ((d + ([x0 / 256 % 256] ++ x3).length : Nat) : Int)) :: (beL (x0 / 256 / 256) d ++ ([x0 / 256 % 256] ++ x3)))) = some (strOfNums ((32 + ((d + 1 + x3.length : Nat) : Int)) :: (beL (x0 / 256) (d + 1) ++ x3))) := by
   rw [show d + ([x0 / 256 % 256] ++ x3).length = d + 1 + x3.length by simp; omega]
   simp [beL]
  rw [plenumref02_Signed.l0]
  by_cases c : x0 < -128
  ·rw [if_pos c]
   simp only [Option.bind_some]
   rw [if_pos (by simp; omega), e, e2]
  ·rw [if_neg c, if_pos (by omega)]
   simp only [Option.bind_some]
   rw [if_pos (by simp; omega), e, e2]
theorem refS_eq (k : Nat) (V : Int) (h0 : -9223372036854775808 ≤ V) (h1 : V ≤ 9223372036854775807) : plenumref02_Signed.f (k + 8) V = some (strOfNums ((32 + ss V) :: beL V (ss V).toNat)) := by
 have hr := ss_range V h0 h1
 have := refS_loop (ss V - 1).toNat V [V % 256] (k + 8 - (ss V - 1).toNat - 1) h0 h1 (by omega) (by simp; omega)
 rw [show k + 8 - (ss V - 1).toNat - 1 + (ss V - 1).toNat + 1 = k + 8 by omega] at this
 unfold plenumref02_Signed.f
 rw [this]
 congr 2
 obtain ⟨m, hm⟩ : ∃ m : Nat, ss V = (m : Int) + 1 := ⟨(ss V - 1).toNat, by omega⟩
 rw [hm, show ((m : Int) + 1 - 1).toNat = m by omega, show ((m : Int) + 1).toNat = m + 1 by omega]
 congr 1
theorem ext_size (s : ByteArray) (i j : Nat) (h : i ≤ j) (hj : j ≤ s.size) : (s.extract i j).size = j - i := by
 rw [ByteArray.size_extract]; omega
theorem bt_ext (s : ByteArray) (i j : Nat) (q : Int) (h : i ≤ j) (hj : j ≤ s.size) (h0 : 0 ≤ q) (h1 : q < (j : Int) - i) : bt (s.extract i j) q = bt s ((i : Int) + q) := by
 unfold bt
 rw [dif_pos (by rw [ext_size s i j h hj]; omega), dif_pos (by omega)]
 rw [ByteArray.getElem_extract]
 congr 3
 omega
def numS (s : ByteArray) (p lead : Int) : Bool := decide (p < (s.size : Int)) && decide (lead < bt s p) && decide (bt s p ≤ lead + 8) && decide (p + 1 + (cnt s p : Int) ≤ (s.size : Int))
theorem refNumber_eq (k : Nat) (s : ByteArray) (p lead : Int) (hl : lead = 16 ∨ lead = 32) (hp : 0 ≤ p) (hz : s.size ≤ 140737488355327) :
  plenumref02_number.f (k + 2) s p lead = some (if numS s p lead = true then (s.extract (p + 1).toNat (p + 1 + (cnt s p : Int)).toNat, true) else ((⟨#[]⟩ : ByteArray), false)) := by
 unfold plenumref02_number.f numS
 have hb := bt_range s p
 by_cases c1 : p ≥ (s.size : Int)
 ·rw [if_pos c1, decide_eq_false (by omega)]
  simp only [plenumref02_number.j0, if_true, Bool.false_and, Bool.false_eq_true, if_false]
 ·rw [if_neg c1, if_pos hp, if_pos (by omega), decide_eq_true (p := p < (s.size : Int)) (by omega)]
  by_cases c2 : bt s p ≤ lead
  ·rw [if_pos c2, decide_eq_false (p := lead < bt s p) (by omega)]
   simp only [plenumref02_number.j0, if_true, Bool.false_and, Bool.true_and, Bool.false_eq_true, if_false]
  ·rw [if_neg c2, decide_eq_true (p := lead < bt s p) (by omega)]
   by_cases c3 : bt s p > (lead + 8) % 256
   ·rw [decide_eq_true c3, decide_eq_false (p := bt s p ≤ lead + 8) (by omega)]
    simp only [plenumref02_number.j0, if_true, Bool.false_and, Bool.true_and, Bool.false_eq_true, if_false]
   ·rw [decide_eq_false c3, decide_eq_true (p := bt s p ≤ lead + 8) (by omega)]
    have hc : ((bt s p) - lead) % 256 = (cnt s p : Int) := by unfold cnt; omega
    have hc8 : 1 ≤ cnt s p ∧ cnt s p ≤ 8 := by unfold cnt; omega
    simp only [plenumref02_number.j0, Bool.false_eq_true, if_false, Bool.true_and]
    rw [if_pos hp, if_pos (by omega), hc, w64 (n := (s.size : Int) - p) (by omega) (by omega), w64 (n := (s.size : Int) - p - 1) (by omega) (by omega), w64 (n := p + 1) (by omega) (by omega), w64 (n := p + 1 + (cnt s p : Int)) (by omega) (by omega)]
    by_cases c4 : (cnt s p : Int) > (s.size : Int) - p - 1
    ·rw [if_pos c4, decide_eq_false (by omega)]; simp
    ·rw [if_neg c4, if_pos (by omega), if_pos (by omega), if_pos (by omega), decide_eq_true (by omega)]; simp
theorem numS_16 {s : ByteArray} {p : Int} (hp : 0 ≤ p) : numS s p 16 = true ↔ kindS s p = 3 ∧ p + 1 + (cnt s p : Int) ≤ (s.size : Int) := by
 unfold numS kindS
 simp only [Bool.and_eq_true, decide_eq_true_eq]
 constructor
 ·rintro ⟨⟨⟨a, b⟩, c⟩, d⟩
  rw [if_neg (by omega)]
  exact ⟨kd3.2 ⟨b, c⟩, d⟩
 ·rintro ⟨a, d⟩
  split at a
  ·exact absurd a (by decide)
  ·have := kd3.1 a
   exact ⟨⟨⟨by omega, this.1⟩, this.2⟩, d⟩
theorem numS_32 {s : ByteArray} {p : Int} (hp : 0 ≤ p) : numS s p 32 = true ↔ kindS s p = 4 ∧ p + 1 + (cnt s p : Int) ≤ (s.size : Int) := by
 unfold numS kindS
 simp only [Bool.and_eq_true, decide_eq_true_eq]
 constructor
 ·rintro ⟨⟨⟨a, b⟩, c⟩, d⟩
  rw [if_neg (by omega)]
  exact ⟨kd4.2 ⟨b, c⟩, d⟩
 ·rintro ⟨a, d⟩
  split at a
  ·exact absurd a (by decide)
  ·have := kd4.1 a
   exact ⟨⟨⟨by omega, this.1⟩, this.2⟩, d⟩
theorem cnt_of {s : ByteArray} {p : Int} (h : kindS s p = 3 ∨ kindS s p = 4) : 1 ≤ cnt s p ∧ cnt s p ≤ 8 := by
 obtain ⟨a, b, c⟩ := kindS_in (s := s) (p := p) (by omega)
 rw [c] at h
 unfold cnt
 rcases h with h | h
 ·have := kd3.1 h; omega
 ·have := kd4.1 h; omega
def uS (s : ByteArray) (p : Int) : Option (Int × Int) := if kindS s p = 3 ∧ p + 1 + (cnt s p : Int) ≤ (s.size : Int) ∧ nb (val s p) = (cnt s p : Int) then some (val s p, p + 1 + (cnt s p : Int)) else none
def sS (s : ByteArray) (p : Int) : Option (Int × Int) := if kindS s p = 4 ∧ p + 1 + (cnt s p : Int) ≤ (s.size : Int) ∧ ss (sgn (cnt s p) (val s p)) = (cnt s p : Int) then some (sgn (cnt s p) (val s p), p + 1 + (cnt s p : Int)) else none
def opt3 (o : Option (Int × Int)) : Int × Int × Bool := match o with | some (v, e) => (v, e, true) | none => (0, 0, false)
end Go.Proofs.YtbgabhknmpbgiaaDoor.Pure
end
section
namespace Go.Proofs.YtbgabhknmpbgiaaDoor.S
open Go.RowKit Go.Proofs.YtbgabhknmpbgiaaDoorW.PrintWords Go.Proofs.YtbgabhknmpbgiaaDoorW.PrintLast Go.Proofs.YtbgabhknmpbgiaaDoorW.PrintMore
attribute [local go_sem] max2_int min2_int max_two min_two max_three min_three max_four min_four
set_option linter.unusedVariables false
set_option linter.unusedSimpArgs false
def plenumref02_Bool.f (a0 : Bool) : Option (ByteArray) := if a0 = true then (some (⟨#[2]⟩ : ByteArray)) else (some (⟨#[1]⟩ : ByteArray))
set_option maxHeartbeats 8000000 in
set_option maxRecDepth 100000 in
theorem plenumref02_Bool.calls (a0 : Bool) (r : ByteArray) (w : World) (hG : Glob w) (h : plenumref02_Bool.f a0 = some r) :
  Calls Tryd.prog 56 #[.bool a0] w fun e w' => e = .returned (.string r) ∧ Drawn0 w w' := by
 have HG := Aside0.mk hG
 clear hG
 have H : (if a0 = true then (some (⟨#[2]⟩ : ByteArray)) else (some (⟨#[1]⟩ : ByteArray))) = some r := h
 clear h
 by_cases c2 : a0 = true
 ·subst c2
  have H1 : (some (⟨#[2]⟩ : ByteArray)) = some r := by rw [if_pos rfl] at H; exact H
  clear H
  have H := H1
  clear H1
  obtain rfl := Option.some.inj H
  go_enter Tryd.func56, Tryd.ntmps56
  go_wp2
  go_ret
  exact ⟨by first | rfl | (simp; done) | (simp [*]; done), by repeat (first | exact Drawn0.refl _ | apply Drawn0.step)⟩
 ·replace c2 := Bool.eq_false_iff.mpr c2
  subst c2
  have H1 : (some (⟨#[1]⟩ : ByteArray)) = some r := by rw [if_neg (show ¬ (false = true) by decide)] at H; exact H
  clear H
  have H := H1
  clear H1
  obtain rfl := Option.some.inj H
  go_enter Tryd.func56, Tryd.ntmps56
  go_wp2
  go_ret
  exact ⟨by first | rfl | (simp; done) | (simp [*]; done), by repeat (first | exact Drawn0.refl _ | apply Drawn0.step)⟩
end Go.Proofs.YtbgabhknmpbgiaaDoor.S
end
section
namespace Go.Proofs.YtbgabhknmpbgiaaDoor.S
open Go.RowKit Go.Proofs.YtbgabhknmpbgiaaDoorW.PrintWords Go.Proofs.YtbgabhknmpbgiaaDoorW.PrintLast Go.Proofs.YtbgabhknmpbgiaaDoorW.PrintMore
attribute [local go_sem] max2_int min2_int max_two min_two max_three min_three max_four min_four
set_option linter.unusedVariables false
set_option linter.unusedSimpArgs false
def plenumref02_Head.f (k : Nat) (a0 : Int) : Option (ByteArray) := (plenumref02_Unsigned.f k (IntKind.u64.wrap (a0))).bind fun t227 => (if 1 + t227.size ≤ 9223372036854775807 then (some ((⟨#[64]⟩ : ByteArray) ++ t227)) else (none))
set_option maxHeartbeats 8000000 in
set_option maxRecDepth 100000 in
theorem plenumref02_Head.calls (k : Nat) (a0 : Int) (r : ByteArray) (w : World) (hG : Glob w) (h : plenumref02_Head.f k a0 = some r) :
  Calls Tryd.prog 84 #[.int .i64 a0] w fun e w' => e = .returned (.string r) ∧ Below w.heap.size w w' := by
 have HG := Aside0.mk hG
 clear hG
 have HB := Aside0.mk (Below.refl w.heap.size w)
 have H : ((plenumref02_Unsigned.f k (IntKind.u64.wrap (a0))).bind fun t227 => (if 1 + t227.size ≤ 9223372036854775807 then (some ((⟨#[64]⟩ : ByteArray) ++ t227)) else (none))) = some r := h
 clear h
 replace H := Option.bind_eq_some_iff.mp H
 obtain ⟨t227, A20, H⟩ := H
 replace H : (if 1 + t227.size ≤ 9223372036854775807 then (some ((⟨#[64]⟩ : ByteArray) ++ t227)) else (none)) = some r := H
 have A2 := Aside0.mk A20
 clear A20
 by_cases c3 : 1 + t227.size ≤ 9223372036854775807
 ·rw [if_pos c3] at H
  have c3b0 := eq_true c3
  have c3b1 : decide (1 + t227.size ≤ 9223372036854775807) = true := decide_eq_true c3
  try have c3b2 : (9223372036854775807 < 1 + t227.size) = False := eq_false (Nat.not_lt.2 c3)
  obtain rfl := Option.some.inj H
  go_enter Tryd.func84, Tryd.ntmps84
  go_wp2_with (first | ((with_reducible refine gate_callee (f := 60) rfl ?_); refine goesL_ (some 5) rfl rfl Tryd.func60 (by kernel_rfl) rfl #[.int .u64 (IntKind.u64.wrap (a0))] rfl (by (try simp only [List.map_toArray, List.map_cons, List.map_nil]); first | done | rfl | (simp only [List.length_drop, List.length_take]; rfl)) ?_; (with_reducible refine (plenumref02_Unsigned.calls k (IntKind.u64.wrap (a0)) t227 _ ?side99  A2.out).mono ?_); (case side99 => first | exact HG.out | exact Glob.below HG.out (by repeat (first | (with_reducible first | exact HB.out | apply below_alloc | apply pw_below_drewN | apply below_drew1) | exact HB.out))); rintro e w4 ⟨rfl, hb⟩; refine ⟨_, rfl, ?_⟩; have n0_ := Aside0.mk (below_step (by repeat (first | (with_reducible first | exact HB.out | apply below_alloc | apply pw_below_drewN | apply below_drew1) | exact HB.out)) hb); clear HB; have HB := n0_; clear n0_; (try clear hb); (try clear hb2); (try clear hk); (try clear hi)))
  go_ret
  exact ⟨by first | rfl | (simp [errW_none, errW_some] <;> rfl) | (simp [*, errW_none, errW_some] <;> rfl), by repeat (first | (with_reducible first | exact HB.out | apply below_alloc | apply pw_below_drewN | apply below_drew1) | exact HB.out)⟩
 ·rw [if_neg c3] at H
  exact absurd H (by simp)
end Go.Proofs.YtbgabhknmpbgiaaDoor.S
end
section
namespace Go.Proofs.YtbgabhknmpbgiaaDoor.S
open Go.RowKit Go.Proofs.YtbgabhknmpbgiaaDoorW.PrintWords Go.Proofs.YtbgabhknmpbgiaaDoorW.PrintLast Go.Proofs.YtbgabhknmpbgiaaDoorW.PrintMore
attribute [local go_sem] max2_int min2_int max_two min_two max_three min_three max_four min_four
set_option linter.unusedVariables false
set_option linter.unusedSimpArgs false
def plenumref02_Text.f (k : Nat) (a0 : ByteArray) : Option (ByteArray) := (plenumref02_Unsigned.f k (IntKind.u64.wrap ((a0.size : Int)))).bind fun t230 => (if 1 + t230.size ≤ 9223372036854775807 then (if 1 + t230.size + a0.size ≤ 9223372036854775807 then (some (((⟨#[48]⟩ : ByteArray) ++ t230) ++ a0)) else (none)) else (none))
set_option maxHeartbeats 8000000 in
set_option maxRecDepth 100000 in
theorem plenumref02_Text.calls (k : Nat) (a0 : ByteArray) (r : ByteArray) (w : World) (hG : Glob w) (h : plenumref02_Text.f k a0 = some r) :
  Calls Tryd.prog 62 #[.string a0] w fun e w' => e = .returned (.string r) ∧ Below w.heap.size w w' := by
 have HG := Aside0.mk hG
 clear hG
 have HB := Aside0.mk (Below.refl w.heap.size w)
 have H : ((plenumref02_Unsigned.f k (IntKind.u64.wrap ((a0.size : Int)))).bind fun t230 => (if 1 + t230.size ≤ 9223372036854775807 then (if 1 + t230.size + a0.size ≤ 9223372036854775807 then (some (((⟨#[48]⟩ : ByteArray) ++ t230) ++ a0)) else (none)) else (none))) = some r := h
 clear h
 replace H := Option.bind_eq_some_iff.mp H
 obtain ⟨t230, A20, H⟩ := H
 replace H : (if 1 + t230.size ≤ 9223372036854775807 then (if 1 + t230.size + a0.size ≤ 9223372036854775807 then (some (((⟨#[48]⟩ : ByteArray) ++ t230) ++ a0)) else (none)) else (none)) = some r := H
 have A2 := Aside0.mk A20
 clear A20
 by_cases c3 : 1 + t230.size ≤ 9223372036854775807
 ·rw [if_pos c3] at H
  have c3b0 := eq_true c3
  have c3b1 : decide (1 + t230.size ≤ 9223372036854775807) = true := decide_eq_true c3
  try have c3b2 : (9223372036854775807 < 1 + t230.size) = False := eq_false (Nat.not_lt.2 c3)
  by_cases c4 : 1 + t230.size + a0.size ≤ 9223372036854775807
  ·rw [if_pos c4] at H
   have c4b0 := eq_true c4
   have c4b1 : decide (1 + t230.size + a0.size ≤ 9223372036854775807) = true := decide_eq_true c4
   try have c4b2 : (9223372036854775807 < 1 + t230.size + a0.size) = False := eq_false (Nat.not_lt.2 c4)
   obtain rfl := Option.some.inj H
   have hw_ : IntKind.u64.wrap ((a0.size : Int)) = (a0.size : Int) := by
    show ((a0.size : Int)) % 18446744073709551616 = _
    omega
   rw [hw_] at A2
   go_enter Tryd.func62, Tryd.ntmps62
   go_wp2_with (first | ((with_reducible refine gate_callee (f := 60) rfl ?_); refine goesL_ (some 6) rfl rfl Tryd.func60 (by kernel_rfl) rfl #[.int .u64 (a0.size : Int)] rfl (by (try simp only [List.map_toArray, List.map_cons, List.map_nil]); first | done | rfl | (simp only [List.length_drop, List.length_take]; rfl)) ?_; (with_reducible refine (plenumref02_Unsigned.calls k (a0.size : Int) t230 _ ?side99  A2.out).mono ?_); (case side99 => first | exact HG.out | exact Glob.below HG.out (by repeat (first | (with_reducible first | exact HB.out | apply below_alloc | apply pw_below_drewN | apply below_drew1) | exact HB.out))); rintro e w5 ⟨rfl, hb⟩; refine ⟨_, rfl, ?_⟩; have n0_ := Aside0.mk (below_step (by repeat (first | (with_reducible first | exact HB.out | apply below_alloc | apply pw_below_drewN | apply below_drew1) | exact HB.out)) hb); clear HB; have HB := n0_; clear n0_; (try clear hb); (try clear hb2); (try clear hk); (try clear hi)))
   go_ret
   exact ⟨by first | rfl | (simp [errW_none, errW_some] <;> rfl) | (simp [*, errW_none, errW_some] <;> rfl), by repeat (first | (with_reducible first | exact HB.out | apply below_alloc | apply pw_below_drewN | apply below_drew1) | exact HB.out)⟩
  ·rw [if_neg c4] at H
   exact absurd H (by simp)
 ·rw [if_neg c3] at H
  exact absurd H (by simp)
end Go.Proofs.YtbgabhknmpbgiaaDoor.S
end
