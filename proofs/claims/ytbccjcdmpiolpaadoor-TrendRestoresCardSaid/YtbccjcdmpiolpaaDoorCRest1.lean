/- TrendRestoresCard: one part of the proof that the law answers true for every input, and that its arguments read afterwards as before. No condition. -/
import Derived.Test.YtbccjcdmpiolpaaDoorCRest0
import Derived.Test.YtbccjcdmpiolpaaDoorProg
import Derived.Below
import Derived.Deep.Draws
import Derived.Deep.AppendLies
import Derived.Maps.AppendAt
import Derived.OwnWalk
import Derived.Laws.BytesArg
import Derived.Laws.MakeOwn
import Derived.Laws.OwnMore
import Derived.Deep.OwnRows
import Derived.Tactics
import Derived.Lib.ConvBytes
import Derived.Laws.Slices
import Derived.WalkKit
import Derived.KernelRfl
import Derived.RowKit3
import Derived.Deep.LoopGhost
import Derived.Deep.QuietTactic
import Derived.BigQuiet
import Derived.WideLaws
import Derived.Deep.DeepCutAuto
import Derived.Deep.CutBlock
import Derived.Deep.RegionHeld3
import Derived.Laws.Rows
import Derived.Lib.AppendStr
import Derived.ArgAppend
import Derived.Laws.IdiomCopy
import Derived.OrdersHeld
import Derived.Laws.BitsLemmas
import Derived.RowKit
import Derived.ChangeSame
import Derived.ChangeVars
import Derived.JoinedOf
import Derived.Handed
import Derived.Outline
import Derived.Deep.MidRow
import Derived.LoopTactic
import Derived.Test.YtbccjcdmpiolpaaDoorRows
section
namespace Go.Proofs.YtbccjcdmpiolpaaDoor.T
open Go.RowKit Go.Proofs.YtbccjcdmpiolpaaDoorW.PrintWords Go.Proofs.YtbccjcdmpiolpaaDoorW.PrintLast Go.Proofs.YtbccjcdmpiolpaaDoorW.PrintMore
attribute [local go_sem] max2_int min2_int max_two min_two max_three min_three max_four min_four
set_option linter.unusedVariables false
set_option linter.unusedSimpArgs false
def Glob (w : World) : Prop := ∃ t, w.heap[0]? = some (.cells #[.int .i64 2, .int .i64 3, .int .i64 4, .int .i64 5, .int .i64 6] t (0, 0))
def gtab : List Int := [2, 3, 4, 5, 6]
theorem gt_at {w : World} (h : Glob w) {i : Int} (h0 : 0 ≤ i) (h1 : i < 5) : w.cell? ⟨0, i.toNat, none⟩ = some (.int .i64 (rd gtab i)) := by
 obtain ⟨t, h⟩ := h
 rw [blk_cell h]
 obtain rfl | rfl | rfl | rfl | rfl : i = 0 ∨ i = 1 ∨ i = 2 ∨ i = 3 ∨ i = 4 := by omega
 all_goals rfl
theorem goesT_ {P : Program} {ops : Array Oper} {Q : Exit → Act → World → Prop} {oi : Oper} {N : Option Tmp} {a : Act} {w : World} {K : Act → World → Prop} {f : FuncId} {fn : Func} {x : Operand} {xs : Array Operand} {ts : Array TypeId} (hf : P.funcs[f]? = some fn) (hname : (fn.name == "runtime.NumGoroutine") = false) (hb : fn.body.isSome = true) (args : Array Value)
  (hw : Region.wanted oi (yielded ops a.tmps) = true) (hN : oi.dst = N) (hop : oi.op = .call { callee := .value x, args := xs, argTypes := ts }) (hv : a.eval x = .func (.func f) #[] #[]) (hargs : xs.map a.eval = args)
  (h : Calls P f args w fun e w' => ∃ v, e = .returned v ∧ K (a.put N v) w') : if Region.wanted oi (yielded ops a.tmps) = true then Oper.wp P oi a w K Q else K (a.put N undef) w := by
 refine call_ f args hw hN ?_ h
 have he := enters_ hf hname hb args w
 unfold execOp
 simp [hop, resolve, Deferred.ofValue, invoke, hv, hargs, he]
theorem Glob.below {w w1 : World} (h : Glob w) (hb : Below w.heap.size w w1) : Glob w1 := h.imp fun _ h => blk_below h hb
theorem info5 : (Tryd.prog.info? 5).map (fun i => (i.zero, i.size, i.bytes)) = some (some (.int .u8 0), 1, 1) := by kernel_rfl
structure S30 where
 f0 : Int
 f1 : Int
def z30 : S30 := ⟨(0 : Int), (0 : Int)⟩
def k30 : Kd S30 := Kd.iso (Kd.pair (Kd.int .i64) (Kd.int .i64)) (fun x : S30 => (x.f0, x.f1))
theorem k30_open {w : World} {x : S30} {cs : List Value} (h : k30.K w x cs) : cs = [.int .i64 x.f0, .int .i64 x.f1] := by
 obtain ⟨_, _, rfl, rfl, rfl⟩ := h
 exact rfl
theorem k30_mkM (w : World) (base : Nat) (ok : Nat → Prop) (x : S30)  : k30.M w base ok x [.int .i64 x.f0, .int .i64 x.f1] := ⟨[.int .i64 x.f0], [.int .i64 x.f1], rfl, rfl, rfl⟩
structure S44 where
 f0 : Int
 f1 : Int
 f2 : S30
 f3 : Int
 f4 : Int
def z44 : S44 := ⟨(0 : Int), (0 : Int), z30, (0 : Int), (0 : Int)⟩
def k44 : Kd S44 := Kd.iso (Kd.pair (Kd.int .i64) (Kd.pair (Kd.int .i64) (Kd.pair k30 (Kd.pair (Kd.int .i64) (Kd.int .i64))))) (fun x : S44 => (x.f0, x.f1, x.f2, x.f3, x.f4))
theorem k44_open {w : World} {x : S44} {cs : List Value} (h : k44.K w x cs) : cs = [.int .i64 x.f0, .int .i64 x.f1, .int .i64 x.f2.f0, .int .i64 x.f2.f1, .int .i64 x.f3, .int .i64 x.f4] := by
 obtain ⟨_, _, rfl, rfl, ⟨_, _, rfl, rfl, ⟨_, _, rfl, s2, ⟨_, _, rfl, rfl, rfl⟩⟩⟩⟩ := h
 obtain rfl := k30_open s2
 exact rfl
theorem k44_mkM (w : World) (base : Nat) (ok : Nat → Prop) (x : S44)  : k44.M w base ok x [.int .i64 x.f0, .int .i64 x.f1, .int .i64 x.f2.f0, .int .i64 x.f2.f1, .int .i64 x.f3, .int .i64 x.f4] := ⟨[.int .i64 x.f0], [.int .i64 x.f1, .int .i64 x.f2.f0, .int .i64 x.f2.f1, .int .i64 x.f3, .int .i64 x.f4], rfl, rfl, ⟨[.int .i64 x.f1], [.int .i64 x.f2.f0, .int .i64 x.f2.f1, .int .i64 x.f3, .int .i64 x.f4], rfl, rfl, ⟨[.int .i64 x.f2.f0, .int .i64 x.f2.f1], [.int .i64 x.f3, .int .i64 x.f4], rfl, (k30_mkM w base ok x.f2 ), ⟨[.int .i64 x.f3], [.int .i64 x.f4], rfl, rfl, rfl⟩⟩⟩⟩
def rd_T44 (xs : List S44) (i : Int) : S44 := xs.getD i.toNat z44
theorem at_T44 {w : World} {A : Option Addr} {n : Nat} {xs : List S44} (h : Kd.C k44 w A n xs) (i : Int) (h0 : 0 ≤ i) (h1 : i < n) : ∃ ad , A = some ad ∧ w.cell? (ad.add (i.toNat * 6)) = some (.int .i64 (rd_T44 xs i).f0) ∧ w.cell? ⟨(ad.add (i.toNat * 6)).block, (ad.add (i.toNat * 6)).off + 1, none⟩ = some (.int .i64 (rd_T44 xs i).f1) ∧ w.cell? ⟨(ad.add (i.toNat * 6)).block, (ad.add (i.toNat * 6)).off + 2, none⟩ = some (.int .i64 (rd_T44 xs i).f2.f0) ∧ w.cell? ⟨(ad.add (i.toNat * 6)).block, (ad.add (i.toNat * 6)).off + 3, none⟩ = some (.int .i64 (rd_T44 xs i).f2.f1) ∧ w.cell? ⟨(ad.add (i.toNat * 6)).block, (ad.add (i.toNat * 6)).off + 4, none⟩ = some (.int .i64 (rd_T44 xs i).f3) ∧ w.cell? ⟨(ad.add (i.toNat * 6)).block, (ad.add (i.toNat * 6)).off + 5, none⟩ = some (.int .i64 (rd_T44 xs i).f4) := by
 obtain ⟨ad, c, e, _, hK, hc0⟩ := Kd.C_get h z44 i h0 h1
 have hc : ∀ j u, c[j]? = some u → w.cell? (ad.add (i.toNat * 6 + j)) = some u := hc0
 obtain rfl := k44_open hK
 exact ⟨ad, e, hc 0 _ rfl, by rw [← add_field _ _ 1 (by omega)]; exact hc 1 _ rfl, by rw [← add_field _ _ 2 (by omega)]; exact hc 2 _ rfl, by rw [← add_field _ _ 3 (by omega)]; exact hc 3 _ rfl, by rw [← add_field _ _ 4 (by omega)]; exact hc 4 _ rfl, by rw [← add_field _ _ 5 (by omega)]; exact hc 5 _ rfl⟩
structure S23 where
 f0 : ByteArray
 f1 : ByteArray
 f2 : Int
 f3 : Int
 f4 : Int
 f5 : Int
def k23 : Kd S23 := Kd.iso (Kd.pair Kd.string (Kd.pair Kd.string (Kd.pair (Kd.int .i64) (Kd.pair (Kd.int .i64) (Kd.pair (Kd.int .i64) (Kd.int .i64)))))) (fun x : S23 => (x.f0, x.f1, x.f2, x.f3, x.f4, x.f5))
theorem k23_open {w : World} {x : S23} {cs : List Value} (h : k23.K w x cs) : cs = [.string x.f0, .string x.f1, .int .i64 x.f2, .int .i64 x.f3, .int .i64 x.f4, .int .i64 x.f5] := by
 obtain ⟨_, _, rfl, rfl, ⟨_, _, rfl, rfl, ⟨_, _, rfl, rfl, ⟨_, _, rfl, rfl, ⟨_, _, rfl, rfl, rfl⟩⟩⟩⟩⟩ := h
 exact rfl
end Go.Proofs.YtbccjcdmpiolpaaDoor.T
end
section
namespace Go.Proofs.YtbccjcdmpiolpaaDoor.T
open Go.ChangeShapes Go.WideShapes Go.RowKit
abbrev theLaid : List (String × DataW Unit) := [("plenum/codec.kinds", Rows.laid_plenum_codec_kinds)]
theorem lvName : Tryd.prog.globalNamed "plenum/codec.kinds" = some 0 := by kernel_rfl
theorem lvType : (Tryd.prog.globals[0]?).map (·.type) = some 125 := by kernel_rfl
theorem lvUnder : Tryd.prog.underlying 125 = some (.array 5 3) := by kernel_rfl
theorem lvUnderE : Tryd.prog.underlying 3 = some (.int .i64) := by kernel_rfl
theorem lvCells : Tryd.prog.cellsOf 125 = 5 := by kernel_rfl
theorem lvCellsE : Tryd.prog.cellsOf 3 = 1 := by kernel_rfl
theorem int_of_trod {H : Type} {enc : TypeId × Value → H} {P : Program} {w : World} {base : Nat} {sp : Nat → Bool} {held : Bool} {fuel : Nat} {t : TypeId} {k : IntKind} {c : Value} {y : DataW H × List MemPlace}
  (ht : P.underlying t = some (.int k)) (h : DataW.trod enc P w base sp held fuel t [c] = some y) : ∃ n, c = .int k n ∧ y = (.lit (.int k n), []) := by
 cases fuel with
 | zero => simp [DataW.trod] at h
 | succ fuel =>
  cases c <;> simp [DataW.trod, ht] at h
  rename_i k' n
  obtain ⟨⟨rfl, _⟩, rfl⟩ := h
  exact ⟨n, rfl, rfl⟩
def cellsL : Array Value := #[.int .i64 2, .int .i64 3, .int .i64 4, .int .i64 5, .int .i64 6]
theorem cells_of_laid {W : World} (h : laidMet Tryd.prog theLaid W) : W.var? Tryd.prog "plenum/codec.kinds" = some cellsL := by
 obtain ⟨ps, ⟨g, t, cs, fuel, p, q, hg, ht, hvar, hd, _, _⟩, _⟩ := h
 obtain rfl := Option.some.inj (lvName.symm.trans hg)
 obtain rfl := Option.some.inj (lvType.symm.trans ht)
 rw [hvar]
 congr 1
 obtain ⟨l⟩ := cs
 cases fuel with
 | zero => simp [DataW.trod] at hd
 | succ fuel =>
  simp only [DataW.trod, lvUnder, lvCells, lvCellsE] at hd
  split at hd
  ·rename_i hl
   obtain ⟨c0, c1, c2, c3, c4, rfl⟩ : ∃ c0 c1 c2 c3 c4, l = [c0, c1, c2, c3, c4] := by
    match l, hl with
    | [a, b, c, d, e], _ => exact ⟨a, b, c, d, e, rfl⟩
   have e : List.range 5 = [0, 1, 2, 3, 4] := rfl
   rw [e] at hd
   simp only [Option.map_eq_some_iff, List.mapM_cons, List.mapM_nil, Option.bind_eq_bind, Option.bind_eq_some_iff, Option.pure_def, Option.some.injEq] at hd
   obtain ⟨xs, ⟨y0, h0, _, ⟨y1, h1, _, ⟨y2, h2, _, ⟨y3, h3, _, ⟨y4, h4, _, rfl, rfl⟩, rfl⟩, rfl⟩, rfl⟩, rfl⟩, hx⟩ := hd
   obtain ⟨n0, rfl, rfl⟩ := int_of_trod lvUnderE h0
   obtain ⟨n1, rfl, rfl⟩ := int_of_trod lvUnderE h1
   obtain ⟨n2, rfl, rfl⟩ := int_of_trod lvUnderE h2
   obtain ⟨n3, rfl, rfl⟩ := int_of_trod lvUnderE h3
   obtain ⟨n4, rfl, rfl⟩ := int_of_trod lvUnderE h4
   simp [Rows.laid_plenum_codec_kinds] at hx
   obtain ⟨⟨rfl, rfl, rfl, rfl, rfl⟩, _⟩ := hx
   rfl
  ·cases hd
theorem glob_of_laid {W : World} (h : laidMet Tryd.prog theLaid W) : Glob W := by
 have hv := cells_of_laid h
 obtain ⟨ps, ⟨g, t, cs, fuel, p, q, hg, ht, hvar, hd, hq, hps⟩, _, hrow⟩ := h
 obtain rfl := Option.some.inj (lvName.symm.trans hg)
 obtain rfl := Option.some.inj (hvar.symm.trans hv)
 subst hps
 obtain ⟨⟨c, t', hc⟩, _⟩ := hrow 0 0 (List.mem_append_left _ (List.mem_append_left _ (by decide)))
 have hv' := hv
 unfold World.var? at hv'
 rw [lvName] at hv'
 simp only [Option.bind_some, hc] at hv'
 obtain rfl := Option.some.inj hv'
 exact ⟨t', hc⟩
noncomputable def laidWorld (os : Os) : World :=
 { World.holding Tryd.prog os ⟨#[], #[], []⟩ with heap := (World.holding Tryd.prog os ⟨#[], #[], []⟩).heap.modify 0 fun
   | .cells _ t frozen => .cells cellsL t frozen
   | o => o }
theorem laidWorld_row (os : Os) (args : Array Value) : ((laidWorld os).forCall (fun _ _ => 0) ⟨#[], args, []⟩).memory.heap[0]? = some (.cells cellsL 125 (0, 0)) := by kernel_rfl
set_option maxRecDepth 100000 in
theorem laidWorld_met (os : Os) (args : Array Value) : laidMet Tryd.prog theLaid ((laidWorld os).forCall (fun _ _ => 0) ⟨#[], args, []⟩).memory := by
 refine ⟨_, ⟨0, 125, cellsL, 8, [], [], lvName, lvType, ?_, ?_, rfl, rfl⟩, by decide, fun b off h => ?_⟩
 ·unfold World.var?
  rw [lvName]
  simp only [Option.bind_some, laidWorld_row os args]
 ·kernel_rfl
 ·have h' : MemPlace.cell b off ∈ [MemPlace.cell 0 0, .cell 0 1, .cell 0 2, .cell 0 3, .cell 0 4] := h
  have hb : b = 0 := by
   simp at h'
   omega
  subst hb
  refine ⟨⟨_, _, laidWorld_row os args⟩, fun u v hc => ?_⟩
  simp only [World.cell?, laidWorld_row os args] at hc
  simp at h'
  rcases h' with rfl | rfl | rfl | rfl | rfl <;> simp [cellsL] at hc
end Go.Proofs.YtbccjcdmpiolpaaDoor.T
end
section
namespace Go.Proofs.YtbccjcdmpiolpaaDoor.T
open Go.RowKit Go.Proofs.YtbccjcdmpiolpaaDoorW.PrintWords Go.Proofs.YtbccjcdmpiolpaaDoorW.PrintLast Go.Proofs.YtbccjcdmpiolpaaDoorW.PrintMore
attribute [local go_sem] max2_int min2_int max_two min_two max_three min_three max_four min_four
set_option linter.unusedVariables false
set_option linter.unusedSimpArgs false
theorem eqA30 (d : Nat) (w : World) (x0 y0 : Int) (x1 y1 : Int) :
  (Op.equalIn (d + 2) 30 (.agg #[.int .i64 x0, .int .i64 x1]) (.agg #[.int .i64 y0, .int .i64 y1])).run Tryd.prog w = .ok (x0 == y0 && (x1 == y1)) w := by
 refine eqA_of Tryd.underlying30 (by kernel_rfl) ?_
 refine eqf_cons (by rfl) (by go_simp; rfl) (by go_simp; rfl) (by go_simp) ?_
 exact eqf_last (by rfl) (by go_simp; rfl) (by go_simp; rfl) (by go_simp)
theorem eqA44 (d : Nat) (w : World) (x0 y0 : Int) (x1 y1 : Int) (x2 y2 : Int) (x3 y3 : Int) (x4 y4 : Int) (x5 y5 : Int) :
  (Op.equalIn (d + 3) 44 (.agg #[.int .i64 x0, .int .i64 x1, .int .i64 x2, .int .i64 x3, .int .i64 x4, .int .i64 x5]) (.agg #[.int .i64 y0, .int .i64 y1, .int .i64 y2, .int .i64 y3, .int .i64 y4, .int .i64 y5])).run Tryd.prog w = .ok (x0 == y0 && (x1 == y1 && ((x2 == y2 && (x3 == y3)) && (x4 == y4 && (x5 == y5))))) w := by
 refine eqA_of Tryd.underlying44 (by kernel_rfl) ?_
 refine eqf_cons (by rfl) (by go_simp; rfl) (by go_simp; rfl) (by go_simp) ?_
 refine eqf_cons (by rfl) (by go_simp; rfl) (by go_simp; rfl) (by go_simp) ?_
 refine eqf_cons (by rfl) (by go_simp) (by go_simp) (eqA30 (d + 0) w _ _ _ _) ?_
 refine eqf_cons (by rfl) (by go_simp; rfl) (by go_simp; rfl) (by go_simp) ?_
 exact eqf_last (by rfl) (by go_simp; rfl) (by go_simp; rfl) (by go_simp)
end Go.Proofs.YtbccjcdmpiolpaaDoor.T
end
section
namespace Go.Proofs.YtbccjcdmpiolpaaDoor.T
open Go.RowKit Go.Proofs.YtbccjcdmpiolpaaDoorW.PrintWords Go.Proofs.YtbccjcdmpiolpaaDoorW.PrintLast Go.Proofs.YtbccjcdmpiolpaaDoorW.PrintMore
attribute [local go_sem] max2_int min2_int max_two min_two max_three min_three max_four min_four
set_option linter.unusedVariables false
set_option linter.unusedSimpArgs false
attribute [local go_sem high] eqA44
def plenumref41_Same.l0 : Nat → List (S44) → List (S44) → Int → Option (Bool)
 | 0, _, _, _ => none
 | k + 1, x0, x1, x5 => if x5 < (x0.length : Int) then (if 0 ≤ x5 then (if x5 < (x1.length : Int) then (if (!(((rd_T44 x0 x5).f0) == ((rd_T44 x1 x5).f0)) || (!(((rd_T44 x0 x5).f1) == ((rd_T44 x1 x5).f1)) || ((!(((rd_T44 x0 x5).f2.f0) == ((rd_T44 x1 x5).f2.f0)) || (!(((rd_T44 x0 x5).f2.f1) == ((rd_T44 x1 x5).f2.f1)))) || (!(((rd_T44 x0 x5).f3) == ((rd_T44 x1 x5).f3)) || (!(((rd_T44 x0 x5).f4) == ((rd_T44 x1 x5).f4))))))) = true then (some false) else (plenumref41_Same.l0 k x0 x1 (wrap64 (x5 + 1)))) else (none)) else (none)) else (some true)
def plenumref41_Same.f (k : Nat) (l0 : List (S44)) (l1 : List (S44)) : Option (Bool) := if (l0.length : Int) = (l1.length : Int) then (plenumref41_Same.l0 k l0 l1 0) else (some false)
set_option maxHeartbeats 8000000 in
set_option maxRecDepth 100000 in
theorem plenumref41_Same.calls (k : Nat) (A0 : Option Addr) (c0 : Nat) (l0 : List (S44)) (A1 : Option Addr) (c1 : Nat) (l1 : List (S44)) (r : Bool) (w : World) (hG : Glob w) (hr0 : Kd.C k44 w A0 l0.length l0) (hc0 : l0.length ≤ c0) (hr1 : Kd.C k44 w A1 l1.length l1) (hc1 : l1.length ≤ c1) (h : plenumref41_Same.f k l0 l1 = some r) :
  Calls Tryd.prog 21 #[.slice A0 l0.length c0, .slice A1 l1.length c1] w fun e w' => e = .returned (.bool r) ∧ Drawn0 w w' := by
 have hu44 := Tryd.underlying44
 have HG := Aside0.mk hG
 clear hG
 have HR0 := Aside0.mk hr0
 have HC0 := Aside0.mk hc0
 clear hr0 hc0
 have HR1 := Aside0.mk hr1
 have HC1 := Aside0.mk hc1
 clear hr1 hc1
 have H : (if (l0.length : Int) = (l1.length : Int) then (plenumref41_Same.l0 k l0 l1 0) else (some false)) = some r := h
 clear h
 by_cases c3 : (l0.length : Int) = (l1.length : Int)
 ·rw [if_pos c3] at H
  have c3b0 : ((l0.length : Int) == (l1.length : Int)) = true := beq_iff_eq.mpr c3
  have c3b1 : ((l0.length : Int) != (l1.length : Int)) = false := bne_eq_false_iff_eq.mpr c3
  have c3b2 : (l0.length == l1.length) = true := by first | simpa using c3 | (simp at c3 ⊢; omega)
  clear c3
  have H' := Aside0.mk H
  clear H
  go_enter Tryd.func21, Tryd.ntmps21
  go_wp2
  repeat (go_quiet (fail); try go_wp2)
  go_loopg [5] k (fun kq v5 w' => ∃ (x5_1 : Int), v5 = .int .i64 x5_1 ∧ Aside0 (plenumref41_Same.l0 kq l0 l1 x5_1 = some r) ∧ Aside0 (kq ≤ k) ∧ Drawn0 w w')
  case atStart => exact ⟨(0), (by first | rfl | (simp; done) | (simp [*]; done)), H', ⟨Nat.le_refl _⟩, by repeat (first | exact Drawn0.refl _ | apply Drawn0.step)⟩
  case round =>
   clear H'
   try clear c1
   try clear c2
   try clear p2
   try clear c3
   try clear c3b0
   try clear c3b1
   try clear c3b2
   obtain ⟨x5_1, rfl, HA, HK1, ⟨m1, rfl⟩⟩ := hrel
   cases gk with
   | zero => exact absurd HA.out (by simp [plenumref41_Same.l0])
   | succ k1 =>
    have H := HA.out
    clear HA
    simp only [plenumref41_Same.l0] at H
    by_cases c4 : x5_1 < (l0.length : Int)
    ·rw [if_pos c4] at H
     have c4b0 : decide (x5_1 < (l0.length : Int)) = true := decide_eq_true c4
     clear c4
     by_cases c5 : 0 ≤ x5_1
     ·rw [if_pos c5] at H
      have c5b0 : decide (0 ≤ x5_1) = true := decide_eq_true c5
      clear c5
      by_cases c6 : x5_1 < (l1.length : Int)
      ·rw [if_pos c6] at H
       have c6b0 : decide (x5_1 < (l1.length : Int)) = true := decide_eq_true c6
       clear c6
       by_cases c7 : (!(((rd_T44 l0 x5_1).f0) == ((rd_T44 l1 x5_1).f0)) || (!(((rd_T44 l0 x5_1).f1) == ((rd_T44 l1 x5_1).f1)) || ((!(((rd_T44 l0 x5_1).f2.f0) == ((rd_T44 l1 x5_1).f2.f0)) || (!(((rd_T44 l0 x5_1).f2.f1) == ((rd_T44 l1 x5_1).f2.f1)))) || (!(((rd_T44 l0 x5_1).f3) == ((rd_T44 l1 x5_1).f3)) || (!(((rd_T44 l0 x5_1).f4) == ((rd_T44 l1 x5_1).f4))))))) = true
       ·rw [if_pos c7] at H
        have c7b0 : (!(((rd_T44 l0 x5_1).f0) == ((rd_T44 l1 x5_1).f0)) || (!(((rd_T44 l0 x5_1).f1) == ((rd_T44 l1 x5_1).f1)) || ((!(((rd_T44 l0 x5_1).f2.f0) == ((rd_T44 l1 x5_1).f2.f0)) || (!(((rd_T44 l0 x5_1).f2.f1) == ((rd_T44 l1 x5_1).f2.f1)))) || (!(((rd_T44 l0 x5_1).f3) == ((rd_T44 l1 x5_1).f3)) || (!(((rd_T44 l0 x5_1).f4) == ((rd_T44 l1 x5_1).f4))))))) = true := c7
        clear c7
        obtain rfl := Option.some.inj H
        have p145 : 0 ≤ (x5_1 : Int) := of_decide_eq_true (by first | (with_reducible assumption) | assumption)
        have q145 : x5_1 < (l0.length : Int) := of_decide_eq_true (by first | (with_reducible assumption) | assumption)
        obtain ⟨ad145, e145, hx145_0, hx145_1, hx145_2, hx145_3, hx145_4, hx145_5⟩ := at_T44 HR0.out x5_1 p145 q145
        cases e145
        replace p145 := eq_true p145
        replace q145 := eq_true q145
        have p146 : 0 ≤ (x5_1 : Int) := of_decide_eq_true (by first | (with_reducible assumption) | assumption)
        have q146 : x5_1 < (l1.length : Int) := of_decide_eq_true (by first | (with_reducible assumption) | assumption)
        obtain ⟨ad146, e146, hx146_0, hx146_1, hx146_2, hx146_3, hx146_4, hx146_5⟩ := at_T44 HR1.out x5_1 p146 q146
        cases e146
        replace p146 := eq_true p146
        replace q146 := eq_true q146
        go_wp2
        repeat (go_quiet (fail); try go_wp2)
        go_ret
        exact ⟨by first | rfl | (simp; done) | (simp [*]; done), by repeat (first | exact Drawn0.refl _ | apply Drawn0.step)⟩
       ·rw [if_neg c7] at H
        have c7b0 : (!(((rd_T44 l0 x5_1).f0) == ((rd_T44 l1 x5_1).f0)) || (!(((rd_T44 l0 x5_1).f1) == ((rd_T44 l1 x5_1).f1)) || ((!(((rd_T44 l0 x5_1).f2.f0) == ((rd_T44 l1 x5_1).f2.f0)) || (!(((rd_T44 l0 x5_1).f2.f1) == ((rd_T44 l1 x5_1).f2.f1)))) || (!(((rd_T44 l0 x5_1).f3) == ((rd_T44 l1 x5_1).f3)) || (!(((rd_T44 l0 x5_1).f4) == ((rd_T44 l1 x5_1).f4))))))) = false := by simpa using c7
        clear c7
        have H' := Aside0.mk H
        clear H
        have p145 : 0 ≤ (x5_1 : Int) := of_decide_eq_true (by first | (with_reducible assumption) | assumption)
        have q145 : x5_1 < (l0.length : Int) := of_decide_eq_true (by first | (with_reducible assumption) | assumption)
        obtain ⟨ad145, e145, hx145_0, hx145_1, hx145_2, hx145_3, hx145_4, hx145_5⟩ := at_T44 HR0.out x5_1 p145 q145
        cases e145
        replace p145 := eq_true p145
        replace q145 := eq_true q145
        have p146 : 0 ≤ (x5_1 : Int) := of_decide_eq_true (by first | (with_reducible assumption) | assumption)
        have q146 : x5_1 < (l1.length : Int) := of_decide_eq_true (by first | (with_reducible assumption) | assumption)
        obtain ⟨ad146, e146, hx146_0, hx146_1, hx146_2, hx146_3, hx146_4, hx146_5⟩ := at_T44 HR1.out x5_1 p146 q146
        cases e146
        replace p146 := eq_true p146
        replace q146 := eq_true q146
        go_wp2
        repeat (go_quiet (fail); try go_wp2)
        go_roundg k1
        case measure => have := HK1.out; omega
        case rel => exact ⟨(wrap64 (x5_1 + 1)), (by first | rfl | (simp; done) | (simp [*]; done)), H', ⟨by have := HK1.out; omega⟩, by repeat (first | exact Drawn0.refl _ | apply Drawn0.step)⟩
      ·rw [if_neg c6] at H
       exact absurd H (by simp)
     ·rw [if_neg c5] at H
      exact absurd H (by simp)
    ·rw [if_neg c4] at H
     have c4b0 : decide (x5_1 < (l0.length : Int)) = false := decide_eq_false c4
     clear c4
     obtain rfl := Option.some.inj H
     go_wp2
     repeat (go_quiet (fail); try go_wp2)
     go_ret
     exact ⟨by first | rfl | (simp; done) | (simp [*]; done), by repeat (first | exact Drawn0.refl _ | apply Drawn0.step)⟩
 ·rw [if_neg c3] at H
  have c3b0 : ((l0.length : Int) == (l1.length : Int)) = false := beq_eq_false_iff_ne.mpr c3
  have c3b1 : ((l0.length : Int) != (l1.length : Int)) = true := bne_iff_ne.mpr c3
  have c3b2 : (l0.length == l1.length) = false := by first | simpa using c3 | (simp at c3 ⊢; omega)
  obtain rfl := Option.some.inj H
  go_enter Tryd.func21, Tryd.ntmps21
  go_wp2
  repeat (go_quiet (fail); try go_wp2)
  go_ret
  exact ⟨by first | rfl | (simp; done) | (simp [*]; done), by repeat (first | exact Drawn0.refl _ | apply Drawn0.step)⟩
end Go.Proofs.YtbccjcdmpiolpaaDoor.T
end
section
namespace Go.Proofs.YtbccjcdmpiolpaaDoor.T
open Go.RowKit Go.Proofs.YtbccjcdmpiolpaaDoorW.PrintWords Go.Proofs.YtbccjcdmpiolpaaDoorW.PrintLast Go.Proofs.YtbccjcdmpiolpaaDoorW.PrintMore
set_option linter.unusedVariables false
set_option linter.unusedSimpArgs false
attribute [local go_sem] max2_int min2_int max_two min_two
structure Lg where
 nm : ByteArray
 pt : ByteArray
 way : Int
 iv : Int
 st : Int
 sz : Int
 now : Int
 valid : Bool
 vk : Int
 vn : Int
 q : Int
 ra : Int
 total : Int
 recs : List S44
structure Rot (sz : Int) (ring : List S44) (f : Nat) (recs : List S44) : Prop where
 recs : recs = ring.drop f ++ ring.take f
 lt : f = 0 ∨ f < ring.length
 full : (ring.length : Int) < sz → f = 0
abbrev LC (nm pt : ByteArray) (way iv st sz now : Int) (valid : Bool) (vk vn q ra total : Int) (v : Value) (f : Int) : Array Value := #[.string nm, .string pt, .int .i64 way, .int .i64 iv, .int .i64 st, .int .i64 sz, .int .i64 now, .bool valid, .int .i64 vk, .int .i64 vn, .int .i64 q, .int .i64 ra, .int .i64 total, v, .int .i64 f]
def LogAt (B g : Nat) (L : Lg) (w : World) : Prop := ∃ v ring f, w.heap[g]? = some (.cells (LC L.nm L.pt L.way L.iv L.st L.sz L.now L.valid L.vk L.vn L.q L.ra L.total v ((f : Nat) : Int)) 68 (0, 0)) ∧ B ≤ g ∧ Kd.R k44 44 w B (fun _ => True) v ring ∧ Rot L.sz ring f L.recs
structure KeepL (w w' : World) (g : Nat) : Prop where
 size : w.heap.size ≤ w'.heap.size
 keep : ∀ (k : Nat) cs t, w.heap[k]? = some (.cells cs t (0, 0)) → t ≠ 44 → k ≠ g → w'.heap[k]? = some (.cells cs t (0, 0))
theorem KeepL.refl (w : World) (g : Nat) : KeepL w w g := ⟨Nat.le_refl _, fun _ _ _ h _ _ => h⟩
theorem KeepL.trans {w w1 w2 : World} {g : Nat} (h : KeepL w w1 g) (k : KeepL w1 w2 g) : KeepL w w2 g := ⟨Nat.le_trans h.size k.size, fun j cs t hj h1 h2 => k.keep j cs t (h.keep j cs t hj h1 h2) h1 h2⟩
theorem KeepL.of_below {w w1 : World} (h : Below w.heap.size w w1) (g : Nat) : KeepL w w1 g := ⟨h.size, fun j cs t hj _ _ => blk_below hj h⟩
theorem KeepL.set {w w1 : World} {g : Nat} (h : KeepL w w1 g) (j : Nat) (u : Value) : KeepL w (w1.setCell ⟨g, j, none⟩ u) g := ⟨by simpa [World.setCell] using h.size, fun k cs t hk h1 h2 => blk_far (h.keep k cs t hk h1 h2) (p := ⟨g, j, none⟩) h2 u⟩
theorem KeepL.drew {w w1 : World} {g : Nat} (h : KeepL w w1 g) : KeepL w w1.drew g := ⟨h.size, h.keep⟩
theorem LogAt.below {B g : Nat} {L : Lg} {w w1 : World} (h : LogAt B g L w) (hb : Below w.heap.size w w1) : LogAt B g L w1 := by
 obtain ⟨v, ring, f, hv, hg, ho, hr⟩ := h
 exact ⟨v, ring, f, blk_below hv hb, hg, Kd.R_below ho hb, hr⟩
theorem LogAt.drew {B g : Nat} {L : Lg} {w : World} (h : LogAt B g L w) : LogAt B g L w.drew := by
 obtain ⟨v, ring, f, hv, hg, ho, hr⟩ := h
 exact ⟨v, ring, f, blk_drew hv, hg, Kd.R_drew ho, hr⟩
theorem LogAt.lower {B B' g : Nat} {L : Lg} {w : World} (h : LogAt B g L w) (hb : B' ≤ B) : LogAt B' g L w := by
 obtain ⟨v, ring, f, hv, hg, ho, hr⟩ := h
 exact ⟨v, ring, f, hv, Nat.le_trans hb hg, Kd.R_lower ho hb, hr⟩
theorem LogAt.lt {B g : Nat} {L : Lg} {w : World} (h : LogAt B g L w) : g < w.heap.size := by
 obtain ⟨v, ring, f, hv, _⟩ := h
 exact blk_lt hv
theorem R_setL {B g : Nat} {w : World} {cs : Array Value} {v : Value} {ring : List S44} (hv : w.heap[g]? = some (.cells cs 68 (0, 0))) (ho : Kd.R k44 44 w B (fun _ => True) v ring) (j : Nat) (u : Value) : Kd.R k44 44 (w.setCell ⟨g, j, none⟩ u) B (fun _ => True) v ring :=
 Kd.R_set ho hv (fun q hq => by
  rcases List.mem_cons.1 hq with rfl | hq
  ·decide
  ·cases hq) j u
theorem info44 : (Tryd.prog.info? 44).map (fun i => (i.zero, i.size, i.bytes)) = some (some (.agg #[(.int .i64 0), (.int .i64 0), (.int .i64 0), (.int .i64 0), (.int .i64 0), (.int .i64 0)]), 6, 48) := by kernel_rfl
structure CatInv (w : World) (v : Value) (xs : List S44) (wr : World) : Prop where
 own : Kd.R k44 44 wr w.heap.size (fun _ => True) v xs
 bel : Below w.heap.size w wr
def GrowPost (w : World) (e : Ending) (w' : World) : Prop := ∃ v : Value, e = .returned v ∧ CatInv w v [] w'
def CatPost (w : World) (xs : List S44) (e : Ending) (w' : World) : Prop := ∃ v : Value, e = .returned v ∧ CatInv w v xs w'
set_option maxHeartbeats 16000000 in
set_option maxRecDepth 100000 in
theorem grow_calls (n : Nat) (w : World) (hn : n ≤ 1000000) : Calls Tryd.prog 50 #[.slice none 0 0, .int .i64 (n : Int)] w fun e w' => GrowPost w e w' := by
 have HB := Aside0.mk (Below.refl w.heap.size w)
 have hb0 : decide ((n : Int) < 0) = false := decide_eq_false (by omega)
 by_cases hz : n = 0
 ·subst hz
  clear hb0 hn
  go_enter Tryd.func50, Tryd.ntmps50
  go_wp2
  go_ret
  exact ⟨_, rfl, ⟨Kd.R_nil _ _ _ _ _, HB.out⟩⟩
 ·have hp : 0 < n := by omega
  have hb1 : decide (0 < n) = true := decide_eq_true hp
  clear hz
  go_enter Tryd.func50, Tryd.ntmps50
  go_wp2_with (at_builtin; refine Kd.R_append_zeros k44 (w0 := w) w.heap.size rfl (.tmp 20) (.tmp 21) 39 3 44 (.agg #[(.int .i64 0), (.int .i64 0), (.int .i64 0), (.int .i64 0), (.int .i64 0), (.int .i64 0)]) 48 rfl Tryd.underlying39 Tryd.underlying3 info44 rfl (by decide) (by omega) (.slice none 0 0) [] z44 (n : Int) (fun _ => True) rfl rfl (k44_mkM _ _ _ z44) (fun _ _ => trivial) (Kd.R_nil _ _ _ _ _) (by omega) HB.out (Nat.le_refl _) (by simp; omega) ?_; intro v1 w9 ho hb hg hat; rw [List.nil_append] at ho; obtain ⟨A1, c1, e1⟩ := Kd.R_slice ho; subst e1; have HT := Aside0.mk (Kd.R_take (m := 0) ho (Nat.zero_le _)); have HB2 := Aside0.mk hb; clear ho hb hg hat)
  go_ret
  exact ⟨_, rfl, ⟨HT.out, HB2.out⟩⟩
set_option maxHeartbeats 16000000 in
set_option maxRecDepth 100000 in
theorem concat_calls (A0 : Option Addr) (c0 : Nat) (l0 : List S44) (A1 : Option Addr) (c1 : Nat) (l1 : List S44) (g : Nat) (w : World) (hg : w.heap[g]? = some (.cells #[.slice A0 l0.length c0, .slice A1 l1.length c1] 39 (0, 0)))
  (hr0 : Kd.C k44 w A0 l0.length l0) (hc0 : l0.length ≤ c0) (hr1 : Kd.C k44 w A1 l1.length l1) (hc1 : l1.length ≤ c1) (hn : l0.length + l1.length ≤ 1000000) :
  Calls Tryd.prog 25 #[.slice (some ⟨g, 0, none⟩) 2 2] w fun e w' => CatPost w (l0 ++ l1) e w' := by
 have HR0 := Aside0.mk hr0
 have HR1 := Aside0.mk hr1
 have HG := Aside0.mk hg
 clear hr0 hr1 hg
 have z0 := (blk_cell HG.out 0).trans rfl
 have z1 := (blk_cell HG.out 1).trans rfl
 have hb0 : decide ((l0.length : Int) < 0) = false := decide_eq_false (by omega)
 have hb1 : decide ((l0.length : Int) + (l1.length : Int) < 0) = false := decide_eq_false (by omega)
 go_enter Tryd.func25, Tryd.ntmps25
 go_wp2
 go_loop [3, 11] (fun s i => (i = .int .i64 0 ∧ s = .int .i64 0) ∨ (i = .int .i64 1 ∧ s = .int .i64 (l0.length : Int)) ∨ (i = .int .i64 2 ∧ s = .int .i64 ((l0.length : Int) + (l1.length : Int)))) (fun _ i => 2 - (intOf i).toNat)
 case atStart => exact Or.inl ⟨rfl, rfl⟩
 case round =>
  rcases hrel with ⟨rfl, rfl⟩ | ⟨rfl, rfl⟩ | ⟨rfl, rfl⟩
  ·go_wp2
   exact ⟨Or.inr (Or.inl ⟨rfl, by first | rfl | (simp; done)⟩), by simp [RowKit.intOf]⟩
  ·go_wp2
   exact ⟨Or.inr (Or.inr ⟨rfl, by first | rfl | (simp; done)⟩), by simp [RowKit.intOf]⟩
  ·clear hb0 hb1
   have HGr := Aside0.mk (fun W => grow_calls (l0.length + l1.length) W hn)
   have hcast := Aside0.mk (show ((l0.length : Int) + (l1.length : Int)) = ((l0.length + l1.length : Nat) : Int) by omega)
   go_wp2_with (go_at_call 50; rw [hcast.out]; (with_reducible refine (HGr.out _).mono ?_); rintro e w1 ⟨v, rfl, hv⟩; have HI0 := Aside0.mk hv; clear hv)
   clear hcast HGr
   go_loopw [6, 27] (fun v i wr => (i = .int .i64 0 ∧ Aside0 (CatInv w v [] wr)) ∨ (i = .int .i64 1 ∧ Aside0 (CatInv w v l0 wr)) ∨ (i = .int .i64 2 ∧ Aside0 (CatInv w v (l0 ++ l1) wr))) (fun _ i _ => 2 - (intOf i).toNat)
   case atStart => exact Or.inl ⟨rfl, HI0⟩
   case round =>
    clear HI0 z0 z1
    rcases hrel with ⟨rfl, HI⟩ | ⟨rfl, HI⟩ | ⟨rfl, HI⟩
    ·have z0 := (blk_cell (blk_below HG.out HI.out.bel) 0).trans rfl
     go_wp2_with (at_builtin; refine Kd.R_append_rows k44 (w0 := w) w.heap.size rfl (.tmp 31) (.tmp 32) 39 44 (.agg #[(.int .i64 0), (.int .i64 0), (.int .i64 0), (.int .i64 0), (.int .i64 0), (.int .i64 0)]) 48 rfl Tryd.underlying39 info44 rfl (by decide) (by omega) u6 [] l0 _ _ _ (fun _ => True) (fun _ => False) rfl rfl HI.out.own (Kd.C_below HR0.out HI.out.bel) (fun _ _ h => h) (fun _ h => h.elim) (fun _ _ => trivial) HI.out.bel HI.out.bel.size (by first | omega | (simp; omega)) ?_; intro v1 w9 ho hb hg hat; have HN1 := Aside0.mk (CatInv.mk ho hb); clear ho hb hg hat; rw [List.nil_append] at HN1)
     exact ⟨Or.inr (Or.inl ⟨rfl, HN1⟩), by simp [RowKit.intOf]⟩
    ·have z1 := (blk_cell (blk_below HG.out HI.out.bel) 1).trans rfl
     go_wp2_with (at_builtin; refine Kd.R_append_rows k44 (w0 := w) w.heap.size rfl (.tmp 31) (.tmp 32) 39 44 (.agg #[(.int .i64 0), (.int .i64 0), (.int .i64 0), (.int .i64 0), (.int .i64 0), (.int .i64 0)]) 48 rfl Tryd.underlying39 info44 rfl (by decide) (by omega) u6 l0 l1 _ _ _ (fun _ => True) (fun _ => False) rfl rfl HI.out.own (Kd.C_below HR1.out HI.out.bel) (fun _ _ h => h) (fun _ h => h.elim) (fun _ _ => trivial) HI.out.bel HI.out.bel.size (by first | omega | (simp; omega)) ?_; intro v1 w9 ho hb hg hat; have HN1 := Aside0.mk (CatInv.mk ho hb); clear ho hb hg hat)
     exact ⟨Or.inr (Or.inr ⟨rfl, HN1⟩), by simp [RowKit.intOf]⟩
    ·go_wp2
     go_ret
     exact ⟨_, rfl, HI.out⟩
theorem cutD {w : World} {A : Option Addr} {c : Nat} {xs : List S44} (h : Kd.C k44 w A xs.length xs) (hc : xs.length ≤ c) (j : Nat) (hj : j ≤ xs.length) : ∃ A' c', (xs.drop j).length ≤ c' ∧ (∀ W : World, (Instr.slice 39 (.slice A xs.length c) (some (.int .i64 (j : Int))) none none).run Tryd.prog W = .ok (.slice A' (xs.drop j).length c') W) ∧ ∀ w1, Kd.C k44 w1 A xs.length xs → Kd.C k44 w1 A' (xs.drop j).length (xs.drop j) := by
 obtain ⟨i0, hi, hzz⟩ := Option.map_eq_some_iff.1 info44
 simp only [Prod.mk.injEq] at hzz
 refine ⟨(if c = j then A else A.map (·.add (j * 6))), c - j, by rw [List.length_drop]; omega, fun W => ?_, fun w1 h1 => Kd.C_drop h1 hj hc⟩
 have := cut_from (P := Tryd.prog) 39 44 .i64 Tryd.underlying39 hi 6 hzz.2.1 A xs.length c (j : Int) (by omega) (by omega) W
 rw [Int.toNat_natCast] at this
 rw [this, List.length_drop]
theorem cutT {A : Option Addr} {c : Nat} {xs : List S44} (hc : xs.length ≤ c) (j : Nat) (hj : j ≤ xs.length) : (xs.take j).length ≤ c ∧ (∀ W : World, (Instr.slice 39 (.slice A xs.length c) none (some (.int .i64 (j : Int))) none).run Tryd.prog W = .ok (.slice A (xs.take j).length c) W) ∧ ∀ w1, Kd.C k44 w1 A xs.length xs → Kd.C k44 w1 A (xs.take j).length (xs.take j) := by
 obtain ⟨i0, hi, hzz⟩ := Option.map_eq_some_iff.1 info44
 simp only [Prod.mk.injEq] at hzz
 refine ⟨by rw [List.length_take]; omega, fun W => ?_, fun w1 h1 => Kd.C_take h1 hj⟩
 have := cut_to (P := Tryd.prog) 39 44 .i64 Tryd.underlying39 hi A xs.length c (j : Int) (by omega) (by omega) hc W
 rw [Int.toNat_natCast] at this
 rw [this, List.length_take, Nat.min_eq_left hj]
set_option maxHeartbeats 16000000 in
set_option maxRecDepth 100000 in
theorem new_calls (nm pt : ByteArray) (way iv st sz at_ : Int) (w : World) :
  Calls Tryd.prog 10 #[.agg #[.string nm, .string pt, .int .i64 way, .int .i64 iv, .int .i64 st, .int .i64 sz], .int .i64 at_] w fun e w' => ∃ g, e = .returned (.pointer (some ⟨g, 0, none⟩)) ∧ LogAt w.heap.size g ⟨nm, pt, way, iv, st, sz, at_, false, 0, 0, 0, 0, 0, []⟩ w' ∧ Below w.heap.size w w' := by
 go_enter Tryd.func10, Tryd.ntmps10
 go_wp2_with (first | ((with_reducible refine gate_dst (N := 2) rfl ?_); refine box_event ?hg (N := 2) ?hd (cs := #[.string nm, .string pt, .int .i64 way, .int .i64 iv, .int .i64 st, .int .i64 sz]) (t := 23) ?hr ?_; (case hd => rfl); (case hg => rfl); (case hr => first | (go_simp; done) | (go_simp; rfl)); intro gr hgr w1 hbox hb; have BR := Aside0.mk hbox; have HB1 := Aside0.mk hb; have x0 := (blk_cell hbox 0).trans rfl; have x1 := (blk_cell hbox 1).trans rfl; have x2 := (blk_cell hbox 2).trans rfl; have x3 := (blk_cell hbox 3).trans rfl; have x4 := (blk_cell hbox 4).trans rfl; have x5 := (blk_cell hbox 5).trans rfl; clear hb hbox hgr) | ((with_reducible refine gate_dst (N := 8) rfl ?_); refine box_event ?hg (N := 8) ?hd (cs := LC nm pt way iv st sz at_ false 0 0 0 0 0 (.slice none 0 0) 0) (t := 68) ?hr ?_; (case hd => rfl); (case hg => rfl); (case hr => first | (go_simp; done) | (go_simp; rfl)); intro g hg w5 hbox hb; have HI5 := Aside0.mk (show LogAt w.heap.size g ⟨nm, pt, way, iv, st, sz, at_, false, 0, 0, 0, 0, 0, []⟩ w5 from ⟨_, [], 0, hbox, by rw [hg]; exact HB1.out.size, Kd.R_nil _ _ _ _ _, ⟨rfl, Or.inl rfl, fun _ => rfl⟩⟩); have HB5 := Aside0.mk (below_step HB1.out hb); clear hb hbox hg))
 go_ret
 exact ⟨g, rfl, HI5.out, HB5.out⟩
set_option maxHeartbeats 16000000 in
set_option maxRecDepth 100000 in
theorem total_calls (B g : Nat) (L : Lg) (w : World) (h : LogAt B g L w) :
  Calls Tryd.prog 12 #[.pointer (some ⟨g, 0, none⟩)] w fun e w' => e = .returned (.int .i64 L.total) ∧ w' = w := by
 obtain ⟨v0, ring, f, hG, hge, hO, hr⟩ := h
 have c12 := (blk_cell hG 12).trans rfl
 clear hG hge hO hr
 go_enter Tryd.func12, Tryd.ntmps12
 go_wp2
 go_ret
 exact ⟨rfl, rfl⟩
set_option maxHeartbeats 16000000 in
set_option maxRecDepth 100000 in
theorem records_calls (B g : Nat) (L : Lg) (w : World) (h : LogAt B g L w) (hn : L.recs.length ≤ 1000000) :
  Calls Tryd.prog 14 #[.pointer (some ⟨g, 0, none⟩)] w fun e w' => ∃ v : Value, e = .returned v ∧ Kd.R k44 44 w' w.heap.size (fun _ => True) v L.recs ∧ Below w.heap.size w w' := by
 obtain ⟨v0, ring, f, hG, hge, hO, hr⟩ := h
 have hfl : f ≤ ring.length := by have := hr.lt; omega
 have hln : (ring.drop f).length + (ring.take f).length ≤ 1000000 := by rw [hr.recs, List.length_append] at hn; exact hn
 obtain ⟨A0, c0, e0, hc0, hC⟩ := Kd.R_reads hO
 subst e0
 obtain ⟨A1, c1, hc1, hcut1, hD⟩ := cutD hC hc0 f hfl
 obtain ⟨hc2, hcut2, hT⟩ := cutT (A := A0) hc0 f hfl
 have hrs := hr.recs
 clear hge hr
 generalize ring.drop f = xs1 at hln hc1 hcut1 hD hrs
 generalize ring.take f = xs2 at hln hc2 hcut2 hT hrs
 have HRS := Aside0.mk hrs
 clear hrs
 have HD := Aside0.mk hD
 have HT := Aside0.mk hT
 have HLN := Aside0.mk hln
 have HG := Aside0.mk hG
 have HC1 := Aside0.mk (Kd.C_drew hC)
 have HG1 := Aside0.mk (blk_drew hG)
 have HB1 := Aside0.mk (below_drew (Below.refl w.heap.size w))
 clear hD hT hln hC hO
 have c13 := (blk_cell hG 13).trans rfl
 have c14 := (blk_cell hG 14).trans rfl
 clear hG
 go_enter Tryd.func14, Tryd.ntmps14
 go_wp2
 refine start_ (n := 21) (S := fun w' => w'.cell? ⟨g, 13, none⟩ = some (.slice A0 ring.length c0) ∧ w'.cell? ⟨g, 14, none⟩ = some (.int .i64 (f : Int))) (ds := []) #[Yn, Yn, Yn, Yn, Yn, Yn, Yn, Yn, Yn, Yn, Yn, Yn, Yn, Yn, Yn, Yn, Yn, Yn, Yn, Yn, Yn] (by kernel_rfl) rfl rfl ⟨c13, c14⟩ (fun hHeld => ?_)
 generalize w.drew = w1 at HC1 HG1 HB1 hHeld ⊢
 refine P1 0 3 ?_ (Bz 21 0x1) ?_ ?_ ?_ ?_
 rotate_left
 ·intro w'
  go_simp
  with_reducible rfl
 rotate_left
 ·simp only [Act.put, Z1, Z2, Z3, i64_w, i32_w]
  rfl
 refine P1 1 4 ?_ (Bz 21 0x3) ?_ ?_ ?_ ?_
 rotate_left
 ·intro w'
  go_simp
  with_reducible rfl
 rotate_left
 ·simp only [Act.put, Z1, Z2, Z3, i64_w, i32_w]
  rfl
 refine P1 2 5 ?_ (Bz 21 0x7) ?_ ?_ ?_ ?_
 rotate_left
 ·intro w'
  go_simp
  with_reducible rfl
 rotate_left
 ·simp only [Act.put, Z1, Z2, Z3, i64_w, i32_w]
  rfl
 refine P1 4 7 ?_ (Bz 21 0x17) ?_ ?_ ?_ ?_
 rotate_left
 ·intro w'
  go_simp
  with_reducible rfl
 rotate_left
 ·simp only [Act.put, Z1, Z2, Z3, i64_w, i32_w]
  rfl
 refine P1 5 8 ?_ (Bz 21 0x37) ?_ ?_ ?_ ?_
 rotate_left
 ·intro w'
  go_simp
  with_reducible rfl
 rotate_left
 ·simp only [Act.put, Z1, Z2, Z3, i64_w, i32_w]
  rfl
 refine P1 6 9 ?_ (Bz 21 0x77) ?_ ?_ ?_ ?_
 rotate_left
 ·intro w'
  go_simp
  with_reducible rfl
 rotate_left
 ·simp only [Act.put, Z1, Z2, Z3, i64_w, i32_w]
  rfl
 refine P1 9 12 ?_ (Bz 21 0x277) ?_ ?_ ?_ ?_
 rotate_left
 ·intro w'
  go_simp
  with_reducible rfl
 rotate_left
 ·simp only [Act.put, Z1, Z2, Z3, i64_w, i32_w]
  rfl
 refine P1 10 13 ?_ (Bz 21 0x677) ?_ ?_ ?_ ?_
 rotate_left
 ·intro w'
  go_simp
  with_reducible rfl
 rotate_left
 ·simp only [Act.put, Z1, Z2, Z3, i64_w, i32_w]
  rfl
 refine P1 11 14 ?_ (Bz 21 0xe77) ?_ ?_ ?_ ?_
 rotate_left
 ·intro w'
  go_simp
  with_reducible rfl
 rotate_left
 ·simp only [Act.put, Z1, Z2, Z3, i64_w, i32_w]
  rfl
 refine P1 13 16 ?_ (Bz 21 0x2e77) ?_ ?_ ?_ ?_
 rotate_left
 ·intro w'
  go_simp
  with_reducible rfl
 rotate_left
 ·simp only [Act.put, Z1, Z2, Z3, i64_w, i32_w]
  rfl
 refine P1 14 17 ?_ (Bz 21 0x6e77) ?_ ?_ ?_ ?_
 rotate_left
 ·intro w'
  go_simp
  with_reducible rfl
 rotate_left
 ·simp only [Act.put, Z1, Z2, Z3, i64_w, i32_w]
  rfl
 refine P1 15 18 ?_ (Bz 21 0xee77) ?_ ?_ ?_ ?_
 rotate_left
 ·intro w'
  go_simp
  with_reducible rfl
 rotate_left
 ·simp only [Act.put, Z1, Z2, Z3, i64_w, i32_w]
  rfl
 refine P5 3 6 ?_ (Bz 21 0xee7f) ?_ hHeld ?_ ?_ ?_
 rotate_left
 ·rintro w' ⟨s0, s1⟩
  go_simp
  with_reducible rfl
 rotate_left
 ·simp only [Act.put, Z1, Z2, Z3, i64_w, i32_w]
  rfl
 refine P5 7 10 ?_ (Bz 21 0xeeff) ?_ hHeld ?_ ?_ ?_
 rotate_left
 ·rintro w' ⟨s0, s1⟩
  go_simp
  with_reducible rfl
 rotate_left
 ·simp only [Act.put, Z1, Z2, Z3, i64_w, i32_w]
  rfl
 refine P1 8 11 ?_ (Bz 21 0xefff) ?_ ?_ ?_ ?_
 rotate_left
 ·intro w'
  go_simp
  with_reducible rfl
 rotate_left
 ·simp only [Act.put, Z1, Z2, Z3, i64_w, i32_w]
  rfl
 refine P5 12 15 ?_ (Bz 21 0xffff) ?_ hHeld ?_ ?_ ?_
 rotate_left
 ·rintro w' ⟨s0, s1⟩
  go_simp
  with_reducible rfl
 rotate_left
 ·simp only [Act.put, Z1, Z2, Z3, i64_w, i32_w]
  rfl
 refine P5 16 19 ?_ (Bz 21 0x1ffff) ?_ hHeld ?_ ?_ ?_
 rotate_left
 ·rintro w' ⟨s0, s1⟩
  go_simp
  with_reducible rfl
 rotate_left
 ·simp only [Act.put, Z1, Z2, Z3, i64_w, i32_w]
  rfl
 refine P1 17 20 ?_ (Bz 21 0x3ffff) ?_ ?_ ?_ ?_
 rotate_left
 ·intro w'
  go_simp
  with_reducible rfl
 rotate_left
 ·simp only [Act.put, Z1, Z2, Z3, i64_w, i32_w]
  rfl
 refine one_ (i := 18) (N := some 21) #[Y, Y, Y, Y, Y, Y, Y, Y, Y, Y, Y, Y, Y, Y, Y, Y, Y, Y, Y, Yn, Yn] rfl rfl (by kernel_rfl) (by decide) (fun K hK => ?_)
 refine value_ (w1 := ?_) (v := ?_) (by rfl) rfl ?_ ?_
 rotate_left 2
 ·go_simp
  constructor
  ·rfl
  ·rfl
 have HGb := Aside0.mk (blk_new w1 (.cells #[.slice A1 xs1.length c1, .slice A0 xs2.length c0] 39 (0, 0)))
 have HBb := Aside0.mk (below_alloc HB1.out (.cells #[.slice A1 xs1.length c1, .slice A0 xs2.length c0] 39 (0, 0)))
 have HGl := Aside0.mk (blk_alloc HG1.out (.cells #[.slice A1 xs1.length c1, .slice A0 xs2.length c0] 39 (0, 0)))
 have HCl := Aside0.mk (Kd.C_alloc HC1.out (.cells #[.slice A1 xs1.length c1, .slice A0 xs2.length c0] 39 (0, 0)))
 refine hK.out _ _ ⟨(blk_cell HGl.out 13).trans rfl, (blk_cell HGl.out 14).trans rfl⟩ (fun hHeld => ?_)
 clear hK K
 refine norm_ (a' := ?_) ?_ ?_
 rotate_left
 ·show Act.put _ (some 21) _ = _
  simp only [Act.put, Z1, Z2, Z3, i64_w, i32_w]
  rfl
 refine one_ (i := 19) (N := some 22) #[Y, Y, Y, Y, Y, Y, Y, Y, Y, Y, Y, Y, Y, Y, Y, Y, Y, Y, Y, Y, Yn] rfl rfl (by kernel_rfl) (by decide) (fun K hK => ?_)
 refine goes_ Tryd.func25 (by kernel_rfl) rfl #[.slice (some ⟨w1.heap.size, 0, none⟩) 2 2] (by rfl) rfl rfl (by simp only [List.map_toArray, List.map_cons, List.map_nil]; rfl) ?_
 with_reducible refine (concat_calls A1 c1 xs1 A0 c0 xs2 w1.heap.size _ HGb.out (HD.out _ HCl.out) hc1 (HT.out _ HCl.out) hc2 HLN.out).mono ?_
 rintro e w3 ⟨v3, rfl, hv⟩
 refine ⟨_, rfl, ?_⟩
 have HV := Aside0.mk hv
 clear hv
 refine hK.out _ _ ⟨(blk_cell (blk_below HGl.out HV.out.bel) 13).trans rfl, (blk_cell (blk_below HGl.out HV.out.bel) 14).trans rfl⟩ (fun hHeld => ?_)
 clear hK K
 refine norm_ (a' := ?_) ?_ ?_
 rotate_left
 ·show Act.put _ (some 22) _ = _
  simp only [Act.put, Z1, Z2, Z3, i64_w, i32_w]
  rfl
 refine P1 20 2 ?_ (Bz 21 0x1fffff) ?_ ?_ ?_ ?_
 rotate_left
 ·intro w'
  go_simp
  with_reducible rfl
 rotate_left
 ·simp only [Act.put, Z1, Z2, Z3, i64_w, i32_w]
  rfl
 refine done_ (by kernel_rfl) ?_
 clear hHeld
 go_wp2
 go_ret
 exact ⟨_, rfl, by rw [HRS.out]; exact Kd.R_lower HV.out.own (below_size HBb.out), below_step HBb.out HV.out.bel⟩
end Go.Proofs.YtbccjcdmpiolpaaDoor.T
end
section
namespace Go.Proofs.YtbccjcdmpiolpaaDoor.T
open Go.RowKit Go.Proofs.YtbccjcdmpiolpaaDoorW.PrintWords Go.Proofs.YtbccjcdmpiolpaaDoorW.PrintLast Go.Proofs.YtbccjcdmpiolpaaDoorW.PrintMore
set_option linter.unusedVariables false
set_option linter.unusedSimpArgs false
attribute [local go_sem] max2_int min2_int max_two min_two
section
variable {P : Program} {ops : Array Oper} {o : Oper} {a : Act} {Q : Exit → Act → World → Prop} {K : Act → World → Prop}
theorem step_store_row {w : World} (hw : Region.wanted o (yielded ops a.tmps) = true) (hN : o.dst = none) (ty : TypeId) (x y : Operand) (ho : o.op = .store ty x y)
  (g : Nat) (cells : Array Value) (hx : a.eval x = .pointer (some ⟨g, 0, none⟩)) (hy : a.eval y = .agg cells)
  (t : TypeId) (old : Array Value) (hg : w.heap[g]? = some (.cells old t (0, 0))) (hi : (P.info? ty).map (·.size) = some cells.size)
  (hold : old.size = cells.size) (h1 : cells.all (·.oneCell') = true) (h : K a (w.setRow g cells)) :
  if Region.wanted o (yielded ops a.tmps) = true then Oper.wp P o a w K Q else K (a.put o.dst undef) w := by
 rw [if_pos hw]
 refine wp_store_row ty x y ho g cells hx hy t old hg hi hold h1 ?_
 rw [hN]
 exact h
theorem add_off (g n : Nat) : (⟨g, 0, none⟩ : Addr).add n = ⟨g, n, none⟩ := by
 unfold Addr.add
 split <;> simp_all
theorem step_R_store {α : Type} (d : Kd α) {w0 W : World} (base : Nat) (hw : Region.wanted o (yielded ops a.tmps) = true) (hN : o.dst = none) (t : TypeId) (p x : Operand) (ho : o.op = .store t p x) (e : TypeId) {g n cap : Nat} (i : Int) (xs : List α) (x' : α) (u : Value) (seg c : List Value) (ok okp : Nat → Prop)
  (haddr : a.eval p = .pointer (some ((⟨g, 0, none⟩ : Addr).add (i.toNat * d.sz)))) (hx : a.eval x = u) (hu : u.cells.toList = seg) (ht : (P.info? t).map (·.size) = some seg.length) (h1 : ∀ q ∈ seg, q.oneCell' = true)
  (HO : d.R e W base ok (.slice (some ⟨g, 0, none⟩) n cap) xs) (h0 : 0 ≤ i) (hi : i < n) (hcl : c.length = d.sz) (hcc : ∀ j u, c[j]? = some u → W.cell? ⟨g, i.toNat * d.sz + j, none⟩ = some u)
  (hj : seg.length = d.sz) (hM : d.M W base okp x' seg) (hokp : ∀ k, okp k → ok k ∧ k ≠ g) (HB : Below base w0 W)
  (h : ∀ w1, d.R e w1 base ok (.slice (some ⟨g, 0, none⟩) n cap) (xs.set i.toNat x') → Below base w0 w1 → W.grownBy w1 (some g) → K a w1) :
  if Region.wanted o (yielded ops a.tmps) = true then Oper.wp P o a W K Q else K (a.put o.dst undef) W := by
 rw [add_off] at haddr
 have hM' : d.M W base okp x' (c.take 0 ++ seg ++ c.drop (0 + seg.length)) := by
  rw [List.take_zero, List.nil_append, List.drop_eq_nil_of_le (by omega), List.append_nil]
  exact hM
 obtain ⟨hrow, hg⟩ := Kd.R_seg HO i h0 hi (seg := seg) (j := 0) hcl hcc (by omega) hM' hokp
 have hbg : base ≤ g := Kd.R_base HO g (by simp [Value.ownBlock])
 have hnx : n = xs.length := (Kd.R_reads' HO).1
 obtain ⟨_, inner, hown, hr⟩ := HO
 have hil : i.toNat < n := by omega
 have hB : Below base w0 (W.setCells g (i.toNat * d.sz + 0) seg) := HB.trans ⟨hg.os, hg.tape, hg.output, hg.size, fun k hk => by
  have hlt : k < W.heap.size ∨ W.heap.size ≤ k := Nat.lt_or_ge _ _
  rcases hlt with hlt | hge
  ·exact hg.block k hlt (fun he => by injection he with he; omega)
  ·exact setCells_far seg _ k (by omega)⟩
 have hrun : (Instr.storeAt t (.pointer (some ⟨g, i.toNat * d.sz, none⟩)) u).run P W = .ok () (W.setCells g (i.toNat * d.sz) seg) := by
  rcases hown.2 with ⟨hv, _⟩ | ⟨g', cap', cur, hv, hb, hh, hnc, hcm, hcs, _⟩
  ·cases hv
  injection hv with ha _ hc
  injection ha with ha
  injection ha with hg'
  subst hg'; subst hc
  refine run_store_run t u seg hh hu ht ?_ h1
  have h2 : i.toNat * d.sz + d.sz ≤ n * d.sz := by rw [← Nat.succ_mul]; exact Nat.mul_le_mul_right _ hil
  have h3 : n * d.sz ≤ cap * d.sz := Nat.mul_le_mul_right _ (by omega)
  omega
 rw [if_pos hw]
 unfold Oper.wp execOp
 simp only [ho, haddr, hx, Sem.run_bind, Sem.run_pure, Result.andThen_ok, hrun]
 show K (a.put o.dst undef) _
 rw [hN]
 exact h _ hrow hB hg
end
theorem wrap_id {n : Int} (h0 : -9223372036854775808 ≤ n) (h1 : n ≤ 9223372036854775807) : wrap64 n = n := by unfold wrap64; omega
theorem below_setRow {B g : Nat} {w W : World} (h : Below B w W) (hg : B ≤ g) (cs : Array Value) : Below B w (W.setRow g cs) :=
 ⟨h.os, h.tape, h.output, by simp; exact h.size, fun i hi => (setRow_other W g i cs (by omega)).trans (h.block i hi)⟩
def Lg.rec1 (L : Lg) (at_ : Int) : S44 := ⟨L.total + 1, at_, ⟨L.vk, L.vn⟩, L.q, 0⟩
def Lg.record (L : Lg) (at_ : Int) : Lg := { L with total := L.total + 1, recs := if (L.recs.length : Int) < L.sz then L.recs ++ [L.rec1 at_] else L.recs.drop 1 ++ [L.rec1 at_] }
theorem Rot.length {sz : Int} {ring recs : List S44} {f : Nat} (h : Rot sz ring f recs) : recs.length = ring.length := by
 rw [h.recs, List.length_append, List.length_drop, List.length_take]
 have := h.lt
 omega
theorem rot_step (ring : List S44) (f : Nat) (x : S44) (hf : f < ring.length) (f' : Nat) (h' : (f + 1 = ring.length ∧ f' = 0) ∨ (f + 1 < ring.length ∧ f' = f + 1)) : (ring.drop f ++ ring.take f).drop 1 ++ [x] = (ring.set f x).drop f' ++ (ring.set f x).take f' := by
 have e1 : ring.drop f = ring[f] :: ring.drop (f + 1) := List.drop_eq_getElem_cons hf
 rw [e1, List.cons_append, List.drop_succ_cons, List.drop_zero]
 have e2 : (ring.set f x) = ring.take f ++ x :: ring.drop (f + 1) := by rw [List.set_eq_take_append_cons_drop, if_pos hf]
 have hl : (ring.take f).length = f := by rw [List.length_take]; omega
 have e3 : ring.take f ++ x :: ring.drop (f + 1) = (ring.take f ++ [x]) ++ ring.drop (f + 1) := by rw [List.append_assoc]; rfl
 have hl3 : (ring.take f ++ [x]).length = f + 1 := by rw [List.length_append, hl]; rfl
 rcases h' with ⟨h1, rfl⟩ | ⟨h1, rfl⟩
 ·rw [List.drop_zero, List.take_zero, List.append_nil, e2, List.drop_eq_nil_of_le (by omega), List.nil_append]
 ·rw [e2, e3, List.drop_left' hl3, List.take_left' hl3, List.append_assoc]
def RecPost (B g : Nat) (w : World) (L : Lg) (e : Ending) (w' : World) : Prop := e = .returned (.tuple #[]) ∧ LogAt B g L w' ∧ Below B w w' ∧ KeepL w w' g
theorem elem44 {W : World} {base g n cap : Nat} {xs : List S44} (h : Kd.R k44 44 W base (fun _ => True) (.slice (some ⟨g, 0, none⟩) n cap) xs) (i : Int) (h0 : 0 ≤ i) (h1 : i < (xs.length : Int)) : ∃ c : List Value, c.length = k44.sz ∧ ∀ j u, c[j]? = some u → W.cell? ⟨g, i.toNat * k44.sz + j, none⟩ = some u := by
 have hn : n = xs.length := (Kd.R_reads' h).1
 obtain ⟨cs, hl, hM, hc, hf⟩ := Kd.R_elem h z44 i h0 (by omega)
 exact ⟨cs, hl, hc⟩
set_option maxHeartbeats 16000000 in
set_option maxRecDepth 100000 in
theorem record_calls (B g : Nat) (L : Lg) (at_ : Int) (w : World) (h : LogAt B g L w) (hBS : B ≤ w.heap.size) (ht : 0 ≤ L.total ∧ L.total ≤ 1000000000000000) (hs : 1 ≤ L.sz) (hn : L.recs.length ≤ 1000000) :
  Calls Tryd.prog 28 #[.pointer (some ⟨g, 0, none⟩), .int .i64 at_] w fun e w' => RecPost B g w (L.record at_) e w' := by
 obtain ⟨nm, pt, way, iv, st, sz, now, valid, vk, vn, q, ra, total, recs⟩ := L
 simp only [] at ht hs hn
 obtain ⟨v0, ring, f, hG, hge, hO, hr⟩ := h
 have HBS := Aside0.mk hBS
 obtain ⟨tt, HTT⟩ : ∃ tt, Aside0 (wrap64 (total + 1) = tt) := ⟨_, ⟨rfl⟩⟩
 have HT2 := Aside0.mk (show tt = total + 1 by rw [← HTT.out, wrap_id (by omega) (by omega)])
 have HR := Aside0.mk hr
 have HLR := Aside0.mk (show recs.length = ring.length from hr.length)
 have hlr : ring.length ≤ 1000000 := by rw [← HLR.out]; exact hn
 have HSZ := Aside0.mk (show 1 ≤ sz from hs)
 have HGE := Aside0.mk hge
 clear hr hn ht hs
 obtain ⟨fi, HFI⟩ : ∃ fi : Int, Aside0 (((f : Nat) : Int) = fi) := ⟨_, ⟨rfl⟩⟩
 rw [HFI.out] at hG
 have hG : w.heap[g]? = some (.cells (LC nm pt way iv st sz now valid vk vn q ra total v0 fi) 68 (0, 0)) := hG
 by_cases k1 : (ring.length : Int) < sz
 ·obtain ⟨A0, c0, e0⟩ := Kd.R_slice hO
  subst e0
  have k1b : decide ((ring.length : Int) < sz) = true := decide_eq_true k1
  have K1 := Aside0.mk k1
  clear k1
  have HG := Aside0.mk hG
  have HG1 := Aside0.mk (blk_put hG 12 (.int .i64 tt) rfl)
  have HO1 := Aside0.mk (R_setL hG hO 12 (.int .i64 tt))
  have HB1 := Aside0.mk ((Below.refl B w).setCell (p := ⟨g, 12, none⟩) hge (.int .i64 tt))
  have HK1 := Aside0.mk ((KeepL.refl w g).set 12 (.int .i64 tt))
  clear hO hge hBS
  have c12 := (blk_cell hG 12).trans rfl
  have f12 := blk_frozen hG 12
  clear hG
  go_enter Tryd.func28, Tryd.ntmps28
  go_wp2
  rw [HTT.out]
  generalize w.setCell ⟨g, 12, none⟩ (.int .i64 tt) = w1 at HG1 HO1 HB1 HK1 ⊢
  clear c12 f12
  have c12 := (blk_cell HG1.out 12).trans rfl
  have c8 := (blk_cell HG1.out 8).trans rfl
  have c9 := (blk_cell HG1.out 9).trans rfl
  have c10 := (blk_cell HG1.out 10).trans rfl
  have HG2 := Aside0.mk (blk_drew HG1.out)
  have HO2 := Aside0.mk (Kd.R_drew HO1.out)
  have HB2 := Aside0.mk (below_drew1 HB1.out)
  have HK2 := Aside0.mk HK1.out.drew
  refine start_ (n := 18) (S := fun w' => w'.cell? ⟨g, 12, none⟩ = some (.int .i64 tt) ∧ w'.cell? ⟨g, 8, none⟩ = some (.int .i64 vk) ∧ w'.cell? ⟨g, 9, none⟩ = some (.int .i64 vn) ∧ w'.cell? ⟨g, 10, none⟩ = some (.int .i64 q)) (ds := []) #[Yn, Yn, Yn, Yn, Yn, Yn, Yn, Yn, Yn, Yn, Yn, Yn, Yn, Yn, Yn, Yn, Yn, Yn] (by kernel_rfl) rfl rfl ⟨c12, c8, c9, c10⟩ (fun hHeld => ?_)
  generalize w1.drew = w2 at HG2 HO2 HB2 HK2 hHeld ⊢
  refine P1 0 12 ?_ (Bz 18 0x1) ?_ ?_ ?_ ?_
  rotate_left
  ·intro w'
   go_simp
   with_reducible rfl
  rotate_left
  ·simp only [Act.put, Z1, Z2, Z3, i64_w, i32_w]
   rfl
  refine P1 1 13 ?_ (Bz 18 0x3) ?_ ?_ ?_ ?_
  rotate_left
  ·intro w'
   go_simp
   with_reducible rfl
  rotate_left
  ·simp only [Act.put, Z1, Z2, Z3, i64_w, i32_w]
   rfl
  refine P1 2 14 ?_ (Bz 18 0x7) ?_ ?_ ?_ ?_
  rotate_left
  ·intro w'
   go_simp
   with_reducible rfl
  rotate_left
  ·simp only [Act.put, Z1, Z2, Z3, i64_w, i32_w]
   rfl
  refine P1 4 16 ?_ (Bz 18 0x17) ?_ ?_ ?_ ?_
  rotate_left
  ·intro w'
   go_simp
   with_reducible rfl
  rotate_left
  ·simp only [Act.put, Z1, Z2, Z3, i64_w, i32_w]
   rfl
  refine P1 5 17 ?_ (Bz 18 0x37) ?_ ?_ ?_ ?_
  rotate_left
  ·intro w'
   go_simp
   with_reducible rfl
  rotate_left
  ·simp only [Act.put, Z1, Z2, Z3, i64_w, i32_w]
   rfl
  refine P1 6 18 ?_ (Bz 18 0x77) ?_ ?_ ?_ ?_
  rotate_left
  ·intro w'
   go_simp
   with_reducible rfl
  rotate_left
  ·simp only [Act.put, Z1, Z2, Z3, i64_w, i32_w]
   rfl
  refine P1 7 19 ?_ (Bz 18 0xf7) ?_ ?_ ?_ ?_
  rotate_left
  ·intro w'
   go_simp
   with_reducible rfl
  rotate_left
  ·simp only [Act.put, Z1, Z2, Z3, i64_w, i32_w]
   rfl
  refine P1 8 20 ?_ (Bz 18 0x1f7) ?_ ?_ ?_ ?_
  rotate_left
  ·intro w'
   go_simp
   with_reducible rfl
  rotate_left
  ·simp only [Act.put, Z1, Z2, Z3, i64_w, i32_w]
   rfl
  refine P1 10 22 ?_ (Bz 18 0x5f7) ?_ ?_ ?_ ?_
  rotate_left
  ·intro w'
   go_simp
   with_reducible rfl
  rotate_left
  ·simp only [Act.put, Z1, Z2, Z3, i64_w, i32_w]
   rfl
  refine P1 11 23 ?_ (Bz 18 0xdf7) ?_ ?_ ?_ ?_
  rotate_left
  ·intro w'
   go_simp
   with_reducible rfl
  rotate_left
  ·simp only [Act.put, Z1, Z2, Z3, i64_w, i32_w]
   rfl
  refine P1 12 24 ?_ (Bz 18 0x1df7) ?_ ?_ ?_ ?_
  rotate_left
  ·intro w'
   go_simp
   with_reducible rfl
  rotate_left
  ·simp only [Act.put, Z1, Z2, Z3, i64_w, i32_w]
   rfl
  refine P1 13 25 ?_ (Bz 18 0x3df7) ?_ ?_ ?_ ?_
  rotate_left
  ·intro w'
   go_simp
   with_reducible rfl
  rotate_left
  ·simp only [Act.put, Z1, Z2, Z3, i64_w, i32_w]
   rfl
  refine P5 3 15 ?_ (Bz 18 0x3dff) ?_ hHeld ?_ ?_ ?_
  rotate_left
  ·rintro w' ⟨s0, s1, s2, s3⟩
   go_simp
   with_reducible rfl
  rotate_left
  ·simp only [Act.put, Z1, Z2, Z3, i64_w, i32_w]
   rfl
  refine P5 9 21 ?_ (Bz 18 0x3fff) ?_ hHeld ?_ ?_ ?_
  rotate_left
  ·rintro w' ⟨s0, s1, s2, s3⟩
   go_simp
   with_reducible rfl
  rotate_left
  ·simp only [Act.put, Z1, Z2, Z3, i64_w, i32_w]
   rfl
  refine P5 14 26 ?_ (Bz 18 0x7fff) ?_ hHeld ?_ ?_ ?_
  rotate_left
  ·rintro w' ⟨s0, s1, s2, s3⟩
   go_simp
   with_reducible rfl
  rotate_left
  ·simp only [Act.put, Z1, Z2, Z3, i64_w, i32_w]
   rfl
  refine P1 15 27 ?_ (Bz 18 0xffff) ?_ ?_ ?_ ?_
  rotate_left
  ·intro w'
   go_simp
   with_reducible rfl
  rotate_left
  ·simp only [Act.put, Z1, Z2, Z3, i64_w, i32_w]
   rfl
  refine one_ (i := 16) (N := some 4) #[Y, Y, Y, Y, Y, Y, Y, Y, Y, Y, Y, Y, Y, Y, Y, Y, Y, Yn] rfl rfl (by kernel_rfl) (by decide) (fun K hK => ?_)
  refine value_ (w1 := ?_) (v := ?_) (by rfl) rfl ?_ ?_
  rotate_left 2
  ·go_simp
   constructor
   ·rfl
   ·rfl
  refine hK.out _ _ ⟨(blk_cell (blk_alloc HG2.out _) 12).trans rfl, (blk_cell (blk_alloc HG2.out _) 8).trans rfl, (blk_cell (blk_alloc HG2.out _) 9).trans rfl, (blk_cell (blk_alloc HG2.out _) 10).trans rfl⟩ (fun hHeld => ?_)
  clear hK K
  refine norm_ (a' := ?_) ?_ ?_
  rotate_left
  ·show Act.put _ (some 4) _ = _
   simp only [Act.put, Z1, Z2, Z3, i64_w, i32_w]
   rfl
  refine one_ (i := 17) (N := none) #[Y, Y, Y, Y, Y, Y, Y, Y, Y, Y, Y, Y, Y, Y, Y, Y, Y, Y] rfl rfl (by kernel_rfl) (by decide) (fun K hK => ?_)
  refine step_store_row (by rfl) rfl 44 (.tmp 4) (.tmp 27) rfl w2.heap.size #[.int .i64 tt, .int .i64 at_, .int .i64 vk, .int .i64 vn, .int .i64 q, .int .i64 0] rfl rfl 44 #[.int .i64 0, .int .i64 0, .int .i64 0, .int .i64 0, .int .i64 0, .int .i64 0] (blk_new w2 (.cells #[.int .i64 0, .int .i64 0, .int .i64 0, .int .i64 0, .int .i64 0, .int .i64 0] 44 (0, 0))) (by kernel_rfl) rfl (by simp [Value.oneCell']) ?_
  have hbx := below_setRow (below_alloc (Below.refl w2.heap.size w2) (.cells #[.int .i64 0, .int .i64 0, .int .i64 0, .int .i64 0, .int .i64 0, .int .i64 0] 44 (0, 0))) (Nat.le_refl _) #[.int .i64 tt, .int .i64 at_, .int .i64 vk, .int .i64 vn, .int .i64 q, .int .i64 0]
  have HX3 := Aside0.mk (setRow_heap _ _ _ #[.int .i64 tt, .int .i64 at_, .int .i64 vk, .int .i64 vn, .int .i64 q, .int .i64 0] _ _ (blk_new w2 (.cells #[.int .i64 0, .int .i64 0, .int .i64 0, .int .i64 0, .int .i64 0, .int .i64 0] 44 (0, 0))))
  have HG3 := Aside0.mk (blk_below HG2.out hbx)
  have HO3 := Aside0.mk (Kd.R_below HO2.out hbx)
  have HB3 := Aside0.mk (HB2.out.trans (hbx.mono (Nat.le_trans HBS.out HB2.out.size)))
  have HK3 := Aside0.mk (HK2.out.trans (KeepL.of_below hbx g))
  clear hbx
  obtain ⟨gx, HGX⟩ : ∃ gx, Aside0 (w2.heap.size = gx) := ⟨_, ⟨rfl⟩⟩
  rw [HGX.out] at HX3 HG3 HO3 HB3 HK3 ⊢
  generalize (w2.alloc (.cells #[.int .i64 0, .int .i64 0, .int .i64 0, .int .i64 0, .int .i64 0, .int .i64 0] 44 (0, 0))).setRow gx #[.int .i64 tt, .int .i64 at_, .int .i64 vk, .int .i64 vn, .int .i64 q, .int .i64 0] = w3 at HX3 HG3 HO3 HB3 HK3 ⊢
  refine hK.out _ _ ⟨(blk_cell HG3.out 12).trans rfl, (blk_cell HG3.out 8).trans rfl, (blk_cell HG3.out 9).trans rfl, (blk_cell HG3.out 10).trans rfl⟩ (fun hHeld => ?_)
  clear hK K
  refine done_ (by kernel_rfl) ?_
  clear c12 c8 c9 c10 hHeld
  have c13 := (blk_cell HG3.out 13).trans rfl
  have c5 := (blk_cell HG3.out 5).trans rfl
  go_wp2
  have HG4 := Aside0.mk (blk_drew HG3.out)
  have HO4 := Aside0.mk (Kd.R_drew HO3.out)
  have HB4 := Aside0.mk (below_drew1 HB3.out)
  have HK4 := Aside0.mk HK3.out.drew
  have HX4 := Aside0.mk (blk_drew HX3.out)
  refine start_ (n := 11) (S := fun w' => w'.cell? ⟨g, 13, none⟩ = some (.slice A0 ring.length c0) ∧ w'.cell? ⟨g, 5, none⟩ = some (.int .i64 sz)) (ds := []) #[Yn, Yn, Yn, Yn, Yn, Yn, Yn, Yn, Yn, Yn, Yn] (by kernel_rfl) rfl rfl ⟨c13, c5⟩ (fun hHeld => ?_)
  generalize w3.drew = w4 at HG4 HO4 HB4 HK4 HX4 hHeld ⊢
  refine P1 0 28 ?_ (Bz 11 0x1) ?_ ?_ ?_ ?_
  rotate_left
  ·intro w'
   go_simp
   with_reducible rfl
  rotate_left
  ·simp only [Act.put, Z1, Z2, Z3, i64_w, i32_w]
   rfl
  refine P1 1 29 ?_ (Bz 11 0x3) ?_ ?_ ?_ ?_
  rotate_left
  ·intro w'
   go_simp
   with_reducible rfl
  rotate_left
  ·simp only [Act.put, Z1, Z2, Z3, i64_w, i32_w]
   rfl
  refine P1 2 30 ?_ (Bz 11 0x7) ?_ ?_ ?_ ?_
  rotate_left
  ·intro w'
   go_simp
   with_reducible rfl
  rotate_left
  ·simp only [Act.put, Z1, Z2, Z3, i64_w, i32_w]
   rfl
  refine P1 5 33 ?_ (Bz 11 0x27) ?_ ?_ ?_ ?_
  rotate_left
  ·intro w'
   go_simp
   with_reducible rfl
  rotate_left
  ·simp only [Act.put, Z1, Z2, Z3, i64_w, i32_w]
   rfl
  refine P1 6 34 ?_ (Bz 11 0x67) ?_ ?_ ?_ ?_
  rotate_left
  ·intro w'
   go_simp
   with_reducible rfl
  rotate_left
  ·simp only [Act.put, Z1, Z2, Z3, i64_w, i32_w]
   rfl
  refine P1 7 35 ?_ (Bz 11 0xe7) ?_ ?_ ?_ ?_
  rotate_left
  ·intro w'
   go_simp
   with_reducible rfl
  rotate_left
  ·simp only [Act.put, Z1, Z2, Z3, i64_w, i32_w]
   rfl
  refine P1 8 36 ?_ (Bz 11 0x1e7) ?_ ?_ ?_ ?_
  rotate_left
  ·intro w'
   go_simp
   with_reducible rfl
  rotate_left
  ·simp only [Act.put, Z1, Z2, Z3, i64_w, i32_w]
   rfl
  refine P5 3 31 ?_ (Bz 11 0x1ef) ?_ hHeld ?_ ?_ ?_
  rotate_left
  ·rintro w' ⟨s0, s1⟩
   go_simp
   with_reducible rfl
  rotate_left
  ·simp only [Act.put, Z1, Z2, Z3, i64_w, i32_w]
   rfl
  refine P1 4 32 ?_ (Bz 11 0x1ff) ?_ ?_ ?_ ?_
  rotate_left
  ·intro w'
   go_simp
   with_reducible rfl
  rotate_left
  ·simp only [Act.put, Z1, Z2, Z3, i64_w, i32_w]
   rfl
  refine P5 9 37 ?_ (Bz 11 0x3ff) ?_ hHeld ?_ ?_ ?_
  rotate_left
  ·rintro w' ⟨s0, s1⟩
   go_simp
   with_reducible rfl
  rotate_left
  ·simp only [Act.put, Z1, Z2, Z3, i64_w, i32_w]
   rfl
  refine P1 10 38 ?_ (Bz 11 0x7ff) ?_ ?_ ?_ ?_
  rotate_left
  ·intro w'
   go_simp
   with_reducible rfl
  rotate_left
  ·simp only [Act.put, Z1, Z2, Z3, i64_w, i32_w]
   rfl
  refine done_ (by kernel_rfl) ?_
  clear c13 c5 hHeld
  have c13 := (blk_cell HG4.out 13).trans rfl
  have x0 := (blk_cell HX4.out 0).trans rfl
  have x1 := (blk_cell HX4.out 1).trans rfl
  have x2 := (blk_cell HX4.out 2).trans rfl
  have x3 := (blk_cell HX4.out 3).trans rfl
  have x4 := (blk_cell HX4.out 4).trans rfl
  have x5 := (blk_cell HX4.out 5).trans rfl
  go_wp2
  have HG5 := Aside0.mk (blk_drew HG4.out)
  have HO5 := Aside0.mk (Kd.R_drew HO4.out)
  have HB5 := Aside0.mk (below_drew1 HB4.out)
  have HK5 := Aside0.mk HK4.out.drew
  have HX5 := Aside0.mk (blk_drew HX4.out)
  refine start_ (n := 11) (S := fun w' => w'.cell? ⟨g, 13, none⟩ = some (.slice A0 ring.length c0) ∧ w'.cell? ⟨gx, 0, none⟩ = some (.int .i64 tt) ∧ w'.cell? ⟨gx, 1, none⟩ = some (.int .i64 at_) ∧ w'.cell? ⟨gx, 2, none⟩ = some (.int .i64 vk) ∧ w'.cell? ⟨gx, 3, none⟩ = some (.int .i64 vn) ∧ w'.cell? ⟨gx, 4, none⟩ = some (.int .i64 q) ∧ w'.cell? ⟨gx, 5, none⟩ = some (.int .i64 0)) (ds := [7, 10]) #[Yn, Yn, Yn, Yn, Yn, Yn, Yn, Yn, Yn, Yn, Yn] (by kernel_rfl) rfl rfl ⟨c13, x0, x1, x2, x3, x4, x5⟩ (fun hHeld => ?_)
  generalize w4.drew = w5 at HG5 HO5 HB5 HK5 HX5 hHeld ⊢
  refine P1 0 39 ?_ (Bz 11 0x1) ?_ ?_ ?_ ?_
  rotate_left
  ·intro w'
   go_simp
   with_reducible rfl
  rotate_left
  ·simp only [Act.put, Z1, Z2, Z3, i64_w, i32_w]
   rfl
  refine P1 1 40 ?_ (Bz 11 0x3) ?_ ?_ ?_ ?_
  rotate_left
  ·intro w'
   go_simp
   with_reducible rfl
  rotate_left
  ·simp only [Act.put, Z1, Z2, Z3, i64_w, i32_w]
   rfl
  refine P1 2 41 ?_ (Bz 11 0x7) ?_ ?_ ?_ ?_
  rotate_left
  ·intro w'
   go_simp
   with_reducible rfl
  rotate_left
  ·simp only [Act.put, Z1, Z2, Z3, i64_w, i32_w]
   rfl
  refine P1 3 42 ?_ (Bz 11 0xf) ?_ ?_ ?_ ?_
  rotate_left
  ·intro w'
   go_simp
   with_reducible rfl
  rotate_left
  ·simp only [Act.put, Z1, Z2, Z3, i64_w, i32_w]
   rfl
  refine P5 4 43 ?_ (Bz 11 0x1f) ?_ hHeld ?_ ?_ ?_
  rotate_left
  ·rintro w' ⟨s0, s1, s2, s3, s4, s5, s6⟩
   go_simp
   with_reducible rfl
  rotate_left
  ·simp only [Act.put, Z1, Z2, Z3, i64_w, i32_w]
   rfl
  refine P5 5 44 ?_ (Bz 11 0x3f) ?_ hHeld ?_ ?_ ?_
  rotate_left
  ·rintro w' ⟨s0, s1, s2, s3, s4, s5, s6⟩
   go_simp
   with_reducible rfl
  rotate_left
  ·simp only [Act.put, Z1, Z2, Z3, i64_w, i32_w]
   rfl
  refine one_ (i := 6) (N := some 45) #[Y, Y, Y, Y, Y, Y, Y, Yn, Yn, Yn, Yn] rfl rfl (by kernel_rfl) (by decide) (fun K hK => ?_)
  refine value_ (w1 := ?_) (v := ?_) (by rfl) rfl ?_ ?_
  rotate_left 2
  ·go_simp
   constructor
   ·rfl
   ·rfl
  refine hK.out _ _ ⟨(blk_cell (blk_alloc HG5.out _) 13).trans rfl, (blk_cell (blk_alloc HX5.out _) 0).trans rfl, (blk_cell (blk_alloc HX5.out _) 1).trans rfl, (blk_cell (blk_alloc HX5.out _) 2).trans rfl, (blk_cell (blk_alloc HX5.out _) 3).trans rfl, (blk_cell (blk_alloc HX5.out _) 4).trans rfl, (blk_cell (blk_alloc HX5.out _) 5).trans rfl⟩ (fun hHeld => ?_)
  clear hK K
  refine norm_ (a' := ?_) ?_ ?_
  rotate_left
  ·show Act.put _ (some 45) _ = _
   simp only [Act.put, Z1, Z2, Z3, i64_w, i32_w]
   rfl
  refine last_ (i := 7) (N := some 46) #[Y, Y, Y, Y, Y, Y, Y, Y, Yn, Yn, Yn] rfl rfl (by kernel_rfl) (by decide) (fun K hK => ?_)
  refine Kd.R_append_step k44 (w0 := w5) B (by rfl) (.tmp 43) (.tmp 45) 39 44 (.agg #[(.int .i64 0), (.int .i64 0), (.int .i64 0), (.int .i64 0), (.int .i64 0), (.int .i64 0)]) 48 rfl Tryd.underlying39 info44 rfl (by decide) (by omega) (.slice A0 ring.length c0) ring (⟨tt, at_, ⟨vk, vn⟩, q, 0⟩ : S44) [.int .i64 tt, .int .i64 at_, .int .i64 vk, .int .i64 vn, .int .i64 q, .int .i64 0] (fun _ => True) (fun _ => False) rfl (by first | (go_simp; done) | (go_simp; rfl)) (k44_mkM _ _ _ (⟨tt, at_, ⟨vk, vn⟩, q, 0⟩ : S44)) (fun _ hk => hk.elim) (fun _ _ => trivial) HO5.out (Below.refl _ _) (Nat.le_trans HBS.out HB5.out.size) (by omega) ?_
  intro v1 w6 ho hb hg hat
  obtain ⟨ms, HMS⟩ : ∃ ms, Aside0 (ring ++ [(⟨tt, at_, ⟨vk, vn⟩, q, 0⟩ : S44)] = ms) := ⟨_, ⟨rfl⟩⟩
  rw [HMS.out] at ho
  obtain ⟨A1, k1_, e1⟩ := Kd.R_slice ho
  subst e1
  have HG6 := Aside0.mk (blk_grown HG5.out hg (Kd.R_ne HO5.out HG5.out (by decide)))
  have HO6 := Aside0.mk ho
  have HB6 := Aside0.mk (HB5.out.trans hb)
  have HK6 := Aside0.mk (HK5.out.trans ⟨hg.size, fun k cs t hk ht _ => blk_grown hk hg (Kd.R_ne HO5.out hk (Ne.symm ht))⟩)
  have f13 := blk_frozen HG6.out 13
  have c13 := (blk_cell HG6.out 13).trans rfl
  clear ho hb hg hat
  refine hK.out _ _ ?_
  clear hK K
  refine norm_ (a' := ?_) ?_ ?_
  rotate_left
  ·show Act.put _ (some 46) _ = _
   simp only [Act.put, Z1, Z2, Z3, i64_w, i32_w]
   rfl
  refine P1 8 47 ?_ (Bz 11 0x1ff) ?_ ?_ ?_ ?_
  rotate_left
  ·intro w'
   go_simp
   with_reducible rfl
  rotate_left
  ·simp only [Act.put, Z1, Z2, Z3, i64_w, i32_w]
   rfl
  refine P1 9 48 ?_ (Bz 11 0x3ff) ?_ ?_ ?_ ?_
  rotate_left
  ·intro w'
   go_simp
   with_reducible rfl
  rotate_left
  ·simp only [Act.put, Z1, Z2, Z3, i64_w, i32_w]
   rfl
  refine last_ (i := 10) (N := none) #[Y, Y, Y, Y, Y, Y, Y, Y, Y, Y, Y] rfl rfl (by kernel_rfl) (by decide) (fun K hK => ?_)
  refine skip_ (w1 := ?_) (by rfl) rfl ?_ ?_
  rotate_left
  ·go_simp
   rfl
  refine hK.out _ _ ?_
  clear hK K
  refine done_ (by kernel_rfl) ?_
  have HG7 := Aside0.mk (blk_put HG6.out 13 (.slice A1 ms.length k1_) rfl)
  have HO7 := Aside0.mk (R_setL HG6.out HO6.out 13 (.slice A1 ms.length k1_))
  have HB7 := Aside0.mk (HB6.out.setCell (p := ⟨g, 13, none⟩) HGE.out (.slice A1 ms.length k1_))
  have HK7 := Aside0.mk (HK6.out.set 13 (.slice A1 ms.length k1_))
  go_wp2_with (refine bodyPost_ret (results_none rfl _ _ _) rfl ?_)
  have hf : f = 0 := HR.out.full K1.out
  refine ⟨rfl, ⟨.slice A1 ms.length k1_, ms, 0, ?_, HGE.out, HO7.out, ⟨?_, Or.inl rfl, fun _ => rfl⟩⟩, HB7.out, HK7.out⟩
  ·have h7 := HG7.out
   rw [← HFI.out, hf, HT2.out] at h7
   exact h7
  ·show (if (recs.length : Int) < sz then recs ++ [Lg.rec1 _ at_] else recs.drop 1 ++ [Lg.rec1 _ at_]) = _
   rw [if_pos (by rw [HLR.out]; exact K1.out), List.drop_zero, List.take_zero, List.append_nil, ← HMS.out, HR.out.recs, hf, List.drop_zero, List.take_zero, List.append_nil, HT2.out]
   rfl
 ·have hpos : 0 < ring.length := by have := HSZ.out; omega
  have hfl : f < ring.length := by have := HR.out.lt; omega
  obtain ⟨gr, c0, e0, _⟩ := Kd.R_form hO hpos
  subst e0
  have k1b : decide ((ring.length : Int) < sz) = false := decide_eq_false k1
  have K1 := Aside0.mk k1
  have HF0 := Aside0.mk (show 0 ≤ fi by have := HFI.out; omega)
  have HF1 := Aside0.mk (show fi < (ring.length : Int) by have := HFI.out; omega)
  have HFL := Aside0.mk hfl
  clear k1 hpos hfl
  have HG := Aside0.mk hG
  have HG1 := Aside0.mk (blk_put hG 12 (.int .i64 tt) rfl)
  have HO1 := Aside0.mk (R_setL hG hO 12 (.int .i64 tt))
  have HB1 := Aside0.mk ((Below.refl B w).setCell (p := ⟨g, 12, none⟩) hge (.int .i64 tt))
  have HK1 := Aside0.mk ((KeepL.refl w g).set 12 (.int .i64 tt))
  clear hO hge hBS
  have c12 := (blk_cell hG 12).trans rfl
  have f12 := blk_frozen hG 12
  clear hG
  go_enter Tryd.func28, Tryd.ntmps28
  go_wp2
  rw [HTT.out]
  generalize w.setCell ⟨g, 12, none⟩ (.int .i64 tt) = w1 at HG1 HO1 HB1 HK1 ⊢
  clear c12 f12
  have c12 := (blk_cell HG1.out 12).trans rfl
  have c8 := (blk_cell HG1.out 8).trans rfl
  have c9 := (blk_cell HG1.out 9).trans rfl
  have c10 := (blk_cell HG1.out 10).trans rfl
  have HG2 := Aside0.mk (blk_drew HG1.out)
  have HO2 := Aside0.mk (Kd.R_drew HO1.out)
  have HB2 := Aside0.mk (below_drew1 HB1.out)
  have HK2 := Aside0.mk HK1.out.drew
  refine start_ (n := 18) (S := fun w' => w'.cell? ⟨g, 12, none⟩ = some (.int .i64 tt) ∧ w'.cell? ⟨g, 8, none⟩ = some (.int .i64 vk) ∧ w'.cell? ⟨g, 9, none⟩ = some (.int .i64 vn) ∧ w'.cell? ⟨g, 10, none⟩ = some (.int .i64 q)) (ds := []) #[Yn, Yn, Yn, Yn, Yn, Yn, Yn, Yn, Yn, Yn, Yn, Yn, Yn, Yn, Yn, Yn, Yn, Yn] (by kernel_rfl) rfl rfl ⟨c12, c8, c9, c10⟩ (fun hHeld => ?_)
  generalize w1.drew = w2 at HG2 HO2 HB2 HK2 hHeld ⊢
  refine P1 0 12 ?_ (Bz 18 0x1) ?_ ?_ ?_ ?_
  rotate_left
  ·intro w'
   go_simp
   with_reducible rfl
  rotate_left
  ·simp only [Act.put, Z1, Z2, Z3, i64_w, i32_w]
   rfl
  refine P1 1 13 ?_ (Bz 18 0x3) ?_ ?_ ?_ ?_
  rotate_left
  ·intro w'
   go_simp
   with_reducible rfl
  rotate_left
  ·simp only [Act.put, Z1, Z2, Z3, i64_w, i32_w]
   rfl
  refine P1 2 14 ?_ (Bz 18 0x7) ?_ ?_ ?_ ?_
  rotate_left
  ·intro w'
   go_simp
   with_reducible rfl
  rotate_left
  ·simp only [Act.put, Z1, Z2, Z3, i64_w, i32_w]
   rfl
  refine P1 4 16 ?_ (Bz 18 0x17) ?_ ?_ ?_ ?_
  rotate_left
  ·intro w'
   go_simp
   with_reducible rfl
  rotate_left
  ·simp only [Act.put, Z1, Z2, Z3, i64_w, i32_w]
   rfl
  refine P1 5 17 ?_ (Bz 18 0x37) ?_ ?_ ?_ ?_
  rotate_left
  ·intro w'
   go_simp
   with_reducible rfl
  rotate_left
  ·simp only [Act.put, Z1, Z2, Z3, i64_w, i32_w]
   rfl
  refine P1 6 18 ?_ (Bz 18 0x77) ?_ ?_ ?_ ?_
  rotate_left
  ·intro w'
   go_simp
   with_reducible rfl
  rotate_left
  ·simp only [Act.put, Z1, Z2, Z3, i64_w, i32_w]
   rfl
  refine P1 7 19 ?_ (Bz 18 0xf7) ?_ ?_ ?_ ?_
  rotate_left
  ·intro w'
   go_simp
   with_reducible rfl
  rotate_left
  ·simp only [Act.put, Z1, Z2, Z3, i64_w, i32_w]
   rfl
  refine P1 8 20 ?_ (Bz 18 0x1f7) ?_ ?_ ?_ ?_
  rotate_left
  ·intro w'
   go_simp
   with_reducible rfl
  rotate_left
  ·simp only [Act.put, Z1, Z2, Z3, i64_w, i32_w]
   rfl
  refine P1 10 22 ?_ (Bz 18 0x5f7) ?_ ?_ ?_ ?_
  rotate_left
  ·intro w'
   go_simp
   with_reducible rfl
  rotate_left
  ·simp only [Act.put, Z1, Z2, Z3, i64_w, i32_w]
   rfl
  refine P1 11 23 ?_ (Bz 18 0xdf7) ?_ ?_ ?_ ?_
  rotate_left
  ·intro w'
   go_simp
   with_reducible rfl
  rotate_left
  ·simp only [Act.put, Z1, Z2, Z3, i64_w, i32_w]
   rfl
  refine P1 12 24 ?_ (Bz 18 0x1df7) ?_ ?_ ?_ ?_
  rotate_left
  ·intro w'
   go_simp
   with_reducible rfl
  rotate_left
  ·simp only [Act.put, Z1, Z2, Z3, i64_w, i32_w]
   rfl
  refine P1 13 25 ?_ (Bz 18 0x3df7) ?_ ?_ ?_ ?_
  rotate_left
  ·intro w'
   go_simp
   with_reducible rfl
  rotate_left
  ·simp only [Act.put, Z1, Z2, Z3, i64_w, i32_w]
   rfl
  refine P5 3 15 ?_ (Bz 18 0x3dff) ?_ hHeld ?_ ?_ ?_
  rotate_left
  ·rintro w' ⟨s0, s1, s2, s3⟩
   go_simp
   with_reducible rfl
  rotate_left
  ·simp only [Act.put, Z1, Z2, Z3, i64_w, i32_w]
   rfl
  refine P5 9 21 ?_ (Bz 18 0x3fff) ?_ hHeld ?_ ?_ ?_
  rotate_left
  ·rintro w' ⟨s0, s1, s2, s3⟩
   go_simp
   with_reducible rfl
  rotate_left
  ·simp only [Act.put, Z1, Z2, Z3, i64_w, i32_w]
   rfl
  refine P5 14 26 ?_ (Bz 18 0x7fff) ?_ hHeld ?_ ?_ ?_
  rotate_left
  ·rintro w' ⟨s0, s1, s2, s3⟩
   go_simp
   with_reducible rfl
  rotate_left
  ·simp only [Act.put, Z1, Z2, Z3, i64_w, i32_w]
   rfl
  refine P1 15 27 ?_ (Bz 18 0xffff) ?_ ?_ ?_ ?_
  rotate_left
  ·intro w'
   go_simp
   with_reducible rfl
  rotate_left
  ·simp only [Act.put, Z1, Z2, Z3, i64_w, i32_w]
   rfl
  refine one_ (i := 16) (N := some 4) #[Y, Y, Y, Y, Y, Y, Y, Y, Y, Y, Y, Y, Y, Y, Y, Y, Y, Yn] rfl rfl (by kernel_rfl) (by decide) (fun K hK => ?_)
  refine value_ (w1 := ?_) (v := ?_) (by rfl) rfl ?_ ?_
  rotate_left 2
  ·go_simp
   constructor
   ·rfl
   ·rfl
  refine hK.out _ _ ⟨(blk_cell (blk_alloc HG2.out _) 12).trans rfl, (blk_cell (blk_alloc HG2.out _) 8).trans rfl, (blk_cell (blk_alloc HG2.out _) 9).trans rfl, (blk_cell (blk_alloc HG2.out _) 10).trans rfl⟩ (fun hHeld => ?_)
  clear hK K
  refine norm_ (a' := ?_) ?_ ?_
  rotate_left
  ·show Act.put _ (some 4) _ = _
   simp only [Act.put, Z1, Z2, Z3, i64_w, i32_w]
   rfl
  refine one_ (i := 17) (N := none) #[Y, Y, Y, Y, Y, Y, Y, Y, Y, Y, Y, Y, Y, Y, Y, Y, Y, Y] rfl rfl (by kernel_rfl) (by decide) (fun K hK => ?_)
  refine step_store_row (by rfl) rfl 44 (.tmp 4) (.tmp 27) rfl w2.heap.size #[.int .i64 tt, .int .i64 at_, .int .i64 vk, .int .i64 vn, .int .i64 q, .int .i64 0] rfl rfl 44 #[.int .i64 0, .int .i64 0, .int .i64 0, .int .i64 0, .int .i64 0, .int .i64 0] (blk_new w2 (.cells #[.int .i64 0, .int .i64 0, .int .i64 0, .int .i64 0, .int .i64 0, .int .i64 0] 44 (0, 0))) (by kernel_rfl) rfl (by simp [Value.oneCell']) ?_
  have hbx := below_setRow (below_alloc (Below.refl w2.heap.size w2) (.cells #[.int .i64 0, .int .i64 0, .int .i64 0, .int .i64 0, .int .i64 0, .int .i64 0] 44 (0, 0))) (Nat.le_refl _) #[.int .i64 tt, .int .i64 at_, .int .i64 vk, .int .i64 vn, .int .i64 q, .int .i64 0]
  have HX3 := Aside0.mk (setRow_heap _ _ _ #[.int .i64 tt, .int .i64 at_, .int .i64 vk, .int .i64 vn, .int .i64 q, .int .i64 0] _ _ (blk_new w2 (.cells #[.int .i64 0, .int .i64 0, .int .i64 0, .int .i64 0, .int .i64 0, .int .i64 0] 44 (0, 0))))
  have HG3 := Aside0.mk (blk_below HG2.out hbx)
  have HO3 := Aside0.mk (Kd.R_below HO2.out hbx)
  have HB3 := Aside0.mk (HB2.out.trans (hbx.mono (Nat.le_trans HBS.out HB2.out.size)))
  have HK3 := Aside0.mk (HK2.out.trans (KeepL.of_below hbx g))
  clear hbx
  obtain ⟨gx, HGX⟩ : ∃ gx, Aside0 (w2.heap.size = gx) := ⟨_, ⟨rfl⟩⟩
  rw [HGX.out] at HX3 HG3 HO3 HB3 HK3 ⊢
  generalize (w2.alloc (.cells #[.int .i64 0, .int .i64 0, .int .i64 0, .int .i64 0, .int .i64 0, .int .i64 0] 44 (0, 0))).setRow gx #[.int .i64 tt, .int .i64 at_, .int .i64 vk, .int .i64 vn, .int .i64 q, .int .i64 0] = w3 at HX3 HG3 HO3 HB3 HK3 ⊢
  refine hK.out _ _ ⟨(blk_cell HG3.out 12).trans rfl, (blk_cell HG3.out 8).trans rfl, (blk_cell HG3.out 9).trans rfl, (blk_cell HG3.out 10).trans rfl⟩ (fun hHeld => ?_)
  clear hK K
  refine done_ (by kernel_rfl) ?_
  clear c12 c8 c9 c10 hHeld
  have c13 := (blk_cell HG3.out 13).trans rfl
  have c5 := (blk_cell HG3.out 5).trans rfl
  go_wp2
  have HG4 := Aside0.mk (blk_drew HG3.out)
  have HO4 := Aside0.mk (Kd.R_drew HO3.out)
  have HB4 := Aside0.mk (below_drew1 HB3.out)
  have HK4 := Aside0.mk HK3.out.drew
  have HX4 := Aside0.mk (blk_drew HX3.out)
  refine start_ (n := 11) (S := fun w' => w'.cell? ⟨g, 13, none⟩ = some (.slice (some ⟨gr, 0, none⟩) ring.length c0) ∧ w'.cell? ⟨g, 5, none⟩ = some (.int .i64 sz)) (ds := []) #[Yn, Yn, Yn, Yn, Yn, Yn, Yn, Yn, Yn, Yn, Yn] (by kernel_rfl) rfl rfl ⟨c13, c5⟩ (fun hHeld => ?_)
  generalize w3.drew = w4 at HG4 HO4 HB4 HK4 HX4 hHeld ⊢
  refine P1 0 28 ?_ (Bz 11 0x1) ?_ ?_ ?_ ?_
  rotate_left
  ·intro w'
   go_simp
   with_reducible rfl
  rotate_left
  ·simp only [Act.put, Z1, Z2, Z3, i64_w, i32_w]
   rfl
  refine P1 1 29 ?_ (Bz 11 0x3) ?_ ?_ ?_ ?_
  rotate_left
  ·intro w'
   go_simp
   with_reducible rfl
  rotate_left
  ·simp only [Act.put, Z1, Z2, Z3, i64_w, i32_w]
   rfl
  refine P1 2 30 ?_ (Bz 11 0x7) ?_ ?_ ?_ ?_
  rotate_left
  ·intro w'
   go_simp
   with_reducible rfl
  rotate_left
  ·simp only [Act.put, Z1, Z2, Z3, i64_w, i32_w]
   rfl
  refine P1 5 33 ?_ (Bz 11 0x27) ?_ ?_ ?_ ?_
  rotate_left
  ·intro w'
   go_simp
   with_reducible rfl
  rotate_left
  ·simp only [Act.put, Z1, Z2, Z3, i64_w, i32_w]
   rfl
  refine P1 6 34 ?_ (Bz 11 0x67) ?_ ?_ ?_ ?_
  rotate_left
  ·intro w'
   go_simp
   with_reducible rfl
  rotate_left
  ·simp only [Act.put, Z1, Z2, Z3, i64_w, i32_w]
   rfl
  refine P1 7 35 ?_ (Bz 11 0xe7) ?_ ?_ ?_ ?_
  rotate_left
  ·intro w'
   go_simp
   with_reducible rfl
  rotate_left
  ·simp only [Act.put, Z1, Z2, Z3, i64_w, i32_w]
   rfl
  refine P1 8 36 ?_ (Bz 11 0x1e7) ?_ ?_ ?_ ?_
  rotate_left
  ·intro w'
   go_simp
   with_reducible rfl
  rotate_left
  ·simp only [Act.put, Z1, Z2, Z3, i64_w, i32_w]
   rfl
  refine P5 3 31 ?_ (Bz 11 0x1ef) ?_ hHeld ?_ ?_ ?_
  rotate_left
  ·rintro w' ⟨s0, s1⟩
   go_simp
   with_reducible rfl
  rotate_left
  ·simp only [Act.put, Z1, Z2, Z3, i64_w, i32_w]
   rfl
  refine P1 4 32 ?_ (Bz 11 0x1ff) ?_ ?_ ?_ ?_
  rotate_left
  ·intro w'
   go_simp
   with_reducible rfl
  rotate_left
  ·simp only [Act.put, Z1, Z2, Z3, i64_w, i32_w]
   rfl
  refine P5 9 37 ?_ (Bz 11 0x3ff) ?_ hHeld ?_ ?_ ?_
  rotate_left
  ·rintro w' ⟨s0, s1⟩
   go_simp
   with_reducible rfl
  rotate_left
  ·simp only [Act.put, Z1, Z2, Z3, i64_w, i32_w]
   rfl
  refine P1 10 38 ?_ (Bz 11 0x7ff) ?_ ?_ ?_ ?_
  rotate_left
  ·intro w'
   go_simp
   with_reducible rfl
  rotate_left
  ·simp only [Act.put, Z1, Z2, Z3, i64_w, i32_w]
   rfl
  refine done_ (by kernel_rfl) ?_
  clear c13 c5 hHeld
  have c13 := (blk_cell HG4.out 13).trans rfl
  have c14 := (blk_cell HG4.out 14).trans rfl
  have x0 := (blk_cell HX4.out 0).trans rfl
  have x1 := (blk_cell HX4.out 1).trans rfl
  have x2 := (blk_cell HX4.out 2).trans rfl
  have x3 := (blk_cell HX4.out 3).trans rfl
  have x4 := (blk_cell HX4.out 4).trans rfl
  have x5 := (blk_cell HX4.out 5).trans rfl
  have h0t : (0 ≤ fi) = True := eq_true HF0.out
  have h1t : (fi < (ring.length : Int)) = True := eq_true HF1.out
  go_wp2
  have HG5 := Aside0.mk (blk_drew HG4.out)
  have HO5 := Aside0.mk (Kd.R_drew HO4.out)
  have HB5 := Aside0.mk (below_drew1 HB4.out)
  have HK5 := Aside0.mk HK4.out.drew
  have HX5 := Aside0.mk (blk_drew HX4.out)
  refine start_ (n := 11) (S := fun w' => w'.cell? ⟨g, 13, none⟩ = some (.slice (some ⟨gr, 0, none⟩) ring.length c0) ∧ w'.cell? ⟨g, 14, none⟩ = some (.int .i64 fi) ∧ w'.cell? ⟨gx, 0, none⟩ = some (.int .i64 tt) ∧ w'.cell? ⟨gx, 1, none⟩ = some (.int .i64 at_) ∧ w'.cell? ⟨gx, 2, none⟩ = some (.int .i64 vk) ∧ w'.cell? ⟨gx, 3, none⟩ = some (.int .i64 vn) ∧ w'.cell? ⟨gx, 4, none⟩ = some (.int .i64 q) ∧ w'.cell? ⟨gx, 5, none⟩ = some (.int .i64 0)) (ds := [10]) #[Yn, Yn, Yn, Yn, Yn, Yn, Yn, Yn, Yn, Yn, Yn] (by kernel_rfl) rfl rfl ⟨c13, c14, x0, x1, x2, x3, x4, x5⟩ (fun hHeld => ?_)
  generalize w4.drew = w5 at HG5 HO5 HB5 HK5 HX5 hHeld ⊢
  refine P1 0 49 ?_ (Bz 11 0x1) ?_ ?_ ?_ ?_
  rotate_left
  ·intro w'
   go_simp
   with_reducible rfl
  rotate_left
  ·simp only [Act.put, Z1, Z2, Z3, i64_w, i32_w]
   rfl
  refine P1 1 50 ?_ (Bz 11 0x3) ?_ ?_ ?_ ?_
  rotate_left
  ·intro w'
   go_simp
   with_reducible rfl
  rotate_left
  ·simp only [Act.put, Z1, Z2, Z3, i64_w, i32_w]
   rfl
  refine P1 2 51 ?_ (Bz 11 0x7) ?_ ?_ ?_ ?_
  rotate_left
  ·intro w'
   go_simp
   with_reducible rfl
  rotate_left
  ·simp only [Act.put, Z1, Z2, Z3, i64_w, i32_w]
   rfl
  refine P1 4 53 ?_ (Bz 11 0x17) ?_ ?_ ?_ ?_
  rotate_left
  ·intro w'
   go_simp
   with_reducible rfl
  rotate_left
  ·simp only [Act.put, Z1, Z2, Z3, i64_w, i32_w]
   rfl
  refine P1 5 54 ?_ (Bz 11 0x37) ?_ ?_ ?_ ?_
  rotate_left
  ·intro w'
   go_simp
   with_reducible rfl
  rotate_left
  ·simp only [Act.put, Z1, Z2, Z3, i64_w, i32_w]
   rfl
  refine P1 6 55 ?_ (Bz 11 0x77) ?_ ?_ ?_ ?_
  rotate_left
  ·intro w'
   go_simp
   with_reducible rfl
  rotate_left
  ·simp only [Act.put, Z1, Z2, Z3, i64_w, i32_w]
   rfl
  refine P5 3 52 ?_ (Bz 11 0x7f) ?_ hHeld ?_ ?_ ?_
  rotate_left
  ·rintro w' ⟨s0, s1, s2, s3, s4, s5, s6, s7⟩
   go_simp
   with_reducible rfl
  rotate_left
  ·simp only [Act.put, Z1, Z2, Z3, i64_w, i32_w]
   rfl
  refine P5 7 56 ?_ (Bz 11 0xff) ?_ hHeld ?_ ?_ ?_
  rotate_left
  ·rintro w' ⟨s0, s1, s2, s3, s4, s5, s6, s7⟩
   go_simp
   with_reducible rfl
  rotate_left
  ·simp only [Act.put, Z1, Z2, Z3, i64_w, i32_w]
   rfl
  refine P5 8 57 ?_ (Bz 11 0x1ff) ?_ hHeld ?_ ?_ ?_
  rotate_left
  ·rintro w' ⟨s0, s1, s2, s3, s4, s5, s6, s7⟩
   go_simp
   with_reducible rfl
  rotate_left
  ·simp only [Act.put, Z1, Z2, Z3, i64_w, i32_w]
   rfl
  refine P1 9 58 ?_ (Bz 11 0x3ff) ?_ ?_ ?_ ?_
  rotate_left
  ·intro w'
   go_simp
   with_reducible rfl
  rotate_left
  ·simp only [Act.put, Z1, Z2, Z3, i64_w, i32_w]
   rfl
  refine last_ (i := 10) (N := none) #[Y, Y, Y, Y, Y, Y, Y, Y, Y, Y, Y] rfl rfl (by kernel_rfl) (by decide) (fun K hK => ?_)
  obtain ⟨cz, hcl, hcc⟩ := elem44 HO5.out fi HF0.out HF1.out
  refine step_R_store k44 (w0 := w5) B (by rfl) rfl 44 (.tmp 58) (.tmp 57) rfl 44 fi ring (⟨tt, at_, ⟨vk, vn⟩, q, 0⟩ : S44) (.agg #[.int .i64 tt, .int .i64 at_, .int .i64 vk, .int .i64 vn, .int .i64 q, .int .i64 0]) [.int .i64 tt, .int .i64 at_, .int .i64 vk, .int .i64 vn, .int .i64 q, .int .i64 0] cz (fun _ => True) (fun _ => False) (by first | rfl | (go_simp; done) | (go_simp; rfl)) rfl rfl (by kernel_rfl) (by simp [Value.oneCell']) HO5.out HF0.out HF1.out hcl hcc rfl (k44_mkM _ _ _ (⟨tt, at_, ⟨vk, vn⟩, q, 0⟩ : S44)) (fun _ hk => hk.elim) (Below.refl _ _) ?_
  intro w6 ho hb hg
  clear hcc hcl
  obtain ⟨ms, HMS⟩ : ∃ ms, Aside0 (ring.set fi.toNat (⟨tt, at_, ⟨vk, vn⟩, q, 0⟩ : S44) = ms) := ⟨_, ⟨rfl⟩⟩
  rw [HMS.out] at ho
  have HML := Aside0.mk (show ring.length = ms.length by rw [← HMS.out, List.length_set])
  rw [HML.out] at ho
  have HG6 := Aside0.mk (blk_grown HG5.out hg (Kd.R_ne HO5.out HG5.out (by decide)))
  have HO6 := Aside0.mk ho
  have HB6 := Aside0.mk (HB5.out.trans hb)
  have HK6 := Aside0.mk (HK5.out.trans ⟨hg.size, fun k cs t hk ht _ => blk_grown hk hg (Kd.R_ne HO5.out hk (Ne.symm ht))⟩)
  rw [HML.out] at HG6
  clear ho hb hg
  refine hK.out _ _ ?_
  clear hK K
  refine done_ (by kernel_rfl) ?_
  clear c13 c14 x0 x1 x2 x3 x4 x5 hHeld h0t h1t
  have c14 := (blk_cell HG6.out 14).trans rfl
  have c13 := (blk_cell HG6.out 13).trans rfl
  have hz1 : ((ms.length : Int) = 0) = False := eq_false (by have := HML.out; have := HF0.out; have := HF1.out; omega)
  have hz3 : (ms = []) = False := eq_false (fun e => by have h1 := HML.out; rw [e, List.length_nil] at h1; have := HF0.out; have := HF1.out; omega)
  have hz2 : ((ms.length : Int) == 0) = false := beq_false_of_ne (by have := HML.out; have := HF0.out; have := HF1.out; omega)
  obtain ⟨fj, HFJ⟩ : ∃ fj, Aside0 (wrap64 (fi + 1) = fj) := ⟨_, ⟨rfl⟩⟩
  go_wp2
  have HG7 := Aside0.mk (blk_drew HG6.out)
  have HO7 := Aside0.mk (Kd.R_drew HO6.out)
  have HB7 := Aside0.mk (below_drew1 HB6.out)
  have HK7 := Aside0.mk HK6.out.drew
  refine start_ (n := 15) (S := fun w' => w'.cell? ⟨g, 14, none⟩ = some (.int .i64 fi) ∧ w'.cell? ⟨g, 13, none⟩ = some (.slice (some ⟨gr, 0, none⟩) ms.length c0)) (ds := [14]) #[Yn, Yn, Yn, Yn, Yn, Yn, Yn, Yn, Yn, Yn, Yn, Yn, Yn, Yn, Yn] (by kernel_rfl) rfl rfl ⟨c14, c13⟩ (fun hHeld => ?_)
  generalize w6.drew = w7 at HG7 HO7 HB7 HK7 hHeld ⊢
  refine P1 0 59 ?_ (Bz 15 0x1) ?_ ?_ ?_ ?_
  rotate_left
  ·intro w'
   go_simp
   with_reducible rfl
  rotate_left
  ·simp only [Act.put, Z1, Z2, Z3, i64_w, i32_w]
   rfl
  refine P1 1 60 ?_ (Bz 15 0x3) ?_ ?_ ?_ ?_
  rotate_left
  ·intro w'
   go_simp
   with_reducible rfl
  rotate_left
  ·simp only [Act.put, Z1, Z2, Z3, i64_w, i32_w]
   rfl
  refine P1 2 61 ?_ (Bz 15 0x7) ?_ ?_ ?_ ?_
  rotate_left
  ·intro w'
   go_simp
   with_reducible rfl
  rotate_left
  ·simp only [Act.put, Z1, Z2, Z3, i64_w, i32_w]
   rfl
  refine P1 3 62 ?_ (Bz 15 0xf) ?_ ?_ ?_ ?_
  rotate_left
  ·intro w'
   go_simp
   with_reducible rfl
  rotate_left
  ·simp only [Act.put, Z1, Z2, Z3, i64_w, i32_w]
   rfl
  refine P1 6 65 ?_ (Bz 15 0x4f) ?_ ?_ ?_ ?_
  rotate_left
  ·intro w'
   go_simp
   with_reducible rfl
  rotate_left
  ·simp only [Act.put, Z1, Z2, Z3, i64_w, i32_w]
   rfl
  refine P1 7 66 ?_ (Bz 15 0xcf) ?_ ?_ ?_ ?_
  rotate_left
  ·intro w'
   go_simp
   with_reducible rfl
  rotate_left
  ·simp only [Act.put, Z1, Z2, Z3, i64_w, i32_w]
   rfl
  refine P1 8 67 ?_ (Bz 15 0x1cf) ?_ ?_ ?_ ?_
  rotate_left
  ·intro w'
   go_simp
   with_reducible rfl
  rotate_left
  ·simp only [Act.put, Z1, Z2, Z3, i64_w, i32_w]
   rfl
  refine P5 4 63 ?_ (Bz 15 0x1df) ?_ hHeld ?_ ?_ ?_
  rotate_left
  ·rintro w' ⟨s0, s1⟩
   go_simp
   with_reducible rfl
  rotate_left
  ·simp only [Act.put, Z1, Z2, Z3, i64_w, i32_w]
   rfl
  refine P1 5 64 ?_ (Bz 15 0x1ff) ?_ ?_ ?_ ?_
  rotate_left
  ·intro w'
   go_simp
   with_reducible rfl
  rotate_left
  ·simp only [Act.put, Z1, Z2, Z3, i64_w, i32_w]
   rfl
  refine P5 9 68 ?_ (Bz 15 0x3ff) ?_ hHeld ?_ ?_ ?_
  rotate_left
  ·rintro w' ⟨s0, s1⟩
   go_simp
   with_reducible rfl
  rotate_left
  ·simp only [Act.put, Z1, Z2, Z3, i64_w, i32_w]
   rfl
  refine P1 10 69 ?_ (Bz 15 0x7ff) ?_ ?_ ?_ ?_
  rotate_left
  ·intro w'
   go_simp
   with_reducible rfl
  rotate_left
  ·simp only [Act.put, Z1, Z2, Z3, i64_w, i32_w]
   rfl
  refine P1 11 70 ?_ (Bz 15 0xfff) ?_ ?_ ?_ ?_
  rotate_left
  ·intro w'
   go_simp
   with_reducible rfl
  rotate_left
  ·simp only [Act.put, Z1, Z2, Z3, i64_w, i32_w]
   rfl
  refine P1 12 71 ?_ (Bz 15 0x1fff) ?_ ?_ ?_ ?_
  rotate_left
  ·intro w'
   go_simp
   with_reducible rfl
  rotate_left
  ·simp only [Act.put, Z1, Z2, Z3, i64_w, i32_w]
   rfl
  refine P1 13 72 ?_ (Bz 15 0x3fff) ?_ ?_ ?_ ?_
  rotate_left
  ·intro w'
   go_simp
   with_reducible rfl
  rotate_left
  ·simp only [Act.put, Z1, Z2, Z3, i64_w, i32_w]
   rfl
  refine last_ (i := 14) (N := none) #[Y, Y, Y, Y, Y, Y, Y, Y, Y, Y, Y, Y, Y, Y, Y] rfl rfl (by kernel_rfl) (by decide) (fun K hK => ?_)
  have f14 := blk_frozen HG7.out 14
  have c14 := (blk_cell HG7.out 14).trans rfl
  refine skip_ (w1 := ?_) (by rfl) rfl ?_ ?_
  rotate_left
  ·go_simp
   rfl
  refine hK.out _ _ ?_
  clear hK K
  refine done_ (by kernel_rfl) ?_
  have hfj : fj = fi + 1 := by rw [← HFJ.out, wrap_id (by have := HF0.out; omega) (by have := HF1.out; omega)]
  obtain ⟨f', HFP⟩ : ∃ f' : Nat, Aside0 ((f + 1 = ring.length ∧ f' = 0) ∨ (f + 1 < ring.length ∧ f' = f + 1)) := by
   by_cases e : f + 1 = ring.length
   ·exact ⟨0, ⟨Or.inl ⟨e, rfl⟩⟩⟩
   ·exact ⟨f + 1, ⟨Or.inr ⟨by have := HFL.out; omega, rfl⟩⟩⟩
  have hrem : fj.tmod (ms.length : Int) = ((f' : Nat) : Int) := by
   have h1 := HFI.out
   have h2 := HML.out
   have h3 := HFL.out
   rw [hfj, ← h1, ← h2, Int.tmod_eq_emod_of_nonneg (by omega)]
   rcases HFP.out with ⟨h4, h5⟩ | ⟨h4, h5⟩
   ·rw [h5, ← h4]
    have : ((f : Int) + 1) % ((f + 1 : Nat) : Int) = 0 := by rw [show ((f + 1 : Nat) : Int) = (f : Int) + 1 by omega, Int.emod_self]
    exact this
   ·rw [h5, Int.emod_eq_of_lt (by omega) (by omega)]
    omega
  rw [HFJ.out, hrem]
  have HG8 := Aside0.mk (blk_put HG7.out 14 (.int .i64 ((f' : Nat) : Int)) rfl)
  have HO8 := Aside0.mk (R_setL HG7.out HO7.out 14 (.int .i64 ((f' : Nat) : Int)))
  have HB8 := Aside0.mk (HB7.out.setCell (p := ⟨g, 14, none⟩) HGE.out (.int .i64 ((f' : Nat) : Int)))
  have HK8 := Aside0.mk (HK7.out.set 14 (.int .i64 ((f' : Nat) : Int)))
  refine bodyPost_end (results_none rfl _ _ _) rfl ?_
  refine ⟨rfl, ⟨.slice (some ⟨gr, 0, none⟩) ms.length c0, ms, f', ?_, HGE.out, HO8.out, ⟨?_, ?_, ?_⟩⟩, HB8.out, HK8.out⟩
  ·have h8 := HG8.out
   rw [HT2.out] at h8
   exact h8
  ·show (if (recs.length : Int) < sz then recs ++ [Lg.rec1 _ at_] else recs.drop 1 ++ [Lg.rec1 _ at_]) = _
   rw [if_neg (by rw [HLR.out]; exact Int.not_lt.mpr K1.out), HR.out.recs, ← HMS.out, show fi.toNat = f by have := HFI.out; omega]
   have h2 := HT2.out
   subst h2
   exact rot_step ring f _ HFL.out f' HFP.out
  ·rcases HFP.out with ⟨h4, h5⟩ | ⟨h4, h5⟩
   ·exact Or.inl h5
   ·exact Or.inr (by rw [← HML.out, h5]; exact h4)
  ·intro h
   exact absurd h (by rw [← HML.out]; exact Int.not_lt.mpr K1.out)
end Go.Proofs.YtbccjcdmpiolpaaDoor.T
end
section
namespace Go.Proofs.YtbccjcdmpiolpaaDoor.T
open Go.RowKit Go.Proofs.YtbccjcdmpiolpaaDoorW.PrintWords Go.Proofs.YtbccjcdmpiolpaaDoorW.PrintLast Go.Proofs.YtbccjcdmpiolpaaDoorW.PrintMore
set_option linter.unusedVariables false
set_option linter.unusedSimpArgs false
attribute [local go_sem] max2_int min2_int max_two min_two
theorem LogAt.set_now {B g : Nat} {L : Lg} {w : World} (h : LogAt B g L w) (x : Int) : LogAt B g { L with now := x } (w.setCell ⟨g, 6, none⟩ (.int .i64 x)) := by
 obtain ⟨v, ring, f, hv, hg, ho, hr⟩ := h
 exact ⟨v, ring, f, blk_put hv 6 _ rfl, hg, R_setL hv ho 6 _, hr⟩
theorem LogAt.set_total {B g : Nat} {L : Lg} {w : World} (h : LogAt B g L w) (x : Int) : LogAt B g { L with total := x } (w.setCell ⟨g, 12, none⟩ (.int .i64 x)) := by
 obtain ⟨v, ring, f, hv, hg, ho, hr⟩ := h
 exact ⟨v, ring, f, blk_put hv 12 _ rfl, hg, R_setL hv ho 12 _, hr⟩
def Lg.run (L : Lg) (k0 : Int) : Nat → Lg
 | 0 => L
 | j + 1 => (L.run k0 j).record ((k0 + (j : Int)) * L.iv)
structure SameBut (L M : Lg) : Prop where
 nm : M.nm = L.nm
 pt : M.pt = L.pt
 way : M.way = L.way
 iv : M.iv = L.iv
 st : M.st = L.st
 sz : M.sz = L.sz
 now : M.now = L.now
 valid : M.valid = L.valid
 vk : M.vk = L.vk
 vn : M.vn = L.vn
 q : M.q = L.q
 ra : M.ra = L.ra
theorem SameBut.refl (L : Lg) : SameBut L L := ⟨rfl, rfl, rfl, rfl, rfl, rfl, rfl, rfl, rfl, rfl, rfl, rfl⟩
theorem SameBut.record {L M : Lg} (h : SameBut L M) (a : Int) : SameBut L (M.record a) := ⟨h.nm, h.pt, h.way, h.iv, h.st, h.sz, h.now, h.valid, h.vk, h.vn, h.q, h.ra⟩
theorem run_same (L : Lg) (k0 : Int) : ∀ j, SameBut L (L.run k0 j)
 | 0 => SameBut.refl L
 | j + 1 => (run_same L k0 j).record _
theorem run_total (L : Lg) (k0 : Int) : ∀ j : Nat, (L.run k0 j).total = L.total + (j : Int)
 | 0 => by simp [Lg.run]
 | j + 1 => by
  show (L.run k0 j).total + 1 = _
  rw [run_total L k0 j]
  omega
theorem record_len (L : Lg) (a : Int) (h : (L.recs.length : Int) ≤ L.sz) (hs : 1 ≤ L.sz) : ((L.record a).recs.length : Int) ≤ L.sz := by
 show (((if (L.recs.length : Int) < L.sz then L.recs ++ [L.rec1 a] else L.recs.drop 1 ++ [L.rec1 a]) : List S44).length : Int) ≤ L.sz
 split
 ·rw [List.length_append, List.length_singleton]
  omega
 ·rw [List.length_append, List.length_singleton, List.length_drop]
  omega
theorem run_len (L : Lg) (k0 : Int) (h : (L.recs.length : Int) ≤ L.sz) (hs : 1 ≤ L.sz) : ∀ j : Nat, ((L.run k0 j).recs.length : Int) ≤ L.sz
 | 0 => h
 | j + 1 => by
  have e := (run_same L k0 j).sz
  have := record_len (L.run k0 j) ((k0 + (j : Int)) * L.iv) (by rw [e]; exact run_len L k0 h hs j) (by rw [e]; exact hs)
  rw [e] at this
  exact this
def Lg.pass (L : Lg) (u : Int) : Lg × Int :=
 if L.way = 1 ∧ L.valid = true then
  ({ L with now := u, total := L.total + mx 0 (u / L.iv - L.now / L.iv - L.sz) }.run (L.now / L.iv + mx 0 (u / L.iv - L.now / L.iv - L.sz) + 1) (u / L.iv - L.now / L.iv - mx 0 (u / L.iv - L.now / L.iv - L.sz)).toNat, u / L.iv - L.now / L.iv)
 else ({ L with now := u }, 0)
structure OkL (L : Lg) : Prop where
 n0 : 0 ≤ L.now
 n1 : L.now ≤ 10000000000
 t0 : 0 ≤ L.total
 t1 : L.total ≤ 100000000000000
 s0 : 1 ≤ L.sz
 s1 : L.sz ≤ 1000000
 len : (L.recs.length : Int) ≤ L.sz
 iv : L.way = 1 → 1 ≤ L.iv ∧ L.iv ≤ 1000000
def PassPost (B g : Nat) (w : World) (x : Lg × Int) (e : Ending) (w' : World) : Prop := e = .returned (.int .i64 x.2) ∧ LogAt B g x.1 w' ∧ Below B w w' ∧ KeepL w w' g
structure PI (B g : Nat) (w : World) (L : Lg) (wr : World) : Prop where
 at_ : LogAt B g L wr
 bel : Below B w wr
 keep : KeepL w wr g
theorem tdiv_nn {a b : Int} (ha : 0 ≤ a) : a.tdiv b = a / b := Int.tdiv_eq_ediv_of_nonneg ha
set_option maxHeartbeats 16000000 in
set_option maxRecDepth 100000 in
theorem pass_calls (B g : Nat) (L : Lg) (u : Int) (w : World) (h : LogAt B g L w) (hBS : B ≤ w.heap.size) (hok : OkL L) (hu : L.now ≤ u ∧ u ≤ 10000000000) :
  Calls Tryd.prog 26 #[.pointer (some ⟨g, 0, none⟩), .int .i64 u] w fun e w' => PassPost B g w (L.pass u) e w' := by
 obtain ⟨nm, pt, way, iv, st, sz, now, valid, vk, vn, q, ra, total, recs⟩ := L
 have HOK := Aside0.mk hok
 have HBS := Aside0.mk hBS
 have HI0 := Aside0.mk h
 obtain ⟨v0, ring, f, hG, hge, _⟩ := h
 have HGE := Aside0.mk hge
 have hG : w.heap[g]? = some (.cells (LC nm pt way iv st sz now valid vk vn q ra total v0 ((f : Nat) : Int)) 68 (0, 0)) := hG
 have HI1 := Aside0.mk (HI0.out.set_now u)
 have HG1 := Aside0.mk (blk_put hG 6 (.int .i64 u) rfl)
 have HB1 := Aside0.mk ((Below.refl B w).setCell (p := ⟨g, 6, none⟩) hge (.int .i64 u))
 have HK1 := Aside0.mk ((KeepL.refl w g).set 6 (.int .i64 u))
 have c6 := (blk_cell hG 6).trans rfl
 have f6 := blk_frozen hG 6
 have c2 := (blk_cell hG 2).trans rfl
 have c7 := (blk_cell hG 7).trans rfl
 clear hG hge hok hBS
 by_cases k1 : way = 1
 ·have k1b : (way != 1) = false := by rw [k1]; rfl
  rcases Bool.eq_false_or_eq_true valid with k2 | k2
  ·have HIV := Aside0.mk (show 1 ≤ iv ∧ iv ≤ 1000000 from HOK.out.iv k1)
   have HU := Aside0.mk (show now ≤ u ∧ u ≤ 10000000000 from hu)
   clear hu
   subst k2
   obtain ⟨res, HRES⟩ : ∃ r, Aside0 (Lg.pass ⟨nm, pt, way, iv, st, sz, now, true, vk, vn, q, ra, total, recs⟩ u = r) := ⟨_, ⟨rfl⟩⟩
   rw [HRES.out]
   have KW := Aside0.mk k1
   clear k1
   obtain ⟨q0, HQ0⟩ : ∃ q, Aside0 (now / iv = q) := ⟨_, ⟨rfl⟩⟩
   obtain ⟨q1, HQ1⟩ : ∃ q, Aside0 (u / iv = q) := ⟨_, ⟨rfl⟩⟩
   have HQB := Aside0.mk (show 0 ≤ q0 ∧ q0 ≤ q1 ∧ q1 ≤ 10000000000 by
    have h0 := HOK.out.n0
    have h1 := HU.out
    have h2 := HIV.out
    simp only [] at h0
    rw [← HQ0.out, ← HQ1.out]
    exact ⟨Int.ediv_nonneg h0 (by omega), Int.ediv_le_ediv (by omega) h1.1, Int.le_trans (Int.ediv_le_self _ (by omega)) h1.2⟩)
   have hq0 : now.tdiv iv = q0 := by rw [tdiv_nn HOK.out.n0, HQ0.out]
   have hq1 : u.tdiv iv = q1 := by rw [tdiv_nn (by have h0 := HOK.out.n0; have h1 := HU.out; simp only [] at h0; omega), HQ1.out]
   have wq0 : wrap64 q0 = q0 := wrap_id (by have := HQB.out; omega) (by have := HQB.out; omega)
   have wq1 : wrap64 q1 = q1 := wrap_id (by have := HQB.out; omega) (by have := HQB.out; omega)
   obtain ⟨n, HN⟩ : ∃ n, Aside0 (q1 - q0 = n) := ⟨_, ⟨rfl⟩⟩
   obtain ⟨d, HD⟩ : ∃ d, Aside0 (n - sz = d) := ⟨_, ⟨rfl⟩⟩
   have hn_ : wrap64 (q1 - q0) = n := by rw [wrap_id (by have := HQB.out; omega) (by have := HQB.out; omega), HN.out]
   have hd_ : wrap64 (n - sz) = d := by
    have h1 := HN.out
    have h2 := HQB.out
    have h3 := HOK.out.s0
    have h4 := HOK.out.s1
    simp only [] at h3 h4
    rw [wrap_id (by omega) (by omega), HD.out]
   have HDB := Aside0.mk (show d ≤ 10000000000 by have h1 := HN.out; have h2 := HQB.out; have h3 := HOK.out.s0; have h4 := HD.out; simp only [] at h3; omega)
   go_enter Tryd.func26, Tryd.ntmps26
   go_wp2
   generalize w.setCell ⟨g, 6, none⟩ (.int .i64 u) = w1 at HI1 HG1 HB1 HK1 ⊢
   clear c6 f6 c2 c7
   have c3 := (blk_cell HG1.out 3).trans rfl
   have hz1 : (iv = 0) = False := eq_false (by have := HIV.out; omega)
   have hz2 : (iv == 0) = false := beq_false_of_ne (by have := HIV.out; omega)
   have HI2 := Aside0.mk HI1.out.drew
   have HG2 := Aside0.mk (blk_drew HG1.out)
   have HB2 := Aside0.mk (below_drew1 HB1.out)
   have HK2 := Aside0.mk HK1.out.drew
   refine start_ (n := 16) (S := fun w' => w'.cell? ⟨g, 3, none⟩ = some (.int .i64 iv)) (ds := []) #[Yn, Yn, Yn, Yn, Yn, Yn, Yn, Yn, Yn, Yn, Yn, Yn, Yn, Yn, Yn, Yn] (by kernel_rfl) rfl rfl (c3) (fun hHeld => ?_)
   generalize w1.drew = w2 at HI2 HG2 HB2 HK2 hHeld ⊢
   refine P1 0 30 ?_ (Bz 16 0x1) ?_ ?_ ?_ ?_
   rotate_left
   ·intro w'
    go_simp
    with_reducible rfl
   rotate_left
   ·simp only [Act.put, Z1, Z2, Z3, i64_w, i32_w]
    rfl
   refine P1 1 31 ?_ (Bz 16 0x3) ?_ ?_ ?_ ?_
   rotate_left
   ·intro w'
    go_simp
    with_reducible rfl
   rotate_left
   ·simp only [Act.put, Z1, Z2, Z3, i64_w, i32_w]
    rfl
   refine P1 2 32 ?_ (Bz 16 0x7) ?_ ?_ ?_ ?_
   rotate_left
   ·intro w'
    go_simp
    with_reducible rfl
   rotate_left
   ·simp only [Act.put, Z1, Z2, Z3, i64_w, i32_w]
    rfl
   refine P1 3 33 ?_ (Bz 16 0xf) ?_ ?_ ?_ ?_
   rotate_left
   ·intro w'
    go_simp
    with_reducible rfl
   rotate_left
   ·simp only [Act.put, Z1, Z2, Z3, i64_w, i32_w]
    rfl
   refine P1 4 34 ?_ (Bz 16 0x1f) ?_ ?_ ?_ ?_
   rotate_left
   ·intro w'
    go_simp
    with_reducible rfl
   rotate_left
   ·simp only [Act.put, Z1, Z2, Z3, i64_w, i32_w]
    rfl
   refine P1 7 37 ?_ (Bz 16 0x9f) ?_ ?_ ?_ ?_
   rotate_left
   ·intro w'
    go_simp
    with_reducible rfl
   rotate_left
   ·simp only [Act.put, Z1, Z2, Z3, i64_w, i32_w]
    rfl
   refine P1 8 38 ?_ (Bz 16 0x19f) ?_ ?_ ?_ ?_
   rotate_left
   ·intro w'
    go_simp
    with_reducible rfl
   rotate_left
   ·simp only [Act.put, Z1, Z2, Z3, i64_w, i32_w]
    rfl
   refine P1 9 39 ?_ (Bz 16 0x39f) ?_ ?_ ?_ ?_
   rotate_left
   ·intro w'
    go_simp
    with_reducible rfl
   rotate_left
   ·simp only [Act.put, Z1, Z2, Z3, i64_w, i32_w]
    rfl
   refine P1 10 40 ?_ (Bz 16 0x79f) ?_ ?_ ?_ ?_
   rotate_left
   ·intro w'
    go_simp
    with_reducible rfl
   rotate_left
   ·simp only [Act.put, Z1, Z2, Z3, i64_w, i32_w]
    rfl
   refine P1 11 41 ?_ (Bz 16 0xf9f) ?_ ?_ ?_ ?_
   rotate_left
   ·intro w'
    go_simp
    with_reducible rfl
   rotate_left
   ·simp only [Act.put, Z1, Z2, Z3, i64_w, i32_w]
    rfl
   refine P5 5 35 ?_ (Bz 16 0xfbf) ?_ hHeld ?_ ?_ ?_
   rotate_left
   ·intro w' s0
    go_simp
    with_reducible rfl
   rotate_left
   ·simp only [Act.put, Z1, Z2, Z3, i64_w, i32_w]
    rfl
   refine P1 6 36 ?_ (Bz 16 0xfff) ?_ ?_ ?_ ?_
   rotate_left
   ·intro w'
    go_simp
    with_reducible rfl
   rotate_left
   ·simp only [Act.put, Z1, Z2, Z3, i64_w, i32_w]
    rfl
   refine P5 12 42 ?_ (Bz 16 0x1fff) ?_ hHeld ?_ ?_ ?_
   rotate_left
   ·intro w' s0
    go_simp
    with_reducible rfl
   rotate_left
   ·simp only [Act.put, Z1, Z2, Z3, i64_w, i32_w]
    rfl
   refine P1 13 43 ?_ (Bz 16 0x3fff) ?_ ?_ ?_ ?_
   rotate_left
   ·intro w'
    go_simp
    with_reducible rfl
   rotate_left
   ·simp only [Act.put, Z1, Z2, Z3, i64_w, i32_w]
    rfl
   refine P1 14 44 ?_ (Bz 16 0x7fff) ?_ ?_ ?_ ?_
   rotate_left
   ·intro w'
    go_simp
    with_reducible rfl
   rotate_left
   ·simp only [Act.put, Z1, Z2, Z3, i64_w, i32_w]
    rfl
   refine P1 15 6 ?_ (Bz 16 0xffff) ?_ ?_ ?_ ?_
   rotate_left
   ·intro w'
    go_simp
    with_reducible rfl
   rotate_left
   ·simp only [Act.put, Z1, Z2, Z3, i64_w, i32_w]
    rfl
   refine done_ (by kernel_rfl) ?_
   clear c3 hHeld
   have c3 := (blk_cell HG2.out 3).trans rfl
   have c5 := (blk_cell HG2.out 5).trans rfl
   have c12 := (blk_cell HG2.out 12).trans rfl
   have f12 := blk_frozen HG2.out 12
   by_cases km : d ≤ 0
   ·obtain ⟨k0, HK0⟩ : ∃ k0, Aside0 (q0 + 0 + 1 = k0) := ⟨_, ⟨rfl⟩⟩
    have ht : wrap64 total = total := wrap_id (by have := HOK.out.t0; simp only [] at this; omega) (by have := HOK.out.t1; simp only [] at this; omega)
    have hk0 : wrap64 (q0 + 1) = k0 := by rw [wrap_id (by have := HQB.out; omega) (by have := HQB.out; omega), ← HK0.out]; omega
    have kmF : (d ≤ 0) = True := eq_true km
    have kmG : (0 < d) = False := eq_false (by omega)
    have HKM := HQB
    obtain ⟨m, HM⟩ : ∃ m, Aside0 ((n - 0).toNat = m) := ⟨_, ⟨rfl⟩⟩
    have HMM := Aside0.mk (show (m : Int) = q1 - q0 - 0 by have h1 := HM.out; have h2 := HN.out; have h3 := HD.out; have h4 := HQB.out; have h5 := HOK.out.s0; simp only [] at h5; omega)
    have HRS := Aside0.mk (show res = ((⟨nm, pt, way, iv, st, sz, u, true, vk, vn, q, ra, total, recs⟩ : Lg).run k0 m, n) by
     rw [← HRES.out]
     unfold Lg.pass
     rw [if_pos ⟨KW.out, rfl⟩]
     simp only []
     rw [HQ0.out, HQ1.out, HN.out, HD.out, show mx 0 d = 0 by unfold mx; omega, HM.out, HK0.out]
     rw [Int.add_zero])
    clear HRES
    have HK0E := Aside0.mk hk0
    obtain ⟨L1, HL1⟩ : ∃ L1, Aside0 ((⟨nm, pt, way, iv, st, sz, u, true, vk, vn, q, ra, total, recs⟩ : Lg) = L1) := ⟨_, ⟨rfl⟩⟩
    rw [HL1.out] at HRS
    clear km
    go_wp2
    (try simp only [wq0, wq1, hn_, hd_, ht, hk0])
    have HI3 := Aside0.mk (show LogAt B g L1 (w2.setCell ⟨g, 12, none⟩ (.int .i64 total)) by rw [← HL1.out]; exact HI2.out.set_total total)
    have HB3 := Aside0.mk (HB2.out.setCell (p := ⟨g, 12, none⟩) HGE.out (.int .i64 total))
    have HK3 := Aside0.mk (HK2.out.set 12 (.int .i64 total))
    have HOK1 := Aside0.mk (show OkL ⟨nm, pt, way, iv, st, sz, now, true, vk, vn, q, ra, total, recs⟩ from HOK.out)
    have HIVE := Aside0.mk (show L1.iv = iv by rw [← HL1.out])
    have HSZE := Aside0.mk (show L1.sz = sz ∧ L1.recs = recs ∧ L1.total = total by rw [← HL1.out]; exact ⟨rfl, rfl, rfl⟩)
    generalize w2.setCell ⟨g, 12, none⟩ (.int .i64 total) = w3 at HI3 HB3 HK3 ⊢
    clear HG2 HI2 HB2 HK2 HG1 HI1 HB1 HK1 c3 c5 c12 f12 ht hk0 kmF kmG
    go_loopw [8] (fun k wr => ∃ j : Nat, k = .int .i64 (k0 + (j : Int)) ∧ j ≤ m ∧ Aside0 (PI B g w (L1.run k0 j) wr)) (fun k _ => m + 1 - (intOf k - k0).toNat)
    case atStart => exact ⟨0, by (try rw [HK0E.out]); simp, Nat.zero_le _, ⟨⟨HI3.out, HB3.out, HK3.out⟩⟩⟩
    case round =>
     clear HI3 HB3 HK3
     obtain ⟨j, hk, hj, HI⟩ := hrel
     subst hk
     obtain ⟨kv, HKV⟩ : ∃ kv, Aside0 (k0 + (j : Int) = kv) := ⟨_, ⟨rfl⟩⟩
     rw [HKV.out]
     obtain ⟨v1, r1, f1, hG1, _⟩ := HI.out.at_
     have c3 := (blk_cell hG1 3).trans rfl
     rw [(run_same L1 k0 j).iv, HIVE.out] at c3
     clear hG1
     by_cases hlt : kv ≤ q1
     ·have hl1 : decide (kv ≤ q1) = true := decide_eq_true hlt
      have HKB := Aside0.mk (show 0 ≤ kv ∧ kv ≤ 10000000000 by have h1 := HKV.out; have h2 := HK0.out; have h3 := HQB.out; have h4 := HKM.out; omega)
      have hmul : wrap64 (kv * iv) = kv * iv := by
       have h1 := HKB.out
       have h2 := HIV.out
       have h3 : 0 ≤ kv * iv := Int.mul_nonneg h1.1 (by omega)
       have h4 : kv * iv ≤ 10000000000 * 1000000 := Int.mul_le_mul h1.2 h2.2 (by omega) (by omega)
       exact wrap_id (by omega) (by omega)
      have hk1 : wrap64 (kv + 1) = kv + 1 := wrap_id (by have := HKB.out; omega) (by have := HKB.out; omega)
      have HK1E := Aside0.mk hk1
      have HJ := Aside0.mk (show j < m by have h1 := HKV.out; have h2 := HK0.out; have h3 := HMM.out; omega)
      have HRT := Aside0.mk (run_total L1 k0 j)
      have HRL := Aside0.mk (run_len L1 k0 (by rw [HSZE.out.1, HSZE.out.2.1]; exact HOK1.out.len) (by rw [HSZE.out.1]; exact HOK1.out.s0) j)
      clear hlt hj
      go_wp2_with (go_at_call 28; (with_reducible refine (record_calls B g (L1.run k0 j) (kv * iv) _ HI.out.at_ (Nat.le_trans HBS.out HI.out.keep.size) (by rw [HRT.out, HSZE.out.2.2]; have h1 := HOK1.out.t0; have h2 := HOK1.out.t1; have h3 := HQB.out; have h4 := HMM.out; have h5 := HJ.out; have h6 := HN.out; have h7 := HDB.out; have h8 := HKM.out; (try simp only [] at h1 h2); omega) (by rw [(run_same L1 k0 j).sz, HSZE.out.1]; exact HOK1.out.s0) (by have h1 := HRL.out; have h2 := HOK1.out.s1; rw [HSZE.out.1] at h1; (try simp only [] at h2); omega)).mono ?_); rintro e w5 ⟨rfl, hi, hb, hk⟩; have HI5 := Aside0.mk (show PI B g w (L1.run k0 (j + 1)) w5 from ⟨(show LogAt B g ((L1.run k0 j).record ((k0 + (j : Int)) * L1.iv)) w5 by rw [HKV.out, HIVE.out]; exact hi), HI.out.bel.trans hb, HI.out.keep.trans hk⟩); clear hi hb hk)
      refine ⟨⟨j + 1, by first | (rw [HK1E.out, ← HKV.out]; congr 1; omega) | (rw [← HKV.out]; congr 1; omega), HJ.out, HI5⟩, ?_⟩
      ·first | (show m + 1 - (kv + 1 - k0).toNat < m + 1 - (kv - k0).toNat) | (show m + 1 - (wrap64 (kv + 1) - k0).toNat < m + 1 - (kv - k0).toNat; rw [HK1E.out])
       have h1 := HKV.out
       have h2 := HJ.out
       omega
     ·have hl1 : decide (kv ≤ q1) = false := decide_eq_false hlt
      have HJ := Aside0.mk (show j = m by have h1 := HKV.out; have h2 := HK0.out; have h3 := HMM.out; omega)
      clear hlt hj
      go_wp2
      go_ret
      rw [HRS.out]
      exact ⟨rfl, by rw [← HJ.out]; exact HI.out.at_, HI.out.bel, HI.out.keep⟩
   ·have HDB2 := HDB.out
    obtain ⟨tt, HTT⟩ : ∃ tt, Aside0 (total + d = tt) := ⟨_, ⟨rfl⟩⟩
    obtain ⟨k0, HK0⟩ : ∃ k0, Aside0 (q0 + d + 1 = k0) := ⟨_, ⟨rfl⟩⟩
    have ht : wrap64 (total + d) = tt := by rw [wrap_id (by have := HOK.out.t0; simp only [] at this; omega) (by have h1 := HOK.out.t1; have h2 := HDB.out; (try simp only [] at h1); omega), HTT.out]
    have hs_ : wrap64 (q0 + d) = q0 + d := wrap_id (by have := HQB.out; omega) (by have := HQB.out; omega)
    have hk0 : wrap64 (q0 + d + 1) = k0 := by rw [wrap_id (by have := HQB.out; omega) (by have := HQB.out; have := HDB.out; omega), HK0.out]
    have HKM := Aside0.mk (show 0 < d by omega)
    have kmF : (d ≤ 0) = False := eq_false km
    have kmG : (0 < d) = True := eq_true (by omega)
    obtain ⟨m, HM⟩ : ∃ m, Aside0 ((n - d).toNat = m) := ⟨_, ⟨rfl⟩⟩
    have HMM := Aside0.mk (show (m : Int) = q1 - q0 - d by have h1 := HM.out; have h2 := HN.out; have h3 := HD.out; have h4 := HQB.out; have h5 := HOK.out.s0; simp only [] at h5; omega)
    have HRS := Aside0.mk (show res = ((⟨nm, pt, way, iv, st, sz, u, true, vk, vn, q, ra, tt, recs⟩ : Lg).run k0 m, n) by
     rw [← HRES.out]
     unfold Lg.pass
     rw [if_pos ⟨KW.out, rfl⟩]
     simp only []
     rw [HQ0.out, HQ1.out, HN.out, HD.out, show mx 0 d = d by unfold mx; omega, HM.out, HK0.out]
     rw [HTT.out])
    clear HRES
    have HK0E := Aside0.mk hk0
    obtain ⟨L1, HL1⟩ : ∃ L1, Aside0 ((⟨nm, pt, way, iv, st, sz, u, true, vk, vn, q, ra, tt, recs⟩ : Lg) = L1) := ⟨_, ⟨rfl⟩⟩
    rw [HL1.out] at HRS
    clear km
    go_wp2
    (try simp only [wq0, wq1, hn_, hd_, ht, hs_, hk0])
    have HI3 := Aside0.mk (show LogAt B g L1 (w2.setCell ⟨g, 12, none⟩ (.int .i64 tt)) by rw [← HL1.out]; exact HI2.out.set_total tt)
    have HB3 := Aside0.mk (HB2.out.setCell (p := ⟨g, 12, none⟩) HGE.out (.int .i64 tt))
    have HK3 := Aside0.mk (HK2.out.set 12 (.int .i64 tt))
    have HOK1 := Aside0.mk (show OkL ⟨nm, pt, way, iv, st, sz, now, true, vk, vn, q, ra, total, recs⟩ from HOK.out)
    have HIVE := Aside0.mk (show L1.iv = iv by rw [← HL1.out])
    have HSZE := Aside0.mk (show L1.sz = sz ∧ L1.recs = recs ∧ L1.total = tt by rw [← HL1.out]; exact ⟨rfl, rfl, rfl⟩)
    generalize w2.setCell ⟨g, 12, none⟩ (.int .i64 tt) = w3 at HI3 HB3 HK3 ⊢
    clear HG2 HI2 HB2 HK2 HG1 HI1 HB1 HK1 c3 c5 c12 f12 ht hk0 kmF hs_ kmG
    go_loopw [8] (fun k wr => ∃ j : Nat, k = .int .i64 (k0 + (j : Int)) ∧ j ≤ m ∧ Aside0 (PI B g w (L1.run k0 j) wr)) (fun k _ => m + 1 - (intOf k - k0).toNat)
    case atStart => exact ⟨0, by (try rw [HK0E.out]); simp, Nat.zero_le _, ⟨⟨HI3.out, HB3.out, HK3.out⟩⟩⟩
    case round =>
     clear HI3 HB3 HK3
     obtain ⟨j, hk, hj, HI⟩ := hrel
     subst hk
     obtain ⟨kv, HKV⟩ : ∃ kv, Aside0 (k0 + (j : Int) = kv) := ⟨_, ⟨rfl⟩⟩
     rw [HKV.out]
     obtain ⟨v1, r1, f1, hG1, _⟩ := HI.out.at_
     have c3 := (blk_cell hG1 3).trans rfl
     rw [(run_same L1 k0 j).iv, HIVE.out] at c3
     clear hG1
     by_cases hlt : kv ≤ q1
     ·have hl1 : decide (kv ≤ q1) = true := decide_eq_true hlt
      have HKB := Aside0.mk (show 0 ≤ kv ∧ kv ≤ 10000000000 by have h1 := HKV.out; have h2 := HK0.out; have h3 := HQB.out; have h4 := HKM.out; omega)
      have hmul : wrap64 (kv * iv) = kv * iv := by
       have h1 := HKB.out
       have h2 := HIV.out
       have h3 : 0 ≤ kv * iv := Int.mul_nonneg h1.1 (by omega)
       have h4 : kv * iv ≤ 10000000000 * 1000000 := Int.mul_le_mul h1.2 h2.2 (by omega) (by omega)
       exact wrap_id (by omega) (by omega)
      have hk1 : wrap64 (kv + 1) = kv + 1 := wrap_id (by have := HKB.out; omega) (by have := HKB.out; omega)
      have HK1E := Aside0.mk hk1
      have HJ := Aside0.mk (show j < m by have h1 := HKV.out; have h2 := HK0.out; have h3 := HMM.out; omega)
      have HRT := Aside0.mk (run_total L1 k0 j)
      have HRL := Aside0.mk (run_len L1 k0 (by rw [HSZE.out.1, HSZE.out.2.1]; exact HOK1.out.len) (by rw [HSZE.out.1]; exact HOK1.out.s0) j)
      clear hlt hj
      go_wp2_with (go_at_call 28; (with_reducible refine (record_calls B g (L1.run k0 j) (kv * iv) _ HI.out.at_ (Nat.le_trans HBS.out HI.out.keep.size) (by rw [HRT.out, HSZE.out.2.2]; have h1 := HOK1.out.t0; have h2 := HOK1.out.t1; have h3 := HQB.out; have h4 := HMM.out; have h5 := HJ.out; have h6 := HTT.out; have h7 := HDB.out; have h8 := HKM.out; (try simp only [] at h1 h2); omega) (by rw [(run_same L1 k0 j).sz, HSZE.out.1]; exact HOK1.out.s0) (by have h1 := HRL.out; have h2 := HOK1.out.s1; rw [HSZE.out.1] at h1; (try simp only [] at h2); omega)).mono ?_); rintro e w5 ⟨rfl, hi, hb, hk⟩; have HI5 := Aside0.mk (show PI B g w (L1.run k0 (j + 1)) w5 from ⟨(show LogAt B g ((L1.run k0 j).record ((k0 + (j : Int)) * L1.iv)) w5 by rw [HKV.out, HIVE.out]; exact hi), HI.out.bel.trans hb, HI.out.keep.trans hk⟩); clear hi hb hk)
      refine ⟨⟨j + 1, by first | (rw [HK1E.out, ← HKV.out]; congr 1; omega) | (rw [← HKV.out]; congr 1; omega), HJ.out, HI5⟩, ?_⟩
      ·first | (show m + 1 - (kv + 1 - k0).toNat < m + 1 - (kv - k0).toNat) | (show m + 1 - (wrap64 (kv + 1) - k0).toNat < m + 1 - (kv - k0).toNat; rw [HK1E.out])
       have h1 := HKV.out
       have h2 := HJ.out
       omega
     ·have hl1 : decide (kv ≤ q1) = false := decide_eq_false hlt
      have HJ := Aside0.mk (show j = m by have h1 := HKV.out; have h2 := HK0.out; have h3 := HMM.out; omega)
      clear hlt hj
      go_wp2
      go_ret
      rw [HRS.out]
      exact ⟨rfl, by rw [← HJ.out]; exact HI.out.at_, HI.out.bel, HI.out.keep⟩
  ·subst k2
   have KW := Aside0.mk k1
   clear k1
   have HT := Aside0.mk (show Lg.pass ⟨nm, pt, way, iv, st, sz, now, false, vk, vn, q, ra, total, recs⟩ u = (⟨nm, pt, way, iv, st, sz, u, false, vk, vn, q, ra, total, recs⟩, 0) from if_neg (fun z => by cases z.2))
   rw [HT.out]
   go_enter Tryd.func26, Tryd.ntmps26
   go_wp2
   go_ret
   exact ⟨rfl, HI1.out, HB1.out, HK1.out⟩
 ·have k1b : (way != 1) = true := bne_iff_ne.mpr k1
  have HT := Aside0.mk (show Lg.pass ⟨nm, pt, way, iv, st, sz, now, valid, vk, vn, q, ra, total, recs⟩ u = (⟨nm, pt, way, iv, st, sz, u, valid, vk, vn, q, ra, total, recs⟩, 0) from if_neg (fun z => k1 z.1))
  rw [HT.out]
  go_enter Tryd.func26, Tryd.ntmps26
  go_wp2
  go_ret
  exact ⟨rfl, HI1.out, HB1.out, HK1.out⟩
end Go.Proofs.YtbccjcdmpiolpaaDoor.T
end
section
namespace Go.Proofs.YtbccjcdmpiolpaaDoor.T
open Go.RowKit Go.Proofs.YtbccjcdmpiolpaaDoorW.PrintWords Go.Proofs.YtbccjcdmpiolpaaDoorW.PrintLast Go.Proofs.YtbccjcdmpiolpaaDoorW.PrintMore
set_option linter.unusedVariables false
set_option linter.unusedSimpArgs false
attribute [local go_sem] max2_int min2_int max_two min_two
theorem step_store_mid {P : Program} {ops : Array Oper} {o : Oper} {a : Act} {Q : Exit → Act → World → Prop} {K : Act → World → Prop} {w : World} (hw : Region.wanted o (yielded ops a.tmps) = true) (hN : o.dst = none) (ty : TypeId) (x y : Operand) (ho : o.op = .store ty x y)
  (b off : Nat) (cells : Array Value) (hx : a.eval x = .pointer (some ⟨b, off, none⟩)) (hy : a.eval y = .agg cells)
  (ht : w.there b off cells.size) (hi : (P.info? ty).map (·.size) = some cells.size) (h1 : cells.all (·.oneCell') = true)
  (h : K a (w.setCells b off cells.toList)) : if Region.wanted o (yielded ops a.tmps) = true then Oper.wp P o a w K Q else K (a.put o.dst undef) w := by
 rw [if_pos hw]
 refine wp_store_mid ty x y ho b off cells hx hy ht hi h1 ?_
 rw [hN]
 exact h
theorem there_blk {w : World} {g : Nat} {cs : Array Value} {t : TypeId} (h : w.heap[g]? = some (.cells cs t (0, 0))) (o n : Nat) (hn : o + n ≤ cs.size) : w.there g o n := fun j hj =>
 ⟨by rw [blk_cell h]; simp; omega, blk_frozen h _⟩
def Row (w : World) (ad : Addr) (cs : List Value) : Prop := ∀ j v, cs[j]? = some v → w.cell? (ad.add j) = some v
theorem run_loadVar_at {P : Program} (w : World) (ad : Addr) (ty : TypeId) (cs : List Value) (d : TypeDesc) (hc : Row w ad cs)
  (hu : P.underlying ty = some d) (hd : d.isRow = true) (hi : (P.info? ty).map (·.size) = some cs.length) : (loadVar ty ad).run P w = .ok (.agg cs.toArray) w := by
 have hl := run_loadCells_list (P := P) w ad cs hc
 cases hq : P.info? ty with
 | none => simp [hq] at hi
 | some i =>
  have hs : i.size = cs.length := by simpa [hq] using hi
  have hagg : (isAgg ty).run P w = .ok true w := by
   unfold isAgg
   rw [Sem.run_bind, run_underlying hu w]
   cases d <;> simp_all
  simp [loadVar, Sem.run_bind, hagg, sizeOf, typeInfo, hq, hs, hl]
theorem yieldsIf_load_at {P : Program} {ops : Array Oper} {S : World → Prop} {op : Oper} {a : Act} (hw : Region.wanted op (yielded ops a.tmps) = true) (ty : TypeId) (x : Operand) (ho : op.op = .load ty x)
  (ad : Addr) (hx : a.eval x = .pointer (some ad)) (cs : List Value) (d : TypeDesc) (hS : ∀ w, S w → Row w ad cs)
  (hu : P.underlying ty = some d) (hd : d.isRow = true) (hi : (P.info? ty).map (·.size) = some cs.length) : YieldsIf P ops S op (.agg cs.toArray) a :=
 .inl ⟨hw, fun w hw' => by
  unfold execOp
  simp only [ho, hx, Instr.loadAt, Instr.sureAddr, Sem.run_bind, Sem.run_pure, Result.andThen_ok, run_loadVar_at w ad ty cs d (hS w hw') hu hd hi]⟩
abbrev c44 (x : S44) : List Value := [.int .i64 x.f0, .int .i64 x.f1, .int .i64 x.f2.f0, .int .i64 x.f2.f1, .int .i64 x.f3, .int .i64 x.f4]
theorem row44 {w : World} {A : Option Addr} {n : Nat} {xs : List S44} (h : Kd.C k44 w A n xs) (i : Int) (h0 : 0 ≤ i) (h1 : i < n) : ∃ ad, A = some ad ∧ Row w (ad.add (i.toNat * 6)) (c44 (rd_T44 xs i)) := by
 have hl := h.1
 have hlt : i.toNat < xs.length := by omega
 obtain ⟨ad, e, hc⟩ := h.2.2 (by omega)
 obtain ⟨cs, h2, h3, h4⟩ := hc i.toNat xs[i.toNat] (List.getElem?_eq_getElem hlt)
 refine ⟨ad, e, fun j v hj => ?_⟩
 have hx : rd_T44 xs i = xs[i.toNat] := by
  unfold rd_T44
  simp [hlt]
 rw [hx] at hj
 rw [add_add]
 have h5 := k44_open h3
 subst h5
 exact h4 j v hj
theorem tmod_nn {a b : Int} (h : 0 ≤ a) : a.tmod b = a % b := Int.tmod_eq_emod_of_nonneg h
def LastPost (w : World) (e : Ending) (w' : World) : Prop := ∃ (x : S44) (b : Bool), e = .returned (.tuple #[.agg #[.int .i64 x.f0, .int .i64 x.f1, .int .i64 x.f2.f0, .int .i64 x.f2.f1, .int .i64 x.f3, .int .i64 x.f4], .bool b]) ∧ Below w.heap.size w w'
set_option maxHeartbeats 16000000 in
set_option maxRecDepth 100000 in
theorem last_calls (B g : Nat) (L : Lg) (w : World) (h : LogAt B g L w) (hn : L.recs.length ≤ 1000000) :
  Calls Tryd.prog 51 #[.pointer (some ⟨g, 0, none⟩)] w fun e w' => LastPost w e w' := by
 obtain ⟨v0, ring, f, hG, hge, hO, hr⟩ := h
 have hlr : ring.length ≤ 1000000 := by rw [← hr.length]; exact hn
 have hfl : f = 0 ∨ f < ring.length := hr.lt
 obtain ⟨A0, c0, e0, hc0, hC⟩ := Kd.R_reads hO
 subst e0
 have HG := Aside0.mk hG
 have HC := Aside0.mk hC
 clear hC hO hge hr hn hG
 by_cases k : ring = []
 ·have hz0 : ((ring.length : Int) == 0) = true := by rw [k]; rfl
  have hz1 : ((ring.length : Int) = 0) = True := eq_true (by rw [k]; rfl)
  have hz3 : (ring = []) = True := eq_true k
  clear k hfl
  go_enter Tryd.func51, Tryd.ntmps51
  go_wp2_with (first | ((with_reducible refine gate_dst (N := 2) rfl ?_); refine box_event ?hg (N := 2) ?hd (cs := #[.int .i64 0, .int .i64 0, .int .i64 0, .int .i64 0, .int .i64 0, .int .i64 0]) (t := 44) ?hr ?_; (case hd => rfl); (case hg => rfl); (case hr => first | (go_simp; done) | (go_simp; rfl)); intro gx hgx w1 hbox hb; have HX1 := Aside0.mk hbox; have HG1 := Aside0.mk (blk_below HG.out hb); have HC1 := Aside0.mk (Kd.C_below HC.out hb); have HB1 := Aside0.mk hb; have HGX := Aside0.mk (show w.heap.size ≤ gx by rw [hgx]; exact Nat.le_refl _); have c13 := (blk_cell HG1.out 13).trans rfl; clear hb hbox hgx) | (refine wpList_store_row rfl 44 (.tmp 2) (.tmp _) rfl gx #[.int .i64 0, .int .i64 0, .int .i64 0, .int .i64 0, .int .i64 0, .int .i64 0] rfl rfl 44 #[.int .i64 0, .int .i64 0, .int .i64 0, .int .i64 0, .int .i64 0, .int .i64 0] HX1.out (by kernel_rfl) rfl (by simp [Value.oneCell']) ?_))
  refine bodyPost_ret (results_ct rfl _ _ gx 44 #[.int .i64 0, .int .i64 0, .int .i64 0, .int .i64 0, .int .i64 0, .int .i64 0] (0, 0) _ rfl (setRow_heap _ _ _ _ _ _ HX1.out) Tryd.underlying44 rfl (by kernel_rfl)) rfl ⟨z44, false, rfl, ?_⟩
  exact below_setRow HB1.out HGX.out _
 ·have hp : 0 < ring.length := List.length_pos_iff.mpr k
  have hz0 : ((ring.length : Int) == 0) = false := beq_false_of_ne (by omega)
  have hz1 : ((ring.length : Int) = 0) = False := eq_false (by omega)
  have hz3 : (ring = []) = False := eq_false k
  obtain ⟨fi, HFI⟩ : ∃ fi : Int, Aside0 (((f : Nat) : Int) = fi) := ⟨_, ⟨rfl⟩⟩
  rw [HFI.out] at HG
  obtain ⟨ix, HIX⟩ : ∃ ix, Aside0 ((wrap64 (wrap64 (fi + (ring.length : Int)) - 1)).tmod (ring.length : Int) = ix) := ⟨_, ⟨rfl⟩⟩
  have hix : 0 ≤ ix ∧ ix < (ring.length : Int) := by
   have h1 := HIX.out
   have h2 := HFI.out
   rw [wrap_id (n := fi + _) (by omega) (by omega), wrap_id (by omega) (by omega), tmod_nn (by omega)] at h1
   rw [← h1]
   exact ⟨Int.emod_nonneg _ (by omega), Int.emod_lt_of_pos _ (by omega)⟩
  have hix_ : (wrap64 (wrap64 (fi + (ring.length : Int)) - 1)).tmod (ring.length : Int) = ix := HIX.out
  have h0t : (0 ≤ ix) = True := eq_true hix.1
  have h1t : (ix < (ring.length : Int)) = True := eq_true hix.2
  obtain ⟨ad, ea, hrow⟩ := row44 HC.out ix hix.1 hix.2
  subst ea
  clear k hp hfl hrow
  obtain ⟨rx, HRX⟩ : ∃ rx, Aside0 (rd_T44 ring ix = rx) := ⟨_, ⟨rfl⟩⟩
  have HXB := Aside0.mk hix
  clear hix
  go_enter Tryd.func51, Tryd.ntmps51
  go_wp2_with ((with_reducible refine gate_dst (N := 2) rfl ?_); refine box_event ?hg (N := 2) ?hd (cs := #[.int .i64 0, .int .i64 0, .int .i64 0, .int .i64 0, .int .i64 0, .int .i64 0]) (t := 44) ?hr ?_; (case hd => rfl); (case hg => rfl); (case hr => first | (go_simp; done) | (go_simp; rfl)); intro gx hgx w1 hbox hb; have HX1 := Aside0.mk hbox; have HG1 := Aside0.mk (blk_below HG.out hb); have HC1 := Aside0.mk (Kd.C_below HC.out hb); have HB1 := Aside0.mk hb; have HGX := Aside0.mk (show w.heap.size ≤ gx by rw [hgx]; exact Nat.le_refl _); have c13 := (blk_cell HG1.out 13).trans rfl; clear hb hbox hgx)
  have c14 := (blk_cell HG1.out 14).trans rfl
  obtain ⟨ad_, ea, hrow⟩ := row44 HC1.out ix HXB.out.1 HXB.out.2
  rw [HRX.out] at hrow
  injection ea with ea
  subst ea
  have HG2 := Aside0.mk (blk_drew HG1.out)
  have HC2 := Aside0.mk (Kd.C_drew HC1.out)
  have HX2 := Aside0.mk (blk_drew HX1.out)
  have HB2 := Aside0.mk (below_drew1 HB1.out)
  refine start_ (n := 25) (S := fun w' => w'.cell? ⟨g, 13, none⟩ = some (.slice (some ad) ring.length c0) ∧ w'.cell? ⟨g, 14, none⟩ = some (.int .i64 fi) ∧ Row w' (ad.add (ix.toNat * 6)) (c44 rx)) (ds := [23]) #[Yn, Yn, Yn, Yn, Yn, Yn, Yn, Yn, Yn, Yn, Yn, Yn, Yn, Yn, Yn, Yn, Yn, Yn, Yn, Yn, Yn, Yn, Yn, Yn, Yn] (by kernel_rfl) rfl rfl ⟨c13, c14, hrow⟩ (fun hHeld => ?_)
  generalize w1.drew = w2 at HG2 HC2 HX2 HB2 hHeld ⊢
  refine P1 0 11 ?_ (Bz 25 0x1) ?_ ?_ ?_ ?_
  rotate_left
  ·intro w'
   go_simp
   with_reducible rfl
  rotate_left
  ·simp only [Act.put, Z1, Z2, Z3, i64_w, i32_w]
   rfl
  refine P1 1 12 ?_ (Bz 25 0x3) ?_ ?_ ?_ ?_
  rotate_left
  ·intro w'
   go_simp
   with_reducible rfl
  rotate_left
  ·simp only [Act.put, Z1, Z2, Z3, i64_w, i32_w]
   rfl
  refine P1 2 13 ?_ (Bz 25 0x7) ?_ ?_ ?_ ?_
  rotate_left
  ·intro w'
   go_simp
   with_reducible rfl
  rotate_left
  ·simp only [Act.put, Z1, Z2, Z3, i64_w, i32_w]
   rfl
  refine P1 4 15 ?_ (Bz 25 0x17) ?_ ?_ ?_ ?_
  rotate_left
  ·intro w'
   go_simp
   with_reducible rfl
  rotate_left
  ·simp only [Act.put, Z1, Z2, Z3, i64_w, i32_w]
   rfl
  refine P1 5 16 ?_ (Bz 25 0x37) ?_ ?_ ?_ ?_
  rotate_left
  ·intro w'
   go_simp
   with_reducible rfl
  rotate_left
  ·simp only [Act.put, Z1, Z2, Z3, i64_w, i32_w]
   rfl
  refine P1 6 17 ?_ (Bz 25 0x77) ?_ ?_ ?_ ?_
  rotate_left
  ·intro w'
   go_simp
   with_reducible rfl
  rotate_left
  ·simp only [Act.put, Z1, Z2, Z3, i64_w, i32_w]
   rfl
  refine P1 8 19 ?_ (Bz 25 0x177) ?_ ?_ ?_ ?_
  rotate_left
  ·intro w'
   go_simp
   with_reducible rfl
  rotate_left
  ·simp only [Act.put, Z1, Z2, Z3, i64_w, i32_w]
   rfl
  refine P1 9 20 ?_ (Bz 25 0x377) ?_ ?_ ?_ ?_
  rotate_left
  ·intro w'
   go_simp
   with_reducible rfl
  rotate_left
  ·simp only [Act.put, Z1, Z2, Z3, i64_w, i32_w]
   rfl
  refine P1 10 21 ?_ (Bz 25 0x777) ?_ ?_ ?_ ?_
  rotate_left
  ·intro w'
   go_simp
   with_reducible rfl
  rotate_left
  ·simp only [Act.put, Z1, Z2, Z3, i64_w, i32_w]
   rfl
  refine P1 15 26 ?_ (Bz 25 0x8777) ?_ ?_ ?_ ?_
  rotate_left
  ·intro w'
   go_simp
   with_reducible rfl
  rotate_left
  ·simp only [Act.put, Z1, Z2, Z3, i64_w, i32_w]
   rfl
  refine P1 16 27 ?_ (Bz 25 0x18777) ?_ ?_ ?_ ?_
  rotate_left
  ·intro w'
   go_simp
   with_reducible rfl
  rotate_left
  ·simp only [Act.put, Z1, Z2, Z3, i64_w, i32_w]
   rfl
  refine P1 17 28 ?_ (Bz 25 0x38777) ?_ ?_ ?_ ?_
  rotate_left
  ·intro w'
   go_simp
   with_reducible rfl
  rotate_left
  ·simp only [Act.put, Z1, Z2, Z3, i64_w, i32_w]
   rfl
  refine P5 3 14 ?_ (Bz 25 0x3877f) ?_ hHeld ?_ ?_ ?_
  rotate_left
  ·rintro w' ⟨s0, s1, s2⟩
   go_simp
   with_reducible rfl
  rotate_left
  ·simp only [Act.put, Z1, Z2, Z3, i64_w, i32_w]
   rfl
  refine P5 7 18 ?_ (Bz 25 0x387ff) ?_ hHeld ?_ ?_ ?_
  rotate_left
  ·rintro w' ⟨s0, s1, s2⟩
   go_simp
   with_reducible rfl
  rotate_left
  ·simp only [Act.put, Z1, Z2, Z3, i64_w, i32_w]
   rfl
  refine P5 11 22 ?_ (Bz 25 0x38fff) ?_ hHeld ?_ ?_ ?_
  rotate_left
  ·rintro w' ⟨s0, s1, s2⟩
   go_simp
   with_reducible rfl
  rotate_left
  ·simp only [Act.put, Z1, Z2, Z3, i64_w, i32_w]
   rfl
  refine P1 12 23 ?_ (Bz 25 0x39fff) ?_ ?_ ?_ ?_
  rotate_left
  ·intro w'
   go_simp
   with_reducible rfl
  rotate_left
  ·simp only [Act.put, Z1, Z2, Z3, i64_w, i32_w]
   rfl
  refine P1 13 24 ?_ (Bz 25 0x3bfff) ?_ ?_ ?_ ?_
  rotate_left
  ·intro w'
   go_simp
   with_reducible rfl
  rotate_left
  ·simp only [Act.put, Z1, Z2, Z3, i64_w, i32_w]
   rfl
  refine P1 14 25 ?_ (Bz 25 0x3ffff) ?_ ?_ ?_ ?_
  rotate_left
  ·intro w'
   go_simp
   with_reducible rfl
  rotate_left
  ·simp only [Act.put, Z1, Z2, Z3, i64_w, i32_w]
   rfl
  refine P5 18 29 ?_ (Bz 25 0x7ffff) ?_ hHeld ?_ ?_ ?_
  rotate_left
  ·rintro w' ⟨s0, s1, s2⟩
   go_simp
   with_reducible rfl
  rotate_left
  ·simp only [Act.put, Z1, Z2, Z3, i64_w, i32_w]
   rfl
  refine P1 19 30 ?_ (Bz 25 0xfffff) ?_ ?_ ?_ ?_
  rotate_left
  ·intro w'
   go_simp
   with_reducible rfl
  rotate_left
  ·simp only [Act.put, Z1, Z2, Z3, i64_w, i32_w]
   rfl
  refine P1 20 31 ?_ (Bz 25 0x1fffff) ?_ ?_ ?_ ?_
  rotate_left
  ·intro w'
   go_simp
   with_reducible rfl
  rotate_left
  ·simp only [Act.put, Z1, Z2, Z3, i64_w, i32_w]
   rfl
  refine P1 21 32 ?_ (Bz 25 0x3fffff) ?_ ?_ ?_ ?_
  rotate_left
  ·intro w'
   go_simp
   with_reducible rfl
  rotate_left
  ·simp only [Act.put, Z1, Z2, Z3, i64_w, i32_w]
   rfl
  refine take_ (i := 22) (N := some 33) (v := .agg (c44 rx).toArray) (a' := ?_) (Bz 25 0x7fffff) rfl rfl (by kernel_rfl) (fun _ _ _ h => h) (yieldsIf_load_at (by rfl) 44 (.tmp 32) rfl (ad.add (ix.toNat * 6)) rfl (c44 rx) _ (fun _ h => h.2.2) Tryd.underlying44 rfl (by kernel_rfl)) hHeld ?_ ?_
  rotate_left
  ·simp only [Act.put, Z1, Z2, Z3, i64_w, i32_w]
   rfl
  refine last_ (i := 23) (N := none) #[Y, Y, Y, Y, Y, Y, Y, Y, Y, Y, Y, Y, Y, Y, Y, Y, Y, Y, Y, Y, Y, Y, Y, Y, Yn] rfl rfl (by kernel_rfl) (by decide) (fun K hK => ?_)
  refine step_store_row (by rfl) rfl 44 (.tmp 2) (.tmp 33) rfl gx #[.int .i64 rx.f0, .int .i64 rx.f1, .int .i64 rx.f2.f0, .int .i64 rx.f2.f1, .int .i64 rx.f3, .int .i64 rx.f4] rfl rfl 44 #[.int .i64 0, .int .i64 0, .int .i64 0, .int .i64 0, .int .i64 0, .int .i64 0] HX2.out (by kernel_rfl) rfl (by simp [Value.oneCell']) ?_
  refine hK.out _ _ ?_
  clear hK K
  refine P1 24 3 ?_ (Bz 25 0x1ffffff) ?_ ?_ ?_ ?_
  rotate_left
  ·intro w'
   go_simp
   with_reducible rfl
  rotate_left
  ·simp only [Act.put, Z1, Z2, Z3, i64_w, i32_w]
   rfl
  refine done_ (by kernel_rfl) ?_
  go_wp2
  refine bodyPost_ret (results_ct rfl _ _ gx 44 #[.int .i64 rx.f0, .int .i64 rx.f1, .int .i64 rx.f2.f0, .int .i64 rx.f2.f1, .int .i64 rx.f3, .int .i64 rx.f4] (0, 0) _ rfl (setRow_heap _ _ _ _ _ _ HX2.out) Tryd.underlying44 rfl (by kernel_rfl)) rfl ⟨rx, true, rfl, ?_⟩
  exact below_setRow HB2.out HGX.out _
end Go.Proofs.YtbccjcdmpiolpaaDoor.T
end
section
namespace Go.Proofs.YtbccjcdmpiolpaaDoor.T
open Go.RowKit Go.Proofs.YtbccjcdmpiolpaaDoorW.PrintWords Go.Proofs.YtbccjcdmpiolpaaDoorW.PrintLast Go.Proofs.YtbccjcdmpiolpaaDoorW.PrintMore
set_option linter.unusedVariables false
set_option linter.unusedSimpArgs false
attribute [local go_sem] max2_int min2_int max_two min_two
theorem LogAt.set_reading {B g : Nat} {L : Lg} {w : World} (h : LogAt B g L w) (k n q a : Int) : LogAt B g { L with valid := true, vk := k, vn := n, q := q, ra := a, now := a } ((((((w.setCell ⟨g, 7, none⟩ (.bool true)).setCell ⟨g, 8, none⟩ (.int .i64 k)).setCell ⟨g, 9, none⟩ (.int .i64 n)).setCell ⟨g, 10, none⟩ (.int .i64 q)).setCell ⟨g, 11, none⟩ (.int .i64 a)).setCell ⟨g, 6, none⟩ (.int .i64 a)) := by
 obtain ⟨v, ring, f, hv, hg, ho, hr⟩ := h
 have h1 := blk_put hv 7 (.bool true) rfl
 have o1 := R_setL hv ho 7 (.bool true)
 have h2 := blk_put h1 8 (.int .i64 k) rfl
 have o2 := R_setL h1 o1 8 (.int .i64 k)
 have h3 := blk_put h2 9 (.int .i64 n) rfl
 have o3 := R_setL h2 o2 9 (.int .i64 n)
 have h4 := blk_put h3 10 (.int .i64 q) rfl
 have o4 := R_setL h3 o3 10 (.int .i64 q)
 have h5 := blk_put h4 11 (.int .i64 a) rfl
 have o5 := R_setL h4 o4 11 (.int .i64 a)
 have h6 := blk_put h5 6 (.int .i64 a) rfl
 have o6 := R_setL h5 o5 6 (.int .i64 a)
 exact ⟨v, ring, f, h6, hg, o6, hr⟩
def DiffPost (w : World) (e : Ending) (w' : World) : Prop := ∃ d : Bool, e = .returned (.bool d) ∧ Below w.heap.size w w'
set_option maxHeartbeats 16000000 in
set_option maxRecDepth 100000 in
theorem differs_calls (B g : Nat) (L : Lg) (vk vn vq va : Int) (w : World) (h : LogAt B g L w) (hn : L.recs.length ≤ 1000000) :
  Calls Tryd.prog 27 #[.pointer (some ⟨g, 0, none⟩), .agg #[.int .i64 vk, .int .i64 vn, .int .i64 vq, .int .i64 va]] w fun e w' => DiffPost w e w' := by
 have HI := Aside0.mk h
 have HLN := Aside0.mk hn
 clear h hn
 go_enter Tryd.func27, Tryd.ntmps27
 go_wp2_with (first | ((with_reducible refine gate_dst (N := 3) rfl ?_); refine box_event ?hg (N := 3) ?hd (cs := #[.int .i64 vk, .int .i64 vn, .int .i64 vq, .int .i64 va]) (t := 32) ?hr ?_; (case hd => rfl); (case hg => rfl); (case hr => first | (go_simp; done) | (go_simp; rfl)); intro gx hgx w1 hbox hb; have HX1 := Aside0.mk hbox; have HI1 := Aside0.mk (HI.out.below hb); have HB1 := Aside0.mk hb; clear hb hbox hgx) | (go_at_call 51; (with_reducible refine (last_calls B g L _ HI1.out HLN.out).mono ?_); rintro e w2 ⟨rx, b, rfl, hb⟩; have HX2 := Aside0.mk (blk_below HX1.out hb); have HI2 := Aside0.mk (HI1.out.below hb); have HB2 := Aside0.mk (below_step HB1.out hb); obtain ⟨bb, HBB⟩ : ∃ bb, Aside0 (b = bb) := ⟨_, ⟨rfl⟩⟩; clear hb) | ((with_reducible refine gate_dst (N := 5) rfl ?_); refine box_event ?hg (N := 5) ?hd (cs := #[.int .i64 0, .int .i64 0, .int .i64 0, .int .i64 0, .int .i64 0, .int .i64 0]) (t := 44) ?hr ?_; (case hd => rfl); (case hg => rfl); (case hr => first | (go_simp; done) | (go_simp; rfl)); intro gy hgy w3 hbox hb; have HY3 := Aside0.mk hbox; have HX3 := Aside0.mk (blk_below HX2.out hb); have HI3 := Aside0.mk (HI2.out.below hb); have HBY := Aside0.mk hb; have HB3 := Aside0.mk (below_step HB2.out hb); have HGY := Aside0.mk (show w2.heap.size ≤ gy by rw [hgy]; exact Nat.le_refl _); clear hb hbox hgy) | (refine wpList_store_row rfl 44 (.tmp 5) (.tmp _) rfl gy #[.int .i64 rx.f0, .int .i64 rx.f1, .int .i64 rx.f2.f0, .int .i64 rx.f2.f1, .int .i64 rx.f3, .int .i64 rx.f4] rfl rfl 44 #[.int .i64 0, .int .i64 0, .int .i64 0, .int .i64 0, .int .i64 0, .int .i64 0] HY3.out (by kernel_rfl) rfl (by simp [Value.oneCell']) ?_; have HY4 := Aside0.mk (setRow_heap _ _ _ #[.int .i64 rx.f0, .int .i64 rx.f1, .int .i64 rx.f2.f0, .int .i64 rx.f2.f1, .int .i64 rx.f3, .int .i64 rx.f4] _ _ HY3.out); have hb4 := below_setRow (HBY.out) HGY.out #[.int .i64 rx.f0, .int .i64 rx.f1, .int .i64 rx.f2.f0, .int .i64 rx.f2.f1, .int .i64 rx.f3, .int .i64 rx.f4]; have HX4 := Aside0.mk (blk_below HX2.out hb4); have HI4 := Aside0.mk (HI2.out.below hb4); have HB4 := Aside0.mk (below_step HB2.out hb4); clear hb4; generalize w3.setRow gy #[.int .i64 rx.f0, .int .i64 rx.f1, .int .i64 rx.f2.f0, .int .i64 rx.f2.f1, .int .i64 rx.f3, .int .i64 rx.f4] = w4 at HY4 HX4 HI4 HB4 ⊢; have x0 := (blk_cell HX4.out 0).trans rfl; have x1 := (blk_cell HX4.out 1).trans rfl; have x2 := (blk_cell HX4.out 2).trans rfl; have y2 := (blk_cell HY4.out 2).trans rfl; have y3 := (blk_cell HY4.out 3).trans rfl; have y4 := (blk_cell HY4.out 4).trans rfl; obtain ⟨v4, ring4, f4, hG4, _⟩ := HI4.out; have c4 := (blk_cell hG4 4).trans rfl; clear hG4))
 all_goals (go_ret; exact ⟨_, rfl, HB4.out⟩)
def TickPost (B g : Nat) (w : World) (x : Lg × Int × Int) (e : Ending) (w' : World) : Prop := e = .returned (.tuple #[.int .i64 x.2.1, .int .i64 x.2.2]) ∧ LogAt B g x.1 w' ∧ Below B w w' ∧ KeepL w w' g
def Lg.tick (L : Lg) (at_ : Int) : Lg × Int × Int := if at_ < L.now then (L, 0, 15) else ((L.pass at_).1, (L.pass at_).2, 0)
def Lg.got (L : Lg) (k n q a : Int) : Lg := { L with valid := true, vk := k, vn := n, q := q, ra := a, now := a }
def Lg.obs (L : Lg) (k n q a : Int) (d : Bool) : Lg × Int × Int :=
 if a ≤ L.now then (L, 0, 15) else if (L.way = 1 ∧ a % L.iv = 0) ∨ (L.way = 2 ∧ d = true) then (((L.pass (a - 1)).1.got k n q a).record a, (L.pass (a - 1)).2 + 1, 0) else ((L.pass (a - 1)).1.got k n q a, (L.pass (a - 1)).2, 0)
def ObsPost (B g : Nat) (w : World) (L : Lg) (k n q a : Int) (e : Ending) (w' : World) : Prop := ∃ d, TickPost B g w (L.obs k n q a d) e w'
structure PassOk (L : Lg) (u : Int) : Prop where
 same : SameBut { L with now := u } (L.pass u).1
 tot : (L.pass u).1.total = L.total + (L.pass u).2
 n0 : 0 ≤ (L.pass u).2 ∧ (L.pass u).2 ≤ 10000000000
 len : ((L.pass u).1.recs.length : Int) ≤ L.sz
theorem pass_ok {L : Lg} {u : Int} (h : OkL L) (hu : L.now ≤ u ∧ u ≤ 10000000000) : PassOk L u := by
 by_cases k : L.way = 1 ∧ L.valid = true
 ·have hiv := h.iv k.1
  have h0 := h.n0
  have h1 := h.s0
  have hq : 0 ≤ L.now / L.iv := Int.ediv_nonneg h.n0 (by omega)
  have hq2 : L.now / L.iv ≤ u / L.iv := Int.ediv_le_ediv (by omega) hu.1
  have hq3 : u / L.iv ≤ u := Int.ediv_le_self _ (by omega)
  have e : L.pass u = ({ L with now := u, total := L.total + mx 0 (u / L.iv - L.now / L.iv - L.sz) }.run (L.now / L.iv + mx 0 (u / L.iv - L.now / L.iv - L.sz) + 1) (u / L.iv - L.now / L.iv - mx 0 (u / L.iv - L.now / L.iv - L.sz)).toNat, u / L.iv - L.now / L.iv) := if_pos k
  have hm : 0 ≤ mx 0 (u / L.iv - L.now / L.iv - L.sz) ∧ mx 0 (u / L.iv - L.now / L.iv - L.sz) ≤ u / L.iv - L.now / L.iv := by unfold mx; omega
  refine ⟨?_, ?_, ?_, ?_⟩
  ·rw [e]
   have := run_same { L with now := u, total := L.total + mx 0 (u / L.iv - L.now / L.iv - L.sz) } (L.now / L.iv + mx 0 (u / L.iv - L.now / L.iv - L.sz) + 1) (u / L.iv - L.now / L.iv - mx 0 (u / L.iv - L.now / L.iv - L.sz)).toNat
   exact ⟨this.nm, this.pt, this.way, this.iv, this.st, this.sz, this.now, this.valid, this.vk, this.vn, this.q, this.ra⟩
  ·rw [e]
   show (Lg.run _ _ _).total = L.total + (u / L.iv - L.now / L.iv)
   rw [run_total]
   show L.total + mx 0 (u / L.iv - L.now / L.iv - L.sz) + _ = _
   omega
  ·rw [e]
   show 0 ≤ u / L.iv - L.now / L.iv ∧ u / L.iv - L.now / L.iv ≤ 10000000000
   omega
  ·rw [e]
   exact run_len { L with now := u, total := L.total + mx 0 (u / L.iv - L.now / L.iv - L.sz) } _ h.len h.s0 _
 ·have e : L.pass u = ({ L with now := u }, 0) := if_neg k
  refine ⟨?_, ?_, ?_, ?_⟩
  ·rw [e]
   exact SameBut.refl _
  ·rw [e]
   show L.total = L.total + 0
   omega
  ·rw [e]
   exact ⟨Int.le_refl 0, (by decide : (0 : Int) ≤ 10000000000)⟩
  ·rw [e]
   exact h.len
set_option maxHeartbeats 16000000 in
set_option maxRecDepth 100000 in
theorem tick_calls (B g : Nat) (L : Lg) (at_ : Int) (w : World) (h : LogAt B g L w) (hBS : B ≤ w.heap.size) (hok : OkL L) (hu : at_ ≤ 10000000000) :
  Calls Tryd.prog 16 #[.pointer (some ⟨g, 0, none⟩), .int .i64 at_] w fun e w' => TickPost B g w (L.tick at_) e w' := by
 have HI := Aside0.mk h
 have HBS := Aside0.mk hBS
 have HOK := Aside0.mk hok
 obtain ⟨v0, ring, f, hG, hge, _⟩ := h
 have HGE := Aside0.mk hge
 obtain ⟨fi, HFI⟩ : ∃ fi : Int, Aside0 (((f : Nat) : Int) = fi) := ⟨_, ⟨rfl⟩⟩
 rw [HFI.out] at hG
 have c6 := (blk_cell hG 6).trans rfl
 clear hG hge hok hBS
 by_cases k : at_ < L.now
 ·have hb : decide (at_ < L.now) = true := decide_eq_true k
  have HT := Aside0.mk (show L.tick at_ = (L, 0, 15) from if_pos k)
  clear k hu
  go_enter Tryd.func16, Tryd.ntmps16
  go_wp2
  go_ret2
  rw [HT.out]
  exact ⟨rfl, HI.out, Below.refl _ _, KeepL.refl _ _⟩
 ·have hb : decide (at_ < L.now) = false := decide_eq_false k
  have HT := Aside0.mk (show L.tick at_ = ((L.pass at_).1, (L.pass at_).2, 0) from if_neg k)
  have HU := Aside0.mk (show L.now ≤ at_ ∧ at_ ≤ 10000000000 by omega)
  clear k hu
  obtain ⟨res, HR⟩ : ∃ r, Aside0 (L.pass at_ = r) := ⟨_, ⟨rfl⟩⟩
  go_enter Tryd.func16, Tryd.ntmps16
  go_wp2_with (go_at_call 26; (with_reducible refine (pass_calls B g L at_ _ HI.out HBS.out HOK.out HU.out).mono ?_); rintro e w5 ⟨rfl, hi, hb, hk⟩; have HI5 := Aside0.mk hi; have HB5 := Aside0.mk hb; have HK5 := Aside0.mk hk; clear hi hb hk)
  go_ret2
  rw [HT.out]
  exact ⟨rfl, HI5.out, HB5.out, HK5.out⟩
end Go.Proofs.YtbccjcdmpiolpaaDoor.T
end
section
namespace Go.Proofs.YtbccjcdmpiolpaaDoor.T
open Go.RowKit Go.Proofs.YtbccjcdmpiolpaaDoorW.PrintWords Go.Proofs.YtbccjcdmpiolpaaDoorW.PrintLast Go.Proofs.YtbccjcdmpiolpaaDoorW.PrintMore
attribute [local go_sem] max2_int min2_int max_two min_two max_three min_three max_four min_four
set_option linter.unusedVariables false
set_option linter.unusedSimpArgs false
def bits_Len64.j0 : Nat → Int → Int → Option (Int)
 | 0, _, _ => none
 | k + 1, x0, x2 => if x0 ≥ 65536 then (if (x0 / 65536) ≥ 256 then (if 0 ≤ (((x0 / 65536) / 256) % 256) then (if (((x0 / 65536) / 256) % 256) < 256 then (some (wrap64 ((wrap64 ((wrap64 (x2 + 16)) + 8)) + (wrap64 (bt (⟨#[0, 1, 2, 2, 3, 3, 3, 3, 4, 4, 4, 4, 4, 4, 4, 4, 5, 5, 5, 5, 5, 5, 5, 5, 5, 5, 5, 5, 5, 5, 5, 5, 6, 6, 6, 6, 6, 6, 6, 6, 6, 6, 6, 6, 6, 6, 6, 6, 6, 6, 6, 6, 6, 6, 6, 6, 6, 6, 6, 6, 6, 6, 6, 6, 7, 7, 7, 7, 7, 7, 7, 7, 7, 7, 7, 7, 7, 7, 7, 7, 7, 7, 7, 7, 7, 7, 7, 7, 7, 7, 7, 7, 7, 7, 7, 7, 7, 7, 7, 7, 7, 7, 7, 7, 7, 7, 7, 7, 7, 7, 7, 7, 7, 7, 7, 7, 7, 7, 7, 7, 7, 7, 7, 7, 7, 7, 7, 7, 8, 8, 8, 8, 8, 8, 8, 8, 8, 8, 8, 8, 8, 8, 8, 8, 8, 8, 8, 8, 8, 8, 8, 8, 8, 8, 8, 8, 8, 8, 8, 8, 8, 8, 8, 8, 8, 8, 8, 8, 8, 8, 8, 8, 8, 8, 8, 8, 8, 8, 8, 8, 8, 8, 8, 8, 8, 8, 8, 8, 8, 8, 8, 8, 8, 8, 8, 8, 8, 8, 8, 8, 8, 8, 8, 8, 8, 8, 8, 8, 8, 8, 8, 8, 8, 8, 8, 8, 8, 8, 8, 8, 8, 8, 8, 8, 8, 8, 8, 8, 8, 8, 8, 8, 8, 8, 8, 8, 8, 8, 8, 8, 8, 8, 8, 8, 8, 8, 8, 8, 8, 8, 8, 8, 8, 8, 8, 8]⟩ : ByteArray) (((x0 / 65536) / 256) % 256)))))) else (none)) else (none)) else (if 0 ≤ ((x0 / 65536) % 256) then (if ((x0 / 65536) % 256) < 256 then (some (wrap64 ((wrap64 (x2 + 16)) + (wrap64 (bt (⟨#[0, 1, 2, 2, 3, 3, 3, 3, 4, 4, 4, 4, 4, 4, 4, 4, 5, 5, 5, 5, 5, 5, 5, 5, 5, 5, 5, 5, 5, 5, 5, 5, 6, 6, 6, 6, 6, 6, 6, 6, 6, 6, 6, 6, 6, 6, 6, 6, 6, 6, 6, 6, 6, 6, 6, 6, 6, 6, 6, 6, 6, 6, 6, 6, 7, 7, 7, 7, 7, 7, 7, 7, 7, 7, 7, 7, 7, 7, 7, 7, 7, 7, 7, 7, 7, 7, 7, 7, 7, 7, 7, 7, 7, 7, 7, 7, 7, 7, 7, 7, 7, 7, 7, 7, 7, 7, 7, 7, 7, 7, 7, 7, 7, 7, 7, 7, 7, 7, 7, 7, 7, 7, 7, 7, 7, 7, 7, 7, 8, 8, 8, 8, 8, 8, 8, 8, 8, 8, 8, 8, 8, 8, 8, 8, 8, 8, 8, 8, 8, 8, 8, 8, 8, 8, 8, 8, 8, 8, 8, 8, 8, 8, 8, 8, 8, 8, 8, 8, 8, 8, 8, 8, 8, 8, 8, 8, 8, 8, 8, 8, 8, 8, 8, 8, 8, 8, 8, 8, 8, 8, 8, 8, 8, 8, 8, 8, 8, 8, 8, 8, 8, 8, 8, 8, 8, 8, 8, 8, 8, 8, 8, 8, 8, 8, 8, 8, 8, 8, 8, 8, 8, 8, 8, 8, 8, 8, 8, 8, 8, 8, 8, 8, 8, 8, 8, 8, 8, 8, 8, 8, 8, 8, 8, 8, 8, 8, 8, 8, 8, 8, 8, 8, 8, 8, 8, 8]⟩ : ByteArray) ((x0 / 65536) % 256)))))) else (none)) else (none))) else (if x0 ≥ 256 then (if 0 ≤ ((x0 / 256) % 256) then (if ((x0 / 256) % 256) < 256 then (some (wrap64 ((wrap64 (x2 + 8)) + (wrap64 (bt (⟨#[0, 1, 2, 2, 3, 3, 3, 3, 4, 4, 4, 4, 4, 4, 4, 4, 5, 5, 5, 5, 5, 5, 5, 5, 5, 5, 5, 5, 5, 5, 5, 5, 6, 6, 6, 6, 6, 6, 6, 6, 6, 6, 6, 6, 6, 6, 6, 6, 6, 6, 6, 6, 6, 6, 6, 6, 6, 6, 6, 6, 6, 6, 6, 6, 7, 7, 7, 7, 7, 7, 7, 7, 7, 7, 7, 7, 7, 7, 7, 7, 7, 7, 7, 7, 7, 7, 7, 7, 7, 7, 7, 7, 7, 7, 7, 7, 7, 7, 7, 7, 7, 7, 7, 7, 7, 7, 7, 7, 7, 7, 7, 7, 7, 7, 7, 7, 7, 7, 7, 7, 7, 7, 7, 7, 7, 7, 7, 7, 8, 8, 8, 8, 8, 8, 8, 8, 8, 8, 8, 8, 8, 8, 8, 8, 8, 8, 8, 8, 8, 8, 8, 8, 8, 8, 8, 8, 8, 8, 8, 8, 8, 8, 8, 8, 8, 8, 8, 8, 8, 8, 8, 8, 8, 8, 8, 8, 8, 8, 8, 8, 8, 8, 8, 8, 8, 8, 8, 8, 8, 8, 8, 8, 8, 8, 8, 8, 8, 8, 8, 8, 8, 8, 8, 8, 8, 8, 8, 8, 8, 8, 8, 8, 8, 8, 8, 8, 8, 8, 8, 8, 8, 8, 8, 8, 8, 8, 8, 8, 8, 8, 8, 8, 8, 8, 8, 8, 8, 8, 8, 8, 8, 8, 8, 8, 8, 8, 8, 8, 8, 8, 8, 8, 8, 8, 8, 8]⟩ : ByteArray) ((x0 / 256) % 256)))))) else (none)) else (none)) else (if 0 ≤ ((x0) % 256) then (if ((x0) % 256) < 256 then (some (wrap64 (x2 + (wrap64 (bt (⟨#[0, 1, 2, 2, 3, 3, 3, 3, 4, 4, 4, 4, 4, 4, 4, 4, 5, 5, 5, 5, 5, 5, 5, 5, 5, 5, 5, 5, 5, 5, 5, 5, 6, 6, 6, 6, 6, 6, 6, 6, 6, 6, 6, 6, 6, 6, 6, 6, 6, 6, 6, 6, 6, 6, 6, 6, 6, 6, 6, 6, 6, 6, 6, 6, 7, 7, 7, 7, 7, 7, 7, 7, 7, 7, 7, 7, 7, 7, 7, 7, 7, 7, 7, 7, 7, 7, 7, 7, 7, 7, 7, 7, 7, 7, 7, 7, 7, 7, 7, 7, 7, 7, 7, 7, 7, 7, 7, 7, 7, 7, 7, 7, 7, 7, 7, 7, 7, 7, 7, 7, 7, 7, 7, 7, 7, 7, 7, 7, 8, 8, 8, 8, 8, 8, 8, 8, 8, 8, 8, 8, 8, 8, 8, 8, 8, 8, 8, 8, 8, 8, 8, 8, 8, 8, 8, 8, 8, 8, 8, 8, 8, 8, 8, 8, 8, 8, 8, 8, 8, 8, 8, 8, 8, 8, 8, 8, 8, 8, 8, 8, 8, 8, 8, 8, 8, 8, 8, 8, 8, 8, 8, 8, 8, 8, 8, 8, 8, 8, 8, 8, 8, 8, 8, 8, 8, 8, 8, 8, 8, 8, 8, 8, 8, 8, 8, 8, 8, 8, 8, 8, 8, 8, 8, 8, 8, 8, 8, 8, 8, 8, 8, 8, 8, 8, 8, 8, 8, 8, 8, 8, 8, 8, 8, 8, 8, 8, 8, 8, 8, 8, 8, 8, 8, 8, 8, 8]⟩ : ByteArray) ((x0) % 256)))))) else (none)) else (none)))
def bits_Len64.f (k : Nat) (a0 : Int) : Option (Int) := if a0 ≥ 4294967296 then (bits_Len64.j0 k (a0 / 4294967296) 32) else (bits_Len64.j0 k a0 0)
set_option maxHeartbeats 8000000 in
set_option maxRecDepth 100000 in
theorem bits_Len64.calls (k : Nat) (a0 : Int) (r : Int) (w : World) (hG : Glob w) (h : bits_Len64.f k a0 = some r) :
  Calls Tryd.prog 77 #[.int .u64 a0] w fun e w' => e = .returned (.int .i64 r) ∧ Drawn0 w w' := by
 have HG := Aside0.mk hG
 clear hG
 have H : (if a0 ≥ 4294967296 then (bits_Len64.j0 k (a0 / 4294967296) 32) else (bits_Len64.j0 k a0 0)) = some r := h
 clear h
 have HC2 := Aside0.mk H
 clear H
 go_enter Tryd.func77, Tryd.ntmps77
 go_upto_if 4 with (fail)
 go_cut [0, 2] (fun v0 v2 wc => ∃ (kq : Nat) (x0_1 : Int) (x2_1 : Int), v0 = .int .u64 x0_1 ∧ v2 = .int .i64 x2_1 ∧ Aside0 (bits_Len64.j0 kq x0_1 x2_1 = some r) ∧ Aside0 (kq ≤ k) ∧ Drawn0 w wc)
 case first =>
  have H := HC2.out
  clear HC2
  by_cases c3 : a0 ≥ 4294967296
  ·rw [if_pos c3] at H
   have c3b0 : decide (4294967296 ≤ a0) = true := decide_eq_true c3
   clear c3
   (first | rw [c3b0] | (simp only [i64_w, i32_w]; rw [c3b0]) | skip)
   have H' := Aside0.mk H
   clear H
   go_wp2
   go_meet
   case rel => exact ⟨_, (a0 / 4294967296), (32), (by first | rfl | (simp; done) | (simp [*]; done)), (by first | rfl | (simp; done) | (simp [*]; done)), H', ⟨by first | omega | exact Nat.le_refl _⟩, by repeat (first | exact Drawn0.refl _ | apply Drawn0.step)⟩
  ·rw [if_neg c3] at H
   have c3b0 : decide (4294967296 ≤ a0) = false := decide_eq_false c3
   clear c3
   (first | rw [c3b0] | (simp only [i64_w, i32_w]; rw [c3b0]) | skip)
   have H' := Aside0.mk H
   clear H
   go_wp2
   go_meet
   case rel => exact ⟨_, (a0), (0), (by first | rfl | (simp; done) | (simp [*]; done)), (by first | rfl | (simp; done) | (simp [*]; done)), H', ⟨by first | omega | exact Nat.le_refl _⟩, by repeat (first | exact Drawn0.refl _ | apply Drawn0.step)⟩
 case rest =>
  clear HC2
  try clear p2
  try clear c3
  try clear c3b0
  obtain ⟨kq, x0_1, x2_1, rfl, rfl, HA, HJ1, ⟨mc1, rfl⟩⟩ := hcut
  cases kq with
  | zero => exact absurd HA.out (by simp [bits_Len64.j0])
  | succ kj1 =>
   have H := HA.out
   clear HA
   simp only [bits_Len64.j0] at H
   by_cases c4 : x0_1 ≥ 65536
   ·rw [if_pos c4] at H
    have c4b0 : decide (65536 ≤ x0_1) = true := decide_eq_true c4
    clear c4
    by_cases c5 : (x0_1 / 65536) ≥ 256
    ·rw [if_pos c5] at H
     have c5b0 : decide (256 ≤ (x0_1 / 65536)) = true := decide_eq_true c5
     clear c5
     obtain ⟨ji6, hji6⟩ : ∃ j_ : Int, (((x0_1 / 65536) / 256) % 256) = j_ := ⟨_, rfl⟩
     replace H : (if 0 ≤ (ji6) then (if (ji6) < 256 then (some (wrap64 ((wrap64 ((wrap64 (x2_1 + 16)) + 8)) + (wrap64 (bt (⟨#[0, 1, 2, 2, 3, 3, 3, 3, 4, 4, 4, 4, 4, 4, 4, 4, 5, 5, 5, 5, 5, 5, 5, 5, 5, 5, 5, 5, 5, 5, 5, 5, 6, 6, 6, 6, 6, 6, 6, 6, 6, 6, 6, 6, 6, 6, 6, 6, 6, 6, 6, 6, 6, 6, 6, 6, 6, 6, 6, 6, 6, 6, 6, 6, 7, 7, 7, 7, 7, 7, 7, 7, 7, 7, 7, 7, 7, 7, 7, 7, 7, 7, 7, 7, 7, 7, 7, 7, 7, 7, 7, 7, 7, 7, 7, 7, 7, 7, 7, 7, 7, 7, 7, 7, 7, 7, 7, 7, 7, 7, 7, 7, 7, 7, 7, 7, 7, 7, 7, 7, 7, 7, 7, 7, 7, 7, 7, 7, 8, 8, 8, 8, 8, 8, 8, 8, 8, 8, 8, 8, 8, 8, 8, 8, 8, 8, 8, 8, 8, 8, 8, 8, 8, 8, 8, 8, 8, 8, 8, 8, 8, 8, 8, 8, 8, 8, 8, 8, 8, 8, 8, 8, 8, 8, 8, 8, 8, 8, 8, 8, 8, 8, 8, 8, 8, 8, 8, 8, 8, 8, 8, 8, 8, 8, 8, 8, 8, 8, 8, 8, 8, 8, 8, 8, 8, 8, 8, 8, 8, 8, 8, 8, 8, 8, 8, 8, 8, 8, 8, 8, 8, 8, 8, 8, 8, 8, 8, 8, 8, 8, 8, 8, 8, 8, 8, 8, 8, 8, 8, 8, 8, 8, 8, 8, 8, 8, 8, 8, 8, 8, 8, 8, 8, 8, 8, 8]⟩ : ByteArray) (ji6)))))) else (none)) else (none)) = some r := by first | (rw [hji6] at H; exact H) | (simp only [hji6] at H ⊢; exact H)
     by_cases c7 : 0 ≤ (ji6)
     ·rw [if_pos c7] at H
      have c7b0 : decide (0 ≤ (ji6)) = true := decide_eq_true c7
      clear c7
      by_cases c8 : (ji6) < 256
      ·rw [if_pos c8] at H
       have c8b0 : decide ((ji6) < 256) = true := decide_eq_true c8
       clear c8
       obtain rfl := Option.some.inj H
       have p9 : 0 ≤ ((ji6) : Int) := of_decide_eq_true (by first | (with_reducible assumption) | assumption)
       have q9 : (ji6) < (256 : Int) := of_decide_eq_true (by first | (with_reducible assumption) | assumption)
       have hx9 := bt_at (⟨#[0, 1, 2, 2, 3, 3, 3, 3, 4, 4, 4, 4, 4, 4, 4, 4, 5, 5, 5, 5, 5, 5, 5, 5, 5, 5, 5, 5, 5, 5, 5, 5, 6, 6, 6, 6, 6, 6, 6, 6, 6, 6, 6, 6, 6, 6, 6, 6, 6, 6, 6, 6, 6, 6, 6, 6, 6, 6, 6, 6, 6, 6, 6, 6, 7, 7, 7, 7, 7, 7, 7, 7, 7, 7, 7, 7, 7, 7, 7, 7, 7, 7, 7, 7, 7, 7, 7, 7, 7, 7, 7, 7, 7, 7, 7, 7, 7, 7, 7, 7, 7, 7, 7, 7, 7, 7, 7, 7, 7, 7, 7, 7, 7, 7, 7, 7, 7, 7, 7, 7, 7, 7, 7, 7, 7, 7, 7, 7, 8, 8, 8, 8, 8, 8, 8, 8, 8, 8, 8, 8, 8, 8, 8, 8, 8, 8, 8, 8, 8, 8, 8, 8, 8, 8, 8, 8, 8, 8, 8, 8, 8, 8, 8, 8, 8, 8, 8, 8, 8, 8, 8, 8, 8, 8, 8, 8, 8, 8, 8, 8, 8, 8, 8, 8, 8, 8, 8, 8, 8, 8, 8, 8, 8, 8, 8, 8, 8, 8, 8, 8, 8, 8, 8, 8, 8, 8, 8, 8, 8, 8, 8, 8, 8, 8, 8, 8, 8, 8, 8, 8, 8, 8, 8, 8, 8, 8, 8, 8, 8, 8, 8, 8, 8, 8, 8, 8, 8, 8, 8, 8, 8, 8, 8, 8, 8, 8, 8, 8, 8, 8, 8, 8, 8, 8, 8, 8]⟩ : ByteArray) (ji6)
       replace p9 := eq_true p9
       replace q9 := eq_true q9
       go_wp2
       go_ret
       exact ⟨by first | rfl | (simp; done) | (simp only [← hji6] <;> (first | rfl | simp)) | (simp [*]; done), by repeat (first | exact Drawn0.refl _ | apply Drawn0.step)⟩
      ·rw [if_neg c8] at H
       exact absurd H (by simp)
     ·rw [if_neg c7] at H
      exact absurd H (by simp)
    ·rw [if_neg c5] at H
     have c5b0 : decide (256 ≤ (x0_1 / 65536)) = false := decide_eq_false c5
     clear c5
     obtain ⟨ji10, hji10⟩ : ∃ j_ : Int, ((x0_1 / 65536) % 256) = j_ := ⟨_, rfl⟩
     replace H : (if 0 ≤ (ji10) then (if (ji10) < 256 then (some (wrap64 ((wrap64 (x2_1 + 16)) + (wrap64 (bt (⟨#[0, 1, 2, 2, 3, 3, 3, 3, 4, 4, 4, 4, 4, 4, 4, 4, 5, 5, 5, 5, 5, 5, 5, 5, 5, 5, 5, 5, 5, 5, 5, 5, 6, 6, 6, 6, 6, 6, 6, 6, 6, 6, 6, 6, 6, 6, 6, 6, 6, 6, 6, 6, 6, 6, 6, 6, 6, 6, 6, 6, 6, 6, 6, 6, 7, 7, 7, 7, 7, 7, 7, 7, 7, 7, 7, 7, 7, 7, 7, 7, 7, 7, 7, 7, 7, 7, 7, 7, 7, 7, 7, 7, 7, 7, 7, 7, 7, 7, 7, 7, 7, 7, 7, 7, 7, 7, 7, 7, 7, 7, 7, 7, 7, 7, 7, 7, 7, 7, 7, 7, 7, 7, 7, 7, 7, 7, 7, 7, 8, 8, 8, 8, 8, 8, 8, 8, 8, 8, 8, 8, 8, 8, 8, 8, 8, 8, 8, 8, 8, 8, 8, 8, 8, 8, 8, 8, 8, 8, 8, 8, 8, 8, 8, 8, 8, 8, 8, 8, 8, 8, 8, 8, 8, 8, 8, 8, 8, 8, 8, 8, 8, 8, 8, 8, 8, 8, 8, 8, 8, 8, 8, 8, 8, 8, 8, 8, 8, 8, 8, 8, 8, 8, 8, 8, 8, 8, 8, 8, 8, 8, 8, 8, 8, 8, 8, 8, 8, 8, 8, 8, 8, 8, 8, 8, 8, 8, 8, 8, 8, 8, 8, 8, 8, 8, 8, 8, 8, 8, 8, 8, 8, 8, 8, 8, 8, 8, 8, 8, 8, 8, 8, 8, 8, 8, 8, 8]⟩ : ByteArray) (ji10)))))) else (none)) else (none)) = some r := by first | (rw [hji10] at H; exact H) | (simp only [hji10] at H ⊢; exact H)
     by_cases c11 : 0 ≤ (ji10)
     ·rw [if_pos c11] at H
      have c11b0 : decide (0 ≤ (ji10)) = true := decide_eq_true c11
      clear c11
      by_cases c12 : (ji10) < 256
      ·rw [if_pos c12] at H
       have c12b0 : decide ((ji10) < 256) = true := decide_eq_true c12
       clear c12
       obtain rfl := Option.some.inj H
       have p13 : 0 ≤ ((ji10) : Int) := of_decide_eq_true (by first | (with_reducible assumption) | assumption)
       have q13 : (ji10) < (256 : Int) := of_decide_eq_true (by first | (with_reducible assumption) | assumption)
       have hx13 := bt_at (⟨#[0, 1, 2, 2, 3, 3, 3, 3, 4, 4, 4, 4, 4, 4, 4, 4, 5, 5, 5, 5, 5, 5, 5, 5, 5, 5, 5, 5, 5, 5, 5, 5, 6, 6, 6, 6, 6, 6, 6, 6, 6, 6, 6, 6, 6, 6, 6, 6, 6, 6, 6, 6, 6, 6, 6, 6, 6, 6, 6, 6, 6, 6, 6, 6, 7, 7, 7, 7, 7, 7, 7, 7, 7, 7, 7, 7, 7, 7, 7, 7, 7, 7, 7, 7, 7, 7, 7, 7, 7, 7, 7, 7, 7, 7, 7, 7, 7, 7, 7, 7, 7, 7, 7, 7, 7, 7, 7, 7, 7, 7, 7, 7, 7, 7, 7, 7, 7, 7, 7, 7, 7, 7, 7, 7, 7, 7, 7, 7, 8, 8, 8, 8, 8, 8, 8, 8, 8, 8, 8, 8, 8, 8, 8, 8, 8, 8, 8, 8, 8, 8, 8, 8, 8, 8, 8, 8, 8, 8, 8, 8, 8, 8, 8, 8, 8, 8, 8, 8, 8, 8, 8, 8, 8, 8, 8, 8, 8, 8, 8, 8, 8, 8, 8, 8, 8, 8, 8, 8, 8, 8, 8, 8, 8, 8, 8, 8, 8, 8, 8, 8, 8, 8, 8, 8, 8, 8, 8, 8, 8, 8, 8, 8, 8, 8, 8, 8, 8, 8, 8, 8, 8, 8, 8, 8, 8, 8, 8, 8, 8, 8, 8, 8, 8, 8, 8, 8, 8, 8, 8, 8, 8, 8, 8, 8, 8, 8, 8, 8, 8, 8, 8, 8, 8, 8, 8, 8]⟩ : ByteArray) (ji10)
       replace p13 := eq_true p13
       replace q13 := eq_true q13
       go_wp2
       go_ret
       exact ⟨by first | rfl | (simp; done) | (simp only [← hji10] <;> (first | rfl | simp)) | (simp [*]; done), by repeat (first | exact Drawn0.refl _ | apply Drawn0.step)⟩
      ·rw [if_neg c12] at H
       exact absurd H (by simp)
     ·rw [if_neg c11] at H
      exact absurd H (by simp)
   ·rw [if_neg c4] at H
    have c4b0 : decide (65536 ≤ x0_1) = false := decide_eq_false c4
    clear c4
    by_cases c14 : x0_1 ≥ 256
    ·rw [if_pos c14] at H
     have c14b0 : decide (256 ≤ x0_1) = true := decide_eq_true c14
     clear c14
     obtain ⟨ji15, hji15⟩ : ∃ j_ : Int, ((x0_1 / 256) % 256) = j_ := ⟨_, rfl⟩
     replace H : (if 0 ≤ (ji15) then (if (ji15) < 256 then (some (wrap64 ((wrap64 (x2_1 + 8)) + (wrap64 (bt (⟨#[0, 1, 2, 2, 3, 3, 3, 3, 4, 4, 4, 4, 4, 4, 4, 4, 5, 5, 5, 5, 5, 5, 5, 5, 5, 5, 5, 5, 5, 5, 5, 5, 6, 6, 6, 6, 6, 6, 6, 6, 6, 6, 6, 6, 6, 6, 6, 6, 6, 6, 6, 6, 6, 6, 6, 6, 6, 6, 6, 6, 6, 6, 6, 6, 7, 7, 7, 7, 7, 7, 7, 7, 7, 7, 7, 7, 7, 7, 7, 7, 7, 7, 7, 7, 7, 7, 7, 7, 7, 7, 7, 7, 7, 7, 7, 7, 7, 7, 7, 7, 7, 7, 7, 7, 7, 7, 7, 7, 7, 7, 7, 7, 7, 7, 7, 7, 7, 7, 7, 7, 7, 7, 7, 7, 7, 7, 7, 7, 8, 8, 8, 8, 8, 8, 8, 8, 8, 8, 8, 8, 8, 8, 8, 8, 8, 8, 8, 8, 8, 8, 8, 8, 8, 8, 8, 8, 8, 8, 8, 8, 8, 8, 8, 8, 8, 8, 8, 8, 8, 8, 8, 8, 8, 8, 8, 8, 8, 8, 8, 8, 8, 8, 8, 8, 8, 8, 8, 8, 8, 8, 8, 8, 8, 8, 8, 8, 8, 8, 8, 8, 8, 8, 8, 8, 8, 8, 8, 8, 8, 8, 8, 8, 8, 8, 8, 8, 8, 8, 8, 8, 8, 8, 8, 8, 8, 8, 8, 8, 8, 8, 8, 8, 8, 8, 8, 8, 8, 8, 8, 8, 8, 8, 8, 8, 8, 8, 8, 8, 8, 8, 8, 8, 8, 8, 8, 8]⟩ : ByteArray) (ji15)))))) else (none)) else (none)) = some r := by first | (rw [hji15] at H; exact H) | (simp only [hji15] at H ⊢; exact H)
     by_cases c16 : 0 ≤ (ji15)
     ·rw [if_pos c16] at H
      have c16b0 : decide (0 ≤ (ji15)) = true := decide_eq_true c16
      clear c16
      by_cases c17 : (ji15) < 256
      ·rw [if_pos c17] at H
       have c17b0 : decide ((ji15) < 256) = true := decide_eq_true c17
       clear c17
       obtain rfl := Option.some.inj H
       have p18 : 0 ≤ ((ji15) : Int) := of_decide_eq_true (by first | (with_reducible assumption) | assumption)
       have q18 : (ji15) < (256 : Int) := of_decide_eq_true (by first | (with_reducible assumption) | assumption)
       have hx18 := bt_at (⟨#[0, 1, 2, 2, 3, 3, 3, 3, 4, 4, 4, 4, 4, 4, 4, 4, 5, 5, 5, 5, 5, 5, 5, 5, 5, 5, 5, 5, 5, 5, 5, 5, 6, 6, 6, 6, 6, 6, 6, 6, 6, 6, 6, 6, 6, 6, 6, 6, 6, 6, 6, 6, 6, 6, 6, 6, 6, 6, 6, 6, 6, 6, 6, 6, 7, 7, 7, 7, 7, 7, 7, 7, 7, 7, 7, 7, 7, 7, 7, 7, 7, 7, 7, 7, 7, 7, 7, 7, 7, 7, 7, 7, 7, 7, 7, 7, 7, 7, 7, 7, 7, 7, 7, 7, 7, 7, 7, 7, 7, 7, 7, 7, 7, 7, 7, 7, 7, 7, 7, 7, 7, 7, 7, 7, 7, 7, 7, 7, 8, 8, 8, 8, 8, 8, 8, 8, 8, 8, 8, 8, 8, 8, 8, 8, 8, 8, 8, 8, 8, 8, 8, 8, 8, 8, 8, 8, 8, 8, 8, 8, 8, 8, 8, 8, 8, 8, 8, 8, 8, 8, 8, 8, 8, 8, 8, 8, 8, 8, 8, 8, 8, 8, 8, 8, 8, 8, 8, 8, 8, 8, 8, 8, 8, 8, 8, 8, 8, 8, 8, 8, 8, 8, 8, 8, 8, 8, 8, 8, 8, 8, 8, 8, 8, 8, 8, 8, 8, 8, 8, 8, 8, 8, 8, 8, 8, 8, 8, 8, 8, 8, 8, 8, 8, 8, 8, 8, 8, 8, 8, 8, 8, 8, 8, 8, 8, 8, 8, 8, 8, 8, 8, 8, 8, 8, 8, 8]⟩ : ByteArray) (ji15)
       replace p18 := eq_true p18
       replace q18 := eq_true q18
       go_wp2
       go_ret
       exact ⟨by first | rfl | (simp; done) | (simp only [← hji15] <;> (first | rfl | simp)) | (simp [*]; done), by repeat (first | exact Drawn0.refl _ | apply Drawn0.step)⟩
      ·rw [if_neg c17] at H
       exact absurd H (by simp)
     ·rw [if_neg c16] at H
      exact absurd H (by simp)
    ·rw [if_neg c14] at H
     have c14b0 : decide (256 ≤ x0_1) = false := decide_eq_false c14
     clear c14
     obtain ⟨ji19, hji19⟩ : ∃ j_ : Int, ((x0_1) % 256) = j_ := ⟨_, rfl⟩
     replace H : (if 0 ≤ (ji19) then (if (ji19) < 256 then (some (wrap64 (x2_1 + (wrap64 (bt (⟨#[0, 1, 2, 2, 3, 3, 3, 3, 4, 4, 4, 4, 4, 4, 4, 4, 5, 5, 5, 5, 5, 5, 5, 5, 5, 5, 5, 5, 5, 5, 5, 5, 6, 6, 6, 6, 6, 6, 6, 6, 6, 6, 6, 6, 6, 6, 6, 6, 6, 6, 6, 6, 6, 6, 6, 6, 6, 6, 6, 6, 6, 6, 6, 6, 7, 7, 7, 7, 7, 7, 7, 7, 7, 7, 7, 7, 7, 7, 7, 7, 7, 7, 7, 7, 7, 7, 7, 7, 7, 7, 7, 7, 7, 7, 7, 7, 7, 7, 7, 7, 7, 7, 7, 7, 7, 7, 7, 7, 7, 7, 7, 7, 7, 7, 7, 7, 7, 7, 7, 7, 7, 7, 7, 7, 7, 7, 7, 7, 8, 8, 8, 8, 8, 8, 8, 8, 8, 8, 8, 8, 8, 8, 8, 8, 8, 8, 8, 8, 8, 8, 8, 8, 8, 8, 8, 8, 8, 8, 8, 8, 8, 8, 8, 8, 8, 8, 8, 8, 8, 8, 8, 8, 8, 8, 8, 8, 8, 8, 8, 8, 8, 8, 8, 8, 8, 8, 8, 8, 8, 8, 8, 8, 8, 8, 8, 8, 8, 8, 8, 8, 8, 8, 8, 8, 8, 8, 8, 8, 8, 8, 8, 8, 8, 8, 8, 8, 8, 8, 8, 8, 8, 8, 8, 8, 8, 8, 8, 8, 8, 8, 8, 8, 8, 8, 8, 8, 8, 8, 8, 8, 8, 8, 8, 8, 8, 8, 8, 8, 8, 8, 8, 8, 8, 8, 8, 8]⟩ : ByteArray) (ji19)))))) else (none)) else (none)) = some r := by first | (rw [hji19] at H; exact H) | (simp only [hji19] at H ⊢; exact H)
     by_cases c20 : 0 ≤ (ji19)
     ·rw [if_pos c20] at H
      have c20b0 : decide (0 ≤ (ji19)) = true := decide_eq_true c20
      clear c20
      by_cases c21 : (ji19) < 256
      ·rw [if_pos c21] at H
       have c21b0 : decide ((ji19) < 256) = true := decide_eq_true c21
       clear c21
       obtain rfl := Option.some.inj H
       have p22 : 0 ≤ ((ji19) : Int) := of_decide_eq_true (by first | (with_reducible assumption) | assumption)
       have q22 : (ji19) < (256 : Int) := of_decide_eq_true (by first | (with_reducible assumption) | assumption)
       have hx22 := bt_at (⟨#[0, 1, 2, 2, 3, 3, 3, 3, 4, 4, 4, 4, 4, 4, 4, 4, 5, 5, 5, 5, 5, 5, 5, 5, 5, 5, 5, 5, 5, 5, 5, 5, 6, 6, 6, 6, 6, 6, 6, 6, 6, 6, 6, 6, 6, 6, 6, 6, 6, 6, 6, 6, 6, 6, 6, 6, 6, 6, 6, 6, 6, 6, 6, 6, 7, 7, 7, 7, 7, 7, 7, 7, 7, 7, 7, 7, 7, 7, 7, 7, 7, 7, 7, 7, 7, 7, 7, 7, 7, 7, 7, 7, 7, 7, 7, 7, 7, 7, 7, 7, 7, 7, 7, 7, 7, 7, 7, 7, 7, 7, 7, 7, 7, 7, 7, 7, 7, 7, 7, 7, 7, 7, 7, 7, 7, 7, 7, 7, 8, 8, 8, 8, 8, 8, 8, 8, 8, 8, 8, 8, 8, 8, 8, 8, 8, 8, 8, 8, 8, 8, 8, 8, 8, 8, 8, 8, 8, 8, 8, 8, 8, 8, 8, 8, 8, 8, 8, 8, 8, 8, 8, 8, 8, 8, 8, 8, 8, 8, 8, 8, 8, 8, 8, 8, 8, 8, 8, 8, 8, 8, 8, 8, 8, 8, 8, 8, 8, 8, 8, 8, 8, 8, 8, 8, 8, 8, 8, 8, 8, 8, 8, 8, 8, 8, 8, 8, 8, 8, 8, 8, 8, 8, 8, 8, 8, 8, 8, 8, 8, 8, 8, 8, 8, 8, 8, 8, 8, 8, 8, 8, 8, 8, 8, 8, 8, 8, 8, 8, 8, 8, 8, 8, 8, 8, 8, 8]⟩ : ByteArray) (ji19)
       replace p22 := eq_true p22
       replace q22 := eq_true q22
       go_wp2
       go_ret
       exact ⟨by first | rfl | (simp; done) | (simp only [← hji19] <;> (first | rfl | simp)) | (simp [*]; done), by repeat (first | exact Drawn0.refl _ | apply Drawn0.step)⟩
      ·rw [if_neg c21] at H
       exact absurd H (by simp)
     ·rw [if_neg c20] at H
      exact absurd H (by simp)
end Go.Proofs.YtbccjcdmpiolpaaDoor.T
end
section
namespace Go.Proofs.YtbccjcdmpiolpaaDoor.T
open Go.RowKit Go.Proofs.YtbccjcdmpiolpaaDoorW.PrintWords Go.Proofs.YtbccjcdmpiolpaaDoorW.PrintLast Go.Proofs.YtbccjcdmpiolpaaDoorW.PrintMore
attribute [local go_sem] max2_int min2_int max_two min_two max_three min_three max_four min_four
set_option linter.unusedVariables false
set_option linter.unusedSimpArgs false
def codec_width.f (k : Nat) (a0 : Int) : Option (Int) := (bits_Len64.f k a0).bind fun t113 => (some (mx 1 (wrap64 (Int.tdiv (wrap64 (t113 + 7)) 8))))
set_option maxHeartbeats 8000000 in
set_option maxRecDepth 100000 in
theorem codec_width.calls (k : Nat) (a0 : Int) (r : Int) (w : World) (hG : Glob w) (h : codec_width.f k a0 = some r) :
  Calls Tryd.prog 70 #[.int .u64 a0] w fun e w' => e = .returned (.int .i64 r) ∧ Below w.heap.size w w' := by
 have HG := Aside0.mk hG
 clear hG
 have HB := Aside0.mk (Below.refl w.heap.size w)
 have H : ((bits_Len64.f k a0).bind fun t113 => (some (mx 1 (wrap64 (Int.tdiv (wrap64 (t113 + 7)) 8))))) = some r := h
 clear h
 replace H := Option.bind_eq_some_iff.mp H
 obtain ⟨t113, A20, H⟩ := H
 replace H : (some (mx 1 (wrap64 (Int.tdiv (wrap64 (t113 + 7)) 8)))) = some r := H
 have A2 := Aside0.mk A20
 clear A20
 obtain ⟨ji3, hji3⟩ : ∃ j_ : Int, (mx 1 (wrap64 (Int.tdiv (wrap64 (t113 + 7)) 8))) = j_ := ⟨_, rfl⟩
 replace H : (some ji3) = some r := by first | (rw [hji3] at H; exact H) | (simp only [hji3] at H ⊢; exact H)
 (try rw [hji3] at A2)
 (try (have hji3l : 1 ≤ ji3 := by (rw [← hji3]; unfold mx; (repeat' split) <;> omega)))
 (try (have hji3m : 0 ≤ ji3 := by omega))
 have hji3_ : (if 1 < (wrap64 (Int.tdiv (wrap64 (t113 + 7)) 8)) then (wrap64 (Int.tdiv (wrap64 (t113 + 7)) 8)) else 1) = ji3 := hji3
 obtain rfl := Option.some.inj H
 go_enter Tryd.func70, Tryd.ntmps70
 go_wp2_with (first | ((with_reducible refine gate_callee (f := 77) rfl ?_); refine goesL_ (some 4) rfl rfl Tryd.func77 (by kernel_rfl) rfl #[.int .u64 a0] rfl (by (try simp only [List.map_toArray, List.map_cons, List.map_nil]); first | done | rfl | (simp only [List.length_drop, List.length_take]; rfl)) ?_; (with_reducible refine (bits_Len64.calls k a0 t113 _ ?side99  A2.out).mono ?_); (case side99 => first | exact HG.out | exact Glob.below HG.out (by repeat (first | (with_reducible first | exact HB.out | apply below_alloc | apply pw_below_drewN | apply below_drew1) | exact HB.out))); rintro e w' ⟨rfl, ⟨nd, rfl⟩⟩; refine ⟨_, rfl, ?_⟩))
 go_ret
 exact ⟨by first | rfl | (simp [errW_none, errW_some] <;> rfl) | (simp only [← hji3]; first | rfl | (simp [errW_none, errW_some] <;> rfl)) | (simp [*, errW_none, errW_some] <;> rfl), by repeat (first | (with_reducible first | exact HB.out | apply below_alloc | apply pw_below_drewN | apply below_drew1) | exact HB.out)⟩
end Go.Proofs.YtbccjcdmpiolpaaDoor.T
end
section
namespace Go.Proofs.YtbccjcdmpiolpaaDoor.T
open Go.RowKit Go.Proofs.YtbccjcdmpiolpaaDoorW.PrintWords Go.Proofs.YtbccjcdmpiolpaaDoorW.PrintLast Go.Proofs.YtbccjcdmpiolpaaDoorW.PrintMore
attribute [local go_sem] max2_int min2_int max_two min_two max_three min_three max_four min_four
set_option linter.unusedVariables false
set_option linter.unusedSimpArgs false
def codec_spread.f (k : Nat) (a0 : Int) : Option (Int) := if a0 < 0 then ((bits_Len64.f k (IntKind.u64.wrap (Go.bits .xor .i64 (-1) a0))).bind fun t114 => (some (wrap64 (Int.tdiv (wrap64 (t114 + 8)) 8)))) else ((bits_Len64.f k (IntKind.u64.wrap (a0))).bind fun t115 => (some (wrap64 (Int.tdiv (wrap64 (t115 + 8)) 8))))
set_option maxHeartbeats 8000000 in
set_option maxRecDepth 100000 in
theorem codec_spread.calls (k : Nat) (a0 : Int) (r : Int) (w : World) (hG : Glob w) (h : codec_spread.f k a0 = some r) :
  Calls Tryd.prog 71 #[.int .i64 a0] w fun e w' => e = .returned (.int .i64 r) ∧ Drawn0 w w' := by
 have HG := Aside0.mk hG
 clear hG
 have H : (if a0 < 0 then ((bits_Len64.f k (IntKind.u64.wrap (Go.bits .xor .i64 (-1) a0))).bind fun t114 => (some (wrap64 (Int.tdiv (wrap64 (t114 + 8)) 8)))) else ((bits_Len64.f k (IntKind.u64.wrap (a0))).bind fun t115 => (some (wrap64 (Int.tdiv (wrap64 (t115 + 8)) 8))))) = some r := h
 clear h
 by_cases c2 : a0 < 0
 ·rw [if_pos c2] at H
  have c2b0 : decide (a0 < 0) = true := decide_eq_true c2
  clear c2
  replace H := Option.bind_eq_some_iff.mp H
  obtain ⟨t114, A30, H⟩ := H
  replace H : (some (wrap64 (Int.tdiv (wrap64 (t114 + 8)) 8))) = some r := H
  have A3 := Aside0.mk A30
  clear A30
  obtain rfl := Option.some.inj H
  go_enter Tryd.func71, Tryd.ntmps71
  go_wp2_with (first | ((with_reducible refine gate_callee (f := 77) rfl ?_); refine goesL_ (some 9) rfl rfl Tryd.func77 (by kernel_rfl) rfl #[.int .u64 (IntKind.u64.wrap (Go.bits .xor .i64 (-1) a0))] rfl (by (try simp only [List.map_toArray, List.map_cons, List.map_nil]); first | done | rfl | (simp only [List.length_drop, List.length_take]; rfl)) ?_; (with_reducible refine (bits_Len64.calls k (IntKind.u64.wrap (Go.bits .xor .i64 (-1) a0)) t114 _ ?side99  A3.out).mono ?_); (case side99 => first | exact HG.out | exact Glob.below HG.out (by repeat (first | (with_reducible first | exact HB.out | apply below_alloc | apply pw_below_drewN | apply below_drew1) | exact HB.out))); rintro e w' ⟨rfl, ⟨nd, rfl⟩⟩; refine ⟨_, rfl, ?_⟩))
  go_ret
  exact ⟨by first | rfl | (simp; done) | (simp [*]; done), by repeat (first | exact Drawn0.refl _ | apply Drawn0.step)⟩
 ·rw [if_neg c2] at H
  have c2b0 : decide (a0 < 0) = false := decide_eq_false c2
  clear c2
  replace H := Option.bind_eq_some_iff.mp H
  obtain ⟨t115, A40, H⟩ := H
  replace H : (some (wrap64 (Int.tdiv (wrap64 (t115 + 8)) 8))) = some r := H
  have A4 := Aside0.mk A40
  clear A40
  obtain rfl := Option.some.inj H
  go_enter Tryd.func71, Tryd.ntmps71
  go_wp2_with (first | ((with_reducible refine gate_callee (f := 77) rfl ?_); refine goesL_ (some 9) rfl rfl Tryd.func77 (by kernel_rfl) rfl #[.int .u64 (IntKind.u64.wrap (a0))] rfl (by (try simp only [List.map_toArray, List.map_cons, List.map_nil]); first | done | rfl | (simp only [List.length_drop, List.length_take]; rfl)) ?_; (with_reducible refine (bits_Len64.calls k (IntKind.u64.wrap (a0)) t115 _ ?side99  A4.out).mono ?_); (case side99 => first | exact HG.out | exact Glob.below HG.out (by repeat (first | (with_reducible first | exact HB.out | apply below_alloc | apply pw_below_drewN | apply below_drew1) | exact HB.out))); rintro e w' ⟨rfl, ⟨nd, rfl⟩⟩; refine ⟨_, rfl, ?_⟩))
  go_ret
  exact ⟨by first | rfl | (simp; done) | (simp [*]; done), by repeat (first | exact Drawn0.refl _ | apply Drawn0.step)⟩
end Go.Proofs.YtbccjcdmpiolpaaDoor.T
end
section
namespace Go.Proofs.YtbccjcdmpiolpaaDoor.T
open Go.RowKit Go.Proofs.YtbccjcdmpiolpaaDoorW.PrintWords Go.Proofs.YtbccjcdmpiolpaaDoorW.PrintLast Go.Proofs.YtbccjcdmpiolpaaDoorW.PrintMore
attribute [local go_sem] max2_int min2_int max_two min_two max_three min_three max_four min_four
set_option linter.unusedVariables false
set_option linter.unusedSimpArgs false
def codec_number.l0 : Nat → Int → List Int → Int → Option (List Int)
 | 0, _, _, _ => none
 | k + 1, x1, x7, x8 => if x8 ≥ 0 then (if 0 ≤ (wrap64 (8 * x8)) then (if x7.length < 140737488355328 then (codec_number.l0 k x1 (x7 ++ [(shr .u64 x1 (wrap64 (8 * x8))) % 256]) (wrap64 (x8 - 1))) else (none)) else (none)) else (some x7)
def codec_number.f (k : Nat) (a0 : Int) (a1 : Int) (a2 : Int) : Option (List Int) := codec_number.l0 k a1 (([(a0 + ((a2) % 256)) % 256] : List Int)) (wrap64 (a2 - 1))
set_option maxHeartbeats 8000000 in
set_option maxRecDepth 100000 in
theorem codec_number.calls (k : Nat) (a0 : Int) (a1 : Int) (a2 : Int) (r : List Int) (w : World) (hG : Glob w) (h : codec_number.f k a0 a1 a2 = some r) :
  Calls Tryd.prog 69 #[.int .u8 a0, .int .u64 a1, .int .i64 a2] w fun e w' => ∃ v0_ : Value, e = .returned (v0_) ∧ Kd.R (Kd.int .u8) 5 w' w.heap.size (fun _ => True) v0_ r ∧ Below w.heap.size w w' := by
 have HG := Aside0.mk hG
 clear hG
 have HB := Aside0.mk (Below.refl w.heap.size w)
 have H : (codec_number.l0 k a1 (([(a0 + ((a2) % 256)) % 256] : List Int)) (wrap64 (a2 - 1))) = some r := h
 clear h
 obtain ⟨y147, hy147⟩ : ∃ y_ : List Int, y_ = (([(a0 + ((a2) % 256)) % 256] : List Int)) := ⟨_, rfl⟩
 replace H : (codec_number.l0 k a1 y147 (wrap64 (a2 - 1))) = some r := by first | (rw [hy147]; with_reducible exact H) | (have H2_ := (Option.bind_some _ _).symm.trans H; rw [hy147]; with_reducible exact H2_) | (have H2_ := (Option.bind_some _ _).symm.trans H; with_reducible exact H2_) | with_reducible exact H | (rw [hy147]; exact H) | exact H
 have Ny147 := Aside0.mk hy147
 clear hy147
 have H' := Aside0.mk H
 clear H
 go_enter Tryd.func69, Tryd.ntmps69
 go_wp2_with (first | ((with_reducible refine gate_dst (N := 13) rfl ?_); refine Kd.R_lit (Kd.int .u8) _ 5 ?hg (N := 13) ?hd (xs := ([(a0 + ((a2) % 256)) % 256] : List Int)) (inner := [.int .u8 ((a0 + ((a2) % 256)) % 256)]) (ok := fun _ => True) (okp := fun _ => True) ?hr ?hp (fun _ hk => hk) trivial (Below.refl _ _) (Nat.le_refl _) (by simp) ?_; (case hd => rfl); (case hg => rfl); (case hr => first | (go_simp; done) | (go_simp; rfl)); (case hp => exact (Reps.one (show Kd.M (Kd.int .u8) _ _ _ ((a0 + ((a2) % 256)) % 256) [.int .u8 ((a0 + ((a2) % 256)) % 256)] from rfl) (Reps.none _ _))); intro v148 w4 ho5 hb hg_ hnew_; clear hg_ hnew_; (first | rw [← Ny147.out] at ho5 | (simp only [Int.reduceToNat] at ho5; rw [← Ny147.out] at ho5)); have n0_ := Aside0.mk (Kd.R_lower ho5 (below_size (by repeat (first | (with_reducible first | exact HB.out | apply below_alloc | apply pw_below_drewN | apply below_drew1) | exact HB.out)))); have n1_ := Aside0.mk (below_step (by repeat (first | (with_reducible first | exact HB.out | apply below_alloc | apply pw_below_drewN | apply below_drew1) | exact HB.out)) hb); clear HB; have HO149 := n0_; have HB := n1_; clear n0_ n1_; clear hb ho5))
 go_loopg [7, 8] k (fun kq v7 v8 w' => ∃ (x7_1 : List Int) (x8_1 : Int), v8 = .int .i64 x8_1 ∧ Aside0 (codec_number.l0 kq a1 x7_1 x8_1 = some r) ∧ Aside0 (kq ≤ k) ∧ Aside0 (Kd.R (Kd.int .u8) 5 w' w.heap.size (fun _ => True) v7 x7_1) ∧ Aside0 (Below w.heap.size w w'))
 case atStart => exact ⟨(y147), (wrap64 (a2 - 1)), (by first | rfl | (simp; done) | (simp [*]; done)), H', ⟨Nat.le_refl _⟩, ⟨by (with_reducible repeat (first | apply Kd.R_alloc | apply Kd.R_drewN | apply Kd.R_drew)); exact HO149.out⟩, ⟨by repeat (first | (with_reducible first | exact HB.out | apply below_alloc | apply pw_below_drewN | apply below_drew1) | exact HB.out)⟩⟩
 case round =>
  clear H'
  try clear p2
  obtain ⟨x7_1, x8_1, rfl, HA, HK1, HO_7, HB⟩ := hrel
  cases gk with
  | zero => exact absurd HA.out (by simp [codec_number.l0])
  | succ k1 =>
   have H := HA.out
   clear HA
   simp only [codec_number.l0] at H
   by_cases c6 : x8_1 ≥ 0
   ·rw [if_pos c6] at H
    have c6b0 : decide (0 ≤ x8_1) = true := decide_eq_true c6
    clear c6
    obtain ⟨ji7, hji7⟩ : ∃ j_ : Int, (wrap64 (8 * x8_1)) = j_ := ⟨_, rfl⟩
    replace H : (if 0 ≤ (ji7) then (if x7_1.length < 140737488355328 then (codec_number.l0 k1 a1 (x7_1 ++ [(shr .u64 a1 (ji7)) % 256]) (wrap64 (x8_1 - 1))) else (none)) else (none)) = some r := by first | (rw [hji7] at H; exact H) | (simp only [hji7] at H ⊢; exact H)
    have hji7w : (IntKind.i64.wrap (8 * x8_1)) = ji7 := (i64_w _).trans hji7
    by_cases c8 : 0 ≤ (ji7)
    ·rw [if_pos c8] at H
     have c8b0 := eq_true c8
     have c8b1 : decide (0 ≤ (ji7)) = true := decide_eq_true c8
     clear c8
     obtain ⟨ji9, hji9⟩ : ∃ j_ : Int, (shr .u64 a1 (ji7)) = j_ := ⟨_, rfl⟩
     replace H : (if x7_1.length < 140737488355328 then (codec_number.l0 k1 a1 (x7_1 ++ [(ji9) % 256]) (wrap64 (x8_1 - 1))) else (none)) = some r := by first | (rw [hji9] at H; exact H) | (simp only [hji9] at H ⊢; exact H)
     have hji9_ : (a1 / 2 ^ min (ji7).toNat 64) = ji9 := hji9
     have hji9z : (ji7) ≤ 64 → (a1 / 2 ^ (ji7).toNat) = ji9 := shr_small hji9
     by_cases c10 : x7_1.length < 140737488355328
     ·rw [if_pos c10] at H
      have LMc10 := Aside0.mk c10
      clear c10
      obtain ⟨y150, hy150⟩ : ∃ y_ : List Int, y_ = (x7_1 ++ [(ji9) % 256]) := ⟨_, rfl⟩
      replace H : (codec_number.l0 k1 a1 y150 (wrap64 (x8_1 - 1))) = some r := by first | (rw [hy150]; with_reducible exact H) | (have H2_ := (Option.bind_some _ _).symm.trans H; rw [hy150]; with_reducible exact H2_) | (have H2_ := (Option.bind_some _ _).symm.trans H; with_reducible exact H2_) | with_reducible exact H | (rw [hy150]; exact H) | exact H
      have Ny150 := Aside0.mk hy150
      clear hy150
      have H' := Aside0.mk H
      clear H
      go_wp2_with (first | ((with_reducible refine gate_builtin (b := .append) (xs := #[.tmp 20, .tmp 26]) rfl ?_); at_builtin; refine Kd.R_append (Kd.int .u8) (w0 := w) w.heap.size rfl (.tmp 20) (.tmp 26) 88 5 (.int .u8 0) 1 rfl Tryd.underlying88 info5 rfl (by decide) (by omega) u7 x7_1 ((ji9) % 256) [.int .u8 ((ji9) % 256)] (fun _ => True) (fun _ => False) rfl rfl ?aP (fun _ hk => hk.elim) ?aF ?aO ?aB ?aS ?aL ?_; (case aP => exact rfl); (case aB => exact (by repeat (first | (with_reducible first | exact HB.out | apply below_alloc | apply pw_below_drewN | apply below_drew1) | exact HB.out))); (case aF => exact (fun _ _ => trivial)); (case aO => exact (by (with_reducible repeat (first | apply Kd.R_alloc | apply Kd.R_drewN | apply Kd.R_drew)); exact HO_7.out)); (case aS => exact (below_size (by repeat (first | (with_reducible first | exact HB.out | apply below_alloc | apply pw_below_drewN | apply below_drew1) | exact HB.out)))); (case aL => have := LMc10.out; first | omega | (simp only [ByteArray.size, List.size_toArray, List.length_cons, List.length_nil] at this ⊢; omega)); intro v151 w11 ho hb hg hat; rw [← Ny150.out] at ho; have n0_ := Aside0.mk (hb); have n1_ := Aside0.mk (ho); clear HB; clear HO_7; have HB := n0_; have HO152 := n1_; clear n0_ n1_; clear ho hb hg hat))
      go_roundg k1
      case measure => have := HK1.out; omega
      case rel => exact ⟨(y150), (wrap64 (x8_1 - 1)), (by first | rfl | (simp; done) | (simp [*]; done)), H', ⟨by have := HK1.out; omega⟩, ⟨by (with_reducible repeat (first | apply Kd.R_alloc | apply Kd.R_drewN | apply Kd.R_drew)); exact HO152.out⟩, ⟨by repeat (first | (with_reducible first | exact HB.out | apply below_alloc | apply pw_below_drewN | apply below_drew1) | exact HB.out)⟩⟩
     ·rw [if_neg c10] at H
      exact absurd H (by simp)
    ·rw [if_neg c8] at H
     exact absurd H (by simp)
   ·rw [if_neg c6] at H
    have c6b0 : decide (0 ≤ x8_1) = false := decide_eq_false c6
    clear c6
    obtain rfl := Option.some.inj H
    go_wp2
    go_ret
    exact ⟨_, by first | rfl | (simp [errW_none, errW_some] <;> rfl) | (simp [*, errW_none, errW_some] <;> rfl), by (with_reducible repeat (first | apply Kd.R_alloc | apply Kd.R_drewN | apply Kd.R_drew)); exact HO_7.out, by repeat (first | (with_reducible first | exact HB.out | apply below_alloc | apply pw_below_drewN | apply below_drew1) | exact HB.out)⟩
end Go.Proofs.YtbccjcdmpiolpaaDoor.T
end
section
namespace Go.Proofs.YtbccjcdmpiolpaaDoor.T
open Go.RowKit Go.Proofs.YtbccjcdmpiolpaaDoorW.PrintWords Go.Proofs.YtbccjcdmpiolpaaDoorW.PrintLast Go.Proofs.YtbccjcdmpiolpaaDoorW.PrintMore
set_option linter.unusedVariables false
set_option linter.unusedSimpArgs false
def WrAt (B g : Nat) (l : List Int) (w : World) : Prop := ∃ v, w.heap[g]? = some (.cells #[v] 90 (0, 0)) ∧ B ≤ g ∧ Kd.R (Kd.int .u8) 5 w B (fun _ => True) v l
structure KeepT (w w' : World) : Prop where
 size : w.heap.size ≤ w'.heap.size
 keep : ∀ (k : Nat) cs t, w.heap[k]? = some (.cells cs t (0, 0)) → t ≠ 5 → t ≠ 90 → w'.heap[k]? = some (.cells cs t (0, 0))
theorem KeepT.trans {w w1 w2 : World} (h : KeepT w w1) (k : KeepT w1 w2) : KeepT w w2 := ⟨Nat.le_trans h.size k.size, fun j cs t hj h1 h2 => k.keep j cs t (h.keep j cs t hj h1 h2) h1 h2⟩
theorem WrAt.below {B g : Nat} {l : List Int} {w w1 : World} (h : WrAt B g l w) (hb : Below w.heap.size w w1) : WrAt B g l w1 := by
 obtain ⟨v, hv, hg, ho⟩ := h
 exact ⟨v, blk_below hv hb, hg, Kd.R_below ho hb⟩
structure WrStep (B g : Nat) (l' : List Int) (w w1 : World) (v v1 : Value) : Prop where
 at_ : WrAt B g l' (w1.setCell ⟨g, 0, none⟩ v1)
 bel : Below B w (w1.setCell ⟨g, 0, none⟩ v1)
 keep : KeepT w (w1.setCell ⟨g, 0, none⟩ v1)
 cell : w1.cell? ⟨g, 0, none⟩ = some v
 free : w1.frozen? ⟨g, 0, none⟩ = false
theorem wr_step {B g : Nat} {l l' : List Int} {w W1 w1 : World} {v v1 : Value} (hv : w.heap[g]? = some (.cells #[v] 90 (0, 0))) (hg : B ≤ g) (ho : Kd.R (Kd.int .u8) 5 w B (fun _ => True) v l)
  (hb1 : Below w.heap.size w W1) (ho1 : Kd.R (Kd.int .u8) 5 w1 B (fun _ => True) v1 l') (hbel : Below B w w1) (hgr : W1.grownBy w1 v.ownBlock) : WrStep B g l' w w1 v v1 := by
 have hne : ∀ (k : Nat) cs t, w.heap[k]? = some (.cells cs t (0, 0)) → t ≠ 5 → some k ≠ v.ownBlock := fun k cs t hk ht => Kd.R_ne ho hk (Ne.symm ht)
 have h1 : w1.heap[g]? = some (.cells #[v] 90 (0, 0)) := blk_grown (blk_below hv hb1) hgr (hne g _ _ hv (by decide))
 have hsz : w.heap.size ≤ w1.heap.size := Nat.le_trans hb1.size hgr.size
 refine ⟨⟨v1, blk_put h1 0 v1 rfl, hg, ?_⟩, hbel.setCell hg _, ⟨by simpa [World.setCell] using hsz, fun k cs t hk t1 t2 => ?_⟩, (blk_cell h1 0).trans rfl, blk_frozen h1 0⟩
 ·have ha := Kd.R_types ho1 h1 (fun q hq => by
   rcases List.mem_cons.1 hq with rfl | hq
   ·decide
   ·cases hq)
  exact Kd.R_mono (Kd.R_far ha (p := ⟨g, 0, none⟩) (fun _ h => h.2) v1) (fun _ _ => trivial)
 ·exact blk_far (blk_grown (blk_below hk hb1) hgr (hne k _ _ hk t1)) (by rintro rfl; rw [hv] at hk; injection hk with hk; injection hk with _ hk _; exact t2 hk.symm) _
def WrPost (B g : Nat) (l' : List Int) (w : World) (r : Value) (e : Ending) (w' : World) : Prop := e = .returned r ∧ WrAt B g l' w' ∧ Below B w w' ∧ KeepT w w'
def wrMax : Nat := 1000000000000
set_option maxHeartbeats 8000000 in
set_option maxRecDepth 100000 in
theorem wr_unsigned (k k2 : Nat) (B g : Nat) (l : List Int) (n wd : Int) (bs : List Int) (w : World) (hG : Aside0 (Glob w)) (hB : B ≤ w.heap.size) (h : WrAt B g l w) (hl : l.length + bs.length ≤ wrMax) (hw : Aside0 (codec_width.f k n = some wd)) (hn : Aside0 (codec_number.f k2 16 n wd = some bs)) :
  Calls Tryd.prog 46 #[.pointer (some ⟨g, 0, none⟩), .int .u64 n] w fun e w' => WrPost B g (l ++ bs) w (.tuple #[]) e w' := by
 obtain ⟨v, hv, hg, ho⟩ := h
 unfold wrMax at hl
 have HV := Aside0.mk hv
 have HO := Aside0.mk ho
 have HG := Aside0.mk hg
 have HS := Aside0.mk hB
 have hc := (blk_cell hv 0).trans rfl
 clear hv ho hg hB
 obtain ⟨ls, LS⟩ : ∃ ls, Aside0 (l ++ bs = ls) := ⟨_, ⟨rfl⟩⟩
 rw [LS.out]
 go_enter Tryd.func46, Tryd.ntmps46
 try go_wp2
 refine start_ (n := 13) (S := fun w' => w'.cell? ⟨g, 0, none⟩ = some v) (ds := [12]) #[Yn, Yn, Yn, Yn, Yn, Yn, Yn, Yn, Yn, Yn, Yn, Yn, Yn] (by kernel_rfl) rfl rfl (hc) (fun hHeld => ?_)
 refine P1 0 4 ?_ (Bz 13 0x1) ?_ ?_ ?_ ?_
 rotate_left
 ·intro w'
  go_simp
  with_reducible rfl
 rotate_left
 ·simp only [Act.put, Z1, Z2, Z3, i64_w, i32_w]
  rfl
 refine P1 1 5 ?_ (Bz 13 0x3) ?_ ?_ ?_ ?_
 rotate_left
 ·intro w'
  go_simp
  with_reducible rfl
 rotate_left
 ·simp only [Act.put, Z1, Z2, Z3, i64_w, i32_w]
  rfl
 refine P1 2 6 ?_ (Bz 13 0x7) ?_ ?_ ?_ ?_
 rotate_left
 ·intro w'
  go_simp
  with_reducible rfl
 rotate_left
 ·simp only [Act.put, Z1, Z2, Z3, i64_w, i32_w]
  rfl
 refine P1 3 7 ?_ (Bz 13 0xf) ?_ ?_ ?_ ?_
 rotate_left
 ·intro w'
  go_simp
  with_reducible rfl
 rotate_left
 ·simp only [Act.put, Z1, Z2, Z3, i64_w, i32_w]
  rfl
 refine P1 5 9 ?_ (Bz 13 0x2f) ?_ ?_ ?_ ?_
 rotate_left
 ·intro w'
  go_simp
  with_reducible rfl
 rotate_left
 ·simp only [Act.put, Z1, Z2, Z3, i64_w, i32_w]
  rfl
 refine P1 6 10 ?_ (Bz 13 0x6f) ?_ ?_ ?_ ?_
 rotate_left
 ·intro w'
  go_simp
  with_reducible rfl
 rotate_left
 ·simp only [Act.put, Z1, Z2, Z3, i64_w, i32_w]
  rfl
 refine P5 4 8 ?_ (Bz 13 0x7f) ?_ hHeld ?_ ?_ ?_
 rotate_left
 ·intro w' s0
  go_simp
  with_reducible rfl
 rotate_left
 ·simp only [Act.put, Z1, Z2, Z3, i64_w, i32_w]
  rfl
 refine one_ (i := 7) (N := some 11) #[Y, Y, Y, Y, Y, Y, Y, Y, Yn, Yn, Yn, Yn, Yn] rfl rfl (by kernel_rfl) (by decide) (fun K hK => ?_)
 refine goes_ Tryd.func70 (by kernel_rfl) rfl #[.int .u64 n] (by rfl) rfl rfl (by simp only [List.map_toArray, List.map_cons, List.map_nil]; rfl) ?_
 with_reducible refine (codec_width.calls k n wd _ (Glob.below hG.out (below_drew1 (Below.refl _ _))) hw.out).mono ?_
 rintro e w7 ⟨rfl, hb7⟩
 refine ⟨_, rfl, ?_⟩
 have HB7 := Aside0.mk (below_step (below_drew1 (Below.refl w.heap.size w)) hb7)
 have hk := Aside0.mk hb7
 clear hb7
 refine hK.out _ _ (pw_cell_below hk.out hHeld) (fun hHeld => ?_)
 clear hK K
 refine norm_ (a' := ?_) ?_ ?_
 rotate_left
 ·show Act.put _ (some 11) _ = _
  simp only [Act.put, Z1, Z2, Z3, i64_w, i32_w]
  rfl
 refine one_ (i := 8) (N := some 12) #[Y, Y, Y, Y, Y, Y, Y, Y, Y, Yn, Yn, Yn, Yn] rfl rfl (by kernel_rfl) (by decide) (fun K hK => ?_)
 refine goes_ Tryd.func69 (by kernel_rfl) rfl #[.int .u8 16, .int .u64 n, .int .i64 wd] (by rfl) rfl rfl (by simp only [List.map_toArray, List.map_cons, List.map_nil]; rfl) ?_
 with_reducible refine (codec_number.calls k2 16 n wd bs _ (Glob.below hG.out HB7.out) hn.out).mono ?_
 rintro e w8 ⟨v2, rfl, hv2, hb8⟩
 refine ⟨_, rfl, ?_⟩
 have HB8 := Aside0.mk (below_step HB7.out hb8)
 obtain ⟨A2, c2, e2⟩ := Kd.R_slice hv2
 subst e2
 have HR2 := Aside0.mk hv2
 have hk := Aside0.mk hb8
 clear hb8 hv2 HB7
 refine hK.out _ _ (pw_cell_below hk.out hHeld) (fun hHeld => ?_)
 clear hK K
 refine norm_ (a' := ?_) ?_ ?_
 rotate_left
 ·show Act.put _ (some 12) _ = _
  simp only [Act.put, Z1, Z2, Z3, i64_w, i32_w]
  rfl
 refine one_ (i := 9) (N := some 13) #[Y, Y, Y, Y, Y, Y, Y, Y, Y, Y, Yn, Yn, Yn] rfl rfl (by kernel_rfl) (by decide) (fun K hK => ?_)
 refine Kd.R_append_rows_step (Kd.int .u8) (w0 := w) B (by rfl) (.tmp 8) (.tmp 12) 88 5 (.int .u8 0) 1 rfl Tryd.underlying88 info5 rfl (by decide) (by omega) v l bs _ _ _ (fun _ => True) (fun _ => False) rfl rfl (Kd.R_below HO.out HB8.out) (Kd.R_reads' HR2.out).2.2 (fun _ _ h => h) (fun _ h => h.elim) (fun _ _ => trivial) (HB8.out.mono HS.out) (Nat.le_trans HS.out HB8.out.size) (by omega) ?_
 intro v1 w9 ho hb hg hat
 rw [LS.out] at ho
 obtain ⟨A1, c1, e1⟩ := Kd.R_slice ho
 subst e1
 have HW := Aside0.mk (wr_step HV.out HG.out HO.out HB8.out ho hb hg)
 have hcc := HW.out.cell
 have hff := HW.out.free
 clear ho hb hg hat
 refine hK.out _ _ (hcc) (fun hHeld => ?_)
 clear hK K
 refine norm_ (a' := ?_) ?_ ?_
 rotate_left
 ·show Act.put _ (some 13) _ = _
  simp only [Act.put, Z1, Z2, Z3, i64_w, i32_w]
  rfl
 refine P1 10 14 ?_ (Bz 13 0x7ff) ?_ ?_ ?_ ?_
 rotate_left
 ·intro w'
  go_simp
  with_reducible rfl
 rotate_left
 ·simp only [Act.put, Z1, Z2, Z3, i64_w, i32_w]
  rfl
 refine P1 11 15 ?_ (Bz 13 0xfff) ?_ ?_ ?_ ?_
 rotate_left
 ·intro w'
  go_simp
  with_reducible rfl
 rotate_left
 ·simp only [Act.put, Z1, Z2, Z3, i64_w, i32_w]
  rfl
 refine last_ (i := 12) (N := none) #[Y, Y, Y, Y, Y, Y, Y, Y, Y, Y, Y, Y, Y] rfl rfl (by kernel_rfl) (by decide) (fun K hK => ?_)
 refine skip_ (w1 := ?_) (by rfl) rfl ?_ ?_
 rotate_left
 ·go_simp
  rfl
 refine hK.out _ _ ?_
 clear hK K
 refine done_ (by kernel_rfl) ?_
 try go_wp2
 refine bodyPost_end (results_none rfl _ _ _) rfl ?_
 exact ⟨rfl, HW.out.at_, HW.out.bel, HW.out.keep⟩
set_option maxHeartbeats 8000000 in
set_option maxRecDepth 100000 in
theorem wr_signed (k k2 : Nat) (B g : Nat) (l : List Int) (n wd : Int) (bs : List Int) (w : World) (hG : Aside0 (Glob w)) (hB : B ≤ w.heap.size) (h : WrAt B g l w) (hl : l.length + bs.length ≤ wrMax) (hw : Aside0 (codec_spread.f k n = some wd)) (hn : Aside0 (codec_number.f k2 32 (IntKind.u64.wrap n) wd = some bs)) :
  Calls Tryd.prog 47 #[.pointer (some ⟨g, 0, none⟩), .int .i64 n] w fun e w' => WrPost B g (l ++ bs) w (.tuple #[]) e w' := by
 obtain ⟨v, hv, hg, ho⟩ := h
 unfold wrMax at hl
 have HV := Aside0.mk hv
 have HO := Aside0.mk ho
 have HG := Aside0.mk hg
 have HS := Aside0.mk hB
 have hc := (blk_cell hv 0).trans rfl
 clear hv ho hg hB
 obtain ⟨ls, LS⟩ : ∃ ls, Aside0 (l ++ bs = ls) := ⟨_, ⟨rfl⟩⟩
 rw [LS.out]
 go_enter Tryd.func47, Tryd.ntmps47
 try go_wp2
 refine start_ (n := 14) (S := fun w' => w'.cell? ⟨g, 0, none⟩ = some v) (ds := [13]) #[Yn, Yn, Yn, Yn, Yn, Yn, Yn, Yn, Yn, Yn, Yn, Yn, Yn, Yn] (by kernel_rfl) rfl rfl (hc) (fun hHeld => ?_)
 refine P1 0 4 ?_ (Bz 14 0x1) ?_ ?_ ?_ ?_
 rotate_left
 ·intro w'
  go_simp
  with_reducible rfl
 rotate_left
 ·simp only [Act.put, Z1, Z2, Z3, i64_w, i32_w]
  rfl
 refine P1 1 5 ?_ (Bz 14 0x3) ?_ ?_ ?_ ?_
 rotate_left
 ·intro w'
  go_simp
  with_reducible rfl
 rotate_left
 ·simp only [Act.put, Z1, Z2, Z3, i64_w, i32_w]
  rfl
 refine P1 2 6 ?_ (Bz 14 0x7) ?_ ?_ ?_ ?_
 rotate_left
 ·intro w'
  go_simp
  with_reducible rfl
 rotate_left
 ·simp only [Act.put, Z1, Z2, Z3, i64_w, i32_w]
  rfl
 refine P1 3 7 ?_ (Bz 14 0xf) ?_ ?_ ?_ ?_
 rotate_left
 ·intro w'
  go_simp
  with_reducible rfl
 rotate_left
 ·simp only [Act.put, Z1, Z2, Z3, i64_w, i32_w]
  rfl
 refine P1 5 9 ?_ (Bz 14 0x2f) ?_ ?_ ?_ ?_
 rotate_left
 ·intro w'
  go_simp
  with_reducible rfl
 rotate_left
 ·simp only [Act.put, Z1, Z2, Z3, i64_w, i32_w]
  rfl
 refine P1 6 10 ?_ (Bz 14 0x6f) ?_ ?_ ?_ ?_
 rotate_left
 ·intro w'
  go_simp
  with_reducible rfl
 rotate_left
 ·simp only [Act.put, Z1, Z2, Z3, i64_w, i32_w]
  rfl
 refine P1 7 11 ?_ (Bz 14 0xef) ?_ ?_ ?_ ?_
 rotate_left
 ·intro w'
  go_simp
  with_reducible rfl
 rotate_left
 ·simp only [Act.put, Z1, Z2, Z3, i64_w, i32_w]
  rfl
 refine P5 4 8 ?_ (Bz 14 0xff) ?_ hHeld ?_ ?_ ?_
 rotate_left
 ·intro w' s0
  go_simp
  with_reducible rfl
 rotate_left
 ·simp only [Act.put, Z1, Z2, Z3, i64_w, i32_w]
  rfl
 refine one_ (i := 8) (N := some 12) #[Y, Y, Y, Y, Y, Y, Y, Y, Y, Yn, Yn, Yn, Yn, Yn] rfl rfl (by kernel_rfl) (by decide) (fun K hK => ?_)
 refine goes_ Tryd.func71 (by kernel_rfl) rfl #[.int .i64 n] (by rfl) rfl rfl (by simp only [List.map_toArray, List.map_cons, List.map_nil]; rfl) ?_
 with_reducible refine (codec_spread.calls k n wd _ (Glob.below hG.out (below_drew1 (Below.refl _ _))) hw.out).mono ?_
 rintro e w7 ⟨rfl, ⟨nd, rfl⟩⟩
 refine ⟨_, rfl, ?_⟩
 have HB7 := Aside0.mk (pw_below_drewN (below_drew1 (Below.refl w.heap.size w)) nd)
 refine hK.out _ _ (hHeld) (fun hHeld => ?_)
 clear hK K
 refine norm_ (a' := ?_) ?_ ?_
 rotate_left
 ·show Act.put _ (some 12) _ = _
  simp only [Act.put, Z1, Z2, Z3, i64_w, i32_w]
  rfl
 refine one_ (i := 9) (N := some 13) #[Y, Y, Y, Y, Y, Y, Y, Y, Y, Y, Yn, Yn, Yn, Yn] rfl rfl (by kernel_rfl) (by decide) (fun K hK => ?_)
 refine goes_ Tryd.func69 (by kernel_rfl) rfl #[.int .u8 32, .int .u64 (IntKind.u64.wrap n), .int .i64 wd] (by rfl) rfl rfl (by simp only [List.map_toArray, List.map_cons, List.map_nil]; rfl) ?_
 with_reducible refine (codec_number.calls k2 32 (IntKind.u64.wrap n) wd bs _ (Glob.below hG.out HB7.out) hn.out).mono ?_
 rintro e w8 ⟨v2, rfl, hv2, hb8⟩
 refine ⟨_, rfl, ?_⟩
 have HB8 := Aside0.mk (below_step HB7.out hb8)
 obtain ⟨A2, c2, e2⟩ := Kd.R_slice hv2
 subst e2
 have HR2 := Aside0.mk hv2
 have hk := Aside0.mk hb8
 clear hb8 hv2 HB7
 refine hK.out _ _ (pw_cell_below hk.out hHeld) (fun hHeld => ?_)
 clear hK K
 refine norm_ (a' := ?_) ?_ ?_
 rotate_left
 ·show Act.put _ (some 13) _ = _
  simp only [Act.put, Z1, Z2, Z3, i64_w, i32_w]
  rfl
 refine one_ (i := 10) (N := some 14) #[Y, Y, Y, Y, Y, Y, Y, Y, Y, Y, Y, Yn, Yn, Yn] rfl rfl (by kernel_rfl) (by decide) (fun K hK => ?_)
 refine Kd.R_append_rows_step (Kd.int .u8) (w0 := w) B (by rfl) (.tmp 8) (.tmp 13) 88 5 (.int .u8 0) 1 rfl Tryd.underlying88 info5 rfl (by decide) (by omega) v l bs _ _ _ (fun _ => True) (fun _ => False) rfl rfl (Kd.R_below HO.out HB8.out) (Kd.R_reads' HR2.out).2.2 (fun _ _ h => h) (fun _ h => h.elim) (fun _ _ => trivial) (HB8.out.mono HS.out) (Nat.le_trans HS.out HB8.out.size) (by omega) ?_
 intro v1 w9 ho hb hg hat
 rw [LS.out] at ho
 obtain ⟨A1, c1, e1⟩ := Kd.R_slice ho
 subst e1
 have HW := Aside0.mk (wr_step HV.out HG.out HO.out HB8.out ho hb hg)
 have hcc := HW.out.cell
 have hff := HW.out.free
 clear ho hb hg hat
 refine hK.out _ _ (hcc) (fun hHeld => ?_)
 clear hK K
 refine norm_ (a' := ?_) ?_ ?_
 rotate_left
 ·show Act.put _ (some 14) _ = _
  simp only [Act.put, Z1, Z2, Z3, i64_w, i32_w]
  rfl
 refine P1 11 15 ?_ (Bz 14 0xfff) ?_ ?_ ?_ ?_
 rotate_left
 ·intro w'
  go_simp
  with_reducible rfl
 rotate_left
 ·simp only [Act.put, Z1, Z2, Z3, i64_w, i32_w]
  rfl
 refine P1 12 16 ?_ (Bz 14 0x1fff) ?_ ?_ ?_ ?_
 rotate_left
 ·intro w'
  go_simp
  with_reducible rfl
 rotate_left
 ·simp only [Act.put, Z1, Z2, Z3, i64_w, i32_w]
  rfl
 refine last_ (i := 13) (N := none) #[Y, Y, Y, Y, Y, Y, Y, Y, Y, Y, Y, Y, Y, Y] rfl rfl (by kernel_rfl) (by decide) (fun K hK => ?_)
 refine skip_ (w1 := ?_) (by rfl) rfl ?_ ?_
 rotate_left
 ·go_simp
  rfl
 refine hK.out _ _ ?_
 clear hK K
 refine done_ (by kernel_rfl) ?_
 try go_wp2
 refine bodyPost_end (results_none rfl _ _ _) rfl ?_
 exact ⟨rfl, HW.out.at_, HW.out.bel, HW.out.keep⟩
theorem Glob.base {B : Nat} {w w1 : World} (hG : Glob w) (h0 : 0 < B) (hb : Below B w w1) : Glob w1 := by
 obtain ⟨t, h⟩ := hG
 exact ⟨t, (hb.block 0 h0).trans h⟩
set_option maxHeartbeats 8000000 in
set_option maxRecDepth 100000 in
theorem wr_list (k k2 : Nat) (B g : Nat) (l : List Int) (n wd : Int) (bs : List Int) (w : World) (hG : Aside0 (Glob w)) (h0 : 0 < B) (hB : B ≤ w.heap.size) (h : WrAt B g l w) (hl : l.length + 1 + bs.length ≤ wrMax) (hr : 0 ≤ n ∧ n ≤ 65535) (hw' : Aside0 (codec_width.f k n = some wd)) (hn' : Aside0 (codec_number.f k2 16 n wd = some bs)) :
  Calls Tryd.prog 45 #[.pointer (some ⟨g, 0, none⟩), .int .i64 n] w fun e w' => WrPost B g (l ++ [64] ++ bs) w (.int .i64 0) e w' := by
 have hwn : IntKind.u64.wrap n = n := by
  show n % 18446744073709551616 = n
  omega
 have hw : Aside0 (codec_width.f k (IntKind.u64.wrap n) = some wd) := ⟨by rw [hwn]; exact hw'.out⟩
 have hn : Aside0 (codec_number.f k2 16 (IntKind.u64.wrap n) wd = some bs) := ⟨by rw [hwn]; exact hn'.out⟩
 clear hw' hn' hwn
 obtain ⟨v, hv, hg, ho⟩ := h
 unfold wrMax at hl
 have HV := Aside0.mk hv
 have HO := Aside0.mk ho
 have HG := Aside0.mk hg
 have HS := Aside0.mk hB
 have hc := (blk_cell hv 0).trans rfl
 clear hv ho hg hB
 obtain ⟨ls, LS⟩ : ∃ ls, Aside0 (l ++ [64] = ls) := ⟨_, ⟨rfl⟩⟩
 rw [LS.out]
 have hl2 : ls.length + bs.length ≤ wrMax := by rw [← LS.out]; simp [wrMax]; omega
 have hb0 : decide (n < 0) = false := decide_eq_false (by omega)
 have hb1 : decide (65535 < n) = false := decide_eq_false (by omega)
 have H0 := Aside0.mk h0
 clear hr h0
 go_enter Tryd.func45, Tryd.ntmps45
 go_wp2_with (first | (at_builtin; refine Kd.R_append (Kd.int .u8) (w0 := w) B rfl (.tmp 15) (.tmp 16) 88 5 (.int .u8 0) 1 rfl Tryd.underlying88 info5 rfl (by decide) (by omega) v l 64 [.int .u8 64] (fun _ => True) (fun _ => False) rfl rfl rfl (fun _ hk => hk.elim) (fun _ _ => trivial) HO.out (Below.refl _ _) HS.out (by omega) ?_; intro v1 w9 ho hb hg hat; rw [LS.out] at ho; obtain ⟨A1, c1, e1⟩ := Kd.R_slice ho; subst e1; have HW := Aside0.mk (wr_step HV.out HG.out HO.out (Below.refl _ _) ho hb hg); have hcc := HW.out.cell; have hff := HW.out.free; clear ho hb hg hat hc) | (go_at_call 46; (with_reducible refine (wr_unsigned k k2 B g ls _ wd bs _ ⟨Glob.base hG.out H0.out HW.out.bel⟩ (Nat.le_trans HS.out HW.out.keep.size) HW.out.at_ hl2 hw hn).mono ?_); rintro e w5 ⟨rfl, ha, hb, hk⟩; have HA := Aside0.mk ha; have HBB := Aside0.mk (HW.out.bel.trans hb); have HKK := Aside0.mk (HW.out.keep.trans hk); clear ha hb hk))
 go_ret
 exact ⟨rfl, HA.out, HBB.out, HKK.out⟩
theorem wr_step2 {B g : Nat} {l l' : List Int} {w w1 : World} {v v1 : Value} (hv : w.heap[g]? = some (.cells #[v] 90 (0, 0))) (hg : B ≤ g) (ho : Kd.R (Kd.int .u8) 5 w B (fun _ => True) v l)
  (ho1 : Kd.R (Kd.int .u8) 5 w1 B (fun _ => True) v1 l') (hbel : Below B w w1) (hgr : w.grownBy w1 v.ownBlock) : WrStep B g l' w w1 v v1 := wr_step hv hg ho (Below.refl _ _) ho1 hbel hgr
theorem R_of_own {w : World} {B : Nat} {v : Value} {l : List Int} (h : w.ownsRow B 5 1 v l.length (nums .u8 l)) : Kd.R (Kd.int .u8) 5 w B (fun _ => True) v l := by
 refine ⟨fun _ _ => trivial, nums .u8 l, h, ?_⟩
 refine ⟨by show (nums .u8 l).length = l.length * 1; simp [nums], fun j p hj => ?_⟩
 obtain ⟨hl, hp⟩ := List.getElem?_eq_some_iff.1 hj
 have hlt : j < (nums .u8 l).length := by simpa [nums] using hl
 show List.take 1 (List.drop (j * 1) (nums .u8 l)) = [.int .u8 p]
 rw [Nat.mul_one, List.drop_eq_getElem_cons hlt]
 simp [nums, hp]
set_option maxHeartbeats 8000000 in
set_option maxRecDepth 100000 in
theorem wr_text (k k2 : Nat) (B g : Nat) (l : List Int) (s : ByteArray) (wd : Int) (bs : List Int) (w : World) (hG : Aside0 (Glob w)) (h0 : 0 < B) (hB : B ≤ w.heap.size) (h : WrAt B g l w) (hl : l.length + 1 + bs.length + s.size ≤ wrMax) (hr : s.size ≤ 65535) (hw : Aside0 (codec_width.f k (s.size : Int) = some wd)) (hn : Aside0 (codec_number.f k2 16 (s.size : Int) wd = some bs)) :
  Calls Tryd.prog 48 #[.pointer (some ⟨g, 0, none⟩), .string s] w fun e w' => WrPost B g (l ++ [48] ++ bs ++ bytesOf s) w (.int .i64 0) e w' := by
 obtain ⟨v, hv, hg, ho⟩ := h
 unfold wrMax at hl
 have HV := Aside0.mk hv
 have HO := Aside0.mk ho
 have HG := Aside0.mk hg
 have HS := Aside0.mk hB
 have hc := (blk_cell hv 0).trans rfl
 clear hv ho hg hB
 obtain ⟨ls, LS⟩ : ∃ ls, Aside0 (l ++ [48] = ls) := ⟨_, ⟨rfl⟩⟩
 rw [LS.out]
 obtain ⟨l2, L2⟩ : ∃ l2, Aside0 (ls ++ bs = l2) := ⟨_, ⟨rfl⟩⟩
 rw [L2.out]
 obtain ⟨l3, L3⟩ : ∃ l3, Aside0 (l2 ++ bytesOf s = l3) := ⟨_, ⟨rfl⟩⟩
 rw [L3.out]
 have hl2 : ls.length + bs.length ≤ wrMax := by rw [← LS.out]; simp [wrMax]; omega
 have hl3 := Aside0.mk (show l2.length + s.size ≤ 140737488355328 by rw [← L2.out, ← LS.out]; simp; omega)
 have hb0 : decide (65535 < (s.size : Int)) = false := decide_eq_false (by omega)
 have hb1 : decide (65535 < s.size) = false := decide_eq_false (by omega)
 have H0 := Aside0.mk h0
 clear hr h0
 go_enter Tryd.func48, Tryd.ntmps48
 go_wp2_with (first | (at_builtin; refine Kd.R_append (Kd.int .u8) (w0 := w) B rfl (.tmp 12) (.tmp 13) 88 5 (.int .u8 0) 1 rfl Tryd.underlying88 info5 rfl (by decide) (by omega) v l 48 [.int .u8 48] (fun _ => True) (fun _ => False) rfl rfl rfl (fun _ hk => hk.elim) (fun _ _ => trivial) HO.out (Below.refl _ _) HS.out (by omega) ?_; intro v1 w9 ho hb hg hat; rw [LS.out] at ho; obtain ⟨A1, c1, e1⟩ := Kd.R_slice ho; subst e1; have HW := Aside0.mk (wr_step HV.out HG.out HO.out (Below.refl _ _) ho hb hg); have hcc := HW.out.cell; have hff := HW.out.free; clear ho hb hg hat hc) | ((go_at_call 46; (with_reducible refine (wr_unsigned k k2 B g ls _ wd bs _ ⟨Glob.base hG.out H0.out HW.out.bel⟩ (Nat.le_trans HS.out HW.out.keep.size) HW.out.at_ hl2 hw hn).mono ?_); rintro e w5 ⟨rfl, ha, hb, hk⟩; have HA := Aside0.mk ha; have HBB := Aside0.mk (HW.out.bel.trans hb); have HKK := Aside0.mk (HW.out.keep.trans hk); clear ha hb hk); rw [L2.out] at HA; obtain ⟨v2, hv2, _, ho2⟩ := HA.out; obtain ⟨A2, c2, e2⟩ := Kd.R_slice ho2; subst e2; have HV2 := Aside0.mk hv2; have HO2 := Aside0.mk ho2; have HN2 : Aside0 (w5.ownsRow B 5 1 (.slice A2 l2.length c2) l2.length (nums .u8 l2)) := ⟨Kd.own_of_R ho2⟩; have hc2 := (blk_cell hv2 0).trans rfl; clear hv2 ho2 HA) | (refine print_append_str (w0 := w5) B rfl (.tmp 26) (.tmp 27) 88 9 5 rfl Tryd.underlying88 Tryd.underlying9 info5 (.slice A2 l2.length c2) l2 s ?h1 ?h2 ?aO ?aB ?aS ?aL ?_; (case h1 => rfl); (case h2 => rfl); (case aO => exact HN2.out); (case aB => exact Below.refl _ _); (case aS => exact Nat.le_trans HS.out HKK.out.size); (case aL => exact hl3.out); intro v3 w9 ho hb hg; have ho' := R_of_own ho; rw [L3.out] at ho'; obtain ⟨A3, c3, e3⟩ := Kd.R_slice ho'; subst e3; have HW3 := Aside0.mk (wr_step2 HV2.out HG.out HO2.out ho' hb hg); have hcc3 := HW3.out.cell; have hff3 := HW3.out.free; clear ho ho' hb hg hc2))
 go_ret
 exact ⟨rfl, HW3.out.at_, HBB.out.trans HW3.out.bel, HKK.out.trans HW3.out.keep⟩
set_option maxHeartbeats 8000000 in
set_option maxRecDepth 100000 in
theorem wr_data (B g : Nat) (l : List Int) (w : World) (h : WrAt B g l w) :
  Calls Tryd.prog 49 #[.pointer (some ⟨g, 0, none⟩)] w fun e w' => e = .returned (.string (strOfNums l)) ∧ w' = w := by
 obtain ⟨v, hv, hg, ho⟩ := h
 obtain ⟨A1, c1, e1⟩ := Kd.R_slice ho
 subst e1
 have hc := (blk_cell hv 0).trans rfl
 have hcv := own_string (w := w) (P := Tryd.prog) Tryd.underlying88 Tryd.underlying5 Tryd.underlying9 (Kd.own_of_R ho)
 clear hv ho hg
 go_enter Tryd.func49, Tryd.ntmps49
 go_wp2
 go_ret
 exact ⟨rfl, rfl⟩
end Go.Proofs.YtbccjcdmpiolpaaDoor.T
end
section
namespace Go.Proofs.YtbccjcdmpiolpaaDoor.Pure
open Go.RowKit Go.Proofs.YtbccjcdmpiolpaaDoorW.PrintWords Go.Proofs.YtbccjcdmpiolpaaDoorW.PrintLast Go.Proofs.YtbccjcdmpiolpaaDoorW.PrintMore
theorem u64w (n : Int) : IntKind.u64.wrap n = n % 18446744073709551616 := rfl
theorem i64w (n : Int) : IntKind.i64.wrap n = wrap64 n := by
 unfold wrap64
 show (if (true && decide (n % 18446744073709551616 ≥ 9223372036854775808)) = true then n % 18446744073709551616 - 18446744073709551616 else n % 18446744073709551616) = _
 by_cases h : n % 18446744073709551616 ≥ 9223372036854775808
 ·simp only [h, decide_true, Bool.and_self, if_true]; omega
 ·simp only [h, decide_false, Bool.and_false, Bool.false_eq_true, if_false]; omega
theorem w64 {n : Int} (h0 : -9223372036854775808 ≤ n) (h1 : n ≤ 9223372036854775807) : wrap64 n = n := by unfold wrap64; omega
theorem and15 (n : Int) (h0 : 0 ≤ n) (h1 : n ≤ 255) : Go.bits .and .u8 n 15 = n % 16 := by
 have : ∀ m : Fin 256, Go.bits .and .u8 (m.val : Int) 15 = (m.val : Int) % 16 := by decide +kernel
 have e := this ⟨n.toNat, by omega⟩
 have hn : ((n.toNat : Nat) : Int) = n := by omega
 simpa [hn] using e
theorem and15_bt (s : ByteArray) (p : Int) : Go.bits .and .u8 (bt s p) 15 = bt s p % 16 := and15 _ (bt_range s p).1 (bt_range s p).2
theorem or_nat (m b : Nat) (hb : b < 256) : (m * 256) ||| b = m * 256 + b := by
 have := Nat.two_pow_add_eq_or_of_lt (i := 8) (b := b) hb m
 rw [Nat.mul_comm] at this
 exact this.symm
theorem or_u64 (a b : Int) (h0 : 0 ≤ a) (h1 : a * 256 < 18446744073709551616) (hb0 : 0 ≤ b) (hb1 : b < 256) : Go.bits .or .u64 (a * 256) b = a * 256 + b := by
 obtain ⟨a, rfl⟩ := Int.eq_ofNat_of_zero_le h0
 obtain ⟨b, rfl⟩ := Int.eq_ofNat_of_zero_le hb0
 show IntKind.u64.wrap (((BitVec.ofInt 64 ((a : Int) * 256)) ||| (BitVec.ofInt 64 (b : Int))).toNat : Int) = _
 rw [BitVec.toNat_or, BitVec.toNat_ofInt, BitVec.toNat_ofInt]
 have e1 : (((a : Int) * 256) % ((2 ^ 64 : Nat) : Int)).toNat = a * 256 := by omega
 have e2 : ((b : Int) % ((2 ^ 64 : Nat) : Int)).toNat = b := by omega
 rw [e1, e2, or_nat a b (by omega), u64w]
 omega
theorem or_i64 (a b : Int) (h0 : -9223372036854775808 ≤ a * 256) (h1 : a * 256 ≤ 9223372036854775807) (hb0 : 0 ≤ b) (hb1 : b < 256) : Go.bits .or .i64 (a * 256) b = a * 256 + b := by
 obtain ⟨b, rfl⟩ := Int.eq_ofNat_of_zero_le hb0
 show IntKind.i64.wrap (((BitVec.ofInt 64 (a * 256)) ||| (BitVec.ofInt 64 (b : Int))).toNat : Int) = _
 rw [BitVec.toNat_or, BitVec.toNat_ofInt, BitVec.toNat_ofInt]
 have e1 : ((a * 256) % ((2 ^ 64 : Nat) : Int)).toNat = (a % 72057594037927936).toNat * 256 := by omega
 have e2 : ((b : Int) % ((2 ^ 64 : Nat) : Int)).toNat = b := by omega
 rw [e1, e2, or_nat _ b (by omega), i64w]
 unfold wrap64
 omega
theorem not_i64 (a : Int) (h0 : -9223372036854775808 ≤ a) (h1 : a < 0) : IntKind.u64.wrap (Go.bits .xor .i64 (-1) a) = -1 - a := by
 show IntKind.u64.wrap (IntKind.i64.wrap (((BitVec.ofInt 64 (-1)) ^^^ (BitVec.ofInt 64 a)).toNat : Int)) = _
 have e : (BitVec.ofInt 64 (-1)) = BitVec.allOnes 64 := by decide
 rw [e, BitVec.allOnes_xor, BitVec.toNat_not, BitVec.toNat_ofInt, i64w, u64w]
 unfold wrap64
 omega
def nb (x : Int) : Int := if x < 256 then 1 else if x < 65536 then 2 else if x < 16777216 then 3 else if x < 4294967296 then 4 else if x < 1099511627776 then 5 else if x < 281474976710656 then 6 else if x < 72057594037927936 then 7 else 8
def sb (x : Int) : Int := if x < 128 then 1 else if x < 32768 then 2 else if x < 8388608 then 3 else if x < 2147483648 then 4 else if x < 549755813888 then 5 else if x < 140737488355328 then 6 else if x < 36028797018963968 then 7 else if x < 9223372036854775808 then 8 else 9
def ss (x : Int) : Int := if x < 0 then sb (-1 - x) else sb x
theorem nb_range (x : Int) : 1 ≤ nb x ∧ nb x ≤ 8 := by unfold nb; omega
theorem ss_range (x : Int) (h0 : -9223372036854775808 ≤ x) (h1 : x ≤ 9223372036854775807) : 1 ≤ ss x ∧ ss x ≤ 8 := by unfold ss sb; omega
theorem nb_div {x : Int} (h : 255 < x) (h1 : x < 18446744073709551616) : nb (x / 256) = nb x - 1 := by unfold nb; omega
theorem nb_small {x : Int} (h : x ≤ 255) : nb x = 1 := by unfold nb; omega
theorem ss_div {x : Int} (h : x < -128 ∨ 127 < x) (h0 : -9223372036854775808 ≤ x) (h1 : x ≤ 9223372036854775807) : ss (x / 256) = ss x - 1 := by unfold ss sb; omega
theorem ss_small {x : Int} (h0 : -128 ≤ x) (h1 : x ≤ 127) : ss x = 1 := by unfold ss sb; omega
end Go.Proofs.YtbccjcdmpiolpaaDoor.Pure
end
section
namespace Go.Proofs.YtbccjcdmpiolpaaDoor.Pure
open Go.RowKit Go.Proofs.YtbccjcdmpiolpaaDoor.T Go.Proofs.YtbccjcdmpiolpaaDoorW.PrintWords Go.Proofs.YtbccjcdmpiolpaaDoorW.PrintLast Go.Proofs.YtbccjcdmpiolpaaDoorW.PrintMore
set_option linter.unusedVariables false
def lenTab : ByteArray := (⟨#[0, 1, 2, 2, 3, 3, 3, 3, 4, 4, 4, 4, 4, 4, 4, 4, 5, 5, 5, 5, 5, 5, 5, 5, 5, 5, 5, 5, 5, 5, 5, 5, 6, 6, 6, 6, 6, 6, 6, 6, 6, 6, 6, 6, 6, 6, 6, 6, 6, 6, 6, 6, 6, 6, 6, 6, 6, 6, 6, 6, 6, 6, 6, 6, 7, 7, 7, 7, 7, 7, 7, 7, 7, 7, 7, 7, 7, 7, 7, 7, 7, 7, 7, 7, 7, 7, 7, 7, 7, 7, 7, 7, 7, 7, 7, 7, 7, 7, 7, 7, 7, 7, 7, 7, 7, 7, 7, 7, 7, 7, 7, 7, 7, 7, 7, 7, 7, 7, 7, 7, 7, 7, 7, 7, 7, 7, 7, 7, 8, 8, 8, 8, 8, 8, 8, 8, 8, 8, 8, 8, 8, 8, 8, 8, 8, 8, 8, 8, 8, 8, 8, 8, 8, 8, 8, 8, 8, 8, 8, 8, 8, 8, 8, 8, 8, 8, 8, 8, 8, 8, 8, 8, 8, 8, 8, 8, 8, 8, 8, 8, 8, 8, 8, 8, 8, 8, 8, 8, 8, 8, 8, 8, 8, 8, 8, 8, 8, 8, 8, 8, 8, 8, 8, 8, 8, 8, 8, 8, 8, 8, 8, 8, 8, 8, 8, 8, 8, 8, 8, 8, 8, 8, 8, 8, 8, 8, 8, 8, 8, 8, 8, 8, 8, 8, 8, 8, 8, 8, 8, 8, 8, 8, 8, 8, 8, 8, 8, 8, 8, 8, 8, 8, 8, 8, 8, 8]⟩ : ByteArray)
theorem lenTab_at (i : Int) (h0 : 0 ≤ i) (h1 : i < 256) : (i = 0 → bt lenTab i = 0) ∧ (1 ≤ i → 1 ≤ bt lenTab i) ∧ (i < 128 → bt lenTab i ≤ 7) ∧ (128 ≤ i → bt lenTab i = 8) ∧ 0 ≤ bt lenTab i ∧ bt lenTab i ≤ 8 := by
 have : ∀ m : Fin 256, (((m.val : Int) = 0 → bt lenTab (m.val : Int) = 0) ∧ (1 ≤ (m.val : Int) → 1 ≤ bt lenTab (m.val : Int)) ∧ ((m.val : Int) < 128 → bt lenTab (m.val : Int) ≤ 7) ∧ (128 ≤ (m.val : Int) → bt lenTab (m.val : Int) = 8) ∧ 0 ≤ bt lenTab (m.val : Int) ∧ bt lenTab (m.val : Int) ≤ 8) := by decide +kernel
 have e := this ⟨i.toNat, by omega⟩
 have hn : ((i.toNat : Nat) : Int) = i := by omega
 simpa only [hn] using e
theorem wsmall {n : Int} (h0 : 0 ≤ n) (h1 : n ≤ 1000) : wrap64 n = n := by unfold wrap64; omega
set_option maxRecDepth 20000 in
theorem len64_j0 (k : Nat) (x c : Int) (h0 : 0 ≤ x) (h1 : x < 4294967296) (hc : c = 0 ∨ c = 32) : ∃ n, bits_Len64.j0 (k + 1) x c = some n ∧ 0 ≤ n ∧ n ≤ 64 ∧ (x = 0 → n = c) ∧ (1 ≤ x → (n + 7) / 8 = nb x + c / 8) ∧ (n + 8) / 8 = sb x + c / 8 := by
 have hl : ∀ i, bt (⟨#[0, 1, 2, 2, 3, 3, 3, 3, 4, 4, 4, 4, 4, 4, 4, 4, 5, 5, 5, 5, 5, 5, 5, 5, 5, 5, 5, 5, 5, 5, 5, 5, 6, 6, 6, 6, 6, 6, 6, 6, 6, 6, 6, 6, 6, 6, 6, 6, 6, 6, 6, 6, 6, 6, 6, 6, 6, 6, 6, 6, 6, 6, 6, 6, 7, 7, 7, 7, 7, 7, 7, 7, 7, 7, 7, 7, 7, 7, 7, 7, 7, 7, 7, 7, 7, 7, 7, 7, 7, 7, 7, 7, 7, 7, 7, 7, 7, 7, 7, 7, 7, 7, 7, 7, 7, 7, 7, 7, 7, 7, 7, 7, 7, 7, 7, 7, 7, 7, 7, 7, 7, 7, 7, 7, 7, 7, 7, 7, 8, 8, 8, 8, 8, 8, 8, 8, 8, 8, 8, 8, 8, 8, 8, 8, 8, 8, 8, 8, 8, 8, 8, 8, 8, 8, 8, 8, 8, 8, 8, 8, 8, 8, 8, 8, 8, 8, 8, 8, 8, 8, 8, 8, 8, 8, 8, 8, 8, 8, 8, 8, 8, 8, 8, 8, 8, 8, 8, 8, 8, 8, 8, 8, 8, 8, 8, 8, 8, 8, 8, 8, 8, 8, 8, 8, 8, 8, 8, 8, 8, 8, 8, 8, 8, 8, 8, 8, 8, 8, 8, 8, 8, 8, 8, 8, 8, 8, 8, 8, 8, 8, 8, 8, 8, 8, 8, 8, 8, 8, 8, 8, 8, 8, 8, 8, 8, 8, 8, 8, 8, 8, 8, 8, 8, 8, 8, 8]⟩ : ByteArray) i = bt lenTab i := fun _ => rfl
 rw [bits_Len64.j0]
 simp only [hl]
 by_cases c1 : x ≥ 65536
 ·by_cases c2 : x / 65536 ≥ 256
  ·rw [if_pos c1, if_pos c2, if_pos (by omega), if_pos (by omega)]
   obtain ⟨t1, t2, t3, t4, t5, t6⟩ := lenTab_at (x / 65536 / 256 % 256) (by omega) (by omega)
   generalize bt lenTab (x / 65536 / 256 % 256) = q at *
   rw [wsmall (n := q) (by omega) (by omega), wsmall (n := c + 16) (by omega) (by omega), wsmall (n := c + 16 + 8) (by omega) (by omega), wsmall (by omega) (by omega)]
   refine ⟨_, rfl, by omega, by omega, by omega, by unfold nb; omega, by unfold sb; omega⟩
  ·rw [if_pos c1, if_neg c2, if_pos (by omega), if_pos (by omega)]
   obtain ⟨t1, t2, t3, t4, t5, t6⟩ := lenTab_at (x / 65536 % 256) (by omega) (by omega)
   generalize bt lenTab (x / 65536 % 256) = q at *
   rw [wsmall (n := q) (by omega) (by omega), wsmall (n := c + 16) (by omega) (by omega), wsmall (by omega) (by omega)]
   refine ⟨_, rfl, by omega, by omega, by omega, by unfold nb; omega, by unfold sb; omega⟩
 ·by_cases c2 : x ≥ 256
  ·rw [if_neg c1, if_pos c2, if_pos (by omega), if_pos (by omega)]
   obtain ⟨t1, t2, t3, t4, t5, t6⟩ := lenTab_at (x / 256 % 256) (by omega) (by omega)
   generalize bt lenTab (x / 256 % 256) = q at *
   rw [wsmall (n := q) (by omega) (by omega), wsmall (n := c + 8) (by omega) (by omega), wsmall (by omega) (by omega)]
   refine ⟨_, rfl, by omega, by omega, by omega, by unfold nb; omega, by unfold sb; omega⟩
  ·rw [if_neg c1, if_neg c2, if_pos (by omega), if_pos (by omega)]
   obtain ⟨t1, t2, t3, t4, t5, t6⟩ := lenTab_at (x % 256) (by omega) (by omega)
   generalize bt lenTab (x % 256) = q at *
   rw [wsmall (n := q) (by omega) (by omega), wsmall (by omega) (by omega)]
   refine ⟨_, rfl, by omega, by omega, by omega, by unfold nb; omega, by unfold sb; omega⟩
theorem len64 (k : Nat) (x : Int) (h0 : 0 ≤ x) (h1 : x < 18446744073709551616) : ∃ n, bits_Len64.f (k + 1) x = some n ∧ 0 ≤ n ∧ n ≤ 64 ∧ (x = 0 → n = 0) ∧ (1 ≤ x → (n + 7) / 8 = nb x) ∧ (n + 8) / 8 = sb x := by
 unfold bits_Len64.f
 by_cases c : x ≥ 4294967296
 ·rw [if_pos c]
  obtain ⟨n, e, a1, a2, a3, a4, a5⟩ := len64_j0 k (x / 4294967296) 32 (by omega) (by omega) (Or.inr rfl)
  refine ⟨n, e, a1, a2, by omega, fun _ => ?_, ?_⟩
  ·rw [a4 (by omega)]; unfold nb; omega
  ·rw [a5]; unfold sb; omega
 ·rw [if_neg c]
  obtain ⟨n, e, a1, a2, a3, a4, a5⟩ := len64_j0 k x 0 h0 (by omega) (Or.inl rfl)
  exact ⟨n, e, a1, a2, a3, fun h => by rw [a4 h]; omega, by rw [a5]; omega⟩
theorem width_eq (k : Nat) (x : Int) (h0 : 0 ≤ x) (h1 : x < 18446744073709551616) : codec_width.f (k + 1) x = some (nb x) := by
 obtain ⟨n, e, a1, a2, a3, a4, a5⟩ := len64 k x h0 h1
 unfold codec_width.f
 rw [e]
 simp only [Option.bind_some]
 rw [wsmall (n := n + 7) (by omega) (by omega), Int.tdiv_eq_ediv_of_nonneg (by omega), wsmall (by omega) (by omega)]
 congr 1
 unfold mx
 by_cases c : x = 0
 ·rw [a3 c]; subst c; rfl
 ·rw [a4 (by omega)]; have := nb_range x
  split <;> omega
theorem spread_eq (k : Nat) (x : Int) (h0 : -9223372036854775808 ≤ x) (h1 : x ≤ 9223372036854775807) : codec_spread.f (k + 1) x = some (ss x) := by
 unfold codec_spread.f ss
 by_cases c : x < 0
 ·rw [if_pos c, if_pos c, not_i64 x h0 c]
  obtain ⟨n, e, a1, a2, a3, a4, a5⟩ := len64 k (-1 - x) (by omega) (by omega)
  rw [e]
  simp only [Option.bind_some]
  rw [wsmall (n := n + 8) (by omega) (by omega), Int.tdiv_eq_ediv_of_nonneg (by omega), wsmall (by omega) (by omega), a5]
 ·rw [if_neg c, if_neg c, u64w, Int.emod_eq_of_lt (by omega) (by omega)]
  obtain ⟨n, e, a1, a2, a3, a4, a5⟩ := len64 k x (by omega) (by omega)
  rw [e]
  simp only [Option.bind_some]
  rw [wsmall (n := n + 8) (by omega) (by omega), Int.tdiv_eq_ediv_of_nonneg (by omega), wsmall (by omega) (by omega), a5]
end Go.Proofs.YtbccjcdmpiolpaaDoor.Pure
end
section
namespace Go.Proofs.YtbccjcdmpiolpaaDoor.T
open Go.RowKit Go.Proofs.YtbccjcdmpiolpaaDoorW.PrintWords Go.Proofs.YtbccjcdmpiolpaaDoorW.PrintLast Go.Proofs.YtbccjcdmpiolpaaDoorW.PrintMore
attribute [local go_sem] max2_int min2_int max_two min_two max_three min_three max_four min_four
set_option linter.unusedVariables false
set_option linter.unusedSimpArgs false
mutual
def codec_kind.j0 : Nat → ByteArray → Int → Bool → Option (Int)
 | 0, _, _, _ => none
 | k + 1, x0, x1, x14 => if x14 = true then (some 0) else (if 0 ≤ x1 then (if x1 < (x0.size : Int) then (if (bt x0 x1) = 0 then (some 1) else (if ((bt x0 x1) / 16) > 4 then (some 0) else (if ((bt x0 x1) / 16) = 0 then (codec_kind.j1 k ((bt x0 x1) / 16) (Go.bits .and .u8 (bt x0 x1) 15) (decide ((Go.bits .and .u8 (bt x0 x1) 15) > 2))) else (codec_kind.j1 k ((bt x0 x1) / 16) (Go.bits .and .u8 (bt x0 x1) 15) false)))) else (none)) else (none))
def codec_kind.j1 : Nat → Int → Int → Bool → Option (Int)
 | 0, _, _, _ => none
 | k + 1, x5, x6, x31 => if x31 = true then (some 0) else (if x5 ≥ 3 then (codec_kind.j2 k x5 x6 (x6 != 0)) else (codec_kind.j2 k x5 x6 false))
def codec_kind.j2 : Nat → Int → Int → Bool → Option (Int)
 | 0, _, _, _ => none
 | k + 1, x5, x6, x31 => if x31 = true then (some 0) else (if x5 = 1 then (if x6 < 1 then (some 0) else (if x6 > 8 then (some 0) else (if 0 ≤ x5 then (if x5 < 5 then (some (rd gtab x5)) else (none)) else (none)))) else (if x5 = 2 then (if x6 < 1 then (some 0) else (if x6 > 8 then (some 0) else (if 0 ≤ x5 then (if x5 < 5 then (some (rd gtab x5)) else (none)) else (none)))) else (if 0 ≤ x5 then (if x5 < 5 then (some (rd gtab x5)) else (none)) else (none))))
end
def codec_kind.f (k : Nat) (a0 : ByteArray) (a1 : Int) : Option (Int) := if a1 < 0 then (codec_kind.j0 k a0 a1 true) else (codec_kind.j0 k a0 a1 (decide (a1 ≥ (a0.size : Int))))
set_option maxHeartbeats 8000000 in
set_option maxRecDepth 100000 in
theorem codec_kind.calls (k : Nat) (a0 : ByteArray) (a1 : Int) (r : Int) (w : World) (hG : Glob w) (h : codec_kind.f k a0 a1 = some r) :
  Calls Tryd.prog 72 #[.string a0, .int .i64 a1] w fun e w' => e = .returned (.int .i64 r) ∧ Drawn0 w w' := by
 have HG := Aside0.mk hG
 clear hG
 have H : (if a1 < 0 then (codec_kind.j0 k a0 a1 true) else (codec_kind.j0 k a0 a1 (decide (a1 ≥ (a0.size : Int))))) = some r := h
 clear h
 have HC3 := Aside0.mk H
 clear H
 go_enter Tryd.func72, Tryd.ntmps72
 go_upto_region 1 with (fail)
 repeat (go_quiet (fail); go_upto_region 1 with (fail))
 go_cut [14] (fun v14 wc => ∃ (kq : Nat) (x14_2 : Bool), v14 = .bool x14_2 ∧ Aside0 (codec_kind.j0 kq a0 a1 x14_2 = some r) ∧ Aside0 (kq ≤ k) ∧ Drawn0 w wc)
 case first =>
  have H := HC3.out
  clear HC3
  by_cases c4 : a1 < 0
  ·rw [if_pos c4] at H
   have c4b0 : decide (a1 < 0) = true := decide_eq_true c4
   clear c4
   (first | rw [c4b0] | (simp only [i64_w, i32_w]; rw [c4b0]) | skip)
   have H' := Aside0.mk H
   clear H
   go_wp2
   repeat (go_quiet (fail); try go_wp2)
   go_meet
   case rel => exact ⟨_, (true), (by first | rfl | (simp; done) | (simp [*]; done)), H', ⟨by first | omega | exact Nat.le_refl _⟩, by repeat (first | exact Drawn0.refl _ | apply Drawn0.step)⟩
  ·rw [if_neg c4] at H
   have c4b0 : decide (a1 < 0) = false := decide_eq_false c4
   clear c4
   (first | rw [c4b0] | (simp only [i64_w, i32_w]; rw [c4b0]) | skip)
   have H' := Aside0.mk H
   clear H
   go_wp2
   repeat (go_quiet (fail); try go_wp2)
   go_meet
   case rel => exact ⟨_, (decide (a1 ≥ (a0.size : Int))), (by first | rfl | (simp; done) | (simp [*]; done)), H', ⟨by first | omega | exact Nat.le_refl _⟩, by repeat (first | exact Drawn0.refl _ | apply Drawn0.step)⟩
 case rest =>
  clear HC3
  try clear p2
  try clear c4
  try clear c4b0
  obtain ⟨kq, x14_2, rfl, HA, HJ2, ⟨mc2, rfl⟩⟩ := hcut
  cases kq with
  | zero => exact absurd HA.out (by simp [codec_kind.j0])
  | succ kj2 =>
   have H := HA.out
   clear HA
   simp only [codec_kind.j0] at H
   by_cases c5 : x14_2 = true
   ·subst c5
    have H1 : (some 0) = some r := by rw [if_pos rfl] at H; exact H
    clear H
    have H := H1
    clear H1
    obtain rfl := Option.some.inj H
    go_wp2
    repeat (go_quiet (fail); try go_wp2)
    go_ret
    exact ⟨by first | rfl | (simp; done) | (simp [*]; done), by repeat (first | exact Drawn0.refl _ | apply Drawn0.step)⟩
   ·replace c5 := Bool.eq_false_iff.mpr c5
    subst c5
    have H1 : (if 0 ≤ a1 then (if a1 < (a0.size : Int) then (if (bt a0 a1) = 0 then (some 1) else (if ((bt a0 a1) / 16) > 4 then (some 0) else (if ((bt a0 a1) / 16) = 0 then (codec_kind.j1 kj2 ((bt a0 a1) / 16) (Go.bits .and .u8 (bt a0 a1) 15) (decide ((Go.bits .and .u8 (bt a0 a1) 15) > 2))) else (codec_kind.j1 kj2 ((bt a0 a1) / 16) (Go.bits .and .u8 (bt a0 a1) 15) false)))) else (none)) else (none)) = some r := by rw [if_neg (show ¬ (false = true) by decide)] at H; exact H
    clear H
    have H := H1
    clear H1
    by_cases c6 : 0 ≤ a1
    ·rw [if_pos c6] at H
     have c6b0 : decide (0 ≤ a1) = true := decide_eq_true c6
     clear c6
     by_cases c7 : a1 < (a0.size : Int)
     ·rw [if_pos c7] at H
      have c7b0 : decide (a1 < (a0.size : Int)) = true := decide_eq_true c7
      clear c7
      by_cases c11 : (bt a0 a1) = 0
      ·rw [if_pos c11] at H
       have c11b0 : ((bt a0 a1) == 0) = true := beq_iff_eq.mpr c11
       have c11b1 : ((bt a0 a1) != 0) = false := bne_eq_false_iff_eq.mpr c11
       clear c11
       obtain rfl := Option.some.inj H
       have p8 : 0 ≤ (a1 : Int) := of_decide_eq_true (by first | (with_reducible assumption) | assumption)
       have q8 : a1 < (a0.size : Int) := of_decide_eq_true (by first | (with_reducible assumption) | assumption)
       have hx8 := bt_at a0 a1
       replace p8 := eq_true p8
       replace q8 := eq_true q8
       have p9 : 0 ≤ (a1 : Int) := of_decide_eq_true (by first | (with_reducible assumption) | assumption)
       have q9 : a1 < (a0.size : Int) := of_decide_eq_true (by first | (with_reducible assumption) | assumption)
       have hx9 := bt_at a0 a1
       replace p9 := eq_true p9
       replace q9 := eq_true q9
       have p10 : 0 ≤ (a1 : Int) := of_decide_eq_true (by first | (with_reducible assumption) | assumption)
       have q10 : a1 < (a0.size : Int) := of_decide_eq_true (by first | (with_reducible assumption) | assumption)
       have hx10 := bt_at a0 a1
       replace p10 := eq_true p10
       replace q10 := eq_true q10
       go_wp2
       repeat (go_quiet (fail); try go_wp2)
       go_ret
       exact ⟨by first | rfl | (simp; done) | (simp [*]; done), by repeat (first | exact Drawn0.refl _ | apply Drawn0.step)⟩
      ·rw [if_neg c11] at H
       have c11b0 : ((bt a0 a1) == 0) = false := beq_eq_false_iff_ne.mpr c11
       have c11b1 : ((bt a0 a1) != 0) = true := bne_iff_ne.mpr c11
       by_cases c12 : ((bt a0 a1) / 16) > 4
       ·rw [if_pos c12] at H
        have c12b0 : decide (4 < ((bt a0 a1) / 16)) = true := decide_eq_true c12
        clear c12
        obtain rfl := Option.some.inj H
        have p8 : 0 ≤ (a1 : Int) := of_decide_eq_true (by first | (with_reducible assumption) | assumption)
        have q8 : a1 < (a0.size : Int) := of_decide_eq_true (by first | (with_reducible assumption) | assumption)
        have hx8 := bt_at a0 a1
        replace p8 := eq_true p8
        replace q8 := eq_true q8
        have p9 : 0 ≤ (a1 : Int) := of_decide_eq_true (by first | (with_reducible assumption) | assumption)
        have q9 : a1 < (a0.size : Int) := of_decide_eq_true (by first | (with_reducible assumption) | assumption)
        have hx9 := bt_at a0 a1
        replace p9 := eq_true p9
        replace q9 := eq_true q9
        have p10 : 0 ≤ (a1 : Int) := of_decide_eq_true (by first | (with_reducible assumption) | assumption)
        have q10 : a1 < (a0.size : Int) := of_decide_eq_true (by first | (with_reducible assumption) | assumption)
        have hx10 := bt_at a0 a1
        replace p10 := eq_true p10
        replace q10 := eq_true q10
        go_wp2
        repeat (go_quiet (fail); try go_wp2)
        go_ret
        exact ⟨by first | rfl | (simp; done) | (simp [*]; done), by repeat (first | exact Drawn0.refl _ | apply Drawn0.step)⟩
       ·rw [if_neg c12] at H
        have c12b0 : decide (4 < ((bt a0 a1) / 16)) = false := decide_eq_false c12
        clear c12
        have HC13 := Aside0.mk H
        clear H
        have p8 : 0 ≤ (a1 : Int) := of_decide_eq_true (by first | (with_reducible assumption) | assumption)
        have q8 : a1 < (a0.size : Int) := of_decide_eq_true (by first | (with_reducible assumption) | assumption)
        have hx8 := bt_at a0 a1
        replace p8 := eq_true p8
        replace q8 := eq_true q8
        have p9 : 0 ≤ (a1 : Int) := of_decide_eq_true (by first | (with_reducible assumption) | assumption)
        have q9 : a1 < (a0.size : Int) := of_decide_eq_true (by first | (with_reducible assumption) | assumption)
        have hx9 := bt_at a0 a1
        replace p9 := eq_true p9
        replace q9 := eq_true q9
        have p10 : 0 ≤ (a1 : Int) := of_decide_eq_true (by first | (with_reducible assumption) | assumption)
        have q10 : a1 < (a0.size : Int) := of_decide_eq_true (by first | (with_reducible assumption) | assumption)
        have hx10 := bt_at a0 a1
        replace p10 := eq_true p10
        replace q10 := eq_true q10
        go_upto_region 8 with (fail)
        repeat (go_quiet (fail); go_upto_region 8 with (fail))
        go_cut [31] (fun v31 wc => ∃ (kq : Nat) (x31_12 : Bool), v31 = .bool x31_12 ∧ Aside0 (codec_kind.j1 kq ((bt a0 a1) / 16) (Go.bits .and .u8 (bt a0 a1) 15) x31_12 = some r) ∧ Aside0 (kq ≤ kj2) ∧ Drawn0 w wc)
        case first =>
         have H := HC13.out
         clear HC13
         by_cases c14 : ((bt a0 a1) / 16) = 0
         ·rw [if_pos c14] at H
          have c14b0 : (((bt a0 a1) / 16) == 0) = true := beq_iff_eq.mpr c14
          have c14b1 : (((bt a0 a1) / 16) != 0) = false := bne_eq_false_iff_eq.mpr c14
          clear c14
          (first | rw [c14b0] | (simp only [i64_w, i32_w]; rw [c14b0]) | skip)
          have H' := Aside0.mk H
          clear H
          go_wp2
          repeat (go_quiet (fail); try go_wp2)
          go_meet
          case rel => exact ⟨_, (decide ((Go.bits .and .u8 (bt a0 a1) 15) > 2)), (by first | rfl | (simp; done) | (simp [*]; done)), H', ⟨by have := HJ2.out; first | omega | exact Nat.le_refl _⟩, by repeat (first | exact Drawn0.refl _ | apply Drawn0.step)⟩
         ·rw [if_neg c14] at H
          have c14b0 : (((bt a0 a1) / 16) == 0) = false := beq_eq_false_iff_ne.mpr c14
          have c14b1 : (((bt a0 a1) / 16) != 0) = true := bne_iff_ne.mpr c14
          (first | rw [c14b0] | (simp only [i64_w, i32_w]; rw [c14b0]) | skip)
          have H' := Aside0.mk H
          clear H
          go_wp2
          repeat (go_quiet (fail); try go_wp2)
          go_meet
          case rel => exact ⟨_, (false), (by first | rfl | (simp; done) | (simp [*]; done)), H', ⟨by have := HJ2.out; first | omega | exact Nat.le_refl _⟩, by repeat (first | exact Drawn0.refl _ | apply Drawn0.step)⟩
        case rest =>
         clear HC13
         try clear c1
         try clear p1
         try clear q1
         try clear hx1
         try clear c2
         try clear p2
         try clear c4
         try clear c4b0
         try clear c5
         try clear c6
         try clear c6b0
         try clear c7
         try clear c7b0
         try clear p8
         try clear q8
         try clear hx8
         try clear p9
         try clear q9
         try clear hx9
         try clear p10
         try clear q10
         try clear hx10
         try clear c11
         try clear c11b0
         try clear c11b1
         try clear c12
         try clear c12b0
         try clear c14
         try clear c14b0
         try clear c14b1
         try clear p10
         try clear p2
         try clear p8
         try clear p9
         try clear q10
         try clear q8
         try clear q9
         obtain ⟨kq, x31_12, rfl, HA, HJ12, ⟨mc12, rfl⟩⟩ := hcut
         cases kq with
         | zero => exact absurd HA.out (by simp [codec_kind.j1])
         | succ kj12 =>
          have H := HA.out
          clear HA
          simp only [codec_kind.j1] at H
          by_cases c15 : x31_12 = true
          ·subst c15
           have H1 : (some 0) = some r := by rw [if_pos rfl] at H; exact H
           clear H
           have H := H1
           clear H1
           obtain rfl := Option.some.inj H
           go_wp2
           repeat (go_quiet (fail); try go_wp2)
           go_ret
           exact ⟨by first | rfl | (simp; done) | (simp [*]; done), by repeat (first | exact Drawn0.refl _ | apply Drawn0.step)⟩
          ·replace c15 := Bool.eq_false_iff.mpr c15
           subst c15
           have H1 : (if ((bt a0 a1) / 16) ≥ 3 then (codec_kind.j2 kj12 ((bt a0 a1) / 16) (Go.bits .and .u8 (bt a0 a1) 15) ((Go.bits .and .u8 (bt a0 a1) 15) != 0)) else (codec_kind.j2 kj12 ((bt a0 a1) / 16) (Go.bits .and .u8 (bt a0 a1) 15) false)) = some r := by rw [if_neg (show ¬ (false = true) by decide)] at H; exact H
           clear H
           have H := H1
           clear H1
           have HC16 := Aside0.mk H
           clear H
           go_upto_region 9 with (fail)
           repeat (go_quiet (fail); go_upto_region 9 with (fail))
           go_cut [31] (fun v31 wc => ∃ (kq : Nat) (x31_15 : Bool), v31 = .bool x31_15 ∧ Aside0 (codec_kind.j2 kq ((bt a0 a1) / 16) (Go.bits .and .u8 (bt a0 a1) 15) x31_15 = some r) ∧ Aside0 (kq ≤ kj12) ∧ Drawn0 w wc)
           case first =>
            have H := HC16.out
            clear HC16
            by_cases c17 : ((bt a0 a1) / 16) ≥ 3
            ·rw [if_pos c17] at H
             have c17b0 : decide (3 ≤ ((bt a0 a1) / 16)) = true := decide_eq_true c17
             clear c17
             (first | rw [c17b0] | (simp only [i64_w, i32_w]; rw [c17b0]) | skip)
             have H' := Aside0.mk H
             clear H
             go_wp2
             repeat (go_quiet (fail); try go_wp2)
             go_meet
             case rel => exact ⟨_, (((Go.bits .and .u8 (bt a0 a1) 15) != 0)), (by first | rfl | (simp; done) | (simp [*]; done)), H', ⟨by have := HJ2.out; have := HJ12.out; first | omega | exact Nat.le_refl _⟩, by repeat (first | exact Drawn0.refl _ | apply Drawn0.step)⟩
            ·rw [if_neg c17] at H
             have c17b0 : decide (3 ≤ ((bt a0 a1) / 16)) = false := decide_eq_false c17
             clear c17
             (first | rw [c17b0] | (simp only [i64_w, i32_w]; rw [c17b0]) | skip)
             have H' := Aside0.mk H
             clear H
             go_wp2
             repeat (go_quiet (fail); try go_wp2)
             go_meet
             case rel => exact ⟨_, (false), (by first | rfl | (simp; done) | (simp [*]; done)), H', ⟨by have := HJ2.out; have := HJ12.out; first | omega | exact Nat.le_refl _⟩, by repeat (first | exact Drawn0.refl _ | apply Drawn0.step)⟩
           case rest =>
            clear HC16
            try clear c1
            try clear p1
            try clear q1
            try clear hx1
            try clear c2
            try clear p2
            try clear c4
            try clear c4b0
            try clear c5
            try clear c6
            try clear c6b0
            try clear c7
            try clear c7b0
            try clear p8
            try clear q8
            try clear hx8
            try clear p9
            try clear q9
            try clear hx9
            try clear p10
            try clear q10
            try clear hx10
            try clear c11
            try clear c11b0
            try clear c11b1
            try clear c12
            try clear c12b0
            try clear c14
            try clear c14b0
            try clear c14b1
            try clear c15
            try clear c17
            try clear c17b0
            try clear p1
            try clear p10
            try clear p2
            try clear p8
            try clear p9
            try clear q1
            try clear q10
            try clear q8
            try clear q9
            obtain ⟨kq, x31_15, rfl, HA, HJ15, ⟨mc15, rfl⟩⟩ := hcut
            cases kq with
            | zero => exact absurd HA.out (by simp [codec_kind.j2])
            | succ kj15 =>
             have H := HA.out
             clear HA
             simp only [codec_kind.j2] at H
             by_cases c18 : x31_15 = true
             ·subst c18
              have H1 : (some 0) = some r := by rw [if_pos rfl] at H; exact H
              clear H
              have H := H1
              clear H1
              obtain rfl := Option.some.inj H
              go_wp2
              repeat (go_quiet (fail); try go_wp2)
              go_ret
              exact ⟨by first | rfl | (simp; done) | (simp [*]; done), by repeat (first | exact Drawn0.refl _ | apply Drawn0.step)⟩
             ·replace c18 := Bool.eq_false_iff.mpr c18
              subst c18
              have H1 : (if ((bt a0 a1) / 16) = 1 then (if (Go.bits .and .u8 (bt a0 a1) 15) < 1 then (some 0) else (if (Go.bits .and .u8 (bt a0 a1) 15) > 8 then (some 0) else (if 0 ≤ ((bt a0 a1) / 16) then (if ((bt a0 a1) / 16) < 5 then (some (rd gtab ((bt a0 a1) / 16))) else (none)) else (none)))) else (if ((bt a0 a1) / 16) = 2 then (if (Go.bits .and .u8 (bt a0 a1) 15) < 1 then (some 0) else (if (Go.bits .and .u8 (bt a0 a1) 15) > 8 then (some 0) else (if 0 ≤ ((bt a0 a1) / 16) then (if ((bt a0 a1) / 16) < 5 then (some (rd gtab ((bt a0 a1) / 16))) else (none)) else (none)))) else (if 0 ≤ ((bt a0 a1) / 16) then (if ((bt a0 a1) / 16) < 5 then (some (rd gtab ((bt a0 a1) / 16))) else (none)) else (none)))) = some r := by rw [if_neg (show ¬ (false = true) by decide)] at H; exact H
              clear H
              have H := H1
              clear H1
              by_cases c19 : ((bt a0 a1) / 16) = 1
              ·rw [if_pos c19] at H
               have c19b0 : (((bt a0 a1) / 16) == 1) = true := beq_iff_eq.mpr c19
               have c19b1 : (((bt a0 a1) / 16) != 1) = false := bne_eq_false_iff_eq.mpr c19
               clear c19
               by_cases c20 : (Go.bits .and .u8 (bt a0 a1) 15) < 1
               ·rw [if_pos c20] at H
                have c20b0 : decide ((Go.bits .and .u8 (bt a0 a1) 15) < 1) = true := decide_eq_true c20
                clear c20
                obtain rfl := Option.some.inj H
                go_wp2
                repeat (go_quiet (fail); try go_wp2)
                go_ret
                exact ⟨by first | rfl | (simp; done) | (simp [*]; done), by repeat (first | exact Drawn0.refl _ | apply Drawn0.step)⟩
               ·rw [if_neg c20] at H
                have c20b0 : decide ((Go.bits .and .u8 (bt a0 a1) 15) < 1) = false := decide_eq_false c20
                clear c20
                by_cases c21 : (Go.bits .and .u8 (bt a0 a1) 15) > 8
                ·rw [if_pos c21] at H
                 have c21b0 : decide (8 < (Go.bits .and .u8 (bt a0 a1) 15)) = true := decide_eq_true c21
                 clear c21
                 obtain rfl := Option.some.inj H
                 go_wp2
                 repeat (go_quiet (fail); try go_wp2)
                 go_ret
                 exact ⟨by first | rfl | (simp; done) | (simp [*]; done), by repeat (first | exact Drawn0.refl _ | apply Drawn0.step)⟩
                ·rw [if_neg c21] at H
                 have c21b0 : decide (8 < (Go.bits .and .u8 (bt a0 a1) 15)) = false := decide_eq_false c21
                 clear c21
                 obtain ⟨ji22, hji22⟩ : ∃ j_ : Int, ((bt a0 a1) / 16) = j_ := ⟨_, rfl⟩
                 replace H : (if 0 ≤ (ji22) then (if (ji22) < 5 then (some (rd gtab (ji22))) else (none)) else (none)) = some r := by first | (rw [hji22] at H; exact H) | (simp only [hji22] at H ⊢; exact H)
                 (try rw [hji22] at c12b0)
                 (try rw [hji22] at c19b0)
                 (try rw [hji22] at c19b1)
                 by_cases c23 : 0 ≤ (ji22)
                 ·rw [if_pos c23] at H
                  have c23b0 : decide (0 ≤ (ji22)) = true := decide_eq_true c23
                  clear c23
                  by_cases c24 : (ji22) < 5
                  ·rw [if_pos c24] at H
                   have c24b0 : decide ((ji22) < 5) = true := decide_eq_true c24
                   clear c24
                   have hgc25 := gt_at HG.out (i := (ji22)) (by first | omega | (apply of_decide_eq_true; assumption)) (by first | omega | (apply of_decide_eq_true; assumption))
                   have hgb26 : 0 ≤ (ji22) ∧ (ji22) < 5 := ⟨by first | omega | (apply of_decide_eq_true; assumption), by first | omega | (apply of_decide_eq_true; assumption)⟩
                   obtain rfl := Option.some.inj H
                   go_wp2
                   repeat (go_quiet (fail); try go_wp2)
                   go_ret
                   exact ⟨by first | rfl | (simp; done) | (simp only [← hji22] <;> (first | rfl | simp)) | (simp [*]; done), by repeat (first | exact Drawn0.refl _ | apply Drawn0.step)⟩
                  ·rw [if_neg c24] at H
                   exact absurd H (by simp)
                 ·rw [if_neg c23] at H
                  exact absurd H (by simp)
              ·rw [if_neg c19] at H
               have c19b0 : (((bt a0 a1) / 16) == 1) = false := beq_eq_false_iff_ne.mpr c19
               have c19b1 : (((bt a0 a1) / 16) != 1) = true := bne_iff_ne.mpr c19
               by_cases c27 : ((bt a0 a1) / 16) = 2
               ·rw [if_pos c27] at H
                have c27b0 : (((bt a0 a1) / 16) == 2) = true := beq_iff_eq.mpr c27
                have c27b1 : (((bt a0 a1) / 16) != 2) = false := bne_eq_false_iff_eq.mpr c27
                clear c27
                by_cases c28 : (Go.bits .and .u8 (bt a0 a1) 15) < 1
                ·rw [if_pos c28] at H
                 have c28b0 : decide ((Go.bits .and .u8 (bt a0 a1) 15) < 1) = true := decide_eq_true c28
                 clear c28
                 obtain rfl := Option.some.inj H
                 go_wp2
                 repeat (go_quiet (fail); try go_wp2)
                 go_ret
                 exact ⟨by first | rfl | (simp; done) | (simp [*]; done), by repeat (first | exact Drawn0.refl _ | apply Drawn0.step)⟩
                ·rw [if_neg c28] at H
                 have c28b0 : decide ((Go.bits .and .u8 (bt a0 a1) 15) < 1) = false := decide_eq_false c28
                 clear c28
                 by_cases c29 : (Go.bits .and .u8 (bt a0 a1) 15) > 8
                 ·rw [if_pos c29] at H
                  have c29b0 : decide (8 < (Go.bits .and .u8 (bt a0 a1) 15)) = true := decide_eq_true c29
                  clear c29
                  obtain rfl := Option.some.inj H
                  go_wp2
                  repeat (go_quiet (fail); try go_wp2)
                  go_ret
                  exact ⟨by first | rfl | (simp; done) | (simp [*]; done), by repeat (first | exact Drawn0.refl _ | apply Drawn0.step)⟩
                 ·rw [if_neg c29] at H
                  have c29b0 : decide (8 < (Go.bits .and .u8 (bt a0 a1) 15)) = false := decide_eq_false c29
                  clear c29
                  obtain ⟨ji30, hji30⟩ : ∃ j_ : Int, ((bt a0 a1) / 16) = j_ := ⟨_, rfl⟩
                  replace H : (if 0 ≤ (ji30) then (if (ji30) < 5 then (some (rd gtab (ji30))) else (none)) else (none)) = some r := by first | (rw [hji30] at H; exact H) | (simp only [hji30] at H ⊢; exact H)
                  (try rw [hji30] at c12b0)
                  (try rw [hji30] at c19b0)
                  (try rw [hji30] at c19b1)
                  (try rw [hji30] at c27b0)
                  (try rw [hji30] at c27b1)
                  by_cases c31 : 0 ≤ (ji30)
                  ·rw [if_pos c31] at H
                   have c31b0 : decide (0 ≤ (ji30)) = true := decide_eq_true c31
                   clear c31
                   by_cases c32 : (ji30) < 5
                   ·rw [if_pos c32] at H
                    have c32b0 : decide ((ji30) < 5) = true := decide_eq_true c32
                    clear c32
                    have hgc33 := gt_at HG.out (i := (ji30)) (by first | omega | (apply of_decide_eq_true; assumption)) (by first | omega | (apply of_decide_eq_true; assumption))
                    have hgb34 : 0 ≤ (ji30) ∧ (ji30) < 5 := ⟨by first | omega | (apply of_decide_eq_true; assumption), by first | omega | (apply of_decide_eq_true; assumption)⟩
                    obtain rfl := Option.some.inj H
                    go_wp2
                    repeat (go_quiet (fail); try go_wp2)
                    go_ret
                    exact ⟨by first | rfl | (simp; done) | (simp only [← hji30] <;> (first | rfl | simp)) | (simp [*]; done), by repeat (first | exact Drawn0.refl _ | apply Drawn0.step)⟩
                   ·rw [if_neg c32] at H
                    exact absurd H (by simp)
                  ·rw [if_neg c31] at H
                   exact absurd H (by simp)
               ·rw [if_neg c27] at H
                have c27b0 : (((bt a0 a1) / 16) == 2) = false := beq_eq_false_iff_ne.mpr c27
                have c27b1 : (((bt a0 a1) / 16) != 2) = true := bne_iff_ne.mpr c27
                obtain ⟨ji35, hji35⟩ : ∃ j_ : Int, ((bt a0 a1) / 16) = j_ := ⟨_, rfl⟩
                replace H : (if 0 ≤ (ji35) then (if (ji35) < 5 then (some (rd gtab (ji35))) else (none)) else (none)) = some r := by first | (rw [hji35] at H; exact H) | (simp only [hji35] at H ⊢; exact H)
                (try rw [hji35] at c12b0)
                (try rw [hji35] at c19b0)
                (try rw [hji35] at c19b1)
                (try rw [hji35] at c27b0)
                (try rw [hji35] at c27b1)
                by_cases c36 : 0 ≤ (ji35)
                ·rw [if_pos c36] at H
                 have c36b0 : decide (0 ≤ (ji35)) = true := decide_eq_true c36
                 clear c36
                 by_cases c37 : (ji35) < 5
                 ·rw [if_pos c37] at H
                  have c37b0 : decide ((ji35) < 5) = true := decide_eq_true c37
                  clear c37
                  have hgc38 := gt_at HG.out (i := (ji35)) (by first | omega | (apply of_decide_eq_true; assumption)) (by first | omega | (apply of_decide_eq_true; assumption))
                  have hgb39 : 0 ≤ (ji35) ∧ (ji35) < 5 := ⟨by first | omega | (apply of_decide_eq_true; assumption), by first | omega | (apply of_decide_eq_true; assumption)⟩
                  obtain rfl := Option.some.inj H
                  go_wp2
                  repeat (go_quiet (fail); try go_wp2)
                  go_ret
                  exact ⟨by first | rfl | (simp; done) | (simp only [← hji35] <;> (first | rfl | simp)) | (simp [*]; done), by repeat (first | exact Drawn0.refl _ | apply Drawn0.step)⟩
                 ·rw [if_neg c37] at H
                  exact absurd H (by simp)
                ·rw [if_neg c36] at H
                 exact absurd H (by simp)
     ·rw [if_neg c7] at H
      exact absurd H (by simp)
    ·rw [if_neg c6] at H
     exact absurd H (by simp)
end Go.Proofs.YtbccjcdmpiolpaaDoor.T
end
section
namespace Go.Proofs.YtbccjcdmpiolpaaDoor.T
open Go.RowKit Go.Proofs.YtbccjcdmpiolpaaDoorW.PrintWords Go.Proofs.YtbccjcdmpiolpaaDoorW.PrintLast Go.Proofs.YtbccjcdmpiolpaaDoorW.PrintMore
attribute [local go_sem] max2_int min2_int max_two min_two max_three min_three max_four min_four
set_option linter.unusedVariables false
set_option linter.unusedSimpArgs false
def codec_raw.l0 : Nat → ByteArray → Int → Int → Int → Int → Int → Int → Option (Int × Int × Bool)
 | 0, _, _, _, _, _, _, _ => none
 | k + 1, x0, x1, x2, x9, x10, x31, x32 => if x32 < x31 then (if 0 ≤ (wrap64 ((wrap64 (x1 + 1)) + x32)) then (if (wrap64 ((wrap64 (x1 + 1)) + x32)) < (x0.size : Int) then (codec_raw.l0 k x0 x1 x2 x9 (Go.bits .or .u64 (IntKind.u64.wrap (x10 * 256)) (IntKind.u64.wrap (bt x0 (wrap64 ((wrap64 (x1 + 1)) + x32))))) x31 (wrap64 (x32 + 1))) else (none)) else (none)) else (if x2 = 3 then ((codec_width.f k x10).bind fun t117 => (some (x10, wrap64 ((wrap64 (x1 + 1)) + x9), (t117 == x9)))) else (if 0 ≤ (wrap64 (64 - (wrap64 (8 * x9)))) then ((codec_spread.f k (shr .i64 (wrap64 (shl .u64 x10 (wrap64 (64 - (wrap64 (8 * x9)))))) (wrap64 (64 - (wrap64 (8 * x9)))))).bind fun t118 => (some (IntKind.u64.wrap (shr .i64 (wrap64 (shl .u64 x10 (wrap64 (64 - (wrap64 (8 * x9)))))) (wrap64 (64 - (wrap64 (8 * x9))))), wrap64 ((wrap64 (x1 + 1)) + x9), (t118 == x9)))) else (none)))
def codec_raw.f (k : Nat) (a0 : ByteArray) (a1 : Int) (a2 : Int) : Option (Int × Int × Bool) := (codec_kind.f k a0 a1).bind fun t116 => (if t116 = a2 then (if 0 ≤ a1 then (if a1 < (a0.size : Int) then (if (wrap64 ((wrap64 (a1 + 1)) + (wrap64 (Go.bits .and .u8 (bt a0 a1) 15)))) > (a0.size : Int) then (some (0, 0, false)) else (codec_raw.l0 k a0 a1 a2 (wrap64 (Go.bits .and .u8 (bt a0 a1) 15)) 0 (wrap64 (Go.bits .and .u8 (bt a0 a1) 15)) 0)) else (none)) else (none)) else (some (0, 0, false)))
set_option maxHeartbeats 8000000 in
set_option maxRecDepth 100000 in
theorem codec_raw.calls (k : Nat) (a0 : ByteArray) (a1 : Int) (a2 : Int) (r1 : Int) (r2 : Int) (r3 : Bool) (w : World) (hG : Glob w) (h : codec_raw.f k a0 a1 a2 = some (r1, r2, r3)) :
  Calls Tryd.prog 64 #[.string a0, .int .i64 a1, .int .i64 a2] w fun e w' => e = .returned (.tuple #[.int .u64 r1, .int .i64 r2, .bool r3]) ∧ Below w.heap.size w w' := by
 have HG := Aside0.mk hG
 clear hG
 have HB := Aside0.mk (Below.refl w.heap.size w)
 have H : ((codec_kind.f k a0 a1).bind fun t116 => (if t116 = a2 then (if 0 ≤ a1 then (if a1 < (a0.size : Int) then (if (wrap64 ((wrap64 (a1 + 1)) + (wrap64 (Go.bits .and .u8 (bt a0 a1) 15)))) > (a0.size : Int) then (some (0, 0, false)) else (codec_raw.l0 k a0 a1 a2 (wrap64 (Go.bits .and .u8 (bt a0 a1) 15)) 0 (wrap64 (Go.bits .and .u8 (bt a0 a1) 15)) 0)) else (none)) else (none)) else (some (0, 0, false)))) = some (r1, r2, r3) := h
 clear h
 replace H := Option.bind_eq_some_iff.mp H
 obtain ⟨t116, A40, H⟩ := H
 replace H : (if t116 = a2 then (if 0 ≤ a1 then (if a1 < (a0.size : Int) then (if (wrap64 ((wrap64 (a1 + 1)) + (wrap64 (Go.bits .and .u8 (bt a0 a1) 15)))) > (a0.size : Int) then (some (0, 0, false)) else (codec_raw.l0 k a0 a1 a2 (wrap64 (Go.bits .and .u8 (bt a0 a1) 15)) 0 (wrap64 (Go.bits .and .u8 (bt a0 a1) 15)) 0)) else (none)) else (none)) else (some (0, 0, false))) = some (r1, r2, r3) := H
 have A4 := Aside0.mk A40
 clear A40
 by_cases c5 : t116 = a2
 ·rw [if_pos c5] at H
  have c5b0 : (t116 == a2) = true := beq_iff_eq.mpr c5
  have c5b1 : (t116 != a2) = false := bne_eq_false_iff_eq.mpr c5
  clear c5
  by_cases c6 : 0 ≤ a1
  ·rw [if_pos c6] at H
   have c6b0 : decide (0 ≤ a1) = true := decide_eq_true c6
   clear c6
   by_cases c7 : a1 < (a0.size : Int)
   ·rw [if_pos c7] at H
    have c7b0 : decide (a1 < (a0.size : Int)) = true := decide_eq_true c7
    clear c7
    by_cases c9 : (wrap64 ((wrap64 (a1 + 1)) + (wrap64 (Go.bits .and .u8 (bt a0 a1) 15)))) > (a0.size : Int)
    ·rw [if_pos c9] at H
     have c9b0 : decide ((a0.size : Int) < (wrap64 ((wrap64 (a1 + 1)) + (wrap64 (Go.bits .and .u8 (bt a0 a1) 15))))) = true := decide_eq_true c9
     clear c9
     simp only [Option.some.injEq, Prod.mk.injEq] at H
     obtain ⟨rfl, rfl, rfl⟩ := H
     go_enter Tryd.func64, Tryd.ntmps64
     go_wp2_with (first | ((with_reducible refine gate_callee (f := 72) rfl ?_); refine goesL_ (some 16) rfl rfl Tryd.func72 (by kernel_rfl) rfl #[.string a0, .int .i64 a1] rfl (by (try simp only [List.map_toArray, List.map_cons, List.map_nil]); first | done | rfl | (simp only [List.length_drop, List.length_take]; rfl)) ?_; (with_reducible refine (codec_kind.calls k a0 a1 t116 _ ?side99  A4.out).mono ?_); (case side99 => first | exact HG.out | exact Glob.below HG.out (by repeat (first | (with_reducible first | exact HB.out | apply below_alloc | apply pw_below_drewN | apply below_drew1) | exact HB.out))); rintro e w' ⟨rfl, ⟨nd, rfl⟩⟩; refine ⟨_, rfl, ?_⟩; have p8 : 0 ≤ (a1 : Int) := of_decide_eq_true (by first | (with_reducible assumption) | assumption); have q8 : a1 < (a0.size : Int) := of_decide_eq_true (by first | (with_reducible assumption) | assumption); have hx8 := bt_at a0 a1; replace p8 := eq_true p8; replace q8 := eq_true q8))
     go_ret3
     exact ⟨by first | rfl | (simp [errW_none, errW_some] <;> rfl) | (simp [*, errW_none, errW_some] <;> rfl), by repeat (first | (with_reducible first | exact HB.out | apply below_alloc | apply pw_below_drewN | apply below_drew1) | exact HB.out)⟩
    ·rw [if_neg c9] at H
     have c9b0 : decide ((a0.size : Int) < (wrap64 ((wrap64 (a1 + 1)) + (wrap64 (Go.bits .and .u8 (bt a0 a1) 15))))) = false := decide_eq_false c9
     clear c9
     have H' := Aside0.mk H
     clear H
     go_enter Tryd.func64, Tryd.ntmps64
     go_wp2_with (first | ((with_reducible refine gate_callee (f := 72) rfl ?_); refine goesL_ (some 16) rfl rfl Tryd.func72 (by kernel_rfl) rfl #[.string a0, .int .i64 a1] rfl (by (try simp only [List.map_toArray, List.map_cons, List.map_nil]); first | done | rfl | (simp only [List.length_drop, List.length_take]; rfl)) ?_; (with_reducible refine (codec_kind.calls k a0 a1 t116 _ ?side99  A4.out).mono ?_); (case side99 => first | exact HG.out | exact Glob.below HG.out (by repeat (first | (with_reducible first | exact HB.out | apply below_alloc | apply pw_below_drewN | apply below_drew1) | exact HB.out))); rintro e w' ⟨rfl, ⟨nd, rfl⟩⟩; refine ⟨_, rfl, ?_⟩; have p8 : 0 ≤ (a1 : Int) := of_decide_eq_true (by first | (with_reducible assumption) | assumption); have q8 : a1 < (a0.size : Int) := of_decide_eq_true (by first | (with_reducible assumption) | assumption); have hx8 := bt_at a0 a1; replace p8 := eq_true p8; replace q8 := eq_true q8))
     go_loopg [10, 32] k (fun kq v10 v32 w' => ∃ (x10_1 : Int) (x32_1 : Int), v10 = .int .u64 x10_1 ∧ v32 = .int .i64 x32_1 ∧ Aside0 (codec_raw.l0 kq a0 a1 a2 (wrap64 (Go.bits .and .u8 (bt a0 a1) 15)) x10_1 (wrap64 (Go.bits .and .u8 (bt a0 a1) 15)) x32_1 = some (r1, r2, r3)) ∧ Aside0 (kq ≤ k) ∧ Aside0 (Below w.heap.size w w'))
     case atStart => exact ⟨(0), (0), (by first | rfl | (simp; done) | (simp [*]; done)), (by first | rfl | (simp; done) | (simp [*]; done)), H', ⟨Nat.le_refl _⟩, ⟨by repeat (first | (with_reducible first | exact HB.out | apply below_alloc | apply pw_below_drewN | apply below_drew1) | exact HB.out)⟩⟩
     case round =>
      clear H'
      try clear p2
      try clear c5
      try clear c5b0
      try clear c5b1
      try clear c6
      try clear c6b0
      try clear p6
      try clear c7
      try clear c7b0
      try clear p8
      try clear q8
      try clear hx8
      try clear c9
      try clear c9b0
      try clear p8
      try clear q8
      obtain ⟨x10_1, x32_1, rfl, rfl, HA, HK1, HB⟩ := hrel
      cases gk with
      | zero => exact absurd HA.out (by simp [codec_raw.l0])
      | succ k1 =>
       have H := HA.out
       clear HA
       simp only [codec_raw.l0] at H
       by_cases c10 : x32_1 < (wrap64 (Go.bits .and .u8 (bt a0 a1) 15))
       ·rw [if_pos c10] at H
        have c10b0 : decide (x32_1 < (wrap64 (Go.bits .and .u8 (bt a0 a1) 15))) = true := decide_eq_true c10
        clear c10
        obtain ⟨ji11, hji11⟩ : ∃ j_ : Int, (wrap64 ((wrap64 (a1 + 1)) + x32_1)) = j_ := ⟨_, rfl⟩
        replace H : (if 0 ≤ (ji11) then (if (ji11) < (a0.size : Int) then (codec_raw.l0 k1 a0 a1 a2 (wrap64 (Go.bits .and .u8 (bt a0 a1) 15)) (Go.bits .or .u64 (IntKind.u64.wrap (x10_1 * 256)) (IntKind.u64.wrap (bt a0 (ji11)))) (wrap64 (Go.bits .and .u8 (bt a0 a1) 15)) (wrap64 (x32_1 + 1))) else (none)) else (none)) = some (r1, r2, r3) := by first | (rw [hji11] at H; exact H) | (simp only [hji11] at H ⊢; exact H)
        have hji11w : (IntKind.i64.wrap ((wrap64 (a1 + 1)) + x32_1)) = ji11 := (i64_w _).trans hji11
        by_cases c12 : 0 ≤ (ji11)
        ·rw [if_pos c12] at H
         have c12b0 : decide (0 ≤ (ji11)) = true := decide_eq_true c12
         clear c12
         by_cases c13 : (ji11) < (a0.size : Int)
         ·rw [if_pos c13] at H
          have c13b0 : decide ((ji11) < (a0.size : Int)) = true := decide_eq_true c13
          clear c13
          have H' := Aside0.mk H
          clear H
          have p14 : 0 ≤ ((ji11) : Int) := of_decide_eq_true (by first | (with_reducible assumption) | assumption)
          have q14 : (ji11) < (a0.size : Int) := of_decide_eq_true (by first | (with_reducible assumption) | assumption)
          have hx14 := bt_at a0 (ji11)
          replace p14 := eq_true p14
          replace q14 := eq_true q14
          go_wp2
          go_roundg k1
          case measure => have := HK1.out; omega
          case rel => exact ⟨(Go.bits .or .u64 (IntKind.u64.wrap (x10_1 * 256)) (IntKind.u64.wrap (bt a0 (ji11)))), (wrap64 (x32_1 + 1)), (by first | rfl | (simp; done) | (simp only [← hji11] <;> (first | rfl | simp)) | (simp [*]; done)), (by first | rfl | (simp; done) | (simp [*]; done)), H', ⟨by have := HK1.out; omega⟩, ⟨by repeat (first | (with_reducible first | exact HB.out | apply below_alloc | apply pw_below_drewN | apply below_drew1) | exact HB.out)⟩⟩
         ·rw [if_neg c13] at H
          exact absurd H (by simp)
        ·rw [if_neg c12] at H
         exact absurd H (by simp)
       ·rw [if_neg c10] at H
        have c10b0 : decide (x32_1 < (wrap64 (Go.bits .and .u8 (bt a0 a1) 15))) = false := decide_eq_false c10
        clear c10
        by_cases c15 : a2 = 3
        ·rw [if_pos c15] at H
         have c15b0 : (a2 == 3) = true := beq_iff_eq.mpr c15
         have c15b1 : (a2 != 3) = false := bne_eq_false_iff_eq.mpr c15
         clear c15
         replace H := Option.bind_eq_some_iff.mp H
         obtain ⟨t117, A160, H⟩ := H
         replace H : (some (x10_1, wrap64 ((wrap64 (a1 + 1)) + (wrap64 (Go.bits .and .u8 (bt a0 a1) 15))), (t117 == (wrap64 (Go.bits .and .u8 (bt a0 a1) 15))))) = some (r1, r2, r3) := H
         have A16 := Aside0.mk A160
         clear A160
         simp only [Option.some.injEq, Prod.mk.injEq] at H
         obtain ⟨rfl, rfl, rfl⟩ := H
         go_wp2_with (first | ((with_reducible refine gate_callee (f := 70) rfl ?_); refine goesL_ (some 54) rfl rfl Tryd.func70 (by kernel_rfl) rfl #[.int .u64 x10_1] rfl (by (try simp only [List.map_toArray, List.map_cons, List.map_nil]); first | done | rfl | (simp only [List.length_drop, List.length_take]; rfl)) ?_; (with_reducible refine (codec_width.calls k1 x10_1 t117 _ ?side99  A16.out).mono ?_); (case side99 => first | exact HG.out | exact Glob.below HG.out (by repeat (first | (with_reducible first | exact HB.out | apply below_alloc | apply pw_below_drewN | apply below_drew1) | exact HB.out))); rintro e w17 ⟨rfl, hb⟩; refine ⟨_, rfl, ?_⟩; have n0_ := Aside0.mk (below_step (by repeat (first | (with_reducible first | exact HB.out | apply below_alloc | apply pw_below_drewN | apply below_drew1) | exact HB.out)) hb); clear HB; have HB := n0_; clear n0_; (try clear hb); (try clear hb2); (try clear hk); (try clear hi)))
         go_ret3
         exact ⟨by first | rfl | (simp [errW_none, errW_some] <;> rfl) | (simp [*, errW_none, errW_some] <;> rfl), by repeat (first | (with_reducible first | exact HB.out | apply below_alloc | apply pw_below_drewN | apply below_drew1) | exact HB.out)⟩
        ·rw [if_neg c15] at H
         have c15b0 : (a2 == 3) = false := beq_eq_false_iff_ne.mpr c15
         have c15b1 : (a2 != 3) = true := bne_iff_ne.mpr c15
         obtain ⟨ji18, hji18⟩ : ∃ j_ : Int, (wrap64 (64 - (wrap64 (8 * (wrap64 (Go.bits .and .u8 (bt a0 a1) 15)))))) = j_ := ⟨_, rfl⟩
         replace H : (if 0 ≤ (ji18) then ((codec_spread.f k1 (shr .i64 (wrap64 (shl .u64 x10_1 (ji18))) (ji18))).bind fun t118 => (some (IntKind.u64.wrap (shr .i64 (wrap64 (shl .u64 x10_1 (ji18))) (ji18)), wrap64 ((wrap64 (a1 + 1)) + (wrap64 (Go.bits .and .u8 (bt a0 a1) 15))), (t118 == (wrap64 (Go.bits .and .u8 (bt a0 a1) 15)))))) else (none)) = some (r1, r2, r3) := by first | (rw [hji18] at H; exact H) | (simp only [hji18] at H ⊢; exact H)
         have hji18w : (IntKind.i64.wrap (64 - (wrap64 (8 * (wrap64 (Go.bits .and .u8 (bt a0 a1) 15)))))) = ji18 := (i64_w _).trans hji18
         by_cases c19 : 0 ≤ (ji18)
         ·rw [if_pos c19] at H
          have c19b0 := eq_true c19
          have c19b1 : decide (0 ≤ (ji18)) = true := decide_eq_true c19
          clear c19
          obtain ⟨ji20, hji20⟩ : ∃ j_ : Int, (shl .u64 x10_1 (ji18)) = j_ := ⟨_, rfl⟩
          replace H : ((codec_spread.f k1 (shr .i64 (wrap64 (ji20)) (ji18))).bind fun t118 => (some (IntKind.u64.wrap (shr .i64 (wrap64 (ji20)) (ji18)), wrap64 ((wrap64 (a1 + 1)) + (wrap64 (Go.bits .and .u8 (bt a0 a1) 15))), (t118 == (wrap64 (Go.bits .and .u8 (bt a0 a1) 15)))))) = some (r1, r2, r3) := by first | (rw [hji20] at H; exact H) | (simp only [hji20] at H ⊢; exact H)
          have hji20_ : (IntKind.u64.wrap (x10_1 * 2 ^ min (ji18).toNat 64)) = ji20 := hji20
          have hji20z : (ji18) ≤ 64 → (IntKind.u64.wrap (x10_1 * 2 ^ (ji18).toNat)) = ji20 := shl_small hji20
          have c21b0 := eq_true (of_decide_eq_true (by first | (with_reducible assumption) | assumption) : 0 ≤ (ji18))
          obtain ⟨ji22, hji22⟩ : ∃ j_ : Int, (shr .i64 (wrap64 (ji20)) (ji18)) = j_ := ⟨_, rfl⟩
          replace H : ((codec_spread.f k1 (ji22)).bind fun t118 => (some (IntKind.u64.wrap (ji22), wrap64 ((wrap64 (a1 + 1)) + (wrap64 (Go.bits .and .u8 (bt a0 a1) 15))), (t118 == (wrap64 (Go.bits .and .u8 (bt a0 a1) 15)))))) = some (r1, r2, r3) := by first | (rw [hji22] at H; exact H) | (simp only [hji22] at H ⊢; exact H)
          have hji22_ : ((wrap64 (ji20)) / 2 ^ min (ji18).toNat 64) = ji22 := hji22
          have hji22z : (ji18) ≤ 64 → ((wrap64 (ji20)) / 2 ^ (ji18).toNat) = ji22 := shr_small hji22
          replace H := Option.bind_eq_some_iff.mp H
          obtain ⟨t118, A230, H⟩ := H
          replace H : (some (IntKind.u64.wrap (ji22), wrap64 ((wrap64 (a1 + 1)) + (wrap64 (Go.bits .and .u8 (bt a0 a1) 15))), (t118 == (wrap64 (Go.bits .and .u8 (bt a0 a1) 15))))) = some (r1, r2, r3) := H
          have A23 := Aside0.mk A230
          clear A230
          simp only [Option.some.injEq, Prod.mk.injEq] at H
          obtain ⟨rfl, rfl, rfl⟩ := H
          go_wp2_with (first | ((with_reducible refine gate_callee (f := 71) rfl ?_); refine goesL_ (some 73) rfl rfl Tryd.func71 (by kernel_rfl) rfl #[.int .i64 ji22] rfl (by (try simp only [List.map_toArray, List.map_cons, List.map_nil]); first | done | (simp only [hji22]; rfl) | rfl | (simp only [List.length_drop, List.length_take]; rfl)) ?_; (with_reducible refine (codec_spread.calls k1 ji22 t118 _ ?side99  A23.out).mono ?_); (case side99 => first | exact HG.out | exact Glob.below HG.out (by repeat (first | (with_reducible first | exact HB.out | apply below_alloc | apply pw_below_drewN | apply below_drew1) | exact HB.out))); rintro e w' ⟨rfl, ⟨nd, rfl⟩⟩; refine ⟨_, rfl, ?_⟩))
          go_ret3
          exact ⟨by first | rfl | (simp [errW_none, errW_some] <;> rfl) | (simp only [← hji18, ← hji20, ← hji22]; first | rfl | (simp [errW_none, errW_some] <;> rfl)) | (simp [*, errW_none, errW_some] <;> rfl), by repeat (first | (with_reducible first | exact HB.out | apply below_alloc | apply pw_below_drewN | apply below_drew1) | exact HB.out)⟩
         ·rw [if_neg c19] at H
          exact absurd H (by simp)
   ·rw [if_neg c7] at H
    exact absurd H (by simp)
  ·rw [if_neg c6] at H
   exact absurd H (by simp)
 ·rw [if_neg c5] at H
  have c5b0 : (t116 == a2) = false := beq_eq_false_iff_ne.mpr c5
  have c5b1 : (t116 != a2) = true := bne_iff_ne.mpr c5
  simp only [Option.some.injEq, Prod.mk.injEq] at H
  obtain ⟨rfl, rfl, rfl⟩ := H
  go_enter Tryd.func64, Tryd.ntmps64
  go_wp2_with (first | ((with_reducible refine gate_callee (f := 72) rfl ?_); refine goesL_ (some 16) rfl rfl Tryd.func72 (by kernel_rfl) rfl #[.string a0, .int .i64 a1] rfl (by (try simp only [List.map_toArray, List.map_cons, List.map_nil]); first | done | rfl | (simp only [List.length_drop, List.length_take]; rfl)) ?_; (with_reducible refine (codec_kind.calls k a0 a1 t116 _ ?side99  A4.out).mono ?_); (case side99 => first | exact HG.out | exact Glob.below HG.out (by repeat (first | (with_reducible first | exact HB.out | apply below_alloc | apply pw_below_drewN | apply below_drew1) | exact HB.out))); rintro e w' ⟨rfl, ⟨nd, rfl⟩⟩; refine ⟨_, rfl, ?_⟩))
  go_ret3
  exact ⟨by first | rfl | (simp [errW_none, errW_some] <;> rfl) | (simp [*, errW_none, errW_some] <;> rfl), by repeat (first | (with_reducible first | exact HB.out | apply below_alloc | apply pw_below_drewN | apply below_drew1) | exact HB.out)⟩
end Go.Proofs.YtbccjcdmpiolpaaDoor.T
end
