/- CodecRawCard: one part of the proof that the law answers true for every input, and that its arguments read afterwards as before. No condition. -/
import Derived.Test.YtndeikikeeeigaaDoorCRaw0
import Derived.Test.YtndeikikeeeigaaDoorProg
import Derived.Below
import Derived.Deep.Draws
import Derived.Deep.AppendLies
import Derived.Maps.AppendAt
import Derived.OwnWalk
import Derived.Laws.BytesArg
import Derived.Laws.MakeOwn
import Derived.Laws.OwnMore
import Derived.Deep.OwnRows
import Derived.Tactics
import Derived.Lib.ConvBytes
import Derived.Laws.Slices
import Derived.WalkKit
import Derived.KernelRfl
import Derived.RowKit3
import Derived.Deep.LoopGhost
import Derived.Deep.QuietTactic
import Derived.BigQuiet
import Derived.WideLaws
import Derived.Deep.DeepCutAuto
import Derived.Deep.CutBlock
import Derived.Deep.RegionHeld3
import Derived.Laws.Rows
import Derived.Lib.AppendStr
import Derived.ArgAppend
import Derived.Laws.IdiomCopy
import Derived.OrdersHeld
import Derived.Laws.BitsLemmas
import Derived.RowKit
import Derived.ChangeSame
import Derived.ChangeVars
import Derived.JoinedOf
import Derived.Handed
import Derived.Outline
import Derived.LoopTactic
import Derived.Test.YtndeikikeeeigaaDoorRows
section
namespace Go.Proofs.YtndeikikeeeigaaDoor.Q
open Go.RowKit Go.Proofs.YtndeikikeeeigaaDoorW.PrintWords Go.Proofs.YtndeikikeeeigaaDoorW.PrintLast Go.Proofs.YtndeikikeeeigaaDoorW.PrintMore
attribute [local go_sem] max2_int min2_int max_two min_two max_three min_three max_four min_four
set_option linter.unusedVariables false
set_option linter.unusedSimpArgs false
def errW : Option Int → Value
  | none => .nilIface
  | some c => .iface 0 (.int .i64 c)
theorem errW_none : errW none = .nilIface := rfl
theorem errW_some (c : Int) : errW (some c) = .iface 0 (.int .i64 c) := rfl
def Glob (w : World) : Prop := ∃ t, w.heap[0]? = some (.cells #[.int .i64 2, .int .i64 3, .int .i64 4, .int .i64 5, .int .i64 6] t (0, 0))
def gtab : List Int := [2, 3, 4, 5, 6]
theorem gt_at {w : World} (h : Glob w) {i : Int} (h0 : 0 ≤ i) (h1 : i < 5) : w.cell? ⟨0, i.toNat, none⟩ = some (.int .i64 (rd gtab i)) := by
  obtain ⟨t, h⟩ := h
  rw [blk_cell h]
  obtain rfl | rfl | rfl | rfl | rfl : i = 0 ∨ i = 1 ∨ i = 2 ∨ i = 3 ∨ i = 4 := by omega
  all_goals rfl
theorem goesT_ {P : Program} {ops : Array Oper} {Q : Exit → Act → World → Prop} {oi : Oper} {N : Option Tmp} {a : Act} {w : World} {K : Act → World → Prop} {f : FuncId} {fn : Func} {x : Operand} {xs : Array Operand} {ts : Array TypeId} (hf : P.funcs[f]? = some fn) (hname : (fn.name == "runtime.NumGoroutine") = false) (hb : fn.body.isSome = true) (args : Array Value)
    (hw : Region.wanted oi (yielded ops a.tmps) = true) (hN : oi.dst = N) (hop : oi.op = .call { callee := .value x, args := xs, argTypes := ts }) (hv : a.eval x = .func (.func f) #[] #[]) (hargs : xs.map a.eval = args)
    (h : Calls P f args w fun e w' => ∃ v, e = .returned v ∧ K (a.put N v) w') : if Region.wanted oi (yielded ops a.tmps) = true then Oper.wp P oi a w K Q else K (a.put N undef) w := by
  refine call_ f args hw hN ?_ h
  have he := enters_ hf hname hb args w
  unfold execOp
  simp [hop, resolve, Deferred.ofValue, invoke, hv, hargs, he]
theorem Glob.below {w w1 : World} (h : Glob w) (hb : Below w.heap.size w w1) : Glob w1 := h.imp fun _ h => blk_below h hb
theorem info5 : (Tryd.prog.info? 5).map (fun i => (i.zero, i.size, i.bytes)) = some (some (.int .u8 0), 1, 1) := by kernel_rfl
end Go.Proofs.YtndeikikeeeigaaDoor.Q
end
section
namespace Go.Proofs.YtndeikikeeeigaaDoor.Q
open Go.ChangeShapes Go.WideShapes Go.RowKit
abbrev theLaid : List (String × DataW Unit) := [("plenum/codec.kinds", Rows.laid_plenum_codec_kinds)]
theorem lvName : Tryd.prog.globalNamed "plenum/codec.kinds" = some 0 := by kernel_rfl
theorem lvType : (Tryd.prog.globals[0]?).map (·.type) = some 89 := by kernel_rfl
theorem lvUnder : Tryd.prog.underlying 89 = some (.array 5 3) := by kernel_rfl
theorem lvUnderE : Tryd.prog.underlying 3 = some (.int .i64) := by kernel_rfl
theorem lvCells : Tryd.prog.cellsOf 89 = 5 := by kernel_rfl
theorem lvCellsE : Tryd.prog.cellsOf 3 = 1 := by kernel_rfl
theorem int_of_trod {H : Type} {enc : TypeId × Value → H} {P : Program} {w : World} {base : Nat} {sp : Nat → Bool} {held : Bool} {fuel : Nat} {t : TypeId} {k : IntKind} {c : Value} {y : DataW H × List MemPlace}
    (ht : P.underlying t = some (.int k)) (h : DataW.trod enc P w base sp held fuel t [c] = some y) : ∃ n, c = .int k n ∧ y = (.lit (.int k n), []) := by
  cases fuel with
  | zero => simp [DataW.trod] at h
  | succ fuel =>
    cases c <;> simp [DataW.trod, ht] at h
    rename_i k' n
    obtain ⟨⟨rfl, _⟩, rfl⟩ := h
    exact ⟨n, rfl, rfl⟩
def cellsL : Array Value := #[.int .i64 2, .int .i64 3, .int .i64 4, .int .i64 5, .int .i64 6]
theorem cells_of_laid {W : World} (h : laidMet Tryd.prog theLaid W) : W.var? Tryd.prog "plenum/codec.kinds" = some cellsL := by
  obtain ⟨ps, ⟨g, t, cs, fuel, p, q, hg, ht, hvar, hd, _, _⟩, _⟩ := h
  obtain rfl := Option.some.inj (lvName.symm.trans hg)
  obtain rfl := Option.some.inj (lvType.symm.trans ht)
  rw [hvar]
  congr 1
  obtain ⟨l⟩ := cs
  cases fuel with
  | zero => simp [DataW.trod] at hd
  | succ fuel =>
    simp only [DataW.trod, lvUnder, lvCells, lvCellsE] at hd
    split at hd
    · rename_i hl
      obtain ⟨c0, c1, c2, c3, c4, rfl⟩ : ∃ c0 c1 c2 c3 c4, l = [c0, c1, c2, c3, c4] := by
        match l, hl with
        | [a, b, c, d, e], _ => exact ⟨a, b, c, d, e, rfl⟩
      have e : List.range 5 = [0, 1, 2, 3, 4] := rfl
      rw [e] at hd
      simp only [Option.map_eq_some_iff, List.mapM_cons, List.mapM_nil, Option.bind_eq_bind, Option.bind_eq_some_iff, Option.pure_def, Option.some.injEq] at hd
      obtain ⟨xs, ⟨y0, h0, _, ⟨y1, h1, _, ⟨y2, h2, _, ⟨y3, h3, _, ⟨y4, h4, _, rfl, rfl⟩, rfl⟩, rfl⟩, rfl⟩, rfl⟩, hx⟩ := hd
      obtain ⟨n0, rfl, rfl⟩ := int_of_trod lvUnderE h0
      obtain ⟨n1, rfl, rfl⟩ := int_of_trod lvUnderE h1
      obtain ⟨n2, rfl, rfl⟩ := int_of_trod lvUnderE h2
      obtain ⟨n3, rfl, rfl⟩ := int_of_trod lvUnderE h3
      obtain ⟨n4, rfl, rfl⟩ := int_of_trod lvUnderE h4
      simp [Rows.laid_plenum_codec_kinds] at hx
      obtain ⟨⟨rfl, rfl, rfl, rfl, rfl⟩, _⟩ := hx
      rfl
    · cases hd
theorem glob_of_laid {W : World} (h : laidMet Tryd.prog theLaid W) : Glob W := by
  have hv := cells_of_laid h
  obtain ⟨ps, ⟨g, t, cs, fuel, p, q, hg, ht, hvar, hd, hq, hps⟩, _, hrow⟩ := h
  obtain rfl := Option.some.inj (lvName.symm.trans hg)
  obtain rfl := Option.some.inj (hvar.symm.trans hv)
  subst hps
  obtain ⟨⟨c, t', hc⟩, _⟩ := hrow 0 0 (List.mem_append_left _ (List.mem_append_left _ (by decide)))
  have hv' := hv
  unfold World.var? at hv'
  rw [lvName] at hv'
  simp only [Option.bind_some, hc] at hv'
  obtain rfl := Option.some.inj hv'
  exact ⟨t', hc⟩
noncomputable def laidWorld (os : Os) : World :=
  { World.holding Tryd.prog os ⟨#[], #[], []⟩ with heap := (World.holding Tryd.prog os ⟨#[], #[], []⟩).heap.modify 0 fun
      | .cells _ t frozen => .cells cellsL t frozen
      | o => o }
theorem laidWorld_row (os : Os) (args : Array Value) : ((laidWorld os).forCall (fun _ _ => 0) ⟨#[], args, []⟩).memory.heap[0]? = some (.cells cellsL 89 (0, 0)) := by kernel_rfl
theorem laidWorld_met (os : Os) (args : Array Value) : laidMet Tryd.prog theLaid ((laidWorld os).forCall (fun _ _ => 0) ⟨#[], args, []⟩).memory := by
  refine ⟨_, ⟨0, 89, cellsL, 8, [], [], lvName, lvType, ?_, ?_, rfl, rfl⟩, by decide, fun b off h => ?_⟩
  · unfold World.var?
    rw [lvName]
    simp only [Option.bind_some, laidWorld_row os args]
  · kernel_rfl
  · have h' : MemPlace.cell b off ∈ [MemPlace.cell 0 0, .cell 0 1, .cell 0 2, .cell 0 3, .cell 0 4] := h
    have hb : b = 0 := by
      simp at h'
      omega
    subst hb
    refine ⟨⟨_, _, laidWorld_row os args⟩, fun u v hc => ?_⟩
    simp only [World.cell?, laidWorld_row os args] at hc
    simp at h'
    rcases h' with rfl | rfl | rfl | rfl | rfl <;> simp [cellsL] at hc
end Go.Proofs.YtndeikikeeeigaaDoor.Q
end
section
namespace Go.Proofs.YtndeikikeeeigaaDoor.Q
open Go.RowKit Go.Proofs.YtndeikikeeeigaaDoorW.PrintWords Go.Proofs.YtndeikikeeeigaaDoorW.PrintLast Go.Proofs.YtndeikikeeeigaaDoorW.PrintMore
attribute [local go_sem] max2_int min2_int max_two min_two max_three min_three max_four min_four
set_option linter.unusedVariables false
set_option linter.unusedSimpArgs false
def bits_Len64.j0 : Nat → Int → Int → Option (Int)
  | 0, _, _ => none
  | k + 1, x0, x2 => if x0 ≥ 65536 then (if (x0 / 65536) ≥ 256 then (if 0 ≤ (((x0 / 65536) / 256) % 256) then (if (((x0 / 65536) / 256) % 256) < 256 then (some (wrap64 ((wrap64 ((wrap64 (x2 + 16)) + 8)) + (wrap64 (bt (⟨#[0, 1, 2, 2, 3, 3, 3, 3, 4, 4, 4, 4, 4, 4, 4, 4, 5, 5, 5, 5, 5, 5, 5, 5, 5, 5, 5, 5, 5, 5, 5, 5, 6, 6, 6, 6, 6, 6, 6, 6, 6, 6, 6, 6, 6, 6, 6, 6, 6, 6, 6, 6, 6, 6, 6, 6, 6, 6, 6, 6, 6, 6, 6, 6, 7, 7, 7, 7, 7, 7, 7, 7, 7, 7, 7, 7, 7, 7, 7, 7, 7, 7, 7, 7, 7, 7, 7, 7, 7, 7, 7, 7, 7, 7, 7, 7, 7, 7, 7, 7, 7, 7, 7, 7, 7, 7, 7, 7, 7, 7, 7, 7, 7, 7, 7, 7, 7, 7, 7, 7, 7, 7, 7, 7, 7, 7, 7, 7, 8, 8, 8, 8, 8, 8, 8, 8, 8, 8, 8, 8, 8, 8, 8, 8, 8, 8, 8, 8, 8, 8, 8, 8, 8, 8, 8, 8, 8, 8, 8, 8, 8, 8, 8, 8, 8, 8, 8, 8, 8, 8, 8, 8, 8, 8, 8, 8, 8, 8, 8, 8, 8, 8, 8, 8, 8, 8, 8, 8, 8, 8, 8, 8, 8, 8, 8, 8, 8, 8, 8, 8, 8, 8, 8, 8, 8, 8, 8, 8, 8, 8, 8, 8, 8, 8, 8, 8, 8, 8, 8, 8, 8, 8, 8, 8, 8, 8, 8, 8, 8, 8, 8, 8, 8, 8, 8, 8, 8, 8, 8, 8, 8, 8, 8, 8, 8, 8, 8, 8, 8, 8, 8, 8, 8, 8, 8, 8]⟩ : ByteArray) (((x0 / 65536) / 256) % 256)))))) else (none)) else (none)) else (if 0 ≤ ((x0 / 65536) % 256) then (if ((x0 / 65536) % 256) < 256 then (some (wrap64 ((wrap64 (x2 + 16)) + (wrap64 (bt (⟨#[0, 1, 2, 2, 3, 3, 3, 3, 4, 4, 4, 4, 4, 4, 4, 4, 5, 5, 5, 5, 5, 5, 5, 5, 5, 5, 5, 5, 5, 5, 5, 5, 6, 6, 6, 6, 6, 6, 6, 6, 6, 6, 6, 6, 6, 6, 6, 6, 6, 6, 6, 6, 6, 6, 6, 6, 6, 6, 6, 6, 6, 6, 6, 6, 7, 7, 7, 7, 7, 7, 7, 7, 7, 7, 7, 7, 7, 7, 7, 7, 7, 7, 7, 7, 7, 7, 7, 7, 7, 7, 7, 7, 7, 7, 7, 7, 7, 7, 7, 7, 7, 7, 7, 7, 7, 7, 7, 7, 7, 7, 7, 7, 7, 7, 7, 7, 7, 7, 7, 7, 7, 7, 7, 7, 7, 7, 7, 7, 8, 8, 8, 8, 8, 8, 8, 8, 8, 8, 8, 8, 8, 8, 8, 8, 8, 8, 8, 8, 8, 8, 8, 8, 8, 8, 8, 8, 8, 8, 8, 8, 8, 8, 8, 8, 8, 8, 8, 8, 8, 8, 8, 8, 8, 8, 8, 8, 8, 8, 8, 8, 8, 8, 8, 8, 8, 8, 8, 8, 8, 8, 8, 8, 8, 8, 8, 8, 8, 8, 8, 8, 8, 8, 8, 8, 8, 8, 8, 8, 8, 8, 8, 8, 8, 8, 8, 8, 8, 8, 8, 8, 8, 8, 8, 8, 8, 8, 8, 8, 8, 8, 8, 8, 8, 8, 8, 8, 8, 8, 8, 8, 8, 8, 8, 8, 8, 8, 8, 8, 8, 8, 8, 8, 8, 8, 8, 8]⟩ : ByteArray) ((x0 / 65536) % 256)))))) else (none)) else (none))) else (if x0 ≥ 256 then (if 0 ≤ ((x0 / 256) % 256) then (if ((x0 / 256) % 256) < 256 then (some (wrap64 ((wrap64 (x2 + 8)) + (wrap64 (bt (⟨#[0, 1, 2, 2, 3, 3, 3, 3, 4, 4, 4, 4, 4, 4, 4, 4, 5, 5, 5, 5, 5, 5, 5, 5, 5, 5, 5, 5, 5, 5, 5, 5, 6, 6, 6, 6, 6, 6, 6, 6, 6, 6, 6, 6, 6, 6, 6, 6, 6, 6, 6, 6, 6, 6, 6, 6, 6, 6, 6, 6, 6, 6, 6, 6, 7, 7, 7, 7, 7, 7, 7, 7, 7, 7, 7, 7, 7, 7, 7, 7, 7, 7, 7, 7, 7, 7, 7, 7, 7, 7, 7, 7, 7, 7, 7, 7, 7, 7, 7, 7, 7, 7, 7, 7, 7, 7, 7, 7, 7, 7, 7, 7, 7, 7, 7, 7, 7, 7, 7, 7, 7, 7, 7, 7, 7, 7, 7, 7, 8, 8, 8, 8, 8, 8, 8, 8, 8, 8, 8, 8, 8, 8, 8, 8, 8, 8, 8, 8, 8, 8, 8, 8, 8, 8, 8, 8, 8, 8, 8, 8, 8, 8, 8, 8, 8, 8, 8, 8, 8, 8, 8, 8, 8, 8, 8, 8, 8, 8, 8, 8, 8, 8, 8, 8, 8, 8, 8, 8, 8, 8, 8, 8, 8, 8, 8, 8, 8, 8, 8, 8, 8, 8, 8, 8, 8, 8, 8, 8, 8, 8, 8, 8, 8, 8, 8, 8, 8, 8, 8, 8, 8, 8, 8, 8, 8, 8, 8, 8, 8, 8, 8, 8, 8, 8, 8, 8, 8, 8, 8, 8, 8, 8, 8, 8, 8, 8, 8, 8, 8, 8, 8, 8, 8, 8, 8, 8]⟩ : ByteArray) ((x0 / 256) % 256)))))) else (none)) else (none)) else (if 0 ≤ ((x0) % 256) then (if ((x0) % 256) < 256 then (some (wrap64 (x2 + (wrap64 (bt (⟨#[0, 1, 2, 2, 3, 3, 3, 3, 4, 4, 4, 4, 4, 4, 4, 4, 5, 5, 5, 5, 5, 5, 5, 5, 5, 5, 5, 5, 5, 5, 5, 5, 6, 6, 6, 6, 6, 6, 6, 6, 6, 6, 6, 6, 6, 6, 6, 6, 6, 6, 6, 6, 6, 6, 6, 6, 6, 6, 6, 6, 6, 6, 6, 6, 7, 7, 7, 7, 7, 7, 7, 7, 7, 7, 7, 7, 7, 7, 7, 7, 7, 7, 7, 7, 7, 7, 7, 7, 7, 7, 7, 7, 7, 7, 7, 7, 7, 7, 7, 7, 7, 7, 7, 7, 7, 7, 7, 7, 7, 7, 7, 7, 7, 7, 7, 7, 7, 7, 7, 7, 7, 7, 7, 7, 7, 7, 7, 7, 8, 8, 8, 8, 8, 8, 8, 8, 8, 8, 8, 8, 8, 8, 8, 8, 8, 8, 8, 8, 8, 8, 8, 8, 8, 8, 8, 8, 8, 8, 8, 8, 8, 8, 8, 8, 8, 8, 8, 8, 8, 8, 8, 8, 8, 8, 8, 8, 8, 8, 8, 8, 8, 8, 8, 8, 8, 8, 8, 8, 8, 8, 8, 8, 8, 8, 8, 8, 8, 8, 8, 8, 8, 8, 8, 8, 8, 8, 8, 8, 8, 8, 8, 8, 8, 8, 8, 8, 8, 8, 8, 8, 8, 8, 8, 8, 8, 8, 8, 8, 8, 8, 8, 8, 8, 8, 8, 8, 8, 8, 8, 8, 8, 8, 8, 8, 8, 8, 8, 8, 8, 8, 8, 8, 8, 8, 8, 8]⟩ : ByteArray) ((x0) % 256)))))) else (none)) else (none)))
def bits_Len64.f (k : Nat) (a0 : Int) : Option (Int) := if a0 ≥ 4294967296 then (bits_Len64.j0 k (a0 / 4294967296) 32) else (bits_Len64.j0 k a0 0)
theorem bits_Len64.mono_l : ∀ k, (∀ y0 y1, LeO (bits_Len64.j0 k y0 y1) (bits_Len64.j0 (k + 1) y0 y1))
  | 0 => fun _ _ r h => by simp [bits_Len64.j0] at h
  | k + 1 => by
    have ih0 := bits_Len64.mono_l k
    · intro y0 y1
      unfold bits_Len64.j0
      repeat' first
      | (with_reducible exact ih0 _ _)
      | (with_reducible exact LeO.refl _)
      | (with_reducible exact LeO.none _)
      | (with_reducible refine LeO.ite ?_ ?_)
      | (with_reducible refine LeO.bind ?_ (fun _ => ?_))
      | exact ih0 _ _
      | exact LeO.none _
      | refine LeO.ite ?_ ?_
      | refine LeO.bind ?_ (fun _ => ?_)
theorem bits_Len64.mono : ∀ a0 k, LeO (bits_Len64.f k a0) (bits_Len64.f (k + 1) a0) := by
  intro a0 k
  have ih0 := bits_Len64.mono_l k
  unfold bits_Len64.f
  repeat' first
      | (with_reducible exact ih0 _ _)
      | (with_reducible exact LeO.refl _)
      | (with_reducible exact LeO.none _)
      | (with_reducible refine LeO.ite ?_ ?_)
      | (with_reducible refine LeO.bind ?_ (fun _ => ?_))
      | exact ih0 _ _
      | exact LeO.none _
      | refine LeO.ite ?_ ?_
      | refine LeO.bind ?_ (fun _ => ?_)
set_option maxHeartbeats 8000000 in
set_option maxRecDepth 100000 in
theorem bits_Len64.calls (k : Nat) (a0 : Int) (r : Int) (w : World) (hG : Glob w) (h : bits_Len64.f k a0 = some r) :
    Calls Tryd.prog 66 #[.int .u64 a0] w fun e w' => e = .returned (.int .i64 r) ∧ Drawn0 w w' := by
  have HG := Aside0.mk hG
  clear hG
  have H : (if a0 ≥ 4294967296 then (bits_Len64.j0 k (a0 / 4294967296) 32) else (bits_Len64.j0 k a0 0)) = some r := h
  clear h
  have HC2 := Aside0.mk H
  clear H
  go_enter Tryd.func66, Tryd.ntmps66
  go_upto_if 4 with (fail)
  go_cut [0, 2] (fun v0 v2 wc => ∃ (kq : Nat) (x0_1 : Int) (x2_1 : Int), v0 = .int .u64 x0_1 ∧ v2 = .int .i64 x2_1 ∧ Aside0 (bits_Len64.j0 kq x0_1 x2_1 = some r) ∧ Aside0 (kq ≤ k) ∧ Drawn0 w wc)
  case first =>
    have H := HC2.out
    clear HC2
    by_cases c3 : a0 ≥ 4294967296
    · rw [if_pos c3] at H
      have c3b0 : decide (4294967296 ≤ a0) = true := decide_eq_true c3
      clear c3
      (first | rw [c3b0] | (simp only [i64_w, i32_w]; rw [c3b0]) | skip)
      have H' := Aside0.mk H
      clear H
      go_wp2
      go_meet
      case rel => exact ⟨_, (a0 / 4294967296), (32), (by first | rfl | (simp; done) | (simp [*]; done)), (by first | rfl | (simp; done) | (simp [*]; done)), H', ⟨by first | omega | exact Nat.le_refl _⟩, by repeat (first | exact Drawn0.refl _ | apply Drawn0.step)⟩
    · rw [if_neg c3] at H
      have c3b0 : decide (4294967296 ≤ a0) = false := decide_eq_false c3
      clear c3
      (first | rw [c3b0] | (simp only [i64_w, i32_w]; rw [c3b0]) | skip)
      have H' := Aside0.mk H
      clear H
      go_wp2
      go_meet
      case rel => exact ⟨_, (a0), (0), (by first | rfl | (simp; done) | (simp [*]; done)), (by first | rfl | (simp; done) | (simp [*]; done)), H', ⟨by first | omega | exact Nat.le_refl _⟩, by repeat (first | exact Drawn0.refl _ | apply Drawn0.step)⟩
  case rest =>
    clear HC2
    try clear p2
    try clear c3
    try clear c3b0
    obtain ⟨kq, x0_1, x2_1, rfl, rfl, HA, HJ1, ⟨mc1, rfl⟩⟩ := hcut
    cases kq with
    | zero => exact absurd HA.out (by simp [bits_Len64.j0])
    | succ kj1 =>
      have H := HA.out
      clear HA
      simp only [bits_Len64.j0] at H
      by_cases c4 : x0_1 ≥ 65536
      · rw [if_pos c4] at H
        have c4b0 : decide (65536 ≤ x0_1) = true := decide_eq_true c4
        clear c4
        by_cases c5 : (x0_1 / 65536) ≥ 256
        · rw [if_pos c5] at H
          have c5b0 : decide (256 ≤ (x0_1 / 65536)) = true := decide_eq_true c5
          clear c5
          obtain ⟨ji6, hji6⟩ : ∃ j_ : Int, (((x0_1 / 65536) / 256) % 256) = j_ := ⟨_, rfl⟩
          replace H : (if 0 ≤ (ji6) then (if (ji6) < 256 then (some (wrap64 ((wrap64 ((wrap64 (x2_1 + 16)) + 8)) + (wrap64 (bt (⟨#[0, 1, 2, 2, 3, 3, 3, 3, 4, 4, 4, 4, 4, 4, 4, 4, 5, 5, 5, 5, 5, 5, 5, 5, 5, 5, 5, 5, 5, 5, 5, 5, 6, 6, 6, 6, 6, 6, 6, 6, 6, 6, 6, 6, 6, 6, 6, 6, 6, 6, 6, 6, 6, 6, 6, 6, 6, 6, 6, 6, 6, 6, 6, 6, 7, 7, 7, 7, 7, 7, 7, 7, 7, 7, 7, 7, 7, 7, 7, 7, 7, 7, 7, 7, 7, 7, 7, 7, 7, 7, 7, 7, 7, 7, 7, 7, 7, 7, 7, 7, 7, 7, 7, 7, 7, 7, 7, 7, 7, 7, 7, 7, 7, 7, 7, 7, 7, 7, 7, 7, 7, 7, 7, 7, 7, 7, 7, 7, 8, 8, 8, 8, 8, 8, 8, 8, 8, 8, 8, 8, 8, 8, 8, 8, 8, 8, 8, 8, 8, 8, 8, 8, 8, 8, 8, 8, 8, 8, 8, 8, 8, 8, 8, 8, 8, 8, 8, 8, 8, 8, 8, 8, 8, 8, 8, 8, 8, 8, 8, 8, 8, 8, 8, 8, 8, 8, 8, 8, 8, 8, 8, 8, 8, 8, 8, 8, 8, 8, 8, 8, 8, 8, 8, 8, 8, 8, 8, 8, 8, 8, 8, 8, 8, 8, 8, 8, 8, 8, 8, 8, 8, 8, 8, 8, 8, 8, 8, 8, 8, 8, 8, 8, 8, 8, 8, 8, 8, 8, 8, 8, 8, 8, 8, 8, 8, 8, 8, 8, 8, 8, 8, 8, 8, 8, 8, 8]⟩ : ByteArray) (ji6)))))) else (none)) else (none)) = some r := by first | (rw [hji6] at H; exact H) | (simp only [hji6] at H ⊢; exact H)
          by_cases c7 : 0 ≤ (ji6)
          · rw [if_pos c7] at H
            have c7b0 : decide (0 ≤ (ji6)) = true := decide_eq_true c7
            clear c7
            by_cases c8 : (ji6) < 256
            · rw [if_pos c8] at H
              have c8b0 : decide ((ji6) < 256) = true := decide_eq_true c8
              clear c8
              obtain rfl := Option.some.inj H
              have p9 : 0 ≤ ((ji6) : Int) := of_decide_eq_true (by first | (with_reducible assumption) | assumption)
              have q9 : (ji6) < (256 : Int) := of_decide_eq_true (by first | (with_reducible assumption) | assumption)
              have hx9 := bt_at (⟨#[0, 1, 2, 2, 3, 3, 3, 3, 4, 4, 4, 4, 4, 4, 4, 4, 5, 5, 5, 5, 5, 5, 5, 5, 5, 5, 5, 5, 5, 5, 5, 5, 6, 6, 6, 6, 6, 6, 6, 6, 6, 6, 6, 6, 6, 6, 6, 6, 6, 6, 6, 6, 6, 6, 6, 6, 6, 6, 6, 6, 6, 6, 6, 6, 7, 7, 7, 7, 7, 7, 7, 7, 7, 7, 7, 7, 7, 7, 7, 7, 7, 7, 7, 7, 7, 7, 7, 7, 7, 7, 7, 7, 7, 7, 7, 7, 7, 7, 7, 7, 7, 7, 7, 7, 7, 7, 7, 7, 7, 7, 7, 7, 7, 7, 7, 7, 7, 7, 7, 7, 7, 7, 7, 7, 7, 7, 7, 7, 8, 8, 8, 8, 8, 8, 8, 8, 8, 8, 8, 8, 8, 8, 8, 8, 8, 8, 8, 8, 8, 8, 8, 8, 8, 8, 8, 8, 8, 8, 8, 8, 8, 8, 8, 8, 8, 8, 8, 8, 8, 8, 8, 8, 8, 8, 8, 8, 8, 8, 8, 8, 8, 8, 8, 8, 8, 8, 8, 8, 8, 8, 8, 8, 8, 8, 8, 8, 8, 8, 8, 8, 8, 8, 8, 8, 8, 8, 8, 8, 8, 8, 8, 8, 8, 8, 8, 8, 8, 8, 8, 8, 8, 8, 8, 8, 8, 8, 8, 8, 8, 8, 8, 8, 8, 8, 8, 8, 8, 8, 8, 8, 8, 8, 8, 8, 8, 8, 8, 8, 8, 8, 8, 8, 8, 8, 8, 8]⟩ : ByteArray) (ji6)
              replace p9 := eq_true p9
              replace q9 := eq_true q9
              go_wp2
              go_ret
              exact ⟨by first | rfl | (simp; done) | (simp only [← hji6] <;> (first | rfl | simp)) | (simp [*]; done), by repeat (first | exact Drawn0.refl _ | apply Drawn0.step)⟩
            · rw [if_neg c8] at H
              exact absurd H (by simp)
          · rw [if_neg c7] at H
            exact absurd H (by simp)
        · rw [if_neg c5] at H
          have c5b0 : decide (256 ≤ (x0_1 / 65536)) = false := decide_eq_false c5
          clear c5
          obtain ⟨ji10, hji10⟩ : ∃ j_ : Int, ((x0_1 / 65536) % 256) = j_ := ⟨_, rfl⟩
          replace H : (if 0 ≤ (ji10) then (if (ji10) < 256 then (some (wrap64 ((wrap64 (x2_1 + 16)) + (wrap64 (bt (⟨#[0, 1, 2, 2, 3, 3, 3, 3, 4, 4, 4, 4, 4, 4, 4, 4, 5, 5, 5, 5, 5, 5, 5, 5, 5, 5, 5, 5, 5, 5, 5, 5, 6, 6, 6, 6, 6, 6, 6, 6, 6, 6, 6, 6, 6, 6, 6, 6, 6, 6, 6, 6, 6, 6, 6, 6, 6, 6, 6, 6, 6, 6, 6, 6, 7, 7, 7, 7, 7, 7, 7, 7, 7, 7, 7, 7, 7, 7, 7, 7, 7, 7, 7, 7, 7, 7, 7, 7, 7, 7, 7, 7, 7, 7, 7, 7, 7, 7, 7, 7, 7, 7, 7, 7, 7, 7, 7, 7, 7, 7, 7, 7, 7, 7, 7, 7, 7, 7, 7, 7, 7, 7, 7, 7, 7, 7, 7, 7, 8, 8, 8, 8, 8, 8, 8, 8, 8, 8, 8, 8, 8, 8, 8, 8, 8, 8, 8, 8, 8, 8, 8, 8, 8, 8, 8, 8, 8, 8, 8, 8, 8, 8, 8, 8, 8, 8, 8, 8, 8, 8, 8, 8, 8, 8, 8, 8, 8, 8, 8, 8, 8, 8, 8, 8, 8, 8, 8, 8, 8, 8, 8, 8, 8, 8, 8, 8, 8, 8, 8, 8, 8, 8, 8, 8, 8, 8, 8, 8, 8, 8, 8, 8, 8, 8, 8, 8, 8, 8, 8, 8, 8, 8, 8, 8, 8, 8, 8, 8, 8, 8, 8, 8, 8, 8, 8, 8, 8, 8, 8, 8, 8, 8, 8, 8, 8, 8, 8, 8, 8, 8, 8, 8, 8, 8, 8, 8]⟩ : ByteArray) (ji10)))))) else (none)) else (none)) = some r := by first | (rw [hji10] at H; exact H) | (simp only [hji10] at H ⊢; exact H)
          by_cases c11 : 0 ≤ (ji10)
          · rw [if_pos c11] at H
            have c11b0 : decide (0 ≤ (ji10)) = true := decide_eq_true c11
            clear c11
            by_cases c12 : (ji10) < 256
            · rw [if_pos c12] at H
              have c12b0 : decide ((ji10) < 256) = true := decide_eq_true c12
              clear c12
              obtain rfl := Option.some.inj H
              have p13 : 0 ≤ ((ji10) : Int) := of_decide_eq_true (by first | (with_reducible assumption) | assumption)
              have q13 : (ji10) < (256 : Int) := of_decide_eq_true (by first | (with_reducible assumption) | assumption)
              have hx13 := bt_at (⟨#[0, 1, 2, 2, 3, 3, 3, 3, 4, 4, 4, 4, 4, 4, 4, 4, 5, 5, 5, 5, 5, 5, 5, 5, 5, 5, 5, 5, 5, 5, 5, 5, 6, 6, 6, 6, 6, 6, 6, 6, 6, 6, 6, 6, 6, 6, 6, 6, 6, 6, 6, 6, 6, 6, 6, 6, 6, 6, 6, 6, 6, 6, 6, 6, 7, 7, 7, 7, 7, 7, 7, 7, 7, 7, 7, 7, 7, 7, 7, 7, 7, 7, 7, 7, 7, 7, 7, 7, 7, 7, 7, 7, 7, 7, 7, 7, 7, 7, 7, 7, 7, 7, 7, 7, 7, 7, 7, 7, 7, 7, 7, 7, 7, 7, 7, 7, 7, 7, 7, 7, 7, 7, 7, 7, 7, 7, 7, 7, 8, 8, 8, 8, 8, 8, 8, 8, 8, 8, 8, 8, 8, 8, 8, 8, 8, 8, 8, 8, 8, 8, 8, 8, 8, 8, 8, 8, 8, 8, 8, 8, 8, 8, 8, 8, 8, 8, 8, 8, 8, 8, 8, 8, 8, 8, 8, 8, 8, 8, 8, 8, 8, 8, 8, 8, 8, 8, 8, 8, 8, 8, 8, 8, 8, 8, 8, 8, 8, 8, 8, 8, 8, 8, 8, 8, 8, 8, 8, 8, 8, 8, 8, 8, 8, 8, 8, 8, 8, 8, 8, 8, 8, 8, 8, 8, 8, 8, 8, 8, 8, 8, 8, 8, 8, 8, 8, 8, 8, 8, 8, 8, 8, 8, 8, 8, 8, 8, 8, 8, 8, 8, 8, 8, 8, 8, 8, 8]⟩ : ByteArray) (ji10)
              replace p13 := eq_true p13
              replace q13 := eq_true q13
              go_wp2
              go_ret
              exact ⟨by first | rfl | (simp; done) | (simp only [← hji10] <;> (first | rfl | simp)) | (simp [*]; done), by repeat (first | exact Drawn0.refl _ | apply Drawn0.step)⟩
            · rw [if_neg c12] at H
              exact absurd H (by simp)
          · rw [if_neg c11] at H
            exact absurd H (by simp)
      · rw [if_neg c4] at H
        have c4b0 : decide (65536 ≤ x0_1) = false := decide_eq_false c4
        clear c4
        by_cases c14 : x0_1 ≥ 256
        · rw [if_pos c14] at H
          have c14b0 : decide (256 ≤ x0_1) = true := decide_eq_true c14
          clear c14
          obtain ⟨ji15, hji15⟩ : ∃ j_ : Int, ((x0_1 / 256) % 256) = j_ := ⟨_, rfl⟩
          replace H : (if 0 ≤ (ji15) then (if (ji15) < 256 then (some (wrap64 ((wrap64 (x2_1 + 8)) + (wrap64 (bt (⟨#[0, 1, 2, 2, 3, 3, 3, 3, 4, 4, 4, 4, 4, 4, 4, 4, 5, 5, 5, 5, 5, 5, 5, 5, 5, 5, 5, 5, 5, 5, 5, 5, 6, 6, 6, 6, 6, 6, 6, 6, 6, 6, 6, 6, 6, 6, 6, 6, 6, 6, 6, 6, 6, 6, 6, 6, 6, 6, 6, 6, 6, 6, 6, 6, 7, 7, 7, 7, 7, 7, 7, 7, 7, 7, 7, 7, 7, 7, 7, 7, 7, 7, 7, 7, 7, 7, 7, 7, 7, 7, 7, 7, 7, 7, 7, 7, 7, 7, 7, 7, 7, 7, 7, 7, 7, 7, 7, 7, 7, 7, 7, 7, 7, 7, 7, 7, 7, 7, 7, 7, 7, 7, 7, 7, 7, 7, 7, 7, 8, 8, 8, 8, 8, 8, 8, 8, 8, 8, 8, 8, 8, 8, 8, 8, 8, 8, 8, 8, 8, 8, 8, 8, 8, 8, 8, 8, 8, 8, 8, 8, 8, 8, 8, 8, 8, 8, 8, 8, 8, 8, 8, 8, 8, 8, 8, 8, 8, 8, 8, 8, 8, 8, 8, 8, 8, 8, 8, 8, 8, 8, 8, 8, 8, 8, 8, 8, 8, 8, 8, 8, 8, 8, 8, 8, 8, 8, 8, 8, 8, 8, 8, 8, 8, 8, 8, 8, 8, 8, 8, 8, 8, 8, 8, 8, 8, 8, 8, 8, 8, 8, 8, 8, 8, 8, 8, 8, 8, 8, 8, 8, 8, 8, 8, 8, 8, 8, 8, 8, 8, 8, 8, 8, 8, 8, 8, 8]⟩ : ByteArray) (ji15)))))) else (none)) else (none)) = some r := by first | (rw [hji15] at H; exact H) | (simp only [hji15] at H ⊢; exact H)
          by_cases c16 : 0 ≤ (ji15)
          · rw [if_pos c16] at H
            have c16b0 : decide (0 ≤ (ji15)) = true := decide_eq_true c16
            clear c16
            by_cases c17 : (ji15) < 256
            · rw [if_pos c17] at H
              have c17b0 : decide ((ji15) < 256) = true := decide_eq_true c17
              clear c17
              obtain rfl := Option.some.inj H
              have p18 : 0 ≤ ((ji15) : Int) := of_decide_eq_true (by first | (with_reducible assumption) | assumption)
              have q18 : (ji15) < (256 : Int) := of_decide_eq_true (by first | (with_reducible assumption) | assumption)
              have hx18 := bt_at (⟨#[0, 1, 2, 2, 3, 3, 3, 3, 4, 4, 4, 4, 4, 4, 4, 4, 5, 5, 5, 5, 5, 5, 5, 5, 5, 5, 5, 5, 5, 5, 5, 5, 6, 6, 6, 6, 6, 6, 6, 6, 6, 6, 6, 6, 6, 6, 6, 6, 6, 6, 6, 6, 6, 6, 6, 6, 6, 6, 6, 6, 6, 6, 6, 6, 7, 7, 7, 7, 7, 7, 7, 7, 7, 7, 7, 7, 7, 7, 7, 7, 7, 7, 7, 7, 7, 7, 7, 7, 7, 7, 7, 7, 7, 7, 7, 7, 7, 7, 7, 7, 7, 7, 7, 7, 7, 7, 7, 7, 7, 7, 7, 7, 7, 7, 7, 7, 7, 7, 7, 7, 7, 7, 7, 7, 7, 7, 7, 7, 8, 8, 8, 8, 8, 8, 8, 8, 8, 8, 8, 8, 8, 8, 8, 8, 8, 8, 8, 8, 8, 8, 8, 8, 8, 8, 8, 8, 8, 8, 8, 8, 8, 8, 8, 8, 8, 8, 8, 8, 8, 8, 8, 8, 8, 8, 8, 8, 8, 8, 8, 8, 8, 8, 8, 8, 8, 8, 8, 8, 8, 8, 8, 8, 8, 8, 8, 8, 8, 8, 8, 8, 8, 8, 8, 8, 8, 8, 8, 8, 8, 8, 8, 8, 8, 8, 8, 8, 8, 8, 8, 8, 8, 8, 8, 8, 8, 8, 8, 8, 8, 8, 8, 8, 8, 8, 8, 8, 8, 8, 8, 8, 8, 8, 8, 8, 8, 8, 8, 8, 8, 8, 8, 8, 8, 8, 8, 8]⟩ : ByteArray) (ji15)
              replace p18 := eq_true p18
              replace q18 := eq_true q18
              go_wp2
              go_ret
              exact ⟨by first | rfl | (simp; done) | (simp only [← hji15] <;> (first | rfl | simp)) | (simp [*]; done), by repeat (first | exact Drawn0.refl _ | apply Drawn0.step)⟩
            · rw [if_neg c17] at H
              exact absurd H (by simp)
          · rw [if_neg c16] at H
            exact absurd H (by simp)
        · rw [if_neg c14] at H
          have c14b0 : decide (256 ≤ x0_1) = false := decide_eq_false c14
          clear c14
          obtain ⟨ji19, hji19⟩ : ∃ j_ : Int, ((x0_1) % 256) = j_ := ⟨_, rfl⟩
          replace H : (if 0 ≤ (ji19) then (if (ji19) < 256 then (some (wrap64 (x2_1 + (wrap64 (bt (⟨#[0, 1, 2, 2, 3, 3, 3, 3, 4, 4, 4, 4, 4, 4, 4, 4, 5, 5, 5, 5, 5, 5, 5, 5, 5, 5, 5, 5, 5, 5, 5, 5, 6, 6, 6, 6, 6, 6, 6, 6, 6, 6, 6, 6, 6, 6, 6, 6, 6, 6, 6, 6, 6, 6, 6, 6, 6, 6, 6, 6, 6, 6, 6, 6, 7, 7, 7, 7, 7, 7, 7, 7, 7, 7, 7, 7, 7, 7, 7, 7, 7, 7, 7, 7, 7, 7, 7, 7, 7, 7, 7, 7, 7, 7, 7, 7, 7, 7, 7, 7, 7, 7, 7, 7, 7, 7, 7, 7, 7, 7, 7, 7, 7, 7, 7, 7, 7, 7, 7, 7, 7, 7, 7, 7, 7, 7, 7, 7, 8, 8, 8, 8, 8, 8, 8, 8, 8, 8, 8, 8, 8, 8, 8, 8, 8, 8, 8, 8, 8, 8, 8, 8, 8, 8, 8, 8, 8, 8, 8, 8, 8, 8, 8, 8, 8, 8, 8, 8, 8, 8, 8, 8, 8, 8, 8, 8, 8, 8, 8, 8, 8, 8, 8, 8, 8, 8, 8, 8, 8, 8, 8, 8, 8, 8, 8, 8, 8, 8, 8, 8, 8, 8, 8, 8, 8, 8, 8, 8, 8, 8, 8, 8, 8, 8, 8, 8, 8, 8, 8, 8, 8, 8, 8, 8, 8, 8, 8, 8, 8, 8, 8, 8, 8, 8, 8, 8, 8, 8, 8, 8, 8, 8, 8, 8, 8, 8, 8, 8, 8, 8, 8, 8, 8, 8, 8, 8]⟩ : ByteArray) (ji19)))))) else (none)) else (none)) = some r := by first | (rw [hji19] at H; exact H) | (simp only [hji19] at H ⊢; exact H)
          by_cases c20 : 0 ≤ (ji19)
          · rw [if_pos c20] at H
            have c20b0 : decide (0 ≤ (ji19)) = true := decide_eq_true c20
            clear c20
            by_cases c21 : (ji19) < 256
            · rw [if_pos c21] at H
              have c21b0 : decide ((ji19) < 256) = true := decide_eq_true c21
              clear c21
              obtain rfl := Option.some.inj H
              have p22 : 0 ≤ ((ji19) : Int) := of_decide_eq_true (by first | (with_reducible assumption) | assumption)
              have q22 : (ji19) < (256 : Int) := of_decide_eq_true (by first | (with_reducible assumption) | assumption)
              have hx22 := bt_at (⟨#[0, 1, 2, 2, 3, 3, 3, 3, 4, 4, 4, 4, 4, 4, 4, 4, 5, 5, 5, 5, 5, 5, 5, 5, 5, 5, 5, 5, 5, 5, 5, 5, 6, 6, 6, 6, 6, 6, 6, 6, 6, 6, 6, 6, 6, 6, 6, 6, 6, 6, 6, 6, 6, 6, 6, 6, 6, 6, 6, 6, 6, 6, 6, 6, 7, 7, 7, 7, 7, 7, 7, 7, 7, 7, 7, 7, 7, 7, 7, 7, 7, 7, 7, 7, 7, 7, 7, 7, 7, 7, 7, 7, 7, 7, 7, 7, 7, 7, 7, 7, 7, 7, 7, 7, 7, 7, 7, 7, 7, 7, 7, 7, 7, 7, 7, 7, 7, 7, 7, 7, 7, 7, 7, 7, 7, 7, 7, 7, 8, 8, 8, 8, 8, 8, 8, 8, 8, 8, 8, 8, 8, 8, 8, 8, 8, 8, 8, 8, 8, 8, 8, 8, 8, 8, 8, 8, 8, 8, 8, 8, 8, 8, 8, 8, 8, 8, 8, 8, 8, 8, 8, 8, 8, 8, 8, 8, 8, 8, 8, 8, 8, 8, 8, 8, 8, 8, 8, 8, 8, 8, 8, 8, 8, 8, 8, 8, 8, 8, 8, 8, 8, 8, 8, 8, 8, 8, 8, 8, 8, 8, 8, 8, 8, 8, 8, 8, 8, 8, 8, 8, 8, 8, 8, 8, 8, 8, 8, 8, 8, 8, 8, 8, 8, 8, 8, 8, 8, 8, 8, 8, 8, 8, 8, 8, 8, 8, 8, 8, 8, 8, 8, 8, 8, 8, 8, 8]⟩ : ByteArray) (ji19)
              replace p22 := eq_true p22
              replace q22 := eq_true q22
              go_wp2
              go_ret
              exact ⟨by first | rfl | (simp; done) | (simp only [← hji19] <;> (first | rfl | simp)) | (simp [*]; done), by repeat (first | exact Drawn0.refl _ | apply Drawn0.step)⟩
            · rw [if_neg c21] at H
              exact absurd H (by simp)
          · rw [if_neg c20] at H
            exact absurd H (by simp)
end Go.Proofs.YtndeikikeeeigaaDoor.Q
end
section
namespace Go.Proofs.YtndeikikeeeigaaDoor.Q
open Go.RowKit Go.Proofs.YtndeikikeeeigaaDoorW.PrintWords Go.Proofs.YtndeikikeeeigaaDoorW.PrintLast Go.Proofs.YtndeikikeeeigaaDoorW.PrintMore
attribute [local go_sem] max2_int min2_int max_two min_two max_three min_three max_four min_four
set_option linter.unusedVariables false
set_option linter.unusedSimpArgs false
def codec_width.f (k : Nat) (a0 : Int) : Option (Int) := (bits_Len64.f k a0).bind fun t101 => (some (mx 1 (wrap64 (Int.tdiv (wrap64 (t101 + 7)) 8))))
theorem codec_width.mono : ∀ a0 k, LeO (codec_width.f k a0) (codec_width.f (k + 1) a0) := by
  intro a0 k
  unfold codec_width.f
  repeat' first
      | (with_reducible exact bits_Len64.mono _ _)
      | (with_reducible exact LeO.refl _)
      | (with_reducible exact LeO.none _)
      | (with_reducible refine LeO.ite ?_ ?_)
      | (with_reducible refine LeO.bind ?_ (fun _ => ?_))
      | exact bits_Len64.mono _ _
      | exact LeO.none _
      | refine LeO.ite ?_ ?_
      | refine LeO.bind ?_ (fun _ => ?_)
set_option maxHeartbeats 8000000 in
set_option maxRecDepth 100000 in
theorem codec_width.calls (k : Nat) (a0 : Int) (r : Int) (w : World) (hG : Glob w) (h : codec_width.f k a0 = some r) :
    Calls Tryd.prog 63 #[.int .u64 a0] w fun e w' => e = .returned (.int .i64 r) ∧ Below w.heap.size w w' := by
  have HG := Aside0.mk hG
  clear hG
  have HB := Aside0.mk (Below.refl w.heap.size w)
  have H : ((bits_Len64.f k a0).bind fun t101 => (some (mx 1 (wrap64 (Int.tdiv (wrap64 (t101 + 7)) 8))))) = some r := h
  clear h
  replace H := Option.bind_eq_some_iff.mp H
  obtain ⟨t101, A20, H⟩ := H
  replace H : (some (mx 1 (wrap64 (Int.tdiv (wrap64 (t101 + 7)) 8)))) = some r := H
  have A2 := Aside0.mk A20
  clear A20
  obtain ⟨ji3, hji3⟩ : ∃ j_ : Int, (mx 1 (wrap64 (Int.tdiv (wrap64 (t101 + 7)) 8))) = j_ := ⟨_, rfl⟩
  replace H : (some ji3) = some r := by first | (rw [hji3] at H; exact H) | (simp only [hji3] at H ⊢; exact H)
  (try rw [hji3] at A2)
  (try (have hji3l : 1 ≤ ji3 := by (rw [← hji3]; unfold mx; (repeat' split) <;> omega)))
  (try (have hji3m : 0 ≤ ji3 := by omega))
  have hji3_ : (if 1 < (wrap64 (Int.tdiv (wrap64 (t101 + 7)) 8)) then (wrap64 (Int.tdiv (wrap64 (t101 + 7)) 8)) else 1) = ji3 := hji3
  obtain rfl := Option.some.inj H
  go_enter Tryd.func63, Tryd.ntmps63
  go_wp2_with (first | ((with_reducible refine gate_callee (f := 66) rfl ?_); refine goesL_ (some 4) rfl rfl Tryd.func66 (by kernel_rfl) rfl #[.int .u64 a0] rfl (by (try simp only [List.map_toArray, List.map_cons, List.map_nil]); first | done | rfl | (simp only [List.length_drop, List.length_take]; rfl)) ?_; (with_reducible refine (bits_Len64.calls k a0 t101 _ ?side99  A2.out).mono ?_); (case side99 => first | exact HG.out | exact Glob.below HG.out (by repeat (first | (with_reducible first | exact HB.out | apply below_alloc | apply pw_below_drewN | apply below_drew1) | exact HB.out))); rintro e w' ⟨rfl, ⟨nd, rfl⟩⟩; refine ⟨_, rfl, ?_⟩))
  go_ret
  exact ⟨by first | rfl | (simp [errW_none, errW_some] <;> rfl) | (simp only [← hji3]; first | rfl | (simp [errW_none, errW_some] <;> rfl)) | (simp [*, errW_none, errW_some] <;> rfl), by repeat (first | (with_reducible first | exact HB.out | apply below_alloc | apply pw_below_drewN | apply below_drew1) | exact HB.out)⟩
end Go.Proofs.YtndeikikeeeigaaDoor.Q
end
section
namespace Go.Proofs.YtndeikikeeeigaaDoor.Q
open Go.RowKit Go.Proofs.YtndeikikeeeigaaDoorW.PrintWords Go.Proofs.YtndeikikeeeigaaDoorW.PrintLast Go.Proofs.YtndeikikeeeigaaDoorW.PrintMore
attribute [local go_sem] max2_int min2_int max_two min_two max_three min_three max_four min_four
set_option linter.unusedVariables false
set_option linter.unusedSimpArgs false
mutual
def codec_kind.j0 : Nat → ByteArray → Int → Bool → Option (Int)
  | 0, _, _, _ => none
  | k + 1, x0, x1, x14 => if x14 = true then (some 0) else (if 0 ≤ x1 then (if x1 < (x0.size : Int) then (if (bt x0 x1) = 0 then (some 1) else (if ((bt x0 x1) / 16) > 4 then (some 0) else (if ((bt x0 x1) / 16) = 0 then (codec_kind.j1 k ((bt x0 x1) / 16) (Go.bits .and .u8 (bt x0 x1) 15) (decide ((Go.bits .and .u8 (bt x0 x1) 15) > 2))) else (codec_kind.j1 k ((bt x0 x1) / 16) (Go.bits .and .u8 (bt x0 x1) 15) false)))) else (none)) else (none))
def codec_kind.j1 : Nat → Int → Int → Bool → Option (Int)
  | 0, _, _, _ => none
  | k + 1, x5, x6, x31 => if x31 = true then (some 0) else (if x5 ≥ 3 then (codec_kind.j2 k x5 x6 (x6 != 0)) else (codec_kind.j2 k x5 x6 false))
def codec_kind.j2 : Nat → Int → Int → Bool → Option (Int)
  | 0, _, _, _ => none
  | k + 1, x5, x6, x31 => if x31 = true then (some 0) else (if x5 = 1 then (if x6 < 1 then (some 0) else (if x6 > 8 then (some 0) else (if 0 ≤ x5 then (if x5 < 5 then (some (rd gtab x5)) else (none)) else (none)))) else (if x5 = 2 then (if x6 < 1 then (some 0) else (if x6 > 8 then (some 0) else (if 0 ≤ x5 then (if x5 < 5 then (some (rd gtab x5)) else (none)) else (none)))) else (if 0 ≤ x5 then (if x5 < 5 then (some (rd gtab x5)) else (none)) else (none))))
end
def codec_kind.f (k : Nat) (a0 : ByteArray) (a1 : Int) : Option (Int) := if a1 < 0 then (codec_kind.j0 k a0 a1 true) else (codec_kind.j0 k a0 a1 (decide (a1 ≥ (a0.size : Int))))
theorem codec_kind.mono_l : ∀ k, (∀ y0 y1 y2, LeO (codec_kind.j0 k y0 y1 y2) (codec_kind.j0 (k + 1) y0 y1 y2)) ∧ (∀ y0 y1 y2, LeO (codec_kind.j1 k y0 y1 y2) (codec_kind.j1 (k + 1) y0 y1 y2)) ∧ (∀ y0 y1 y2, LeO (codec_kind.j2 k y0 y1 y2) (codec_kind.j2 (k + 1) y0 y1 y2))
  | 0 => ⟨fun _ _ _ r h => by simp [codec_kind.j0] at h, fun _ _ _ r h => by simp [codec_kind.j1] at h, fun _ _ _ r h => by simp [codec_kind.j2] at h⟩
  | k + 1 => by
    obtain ⟨ih0, ih1, ih2⟩ := codec_kind.mono_l k
    refine ⟨?_, ?_, ?_⟩
    · intro y0 y1 y2
      unfold codec_kind.j0
      repeat' first
      | (with_reducible exact ih0 _ _ _)
      | (with_reducible exact ih1 _ _ _)
      | (with_reducible exact ih2 _ _ _)
      | (with_reducible exact LeO.refl _)
      | (with_reducible exact LeO.none _)
      | (with_reducible refine LeO.ite ?_ ?_)
      | (with_reducible refine LeO.bind ?_ (fun _ => ?_))
      | exact ih0 _ _ _
      | exact ih1 _ _ _
      | exact ih2 _ _ _
      | exact LeO.none _
      | refine LeO.ite ?_ ?_
      | refine LeO.bind ?_ (fun _ => ?_)
    · intro y0 y1 y2
      unfold codec_kind.j1
      repeat' first
      | (with_reducible exact ih0 _ _ _)
      | (with_reducible exact ih1 _ _ _)
      | (with_reducible exact ih2 _ _ _)
      | (with_reducible exact LeO.refl _)
      | (with_reducible exact LeO.none _)
      | (with_reducible refine LeO.ite ?_ ?_)
      | (with_reducible refine LeO.bind ?_ (fun _ => ?_))
      | exact ih0 _ _ _
      | exact ih1 _ _ _
      | exact ih2 _ _ _
      | exact LeO.none _
      | refine LeO.ite ?_ ?_
      | refine LeO.bind ?_ (fun _ => ?_)
    · intro y0 y1 y2
      unfold codec_kind.j2
      repeat' first
      | (with_reducible exact ih0 _ _ _)
      | (with_reducible exact ih1 _ _ _)
      | (with_reducible exact ih2 _ _ _)
      | (with_reducible exact LeO.refl _)
      | (with_reducible exact LeO.none _)
      | (with_reducible refine LeO.ite ?_ ?_)
      | (with_reducible refine LeO.bind ?_ (fun _ => ?_))
      | exact ih0 _ _ _
      | exact ih1 _ _ _
      | exact ih2 _ _ _
      | exact LeO.none _
      | refine LeO.ite ?_ ?_
      | refine LeO.bind ?_ (fun _ => ?_)
theorem codec_kind.mono : ∀ a0 a1 k, LeO (codec_kind.f k a0 a1) (codec_kind.f (k + 1) a0 a1) := by
  intro a0 a1 k
  obtain ⟨ih0, ih1, ih2⟩ := codec_kind.mono_l k
  unfold codec_kind.f
  repeat' first
      | (with_reducible exact ih0 _ _ _)
      | (with_reducible exact ih1 _ _ _)
      | (with_reducible exact ih2 _ _ _)
      | (with_reducible exact LeO.refl _)
      | (with_reducible exact LeO.none _)
      | (with_reducible refine LeO.ite ?_ ?_)
      | (with_reducible refine LeO.bind ?_ (fun _ => ?_))
      | exact ih0 _ _ _
      | exact ih1 _ _ _
      | exact ih2 _ _ _
      | exact LeO.none _
      | refine LeO.ite ?_ ?_
      | refine LeO.bind ?_ (fun _ => ?_)
set_option maxHeartbeats 8000000 in
set_option maxRecDepth 100000 in
theorem codec_kind.calls (k : Nat) (a0 : ByteArray) (a1 : Int) (r : Int) (w : World) (hG : Glob w) (h : codec_kind.f k a0 a1 = some r) :
    Calls Tryd.prog 49 #[.string a0, .int .i64 a1] w fun e w' => e = .returned (.int .i64 r) ∧ Drawn0 w w' := by
  have HG := Aside0.mk hG
  clear hG
  have H : (if a1 < 0 then (codec_kind.j0 k a0 a1 true) else (codec_kind.j0 k a0 a1 (decide (a1 ≥ (a0.size : Int))))) = some r := h
  clear h
  have HC3 := Aside0.mk H
  clear H
  go_enter Tryd.func49, Tryd.ntmps49
  go_upto_region 1 with (fail)
  repeat (go_quiet (fail); go_upto_region 1 with (fail))
  go_cut [14] (fun v14 wc => ∃ (kq : Nat) (x14_2 : Bool), v14 = .bool x14_2 ∧ Aside0 (codec_kind.j0 kq a0 a1 x14_2 = some r) ∧ Aside0 (kq ≤ k) ∧ Drawn0 w wc)
  case first =>
    have H := HC3.out
    clear HC3
    by_cases c4 : a1 < 0
    · rw [if_pos c4] at H
      have c4b0 : decide (a1 < 0) = true := decide_eq_true c4
      clear c4
      (first | rw [c4b0] | (simp only [i64_w, i32_w]; rw [c4b0]) | skip)
      have H' := Aside0.mk H
      clear H
      go_wp2
      repeat (go_quiet (fail); try go_wp2)
      go_meet
      case rel => exact ⟨_, (true), (by first | rfl | (simp; done) | (simp [*]; done)), H', ⟨by first | omega | exact Nat.le_refl _⟩, by repeat (first | exact Drawn0.refl _ | apply Drawn0.step)⟩
    · rw [if_neg c4] at H
      have c4b0 : decide (a1 < 0) = false := decide_eq_false c4
      clear c4
      (first | rw [c4b0] | (simp only [i64_w, i32_w]; rw [c4b0]) | skip)
      have H' := Aside0.mk H
      clear H
      go_wp2
      repeat (go_quiet (fail); try go_wp2)
      go_meet
      case rel => exact ⟨_, (decide (a1 ≥ (a0.size : Int))), (by first | rfl | (simp; done) | (simp [*]; done)), H', ⟨by first | omega | exact Nat.le_refl _⟩, by repeat (first | exact Drawn0.refl _ | apply Drawn0.step)⟩
  case rest =>
    clear HC3
    try clear p2
    try clear c4
    try clear c4b0
    obtain ⟨kq, x14_2, rfl, HA, HJ2, ⟨mc2, rfl⟩⟩ := hcut
    cases kq with
    | zero => exact absurd HA.out (by simp [codec_kind.j0])
    | succ kj2 =>
      have H := HA.out
      clear HA
      simp only [codec_kind.j0] at H
      by_cases c5 : x14_2 = true
      · subst c5
        have H1 : (some 0) = some r := by rw [if_pos rfl] at H; exact H
        clear H
        have H := H1
        clear H1
        obtain rfl := Option.some.inj H
        go_wp2
        repeat (go_quiet (fail); try go_wp2)
        go_ret
        exact ⟨by first | rfl | (simp; done) | (simp [*]; done), by repeat (first | exact Drawn0.refl _ | apply Drawn0.step)⟩
      · replace c5 := Bool.eq_false_iff.mpr c5
        subst c5
        have H1 : (if 0 ≤ a1 then (if a1 < (a0.size : Int) then (if (bt a0 a1) = 0 then (some 1) else (if ((bt a0 a1) / 16) > 4 then (some 0) else (if ((bt a0 a1) / 16) = 0 then (codec_kind.j1 kj2 ((bt a0 a1) / 16) (Go.bits .and .u8 (bt a0 a1) 15) (decide ((Go.bits .and .u8 (bt a0 a1) 15) > 2))) else (codec_kind.j1 kj2 ((bt a0 a1) / 16) (Go.bits .and .u8 (bt a0 a1) 15) false)))) else (none)) else (none)) = some r := by rw [if_neg (show ¬ (false = true) by decide)] at H; exact H
        clear H
        have H := H1
        clear H1
        by_cases c6 : 0 ≤ a1
        · rw [if_pos c6] at H
          have c6b0 : decide (0 ≤ a1) = true := decide_eq_true c6
          clear c6
          by_cases c7 : a1 < (a0.size : Int)
          · rw [if_pos c7] at H
            have c7b0 : decide (a1 < (a0.size : Int)) = true := decide_eq_true c7
            clear c7
            by_cases c11 : (bt a0 a1) = 0
            · rw [if_pos c11] at H
              have c11b0 : ((bt a0 a1) == 0) = true := beq_iff_eq.mpr c11
              have c11b1 : ((bt a0 a1) != 0) = false := bne_eq_false_iff_eq.mpr c11
              clear c11
              obtain rfl := Option.some.inj H
              have p8 : 0 ≤ (a1 : Int) := of_decide_eq_true (by first | (with_reducible assumption) | assumption)
              have q8 : a1 < (a0.size : Int) := of_decide_eq_true (by first | (with_reducible assumption) | assumption)
              have hx8 := bt_at a0 a1
              replace p8 := eq_true p8
              replace q8 := eq_true q8
              have p9 : 0 ≤ (a1 : Int) := of_decide_eq_true (by first | (with_reducible assumption) | assumption)
              have q9 : a1 < (a0.size : Int) := of_decide_eq_true (by first | (with_reducible assumption) | assumption)
              have hx9 := bt_at a0 a1
              replace p9 := eq_true p9
              replace q9 := eq_true q9
              have p10 : 0 ≤ (a1 : Int) := of_decide_eq_true (by first | (with_reducible assumption) | assumption)
              have q10 : a1 < (a0.size : Int) := of_decide_eq_true (by first | (with_reducible assumption) | assumption)
              have hx10 := bt_at a0 a1
              replace p10 := eq_true p10
              replace q10 := eq_true q10
              go_wp2
              repeat (go_quiet (fail); try go_wp2)
              go_ret
              exact ⟨by first | rfl | (simp; done) | (simp [*]; done), by repeat (first | exact Drawn0.refl _ | apply Drawn0.step)⟩
            · rw [if_neg c11] at H
              have c11b0 : ((bt a0 a1) == 0) = false := beq_eq_false_iff_ne.mpr c11
              have c11b1 : ((bt a0 a1) != 0) = true := bne_iff_ne.mpr c11
              by_cases c12 : ((bt a0 a1) / 16) > 4
              · rw [if_pos c12] at H
                have c12b0 : decide (4 < ((bt a0 a1) / 16)) = true := decide_eq_true c12
                clear c12
                obtain rfl := Option.some.inj H
                have p8 : 0 ≤ (a1 : Int) := of_decide_eq_true (by first | (with_reducible assumption) | assumption)
                have q8 : a1 < (a0.size : Int) := of_decide_eq_true (by first | (with_reducible assumption) | assumption)
                have hx8 := bt_at a0 a1
                replace p8 := eq_true p8
                replace q8 := eq_true q8
                have p9 : 0 ≤ (a1 : Int) := of_decide_eq_true (by first | (with_reducible assumption) | assumption)
                have q9 : a1 < (a0.size : Int) := of_decide_eq_true (by first | (with_reducible assumption) | assumption)
                have hx9 := bt_at a0 a1
                replace p9 := eq_true p9
                replace q9 := eq_true q9
                have p10 : 0 ≤ (a1 : Int) := of_decide_eq_true (by first | (with_reducible assumption) | assumption)
                have q10 : a1 < (a0.size : Int) := of_decide_eq_true (by first | (with_reducible assumption) | assumption)
                have hx10 := bt_at a0 a1
                replace p10 := eq_true p10
                replace q10 := eq_true q10
                go_wp2
                repeat (go_quiet (fail); try go_wp2)
                go_ret
                exact ⟨by first | rfl | (simp; done) | (simp [*]; done), by repeat (first | exact Drawn0.refl _ | apply Drawn0.step)⟩
              · rw [if_neg c12] at H
                have c12b0 : decide (4 < ((bt a0 a1) / 16)) = false := decide_eq_false c12
                clear c12
                have HC13 := Aside0.mk H
                clear H
                have p8 : 0 ≤ (a1 : Int) := of_decide_eq_true (by first | (with_reducible assumption) | assumption)
                have q8 : a1 < (a0.size : Int) := of_decide_eq_true (by first | (with_reducible assumption) | assumption)
                have hx8 := bt_at a0 a1
                replace p8 := eq_true p8
                replace q8 := eq_true q8
                have p9 : 0 ≤ (a1 : Int) := of_decide_eq_true (by first | (with_reducible assumption) | assumption)
                have q9 : a1 < (a0.size : Int) := of_decide_eq_true (by first | (with_reducible assumption) | assumption)
                have hx9 := bt_at a0 a1
                replace p9 := eq_true p9
                replace q9 := eq_true q9
                have p10 : 0 ≤ (a1 : Int) := of_decide_eq_true (by first | (with_reducible assumption) | assumption)
                have q10 : a1 < (a0.size : Int) := of_decide_eq_true (by first | (with_reducible assumption) | assumption)
                have hx10 := bt_at a0 a1
                replace p10 := eq_true p10
                replace q10 := eq_true q10
                go_upto_region 8 with (fail)
                repeat (go_quiet (fail); go_upto_region 8 with (fail))
                go_cut [31] (fun v31 wc => ∃ (kq : Nat) (x31_12 : Bool), v31 = .bool x31_12 ∧ Aside0 (codec_kind.j1 kq ((bt a0 a1) / 16) (Go.bits .and .u8 (bt a0 a1) 15) x31_12 = some r) ∧ Aside0 (kq ≤ kj2) ∧ Drawn0 w wc)
                case first =>
                  have H := HC13.out
                  clear HC13
                  by_cases c14 : ((bt a0 a1) / 16) = 0
                  · rw [if_pos c14] at H
                    have c14b0 : (((bt a0 a1) / 16) == 0) = true := beq_iff_eq.mpr c14
                    have c14b1 : (((bt a0 a1) / 16) != 0) = false := bne_eq_false_iff_eq.mpr c14
                    clear c14
                    (first | rw [c14b0] | (simp only [i64_w, i32_w]; rw [c14b0]) | skip)
                    have H' := Aside0.mk H
                    clear H
                    go_wp2
                    repeat (go_quiet (fail); try go_wp2)
                    go_meet
                    case rel => exact ⟨_, (decide ((Go.bits .and .u8 (bt a0 a1) 15) > 2)), (by first | rfl | (simp; done) | (simp [*]; done)), H', ⟨by have := HJ2.out; first | omega | exact Nat.le_refl _⟩, by repeat (first | exact Drawn0.refl _ | apply Drawn0.step)⟩
                  · rw [if_neg c14] at H
                    have c14b0 : (((bt a0 a1) / 16) == 0) = false := beq_eq_false_iff_ne.mpr c14
                    have c14b1 : (((bt a0 a1) / 16) != 0) = true := bne_iff_ne.mpr c14
                    (first | rw [c14b0] | (simp only [i64_w, i32_w]; rw [c14b0]) | skip)
                    have H' := Aside0.mk H
                    clear H
                    go_wp2
                    repeat (go_quiet (fail); try go_wp2)
                    go_meet
                    case rel => exact ⟨_, (false), (by first | rfl | (simp; done) | (simp [*]; done)), H', ⟨by have := HJ2.out; first | omega | exact Nat.le_refl _⟩, by repeat (first | exact Drawn0.refl _ | apply Drawn0.step)⟩
                case rest =>
                  clear HC13
                  try clear c1
                  try clear p1
                  try clear q1
                  try clear hx1
                  try clear c2
                  try clear p2
                  try clear c4
                  try clear c4b0
                  try clear c5
                  try clear c6
                  try clear c6b0
                  try clear c7
                  try clear c7b0
                  try clear p8
                  try clear q8
                  try clear hx8
                  try clear p9
                  try clear q9
                  try clear hx9
                  try clear p10
                  try clear q10
                  try clear hx10
                  try clear c11
                  try clear c11b0
                  try clear c11b1
                  try clear c12
                  try clear c12b0
                  try clear c14
                  try clear c14b0
                  try clear c14b1
                  try clear p10
                  try clear p2
                  try clear p8
                  try clear p9
                  try clear q10
                  try clear q8
                  try clear q9
                  obtain ⟨kq, x31_12, rfl, HA, HJ12, ⟨mc12, rfl⟩⟩ := hcut
                  cases kq with
                  | zero => exact absurd HA.out (by simp [codec_kind.j1])
                  | succ kj12 =>
                    have H := HA.out
                    clear HA
                    simp only [codec_kind.j1] at H
                    by_cases c15 : x31_12 = true
                    · subst c15
                      have H1 : (some 0) = some r := by rw [if_pos rfl] at H; exact H
                      clear H
                      have H := H1
                      clear H1
                      obtain rfl := Option.some.inj H
                      go_wp2
                      repeat (go_quiet (fail); try go_wp2)
                      go_ret
                      exact ⟨by first | rfl | (simp; done) | (simp [*]; done), by repeat (first | exact Drawn0.refl _ | apply Drawn0.step)⟩
                    · replace c15 := Bool.eq_false_iff.mpr c15
                      subst c15
                      have H1 : (if ((bt a0 a1) / 16) ≥ 3 then (codec_kind.j2 kj12 ((bt a0 a1) / 16) (Go.bits .and .u8 (bt a0 a1) 15) ((Go.bits .and .u8 (bt a0 a1) 15) != 0)) else (codec_kind.j2 kj12 ((bt a0 a1) / 16) (Go.bits .and .u8 (bt a0 a1) 15) false)) = some r := by rw [if_neg (show ¬ (false = true) by decide)] at H; exact H
                      clear H
                      have H := H1
                      clear H1
                      have HC16 := Aside0.mk H
                      clear H
                      go_upto_region 9 with (fail)
                      repeat (go_quiet (fail); go_upto_region 9 with (fail))
                      go_cut [31] (fun v31 wc => ∃ (kq : Nat) (x31_15 : Bool), v31 = .bool x31_15 ∧ Aside0 (codec_kind.j2 kq ((bt a0 a1) / 16) (Go.bits .and .u8 (bt a0 a1) 15) x31_15 = some r) ∧ Aside0 (kq ≤ kj12) ∧ Drawn0 w wc)
                      case first =>
                        have H := HC16.out
                        clear HC16
                        by_cases c17 : ((bt a0 a1) / 16) ≥ 3
                        · rw [if_pos c17] at H
                          have c17b0 : decide (3 ≤ ((bt a0 a1) / 16)) = true := decide_eq_true c17
                          clear c17
                          (first | rw [c17b0] | (simp only [i64_w, i32_w]; rw [c17b0]) | skip)
                          have H' := Aside0.mk H
                          clear H
                          go_wp2
                          repeat (go_quiet (fail); try go_wp2)
                          go_meet
                          case rel => exact ⟨_, (((Go.bits .and .u8 (bt a0 a1) 15) != 0)), (by first | rfl | (simp; done) | (simp [*]; done)), H', ⟨by have := HJ2.out; have := HJ12.out; first | omega | exact Nat.le_refl _⟩, by repeat (first | exact Drawn0.refl _ | apply Drawn0.step)⟩
                        · rw [if_neg c17] at H
                          have c17b0 : decide (3 ≤ ((bt a0 a1) / 16)) = false := decide_eq_false c17
                          clear c17
                          (first | rw [c17b0] | (simp only [i64_w, i32_w]; rw [c17b0]) | skip)
                          have H' := Aside0.mk H
                          clear H
                          go_wp2
                          repeat (go_quiet (fail); try go_wp2)
                          go_meet
                          case rel => exact ⟨_, (false), (by first | rfl | (simp; done) | (simp [*]; done)), H', ⟨by have := HJ2.out; have := HJ12.out; first | omega | exact Nat.le_refl _⟩, by repeat (first | exact Drawn0.refl _ | apply Drawn0.step)⟩
                      case rest =>
                        clear HC16
                        try clear c1
                        try clear p1
                        try clear q1
                        try clear hx1
                        try clear c2
                        try clear p2
                        try clear c4
                        try clear c4b0
                        try clear c5
                        try clear c6
                        try clear c6b0
                        try clear c7
                        try clear c7b0
                        try clear p8
                        try clear q8
                        try clear hx8
                        try clear p9
                        try clear q9
                        try clear hx9
                        try clear p10
                        try clear q10
                        try clear hx10
                        try clear c11
                        try clear c11b0
                        try clear c11b1
                        try clear c12
                        try clear c12b0
                        try clear c14
                        try clear c14b0
                        try clear c14b1
                        try clear c15
                        try clear c17
                        try clear c17b0
                        try clear p1
                        try clear p10
                        try clear p2
                        try clear p8
                        try clear p9
                        try clear q1
                        try clear q10
                        try clear q8
                        try clear q9
                        obtain ⟨kq, x31_15, rfl, HA, HJ15, ⟨mc15, rfl⟩⟩ := hcut
                        cases kq with
                        | zero => exact absurd HA.out (by simp [codec_kind.j2])
                        | succ kj15 =>
                          have H := HA.out
                          clear HA
                          simp only [codec_kind.j2] at H
                          by_cases c18 : x31_15 = true
                          · subst c18
                            have H1 : (some 0) = some r := by rw [if_pos rfl] at H; exact H
                            clear H
                            have H := H1
                            clear H1
                            obtain rfl := Option.some.inj H
                            go_wp2
                            repeat (go_quiet (fail); try go_wp2)
                            go_ret
                            exact ⟨by first | rfl | (simp; done) | (simp [*]; done), by repeat (first | exact Drawn0.refl _ | apply Drawn0.step)⟩
                          · replace c18 := Bool.eq_false_iff.mpr c18
                            subst c18
                            have H1 : (if ((bt a0 a1) / 16) = 1 then (if (Go.bits .and .u8 (bt a0 a1) 15) < 1 then (some 0) else (if (Go.bits .and .u8 (bt a0 a1) 15) > 8 then (some 0) else (if 0 ≤ ((bt a0 a1) / 16) then (if ((bt a0 a1) / 16) < 5 then (some (rd gtab ((bt a0 a1) / 16))) else (none)) else (none)))) else (if ((bt a0 a1) / 16) = 2 then (if (Go.bits .and .u8 (bt a0 a1) 15) < 1 then (some 0) else (if (Go.bits .and .u8 (bt a0 a1) 15) > 8 then (some 0) else (if 0 ≤ ((bt a0 a1) / 16) then (if ((bt a0 a1) / 16) < 5 then (some (rd gtab ((bt a0 a1) / 16))) else (none)) else (none)))) else (if 0 ≤ ((bt a0 a1) / 16) then (if ((bt a0 a1) / 16) < 5 then (some (rd gtab ((bt a0 a1) / 16))) else (none)) else (none)))) = some r := by rw [if_neg (show ¬ (false = true) by decide)] at H; exact H
                            clear H
                            have H := H1
                            clear H1
                            by_cases c19 : ((bt a0 a1) / 16) = 1
                            · rw [if_pos c19] at H
                              have c19b0 : (((bt a0 a1) / 16) == 1) = true := beq_iff_eq.mpr c19
                              have c19b1 : (((bt a0 a1) / 16) != 1) = false := bne_eq_false_iff_eq.mpr c19
                              clear c19
                              by_cases c20 : (Go.bits .and .u8 (bt a0 a1) 15) < 1
                              · rw [if_pos c20] at H
                                have c20b0 : decide ((Go.bits .and .u8 (bt a0 a1) 15) < 1) = true := decide_eq_true c20
                                clear c20
                                obtain rfl := Option.some.inj H
                                go_wp2
                                repeat (go_quiet (fail); try go_wp2)
                                go_ret
                                exact ⟨by first | rfl | (simp; done) | (simp [*]; done), by repeat (first | exact Drawn0.refl _ | apply Drawn0.step)⟩
                              · rw [if_neg c20] at H
                                have c20b0 : decide ((Go.bits .and .u8 (bt a0 a1) 15) < 1) = false := decide_eq_false c20
                                clear c20
                                by_cases c21 : (Go.bits .and .u8 (bt a0 a1) 15) > 8
                                · rw [if_pos c21] at H
                                  have c21b0 : decide (8 < (Go.bits .and .u8 (bt a0 a1) 15)) = true := decide_eq_true c21
                                  clear c21
                                  obtain rfl := Option.some.inj H
                                  go_wp2
                                  repeat (go_quiet (fail); try go_wp2)
                                  go_ret
                                  exact ⟨by first | rfl | (simp; done) | (simp [*]; done), by repeat (first | exact Drawn0.refl _ | apply Drawn0.step)⟩
                                · rw [if_neg c21] at H
                                  have c21b0 : decide (8 < (Go.bits .and .u8 (bt a0 a1) 15)) = false := decide_eq_false c21
                                  clear c21
                                  obtain ⟨ji22, hji22⟩ : ∃ j_ : Int, ((bt a0 a1) / 16) = j_ := ⟨_, rfl⟩
                                  replace H : (if 0 ≤ (ji22) then (if (ji22) < 5 then (some (rd gtab (ji22))) else (none)) else (none)) = some r := by first | (rw [hji22] at H; exact H) | (simp only [hji22] at H ⊢; exact H)
                                  (try rw [hji22] at c12b0)
                                  (try rw [hji22] at c19b0)
                                  (try rw [hji22] at c19b1)
                                  by_cases c23 : 0 ≤ (ji22)
                                  · rw [if_pos c23] at H
                                    have c23b0 : decide (0 ≤ (ji22)) = true := decide_eq_true c23
                                    clear c23
                                    by_cases c24 : (ji22) < 5
                                    · rw [if_pos c24] at H
                                      have c24b0 : decide ((ji22) < 5) = true := decide_eq_true c24
                                      clear c24
                                      have hgc25 := gt_at HG.out (i := (ji22)) (by first | omega | (apply of_decide_eq_true; assumption)) (by first | omega | (apply of_decide_eq_true; assumption))
                                      have hgb26 : 0 ≤ (ji22) ∧ (ji22) < 5 := ⟨by first | omega | (apply of_decide_eq_true; assumption), by first | omega | (apply of_decide_eq_true; assumption)⟩
                                      obtain rfl := Option.some.inj H
                                      go_wp2
                                      repeat (go_quiet (fail); try go_wp2)
                                      go_ret
                                      exact ⟨by first | rfl | (simp; done) | (simp only [← hji22] <;> (first | rfl | simp)) | (simp [*]; done), by repeat (first | exact Drawn0.refl _ | apply Drawn0.step)⟩
                                    · rw [if_neg c24] at H
                                      exact absurd H (by simp)
                                  · rw [if_neg c23] at H
                                    exact absurd H (by simp)
                            · rw [if_neg c19] at H
                              have c19b0 : (((bt a0 a1) / 16) == 1) = false := beq_eq_false_iff_ne.mpr c19
                              have c19b1 : (((bt a0 a1) / 16) != 1) = true := bne_iff_ne.mpr c19
                              by_cases c27 : ((bt a0 a1) / 16) = 2
                              · rw [if_pos c27] at H
                                have c27b0 : (((bt a0 a1) / 16) == 2) = true := beq_iff_eq.mpr c27
                                have c27b1 : (((bt a0 a1) / 16) != 2) = false := bne_eq_false_iff_eq.mpr c27
                                clear c27
                                by_cases c28 : (Go.bits .and .u8 (bt a0 a1) 15) < 1
                                · rw [if_pos c28] at H
                                  have c28b0 : decide ((Go.bits .and .u8 (bt a0 a1) 15) < 1) = true := decide_eq_true c28
                                  clear c28
                                  obtain rfl := Option.some.inj H
                                  go_wp2
                                  repeat (go_quiet (fail); try go_wp2)
                                  go_ret
                                  exact ⟨by first | rfl | (simp; done) | (simp [*]; done), by repeat (first | exact Drawn0.refl _ | apply Drawn0.step)⟩
                                · rw [if_neg c28] at H
                                  have c28b0 : decide ((Go.bits .and .u8 (bt a0 a1) 15) < 1) = false := decide_eq_false c28
                                  clear c28
                                  by_cases c29 : (Go.bits .and .u8 (bt a0 a1) 15) > 8
                                  · rw [if_pos c29] at H
                                    have c29b0 : decide (8 < (Go.bits .and .u8 (bt a0 a1) 15)) = true := decide_eq_true c29
                                    clear c29
                                    obtain rfl := Option.some.inj H
                                    go_wp2
                                    repeat (go_quiet (fail); try go_wp2)
                                    go_ret
                                    exact ⟨by first | rfl | (simp; done) | (simp [*]; done), by repeat (first | exact Drawn0.refl _ | apply Drawn0.step)⟩
                                  · rw [if_neg c29] at H
                                    have c29b0 : decide (8 < (Go.bits .and .u8 (bt a0 a1) 15)) = false := decide_eq_false c29
                                    clear c29
                                    obtain ⟨ji30, hji30⟩ : ∃ j_ : Int, ((bt a0 a1) / 16) = j_ := ⟨_, rfl⟩
                                    replace H : (if 0 ≤ (ji30) then (if (ji30) < 5 then (some (rd gtab (ji30))) else (none)) else (none)) = some r := by first | (rw [hji30] at H; exact H) | (simp only [hji30] at H ⊢; exact H)
                                    (try rw [hji30] at c12b0)
                                    (try rw [hji30] at c19b0)
                                    (try rw [hji30] at c19b1)
                                    (try rw [hji30] at c27b0)
                                    (try rw [hji30] at c27b1)
                                    by_cases c31 : 0 ≤ (ji30)
                                    · rw [if_pos c31] at H
                                      have c31b0 : decide (0 ≤ (ji30)) = true := decide_eq_true c31
                                      clear c31
                                      by_cases c32 : (ji30) < 5
                                      · rw [if_pos c32] at H
                                        have c32b0 : decide ((ji30) < 5) = true := decide_eq_true c32
                                        clear c32
                                        have hgc33 := gt_at HG.out (i := (ji30)) (by first | omega | (apply of_decide_eq_true; assumption)) (by first | omega | (apply of_decide_eq_true; assumption))
                                        have hgb34 : 0 ≤ (ji30) ∧ (ji30) < 5 := ⟨by first | omega | (apply of_decide_eq_true; assumption), by first | omega | (apply of_decide_eq_true; assumption)⟩
                                        obtain rfl := Option.some.inj H
                                        go_wp2
                                        repeat (go_quiet (fail); try go_wp2)
                                        go_ret
                                        exact ⟨by first | rfl | (simp; done) | (simp only [← hji30] <;> (first | rfl | simp)) | (simp [*]; done), by repeat (first | exact Drawn0.refl _ | apply Drawn0.step)⟩
                                      · rw [if_neg c32] at H
                                        exact absurd H (by simp)
                                    · rw [if_neg c31] at H
                                      exact absurd H (by simp)
                              · rw [if_neg c27] at H
                                have c27b0 : (((bt a0 a1) / 16) == 2) = false := beq_eq_false_iff_ne.mpr c27
                                have c27b1 : (((bt a0 a1) / 16) != 2) = true := bne_iff_ne.mpr c27
                                obtain ⟨ji35, hji35⟩ : ∃ j_ : Int, ((bt a0 a1) / 16) = j_ := ⟨_, rfl⟩
                                replace H : (if 0 ≤ (ji35) then (if (ji35) < 5 then (some (rd gtab (ji35))) else (none)) else (none)) = some r := by first | (rw [hji35] at H; exact H) | (simp only [hji35] at H ⊢; exact H)
                                (try rw [hji35] at c12b0)
                                (try rw [hji35] at c19b0)
                                (try rw [hji35] at c19b1)
                                (try rw [hji35] at c27b0)
                                (try rw [hji35] at c27b1)
                                by_cases c36 : 0 ≤ (ji35)
                                · rw [if_pos c36] at H
                                  have c36b0 : decide (0 ≤ (ji35)) = true := decide_eq_true c36
                                  clear c36
                                  by_cases c37 : (ji35) < 5
                                  · rw [if_pos c37] at H
                                    have c37b0 : decide ((ji35) < 5) = true := decide_eq_true c37
                                    clear c37
                                    have hgc38 := gt_at HG.out (i := (ji35)) (by first | omega | (apply of_decide_eq_true; assumption)) (by first | omega | (apply of_decide_eq_true; assumption))
                                    have hgb39 : 0 ≤ (ji35) ∧ (ji35) < 5 := ⟨by first | omega | (apply of_decide_eq_true; assumption), by first | omega | (apply of_decide_eq_true; assumption)⟩
                                    obtain rfl := Option.some.inj H
                                    go_wp2
                                    repeat (go_quiet (fail); try go_wp2)
                                    go_ret
                                    exact ⟨by first | rfl | (simp; done) | (simp only [← hji35] <;> (first | rfl | simp)) | (simp [*]; done), by repeat (first | exact Drawn0.refl _ | apply Drawn0.step)⟩
                                  · rw [if_neg c37] at H
                                    exact absurd H (by simp)
                                · rw [if_neg c36] at H
                                  exact absurd H (by simp)
          · rw [if_neg c7] at H
            exact absurd H (by simp)
        · rw [if_neg c6] at H
          exact absurd H (by simp)
end Go.Proofs.YtndeikikeeeigaaDoor.Q
end
section
namespace Go.Proofs.YtndeikikeeeigaaDoor.Q
open Go.RowKit Go.Proofs.YtndeikikeeeigaaDoorW.PrintWords Go.Proofs.YtndeikikeeeigaaDoorW.PrintLast Go.Proofs.YtndeikikeeeigaaDoorW.PrintMore
attribute [local go_sem] max2_int min2_int max_two min_two max_three min_three max_four min_four
set_option linter.unusedVariables false
set_option linter.unusedSimpArgs false
def codec_spread.f (k : Nat) (a0 : Int) : Option (Int) := if a0 < 0 then ((bits_Len64.f k (IntKind.u64.wrap (Go.bits .xor .i64 (-1) a0))).bind fun t102 => (some (wrap64 (Int.tdiv (wrap64 (t102 + 8)) 8)))) else ((bits_Len64.f k (IntKind.u64.wrap (a0))).bind fun t103 => (some (wrap64 (Int.tdiv (wrap64 (t103 + 8)) 8))))
theorem codec_spread.mono : ∀ a0 k, LeO (codec_spread.f k a0) (codec_spread.f (k + 1) a0) := by
  intro a0 k
  unfold codec_spread.f
  repeat' first
      | (with_reducible exact bits_Len64.mono _ _)
      | (with_reducible exact LeO.refl _)
      | (with_reducible exact LeO.none _)
      | (with_reducible refine LeO.ite ?_ ?_)
      | (with_reducible refine LeO.bind ?_ (fun _ => ?_))
      | exact bits_Len64.mono _ _
      | exact LeO.none _
      | refine LeO.ite ?_ ?_
      | refine LeO.bind ?_ (fun _ => ?_)
set_option maxHeartbeats 8000000 in
set_option maxRecDepth 100000 in
theorem codec_spread.calls (k : Nat) (a0 : Int) (r : Int) (w : World) (hG : Glob w) (h : codec_spread.f k a0 = some r) :
    Calls Tryd.prog 64 #[.int .i64 a0] w fun e w' => e = .returned (.int .i64 r) ∧ Drawn0 w w' := by
  have HG := Aside0.mk hG
  clear hG
  have H : (if a0 < 0 then ((bits_Len64.f k (IntKind.u64.wrap (Go.bits .xor .i64 (-1) a0))).bind fun t102 => (some (wrap64 (Int.tdiv (wrap64 (t102 + 8)) 8)))) else ((bits_Len64.f k (IntKind.u64.wrap (a0))).bind fun t103 => (some (wrap64 (Int.tdiv (wrap64 (t103 + 8)) 8))))) = some r := h
  clear h
  by_cases c2 : a0 < 0
  · rw [if_pos c2] at H
    have c2b0 : decide (a0 < 0) = true := decide_eq_true c2
    clear c2
    replace H := Option.bind_eq_some_iff.mp H
    obtain ⟨t102, A30, H⟩ := H
    replace H : (some (wrap64 (Int.tdiv (wrap64 (t102 + 8)) 8))) = some r := H
    have A3 := Aside0.mk A30
    clear A30
    obtain rfl := Option.some.inj H
    go_enter Tryd.func64, Tryd.ntmps64
    go_wp2_with (first | ((with_reducible refine gate_callee (f := 66) rfl ?_); refine goesL_ (some 9) rfl rfl Tryd.func66 (by kernel_rfl) rfl #[.int .u64 (IntKind.u64.wrap (Go.bits .xor .i64 (-1) a0))] rfl (by (try simp only [List.map_toArray, List.map_cons, List.map_nil]); first | done | rfl | (simp only [List.length_drop, List.length_take]; rfl)) ?_; (with_reducible refine (bits_Len64.calls k (IntKind.u64.wrap (Go.bits .xor .i64 (-1) a0)) t102 _ ?side99  A3.out).mono ?_); (case side99 => first | exact HG.out | exact Glob.below HG.out (by repeat (first | (with_reducible first | exact HB.out | apply below_alloc | apply pw_below_drewN | apply below_drew1) | exact HB.out))); rintro e w' ⟨rfl, ⟨nd, rfl⟩⟩; refine ⟨_, rfl, ?_⟩))
    go_ret
    exact ⟨by first | rfl | (simp; done) | (simp [*]; done), by repeat (first | exact Drawn0.refl _ | apply Drawn0.step)⟩
  · rw [if_neg c2] at H
    have c2b0 : decide (a0 < 0) = false := decide_eq_false c2
    clear c2
    replace H := Option.bind_eq_some_iff.mp H
    obtain ⟨t103, A40, H⟩ := H
    replace H : (some (wrap64 (Int.tdiv (wrap64 (t103 + 8)) 8))) = some r := H
    have A4 := Aside0.mk A40
    clear A40
    obtain rfl := Option.some.inj H
    go_enter Tryd.func64, Tryd.ntmps64
    go_wp2_with (first | ((with_reducible refine gate_callee (f := 66) rfl ?_); refine goesL_ (some 9) rfl rfl Tryd.func66 (by kernel_rfl) rfl #[.int .u64 (IntKind.u64.wrap (a0))] rfl (by (try simp only [List.map_toArray, List.map_cons, List.map_nil]); first | done | rfl | (simp only [List.length_drop, List.length_take]; rfl)) ?_; (with_reducible refine (bits_Len64.calls k (IntKind.u64.wrap (a0)) t103 _ ?side99  A4.out).mono ?_); (case side99 => first | exact HG.out | exact Glob.below HG.out (by repeat (first | (with_reducible first | exact HB.out | apply below_alloc | apply pw_below_drewN | apply below_drew1) | exact HB.out))); rintro e w' ⟨rfl, ⟨nd, rfl⟩⟩; refine ⟨_, rfl, ?_⟩))
    go_ret
    exact ⟨by first | rfl | (simp; done) | (simp [*]; done), by repeat (first | exact Drawn0.refl _ | apply Drawn0.step)⟩
end Go.Proofs.YtndeikikeeeigaaDoor.Q
end
section
namespace Go.Proofs.YtndeikikeeeigaaDoor.Q
open Go.RowKit Go.Proofs.YtndeikikeeeigaaDoorW.PrintWords Go.Proofs.YtndeikikeeeigaaDoorW.PrintLast Go.Proofs.YtndeikikeeeigaaDoorW.PrintMore
attribute [local go_sem] max2_int min2_int max_two min_two max_three min_three max_four min_four
set_option linter.unusedVariables false
set_option linter.unusedSimpArgs false
def codec_raw.l0 : Nat → ByteArray → Int → Int → Int → Int → Int → Int → Option (Int × Int × Bool)
  | 0, _, _, _, _, _, _, _ => none
  | k + 1, x0, x1, x2, x9, x10, x31, x32 => if x32 < x31 then (if 0 ≤ (wrap64 ((wrap64 (x1 + 1)) + x32)) then (if (wrap64 ((wrap64 (x1 + 1)) + x32)) < (x0.size : Int) then (codec_raw.l0 k x0 x1 x2 x9 (Go.bits .or .u64 (IntKind.u64.wrap (x10 * 256)) (IntKind.u64.wrap (bt x0 (wrap64 ((wrap64 (x1 + 1)) + x32))))) x31 (wrap64 (x32 + 1))) else (none)) else (none)) else (if x2 = 3 then ((codec_width.f k x10).bind fun t105 => (some (x10, wrap64 ((wrap64 (x1 + 1)) + x9), (t105 == x9)))) else (if 0 ≤ (wrap64 (64 - (wrap64 (8 * x9)))) then ((codec_spread.f k (shr .i64 (wrap64 (shl .u64 x10 (wrap64 (64 - (wrap64 (8 * x9)))))) (wrap64 (64 - (wrap64 (8 * x9)))))).bind fun t106 => (some (IntKind.u64.wrap (shr .i64 (wrap64 (shl .u64 x10 (wrap64 (64 - (wrap64 (8 * x9)))))) (wrap64 (64 - (wrap64 (8 * x9))))), wrap64 ((wrap64 (x1 + 1)) + x9), (t106 == x9)))) else (none)))
def codec_raw.f (k : Nat) (a0 : ByteArray) (a1 : Int) (a2 : Int) : Option (Int × Int × Bool) := (codec_kind.f k a0 a1).bind fun t104 => (if t104 = a2 then (if 0 ≤ a1 then (if a1 < (a0.size : Int) then (if (wrap64 ((wrap64 (a1 + 1)) + (wrap64 (Go.bits .and .u8 (bt a0 a1) 15)))) > (a0.size : Int) then (some (0, 0, false)) else (codec_raw.l0 k a0 a1 a2 (wrap64 (Go.bits .and .u8 (bt a0 a1) 15)) 0 (wrap64 (Go.bits .and .u8 (bt a0 a1) 15)) 0)) else (none)) else (none)) else (some (0, 0, false)))
theorem codec_raw.mono_l : ∀ k, (∀ y0 y1 y2 y3 y4 y5 y6, LeO (codec_raw.l0 k y0 y1 y2 y3 y4 y5 y6) (codec_raw.l0 (k + 1) y0 y1 y2 y3 y4 y5 y6))
  | 0 => fun _ _ _ _ _ _ _ r h => by simp [codec_raw.l0] at h
  | k + 1 => by
    have ih0 := codec_raw.mono_l k
    · intro y0 y1 y2 y3 y4 y5 y6
      unfold codec_raw.l0
      repeat' first
      | (with_reducible exact ih0 _ _ _ _ _ _ _)
      | (with_reducible exact codec_kind.mono _ _ _)
      | (with_reducible exact codec_spread.mono _ _)
      | (with_reducible exact codec_width.mono _ _)
      | (with_reducible exact LeO.refl _)
      | (with_reducible exact LeO.none _)
      | (with_reducible refine LeO.ite ?_ ?_)
      | (with_reducible refine LeO.bind ?_ (fun _ => ?_))
      | exact ih0 _ _ _ _ _ _ _
      | exact codec_kind.mono _ _ _
      | exact codec_spread.mono _ _
      | exact codec_width.mono _ _
      | exact LeO.none _
      | refine LeO.ite ?_ ?_
      | refine LeO.bind ?_ (fun _ => ?_)
theorem codec_raw.mono : ∀ a0 a1 a2 k, LeO (codec_raw.f k a0 a1 a2) (codec_raw.f (k + 1) a0 a1 a2) := by
  intro a0 a1 a2 k
  have ih0 := codec_raw.mono_l k
  unfold codec_raw.f
  repeat' first
      | (with_reducible exact ih0 _ _ _ _ _ _ _)
      | (with_reducible exact codec_kind.mono _ _ _)
      | (with_reducible exact codec_spread.mono _ _)
      | (with_reducible exact codec_width.mono _ _)
      | (with_reducible exact LeO.refl _)
      | (with_reducible exact LeO.none _)
      | (with_reducible refine LeO.ite ?_ ?_)
      | (with_reducible refine LeO.bind ?_ (fun _ => ?_))
      | exact ih0 _ _ _ _ _ _ _
      | exact codec_kind.mono _ _ _
      | exact codec_spread.mono _ _
      | exact codec_width.mono _ _
      | exact LeO.none _
      | refine LeO.ite ?_ ?_
      | refine LeO.bind ?_ (fun _ => ?_)
set_option maxHeartbeats 8000000 in
set_option maxRecDepth 100000 in
theorem codec_raw.calls (k : Nat) (a0 : ByteArray) (a1 : Int) (a2 : Int) (r1 : Int) (r2 : Int) (r3 : Bool) (w : World) (hG : Glob w) (h : codec_raw.f k a0 a1 a2 = some (r1, r2, r3)) :
    Calls Tryd.prog 52 #[.string a0, .int .i64 a1, .int .i64 a2] w fun e w' => e = .returned (.tuple #[.int .u64 r1, .int .i64 r2, .bool r3]) ∧ Below w.heap.size w w' := by
  have HG := Aside0.mk hG
  clear hG
  have HB := Aside0.mk (Below.refl w.heap.size w)
  have H : ((codec_kind.f k a0 a1).bind fun t104 => (if t104 = a2 then (if 0 ≤ a1 then (if a1 < (a0.size : Int) then (if (wrap64 ((wrap64 (a1 + 1)) + (wrap64 (Go.bits .and .u8 (bt a0 a1) 15)))) > (a0.size : Int) then (some (0, 0, false)) else (codec_raw.l0 k a0 a1 a2 (wrap64 (Go.bits .and .u8 (bt a0 a1) 15)) 0 (wrap64 (Go.bits .and .u8 (bt a0 a1) 15)) 0)) else (none)) else (none)) else (some (0, 0, false)))) = some (r1, r2, r3) := h
  clear h
  replace H := Option.bind_eq_some_iff.mp H
  obtain ⟨t104, A40, H⟩ := H
  replace H : (if t104 = a2 then (if 0 ≤ a1 then (if a1 < (a0.size : Int) then (if (wrap64 ((wrap64 (a1 + 1)) + (wrap64 (Go.bits .and .u8 (bt a0 a1) 15)))) > (a0.size : Int) then (some (0, 0, false)) else (codec_raw.l0 k a0 a1 a2 (wrap64 (Go.bits .and .u8 (bt a0 a1) 15)) 0 (wrap64 (Go.bits .and .u8 (bt a0 a1) 15)) 0)) else (none)) else (none)) else (some (0, 0, false))) = some (r1, r2, r3) := H
  have A4 := Aside0.mk A40
  clear A40
  by_cases c5 : t104 = a2
  · rw [if_pos c5] at H
    have c5b0 : (t104 == a2) = true := beq_iff_eq.mpr c5
    have c5b1 : (t104 != a2) = false := bne_eq_false_iff_eq.mpr c5
    clear c5
    by_cases c6 : 0 ≤ a1
    · rw [if_pos c6] at H
      have c6b0 : decide (0 ≤ a1) = true := decide_eq_true c6
      clear c6
      by_cases c7 : a1 < (a0.size : Int)
      · rw [if_pos c7] at H
        have c7b0 : decide (a1 < (a0.size : Int)) = true := decide_eq_true c7
        clear c7
        by_cases c9 : (wrap64 ((wrap64 (a1 + 1)) + (wrap64 (Go.bits .and .u8 (bt a0 a1) 15)))) > (a0.size : Int)
        · rw [if_pos c9] at H
          have c9b0 : decide ((a0.size : Int) < (wrap64 ((wrap64 (a1 + 1)) + (wrap64 (Go.bits .and .u8 (bt a0 a1) 15))))) = true := decide_eq_true c9
          clear c9
          simp only [Option.some.injEq, Prod.mk.injEq] at H
          obtain ⟨rfl, rfl, rfl⟩ := H
          go_enter Tryd.func52, Tryd.ntmps52
          go_wp2_with (first | ((with_reducible refine gate_callee (f := 49) rfl ?_); refine goesL_ (some 16) rfl rfl Tryd.func49 (by kernel_rfl) rfl #[.string a0, .int .i64 a1] rfl (by (try simp only [List.map_toArray, List.map_cons, List.map_nil]); first | done | rfl | (simp only [List.length_drop, List.length_take]; rfl)) ?_; (with_reducible refine (codec_kind.calls k a0 a1 t104 _ ?side99  A4.out).mono ?_); (case side99 => first | exact HG.out | exact Glob.below HG.out (by repeat (first | (with_reducible first | exact HB.out | apply below_alloc | apply pw_below_drewN | apply below_drew1) | exact HB.out))); rintro e w' ⟨rfl, ⟨nd, rfl⟩⟩; refine ⟨_, rfl, ?_⟩; have p8 : 0 ≤ (a1 : Int) := of_decide_eq_true (by first | (with_reducible assumption) | assumption); have q8 : a1 < (a0.size : Int) := of_decide_eq_true (by first | (with_reducible assumption) | assumption); have hx8 := bt_at a0 a1; replace p8 := eq_true p8; replace q8 := eq_true q8))
          go_ret3
          exact ⟨by first | rfl | (simp [errW_none, errW_some] <;> rfl) | (simp [*, errW_none, errW_some] <;> rfl), by repeat (first | (with_reducible first | exact HB.out | apply below_alloc | apply pw_below_drewN | apply below_drew1) | exact HB.out)⟩
        · rw [if_neg c9] at H
          have c9b0 : decide ((a0.size : Int) < (wrap64 ((wrap64 (a1 + 1)) + (wrap64 (Go.bits .and .u8 (bt a0 a1) 15))))) = false := decide_eq_false c9
          clear c9
          have H' := Aside0.mk H
          clear H
          go_enter Tryd.func52, Tryd.ntmps52
          go_wp2_with (first | ((with_reducible refine gate_callee (f := 49) rfl ?_); refine goesL_ (some 16) rfl rfl Tryd.func49 (by kernel_rfl) rfl #[.string a0, .int .i64 a1] rfl (by (try simp only [List.map_toArray, List.map_cons, List.map_nil]); first | done | rfl | (simp only [List.length_drop, List.length_take]; rfl)) ?_; (with_reducible refine (codec_kind.calls k a0 a1 t104 _ ?side99  A4.out).mono ?_); (case side99 => first | exact HG.out | exact Glob.below HG.out (by repeat (first | (with_reducible first | exact HB.out | apply below_alloc | apply pw_below_drewN | apply below_drew1) | exact HB.out))); rintro e w' ⟨rfl, ⟨nd, rfl⟩⟩; refine ⟨_, rfl, ?_⟩; have p8 : 0 ≤ (a1 : Int) := of_decide_eq_true (by first | (with_reducible assumption) | assumption); have q8 : a1 < (a0.size : Int) := of_decide_eq_true (by first | (with_reducible assumption) | assumption); have hx8 := bt_at a0 a1; replace p8 := eq_true p8; replace q8 := eq_true q8))
          go_loopg [10, 32] k (fun kq v10 v32 w' => ∃ (x10_1 : Int) (x32_1 : Int), v10 = .int .u64 x10_1 ∧ v32 = .int .i64 x32_1 ∧ Aside0 (codec_raw.l0 kq a0 a1 a2 (wrap64 (Go.bits .and .u8 (bt a0 a1) 15)) x10_1 (wrap64 (Go.bits .and .u8 (bt a0 a1) 15)) x32_1 = some (r1, r2, r3)) ∧ Aside0 (kq ≤ k) ∧ Aside0 (Below w.heap.size w w'))
          case atStart => exact ⟨(0), (0), (by first | rfl | (simp; done) | (simp [*]; done)), (by first | rfl | (simp; done) | (simp [*]; done)), H', ⟨Nat.le_refl _⟩, ⟨by repeat (first | (with_reducible first | exact HB.out | apply below_alloc | apply pw_below_drewN | apply below_drew1) | exact HB.out)⟩⟩
          case round =>
            clear H'
            try clear p2
            try clear c4
            try clear c5
            try clear c5b0
            try clear c5b1
            try clear c6
            try clear c6b0
            try clear p6
            try clear c7
            try clear c7b0
            try clear p8
            try clear q8
            try clear hx8
            try clear c9
            try clear c9b0
            try clear p8
            try clear q8
            obtain ⟨x10_1, x32_1, rfl, rfl, HA, HK1, HB⟩ := hrel
            cases gk with
            | zero => exact absurd HA.out (by simp [codec_raw.l0])
            | succ k1 =>
              have H := HA.out
              clear HA
              simp only [codec_raw.l0] at H
              by_cases c10 : x32_1 < (wrap64 (Go.bits .and .u8 (bt a0 a1) 15))
              · rw [if_pos c10] at H
                have c10b0 : decide (x32_1 < (wrap64 (Go.bits .and .u8 (bt a0 a1) 15))) = true := decide_eq_true c10
                clear c10
                obtain ⟨ji11, hji11⟩ : ∃ j_ : Int, (wrap64 ((wrap64 (a1 + 1)) + x32_1)) = j_ := ⟨_, rfl⟩
                replace H : (if 0 ≤ (ji11) then (if (ji11) < (a0.size : Int) then (codec_raw.l0 k1 a0 a1 a2 (wrap64 (Go.bits .and .u8 (bt a0 a1) 15)) (Go.bits .or .u64 (IntKind.u64.wrap (x10_1 * 256)) (IntKind.u64.wrap (bt a0 (ji11)))) (wrap64 (Go.bits .and .u8 (bt a0 a1) 15)) (wrap64 (x32_1 + 1))) else (none)) else (none)) = some (r1, r2, r3) := by first | (rw [hji11] at H; exact H) | (simp only [hji11] at H ⊢; exact H)
                have hji11w : (IntKind.i64.wrap ((wrap64 (a1 + 1)) + x32_1)) = ji11 := (i64_w _).trans hji11
                by_cases c12 : 0 ≤ (ji11)
                · rw [if_pos c12] at H
                  have c12b0 : decide (0 ≤ (ji11)) = true := decide_eq_true c12
                  clear c12
                  by_cases c13 : (ji11) < (a0.size : Int)
                  · rw [if_pos c13] at H
                    have c13b0 : decide ((ji11) < (a0.size : Int)) = true := decide_eq_true c13
                    clear c13
                    have H' := Aside0.mk H
                    clear H
                    have p14 : 0 ≤ ((ji11) : Int) := of_decide_eq_true (by first | (with_reducible assumption) | assumption)
                    have q14 : (ji11) < (a0.size : Int) := of_decide_eq_true (by first | (with_reducible assumption) | assumption)
                    have hx14 := bt_at a0 (ji11)
                    replace p14 := eq_true p14
                    replace q14 := eq_true q14
                    go_wp2
                    go_roundg k1
                    case measure => have := HK1.out; omega
                    case rel => exact ⟨(Go.bits .or .u64 (IntKind.u64.wrap (x10_1 * 256)) (IntKind.u64.wrap (bt a0 (ji11)))), (wrap64 (x32_1 + 1)), (by first | rfl | (simp; done) | (simp only [← hji11] <;> (first | rfl | simp)) | (simp [*]; done)), (by first | rfl | (simp; done) | (simp [*]; done)), H', ⟨by have := HK1.out; omega⟩, ⟨by repeat (first | (with_reducible first | exact HB.out | apply below_alloc | apply pw_below_drewN | apply below_drew1) | exact HB.out)⟩⟩
                  · rw [if_neg c13] at H
                    exact absurd H (by simp)
                · rw [if_neg c12] at H
                  exact absurd H (by simp)
              · rw [if_neg c10] at H
                have c10b0 : decide (x32_1 < (wrap64 (Go.bits .and .u8 (bt a0 a1) 15))) = false := decide_eq_false c10
                clear c10
                by_cases c15 : a2 = 3
                · rw [if_pos c15] at H
                  have c15b0 : (a2 == 3) = true := beq_iff_eq.mpr c15
                  have c15b1 : (a2 != 3) = false := bne_eq_false_iff_eq.mpr c15
                  clear c15
                  replace H := Option.bind_eq_some_iff.mp H
                  obtain ⟨t105, A160, H⟩ := H
                  replace H : (some (x10_1, wrap64 ((wrap64 (a1 + 1)) + (wrap64 (Go.bits .and .u8 (bt a0 a1) 15))), (t105 == (wrap64 (Go.bits .and .u8 (bt a0 a1) 15))))) = some (r1, r2, r3) := H
                  have A16 := Aside0.mk A160
                  clear A160
                  simp only [Option.some.injEq, Prod.mk.injEq] at H
                  obtain ⟨rfl, rfl, rfl⟩ := H
                  go_wp2_with (first | ((with_reducible refine gate_callee (f := 63) rfl ?_); refine goesL_ (some 54) rfl rfl Tryd.func63 (by kernel_rfl) rfl #[.int .u64 x10_1] rfl (by (try simp only [List.map_toArray, List.map_cons, List.map_nil]); first | done | rfl | (simp only [List.length_drop, List.length_take]; rfl)) ?_; (with_reducible refine (codec_width.calls k1 x10_1 t105 _ ?side99  A16.out).mono ?_); (case side99 => first | exact HG.out | exact Glob.below HG.out (by repeat (first | (with_reducible first | exact HB.out | apply below_alloc | apply pw_below_drewN | apply below_drew1) | exact HB.out))); rintro e w17 ⟨rfl, hb⟩; refine ⟨_, rfl, ?_⟩; have n0_ := Aside0.mk (below_step (by repeat (first | (with_reducible first | exact HB.out | apply below_alloc | apply pw_below_drewN | apply below_drew1) | exact HB.out)) hb); clear HB; have HB := n0_; clear n0_; (try clear hb); (try clear hb2); (try clear hk); (try clear hi)))
                  go_ret3
                  exact ⟨by first | rfl | (simp [errW_none, errW_some] <;> rfl) | (simp [*, errW_none, errW_some] <;> rfl), by repeat (first | (with_reducible first | exact HB.out | apply below_alloc | apply pw_below_drewN | apply below_drew1) | exact HB.out)⟩
                · rw [if_neg c15] at H
                  have c15b0 : (a2 == 3) = false := beq_eq_false_iff_ne.mpr c15
                  have c15b1 : (a2 != 3) = true := bne_iff_ne.mpr c15
                  obtain ⟨ji18, hji18⟩ : ∃ j_ : Int, (wrap64 (64 - (wrap64 (8 * (wrap64 (Go.bits .and .u8 (bt a0 a1) 15)))))) = j_ := ⟨_, rfl⟩
                  replace H : (if 0 ≤ (ji18) then ((codec_spread.f k1 (shr .i64 (wrap64 (shl .u64 x10_1 (ji18))) (ji18))).bind fun t106 => (some (IntKind.u64.wrap (shr .i64 (wrap64 (shl .u64 x10_1 (ji18))) (ji18)), wrap64 ((wrap64 (a1 + 1)) + (wrap64 (Go.bits .and .u8 (bt a0 a1) 15))), (t106 == (wrap64 (Go.bits .and .u8 (bt a0 a1) 15)))))) else (none)) = some (r1, r2, r3) := by first | (rw [hji18] at H; exact H) | (simp only [hji18] at H ⊢; exact H)
                  have hji18w : (IntKind.i64.wrap (64 - (wrap64 (8 * (wrap64 (Go.bits .and .u8 (bt a0 a1) 15)))))) = ji18 := (i64_w _).trans hji18
                  by_cases c19 : 0 ≤ (ji18)
                  · rw [if_pos c19] at H
                    have c19b0 := eq_true c19
                    have c19b1 : decide (0 ≤ (ji18)) = true := decide_eq_true c19
                    clear c19
                    obtain ⟨ji20, hji20⟩ : ∃ j_ : Int, (shl .u64 x10_1 (ji18)) = j_ := ⟨_, rfl⟩
                    replace H : ((codec_spread.f k1 (shr .i64 (wrap64 (ji20)) (ji18))).bind fun t106 => (some (IntKind.u64.wrap (shr .i64 (wrap64 (ji20)) (ji18)), wrap64 ((wrap64 (a1 + 1)) + (wrap64 (Go.bits .and .u8 (bt a0 a1) 15))), (t106 == (wrap64 (Go.bits .and .u8 (bt a0 a1) 15)))))) = some (r1, r2, r3) := by first | (rw [hji20] at H; exact H) | (simp only [hji20] at H ⊢; exact H)
                    have hji20_ : (IntKind.u64.wrap (x10_1 * 2 ^ min (ji18).toNat 64)) = ji20 := hji20
                    have hji20z : (ji18) ≤ 64 → (IntKind.u64.wrap (x10_1 * 2 ^ (ji18).toNat)) = ji20 := shl_small hji20
                    have c21b0 := eq_true (of_decide_eq_true (by first | (with_reducible assumption) | assumption) : 0 ≤ (ji18))
                    obtain ⟨ji22, hji22⟩ : ∃ j_ : Int, (shr .i64 (wrap64 (ji20)) (ji18)) = j_ := ⟨_, rfl⟩
                    replace H : ((codec_spread.f k1 (ji22)).bind fun t106 => (some (IntKind.u64.wrap (ji22), wrap64 ((wrap64 (a1 + 1)) + (wrap64 (Go.bits .and .u8 (bt a0 a1) 15))), (t106 == (wrap64 (Go.bits .and .u8 (bt a0 a1) 15)))))) = some (r1, r2, r3) := by first | (rw [hji22] at H; exact H) | (simp only [hji22] at H ⊢; exact H)
                    have hji22_ : ((wrap64 (ji20)) / 2 ^ min (ji18).toNat 64) = ji22 := hji22
                    have hji22z : (ji18) ≤ 64 → ((wrap64 (ji20)) / 2 ^ (ji18).toNat) = ji22 := shr_small hji22
                    replace H := Option.bind_eq_some_iff.mp H
                    obtain ⟨t106, A230, H⟩ := H
                    replace H : (some (IntKind.u64.wrap (ji22), wrap64 ((wrap64 (a1 + 1)) + (wrap64 (Go.bits .and .u8 (bt a0 a1) 15))), (t106 == (wrap64 (Go.bits .and .u8 (bt a0 a1) 15))))) = some (r1, r2, r3) := H
                    have A23 := Aside0.mk A230
                    clear A230
                    simp only [Option.some.injEq, Prod.mk.injEq] at H
                    obtain ⟨rfl, rfl, rfl⟩ := H
                    go_wp2_with (first | ((with_reducible refine gate_callee (f := 64) rfl ?_); refine goesL_ (some 73) rfl rfl Tryd.func64 (by kernel_rfl) rfl #[.int .i64 ji22] rfl (by (try simp only [List.map_toArray, List.map_cons, List.map_nil]); first | done | (simp only [hji22]; rfl) | rfl | (simp only [List.length_drop, List.length_take]; rfl)) ?_; (with_reducible refine (codec_spread.calls k1 ji22 t106 _ ?side99  A23.out).mono ?_); (case side99 => first | exact HG.out | exact Glob.below HG.out (by repeat (first | (with_reducible first | exact HB.out | apply below_alloc | apply pw_below_drewN | apply below_drew1) | exact HB.out))); rintro e w' ⟨rfl, ⟨nd, rfl⟩⟩; refine ⟨_, rfl, ?_⟩))
                    go_ret3
                    exact ⟨by first | rfl | (simp [errW_none, errW_some] <;> rfl) | (simp only [← hji18, ← hji20, ← hji22]; first | rfl | (simp [errW_none, errW_some] <;> rfl)) | (simp [*, errW_none, errW_some] <;> rfl), by repeat (first | (with_reducible first | exact HB.out | apply below_alloc | apply pw_below_drewN | apply below_drew1) | exact HB.out)⟩
                  · rw [if_neg c19] at H
                    exact absurd H (by simp)
      · rw [if_neg c7] at H
        exact absurd H (by simp)
    · rw [if_neg c6] at H
      exact absurd H (by simp)
  · rw [if_neg c5] at H
    have c5b0 : (t104 == a2) = false := beq_eq_false_iff_ne.mpr c5
    have c5b1 : (t104 != a2) = true := bne_iff_ne.mpr c5
    simp only [Option.some.injEq, Prod.mk.injEq] at H
    obtain ⟨rfl, rfl, rfl⟩ := H
    go_enter Tryd.func52, Tryd.ntmps52
    go_wp2_with (first | ((with_reducible refine gate_callee (f := 49) rfl ?_); refine goesL_ (some 16) rfl rfl Tryd.func49 (by kernel_rfl) rfl #[.string a0, .int .i64 a1] rfl (by (try simp only [List.map_toArray, List.map_cons, List.map_nil]); first | done | rfl | (simp only [List.length_drop, List.length_take]; rfl)) ?_; (with_reducible refine (codec_kind.calls k a0 a1 t104 _ ?side99  A4.out).mono ?_); (case side99 => first | exact HG.out | exact Glob.below HG.out (by repeat (first | (with_reducible first | exact HB.out | apply below_alloc | apply pw_below_drewN | apply below_drew1) | exact HB.out))); rintro e w' ⟨rfl, ⟨nd, rfl⟩⟩; refine ⟨_, rfl, ?_⟩))
    go_ret3
    exact ⟨by first | rfl | (simp [errW_none, errW_some] <;> rfl) | (simp [*, errW_none, errW_some] <;> rfl), by repeat (first | (with_reducible first | exact HB.out | apply below_alloc | apply pw_below_drewN | apply below_drew1) | exact HB.out)⟩
end Go.Proofs.YtndeikikeeeigaaDoor.Q
end
section
namespace Go.Proofs.YtndeikikeeeigaaDoor.Q
open Go.RowKit Go.Proofs.YtndeikikeeeigaaDoorW.PrintWords Go.Proofs.YtndeikikeeeigaaDoorW.PrintLast Go.Proofs.YtndeikikeeeigaaDoorW.PrintMore
attribute [local go_sem] max2_int min2_int max_two min_two max_three min_three max_four min_four
set_option linter.unusedVariables false
set_option linter.unusedSimpArgs false
def codec_text.f (k : Nat) (a0 : ByteArray) (a1 : Int) : Option (ByteArray × Int × Bool) := (codec_kind.f k a0 a1).bind fun t107 => (if t107 = 5 then ((codec_raw.f k a0 (wrap64 (a1 + 1)) 3).bind fun bt108 => (if bt108.2.2 = true then (if bt108.1 > 65535 then (some ((⟨#[]⟩ : ByteArray), 0, false)) else (if (wrap64 (bt108.1)) > (wrap64 ((a0.size : Int) - bt108.2.1)) then (some ((⟨#[]⟩ : ByteArray), 0, false)) else (if 0 ≤ bt108.2.1 then (if bt108.2.1 ≤ (wrap64 (bt108.2.1 + (wrap64 (bt108.1)))) then (if (wrap64 (bt108.2.1 + (wrap64 (bt108.1)))) ≤ (a0.size : Int) then (some (a0.extract (bt108.2.1 : Int).toNat ((wrap64 (bt108.2.1 + (wrap64 (bt108.1)))) : Int).toNat, wrap64 (bt108.2.1 + (wrap64 (bt108.1))), true)) else (none)) else (none)) else (none)))) else (some ((⟨#[]⟩ : ByteArray), 0, false)))) else (some ((⟨#[]⟩ : ByteArray), 0, false)))
theorem codec_text.mono : ∀ a0 a1 k, LeO (codec_text.f k a0 a1) (codec_text.f (k + 1) a0 a1) := by
  intro a0 a1 k
  unfold codec_text.f
  repeat' first
      | (with_reducible exact codec_kind.mono _ _ _)
      | (with_reducible exact codec_raw.mono _ _ _ _)
      | (with_reducible exact LeO.refl _)
      | (with_reducible exact LeO.none _)
      | (with_reducible refine LeO.ite ?_ ?_)
      | (with_reducible refine LeO.bind ?_ (fun _ => ?_))
      | exact codec_kind.mono _ _ _
      | exact codec_raw.mono _ _ _ _
      | exact LeO.none _
      | refine LeO.ite ?_ ?_
      | refine LeO.bind ?_ (fun _ => ?_)
set_option maxHeartbeats 8000000 in
set_option maxRecDepth 100000 in
theorem codec_text.calls (k : Nat) (a0 : ByteArray) (a1 : Int) (r1 : ByteArray) (r2 : Int) (r3 : Bool) (w : World) (hG : Glob w) (h : codec_text.f k a0 a1 = some (r1, r2, r3)) :
    Calls Tryd.prog 55 #[.string a0, .int .i64 a1] w fun e w' => e = .returned (.tuple #[.string r1, .int .i64 r2, .bool r3]) ∧ Below w.heap.size w w' := by
  have HG := Aside0.mk hG
  clear hG
  have HB := Aside0.mk (Below.refl w.heap.size w)
  have H : ((codec_kind.f k a0 a1).bind fun t107 => (if t107 = 5 then ((codec_raw.f k a0 (wrap64 (a1 + 1)) 3).bind fun bt108 => (if bt108.2.2 = true then (if bt108.1 > 65535 then (some ((⟨#[]⟩ : ByteArray), 0, false)) else (if (wrap64 (bt108.1)) > (wrap64 ((a0.size : Int) - bt108.2.1)) then (some ((⟨#[]⟩ : ByteArray), 0, false)) else (if 0 ≤ bt108.2.1 then (if bt108.2.1 ≤ (wrap64 (bt108.2.1 + (wrap64 (bt108.1)))) then (if (wrap64 (bt108.2.1 + (wrap64 (bt108.1)))) ≤ (a0.size : Int) then (some (a0.extract (bt108.2.1 : Int).toNat ((wrap64 (bt108.2.1 + (wrap64 (bt108.1)))) : Int).toNat, wrap64 (bt108.2.1 + (wrap64 (bt108.1))), true)) else (none)) else (none)) else (none)))) else (some ((⟨#[]⟩ : ByteArray), 0, false)))) else (some ((⟨#[]⟩ : ByteArray), 0, false)))) = some (r1, r2, r3) := h
  clear h
  replace H := Option.bind_eq_some_iff.mp H
  obtain ⟨t107, A30, H⟩ := H
  replace H : (if t107 = 5 then ((codec_raw.f k a0 (wrap64 (a1 + 1)) 3).bind fun bt108 => (if bt108.2.2 = true then (if bt108.1 > 65535 then (some ((⟨#[]⟩ : ByteArray), 0, false)) else (if (wrap64 (bt108.1)) > (wrap64 ((a0.size : Int) - bt108.2.1)) then (some ((⟨#[]⟩ : ByteArray), 0, false)) else (if 0 ≤ bt108.2.1 then (if bt108.2.1 ≤ (wrap64 (bt108.2.1 + (wrap64 (bt108.1)))) then (if (wrap64 (bt108.2.1 + (wrap64 (bt108.1)))) ≤ (a0.size : Int) then (some (a0.extract (bt108.2.1 : Int).toNat ((wrap64 (bt108.2.1 + (wrap64 (bt108.1)))) : Int).toNat, wrap64 (bt108.2.1 + (wrap64 (bt108.1))), true)) else (none)) else (none)) else (none)))) else (some ((⟨#[]⟩ : ByteArray), 0, false)))) else (some ((⟨#[]⟩ : ByteArray), 0, false))) = some (r1, r2, r3) := H
  have A3 := Aside0.mk A30
  clear A30
  by_cases c4 : t107 = 5
  · rw [if_pos c4] at H
    have c4b0 : (t107 == 5) = true := beq_iff_eq.mpr c4
    have c4b1 : (t107 != 5) = false := bne_eq_false_iff_eq.mpr c4
    clear c4
    replace H := Option.bind_eq_some_iff.mp H
    obtain ⟨⟨t108, t109, t110⟩, A50, H⟩ := H
    replace H : (if t110 = true then (if t108 > 65535 then (some ((⟨#[]⟩ : ByteArray), 0, false)) else (if (wrap64 (t108)) > (wrap64 ((a0.size : Int) - t109)) then (some ((⟨#[]⟩ : ByteArray), 0, false)) else (if 0 ≤ t109 then (if t109 ≤ (wrap64 (t109 + (wrap64 (t108)))) then (if (wrap64 (t109 + (wrap64 (t108)))) ≤ (a0.size : Int) then (some (a0.extract (t109 : Int).toNat ((wrap64 (t109 + (wrap64 (t108)))) : Int).toNat, wrap64 (t109 + (wrap64 (t108))), true)) else (none)) else (none)) else (none)))) else (some ((⟨#[]⟩ : ByteArray), 0, false))) = some (r1, r2, r3) := H
    have A5 := Aside0.mk A50
    clear A50
    by_cases c6 : t110 = true
    · subst c6
      have H1 : (if t108 > 65535 then (some ((⟨#[]⟩ : ByteArray), 0, false)) else (if (wrap64 (t108)) > (wrap64 ((a0.size : Int) - t109)) then (some ((⟨#[]⟩ : ByteArray), 0, false)) else (if 0 ≤ t109 then (if t109 ≤ (wrap64 (t109 + (wrap64 (t108)))) then (if (wrap64 (t109 + (wrap64 (t108)))) ≤ (a0.size : Int) then (some (a0.extract (t109 : Int).toNat ((wrap64 (t109 + (wrap64 (t108)))) : Int).toNat, wrap64 (t109 + (wrap64 (t108))), true)) else (none)) else (none)) else (none)))) = some (r1, r2, r3) := by rw [if_pos rfl] at H; exact H
      clear H
      have H := H1
      clear H1
      by_cases c7 : t108 > 65535
      · rw [if_pos c7] at H
        have c7b0 : decide (65535 < t108) = true := decide_eq_true c7
        clear c7
        simp only [Option.some.injEq, Prod.mk.injEq] at H
        obtain ⟨rfl, rfl, rfl⟩ := H
        go_enter Tryd.func55, Tryd.ntmps55
        go_wp2_with (first | ((with_reducible refine gate_callee (f := 49) rfl ?_); refine goesL_ (some 12) rfl rfl Tryd.func49 (by kernel_rfl) rfl #[.string a0, .int .i64 a1] rfl (by (try simp only [List.map_toArray, List.map_cons, List.map_nil]); first | done | rfl | (simp only [List.length_drop, List.length_take]; rfl)) ?_; (with_reducible refine (codec_kind.calls k a0 a1 t107 _ ?side99  A3.out).mono ?_); (case side99 => first | exact HG.out | exact Glob.below HG.out (by repeat (first | (with_reducible first | exact HB.out | apply below_alloc | apply pw_below_drewN | apply below_drew1) | exact HB.out))); rintro e w' ⟨rfl, ⟨nd, rfl⟩⟩; refine ⟨_, rfl, ?_⟩) | ((with_reducible refine gate_callee (f := 52) rfl ?_); refine goesL_ (some 18) rfl rfl Tryd.func52 (by kernel_rfl) rfl #[.string a0, .int .i64 (wrap64 (a1 + 1)), .int .i64 3] rfl (by (try simp only [List.map_toArray, List.map_cons, List.map_nil]); first | done | rfl | (simp only [List.length_drop, List.length_take]; rfl)) ?_; (with_reducible refine (codec_raw.calls k a0 (wrap64 (a1 + 1)) 3 t108 t109 true _ ?side99  A5.out).mono ?_); (case side99 => first | exact HG.out | exact Glob.below HG.out (by repeat (first | (with_reducible first | exact HB.out | apply below_alloc | apply pw_below_drewN | apply below_drew1) | exact HB.out))); rintro e w8 ⟨rfl, hb⟩; refine ⟨_, rfl, ?_⟩; have n0_ := Aside0.mk (below_step (by repeat (first | (with_reducible first | exact HB.out | apply below_alloc | apply pw_below_drewN | apply below_drew1) | exact HB.out)) hb); clear HB; have HB := n0_; clear n0_; (try clear hb); (try clear hb2); (try clear hk); (try clear hi)))
        go_ret3
        exact ⟨by first | rfl | (simp [errW_none, errW_some] <;> rfl) | (simp [*, errW_none, errW_some] <;> rfl), by repeat (first | (with_reducible first | exact HB.out | apply below_alloc | apply pw_below_drewN | apply below_drew1) | exact HB.out)⟩
      · rw [if_neg c7] at H
        have c7b0 : decide (65535 < t108) = false := decide_eq_false c7
        clear c7
        by_cases c9 : (wrap64 (t108)) > (wrap64 ((a0.size : Int) - t109))
        · rw [if_pos c9] at H
          have c9b0 : decide ((wrap64 ((a0.size : Int) - t109)) < (wrap64 (t108))) = true := decide_eq_true c9
          clear c9
          simp only [Option.some.injEq, Prod.mk.injEq] at H
          obtain ⟨rfl, rfl, rfl⟩ := H
          go_enter Tryd.func55, Tryd.ntmps55
          go_wp2_with (first | ((with_reducible refine gate_callee (f := 49) rfl ?_); refine goesL_ (some 12) rfl rfl Tryd.func49 (by kernel_rfl) rfl #[.string a0, .int .i64 a1] rfl (by (try simp only [List.map_toArray, List.map_cons, List.map_nil]); first | done | rfl | (simp only [List.length_drop, List.length_take]; rfl)) ?_; (with_reducible refine (codec_kind.calls k a0 a1 t107 _ ?side99  A3.out).mono ?_); (case side99 => first | exact HG.out | exact Glob.below HG.out (by repeat (first | (with_reducible first | exact HB.out | apply below_alloc | apply pw_below_drewN | apply below_drew1) | exact HB.out))); rintro e w' ⟨rfl, ⟨nd, rfl⟩⟩; refine ⟨_, rfl, ?_⟩) | ((with_reducible refine gate_callee (f := 52) rfl ?_); refine goesL_ (some 18) rfl rfl Tryd.func52 (by kernel_rfl) rfl #[.string a0, .int .i64 (wrap64 (a1 + 1)), .int .i64 3] rfl (by (try simp only [List.map_toArray, List.map_cons, List.map_nil]); first | done | rfl | (simp only [List.length_drop, List.length_take]; rfl)) ?_; (with_reducible refine (codec_raw.calls k a0 (wrap64 (a1 + 1)) 3 t108 t109 true _ ?side99  A5.out).mono ?_); (case side99 => first | exact HG.out | exact Glob.below HG.out (by repeat (first | (with_reducible first | exact HB.out | apply below_alloc | apply pw_below_drewN | apply below_drew1) | exact HB.out))); rintro e w10 ⟨rfl, hb⟩; refine ⟨_, rfl, ?_⟩; have n0_ := Aside0.mk (below_step (by repeat (first | (with_reducible first | exact HB.out | apply below_alloc | apply pw_below_drewN | apply below_drew1) | exact HB.out)) hb); clear HB; have HB := n0_; clear n0_; (try clear hb); (try clear hb2); (try clear hk); (try clear hi)))
          go_ret3
          exact ⟨by first | rfl | (simp [errW_none, errW_some] <;> rfl) | (simp [*, errW_none, errW_some] <;> rfl), by repeat (first | (with_reducible first | exact HB.out | apply below_alloc | apply pw_below_drewN | apply below_drew1) | exact HB.out)⟩
        · rw [if_neg c9] at H
          have c9b0 : decide ((wrap64 ((a0.size : Int) - t109)) < (wrap64 (t108))) = false := decide_eq_false c9
          clear c9
          by_cases c11 : 0 ≤ t109
          · rw [if_pos c11] at H
            have c11b0 := eq_true c11
            have c11b1 : decide (0 ≤ t109) = true := decide_eq_true c11
            clear c11
            by_cases c12 : t109 ≤ (wrap64 (t109 + (wrap64 (t108))))
            · rw [if_pos c12] at H
              have c12b0 := eq_true c12
              have c12b1 : decide (t109 ≤ (wrap64 (t109 + (wrap64 (t108))))) = true := decide_eq_true c12
              by_cases c13 : (wrap64 (t109 + (wrap64 (t108)))) ≤ (a0.size : Int)
              · rw [if_pos c13] at H
                have c13b0 := eq_true c13
                have c13b1 : decide ((wrap64 (t109 + (wrap64 (t108)))) ≤ (a0.size : Int)) = true := decide_eq_true c13
                simp only [Option.some.injEq, Prod.mk.injEq] at H
                obtain ⟨rfl, rfl, rfl⟩ := H
                go_enter Tryd.func55, Tryd.ntmps55
                go_wp2_with (first | ((with_reducible refine gate_callee (f := 49) rfl ?_); refine goesL_ (some 12) rfl rfl Tryd.func49 (by kernel_rfl) rfl #[.string a0, .int .i64 a1] rfl (by (try simp only [List.map_toArray, List.map_cons, List.map_nil]); first | done | rfl | (simp only [List.length_drop, List.length_take]; rfl)) ?_; (with_reducible refine (codec_kind.calls k a0 a1 t107 _ ?side99  A3.out).mono ?_); (case side99 => first | exact HG.out | exact Glob.below HG.out (by repeat (first | (with_reducible first | exact HB.out | apply below_alloc | apply pw_below_drewN | apply below_drew1) | exact HB.out))); rintro e w' ⟨rfl, ⟨nd, rfl⟩⟩; refine ⟨_, rfl, ?_⟩) | ((with_reducible refine gate_callee (f := 52) rfl ?_); refine goesL_ (some 18) rfl rfl Tryd.func52 (by kernel_rfl) rfl #[.string a0, .int .i64 (wrap64 (a1 + 1)), .int .i64 3] rfl (by (try simp only [List.map_toArray, List.map_cons, List.map_nil]); first | done | rfl | (simp only [List.length_drop, List.length_take]; rfl)) ?_; (with_reducible refine (codec_raw.calls k a0 (wrap64 (a1 + 1)) 3 t108 t109 true _ ?side99  A5.out).mono ?_); (case side99 => first | exact HG.out | exact Glob.below HG.out (by repeat (first | (with_reducible first | exact HB.out | apply below_alloc | apply pw_below_drewN | apply below_drew1) | exact HB.out))); rintro e w14 ⟨rfl, hb⟩; refine ⟨_, rfl, ?_⟩; have n0_ := Aside0.mk (below_step (by repeat (first | (with_reducible first | exact HB.out | apply below_alloc | apply pw_below_drewN | apply below_drew1) | exact HB.out)) hb); clear HB; have HB := n0_; clear n0_; (try clear hb); (try clear hb2); (try clear hk); (try clear hi)))
                go_ret3
                exact ⟨by first | rfl | (simp [errW_none, errW_some] <;> rfl) | (simp [*, errW_none, errW_some] <;> rfl), by repeat (first | (with_reducible first | exact HB.out | apply below_alloc | apply pw_below_drewN | apply below_drew1) | exact HB.out)⟩
              · rw [if_neg c13] at H
                exact absurd H (by simp)
            · rw [if_neg c12] at H
              exact absurd H (by simp)
          · rw [if_neg c11] at H
            exact absurd H (by simp)
    · replace c6 := Bool.eq_false_iff.mpr c6
      subst c6
      have H1 : (some ((⟨#[]⟩ : ByteArray), 0, false)) = some (r1, r2, r3) := by rw [if_neg (show ¬ (false = true) by decide)] at H; exact H
      clear H
      have H := H1
      clear H1
      simp only [Option.some.injEq, Prod.mk.injEq] at H
      obtain ⟨rfl, rfl, rfl⟩ := H
      go_enter Tryd.func55, Tryd.ntmps55
      go_wp2_with (first | ((with_reducible refine gate_callee (f := 49) rfl ?_); refine goesL_ (some 12) rfl rfl Tryd.func49 (by kernel_rfl) rfl #[.string a0, .int .i64 a1] rfl (by (try simp only [List.map_toArray, List.map_cons, List.map_nil]); first | done | rfl | (simp only [List.length_drop, List.length_take]; rfl)) ?_; (with_reducible refine (codec_kind.calls k a0 a1 t107 _ ?side99  A3.out).mono ?_); (case side99 => first | exact HG.out | exact Glob.below HG.out (by repeat (first | (with_reducible first | exact HB.out | apply below_alloc | apply pw_below_drewN | apply below_drew1) | exact HB.out))); rintro e w' ⟨rfl, ⟨nd, rfl⟩⟩; refine ⟨_, rfl, ?_⟩) | ((with_reducible refine gate_callee (f := 52) rfl ?_); refine goesL_ (some 18) rfl rfl Tryd.func52 (by kernel_rfl) rfl #[.string a0, .int .i64 (wrap64 (a1 + 1)), .int .i64 3] rfl (by (try simp only [List.map_toArray, List.map_cons, List.map_nil]); first | done | rfl | (simp only [List.length_drop, List.length_take]; rfl)) ?_; (with_reducible refine (codec_raw.calls k a0 (wrap64 (a1 + 1)) 3 t108 t109 false _ ?side99  A5.out).mono ?_); (case side99 => first | exact HG.out | exact Glob.below HG.out (by repeat (first | (with_reducible first | exact HB.out | apply below_alloc | apply pw_below_drewN | apply below_drew1) | exact HB.out))); rintro e w15 ⟨rfl, hb⟩; refine ⟨_, rfl, ?_⟩; have n0_ := Aside0.mk (below_step (by repeat (first | (with_reducible first | exact HB.out | apply below_alloc | apply pw_below_drewN | apply below_drew1) | exact HB.out)) hb); clear HB; have HB := n0_; clear n0_; (try clear hb); (try clear hb2); (try clear hk); (try clear hi)))
      go_ret3
      exact ⟨by first | rfl | (simp [errW_none, errW_some] <;> rfl) | (simp [*, errW_none, errW_some] <;> rfl), by repeat (first | (with_reducible first | exact HB.out | apply below_alloc | apply pw_below_drewN | apply below_drew1) | exact HB.out)⟩
  · rw [if_neg c4] at H
    have c4b0 : (t107 == 5) = false := beq_eq_false_iff_ne.mpr c4
    have c4b1 : (t107 != 5) = true := bne_iff_ne.mpr c4
    simp only [Option.some.injEq, Prod.mk.injEq] at H
    obtain ⟨rfl, rfl, rfl⟩ := H
    go_enter Tryd.func55, Tryd.ntmps55
    go_wp2_with (first | ((with_reducible refine gate_callee (f := 49) rfl ?_); refine goesL_ (some 12) rfl rfl Tryd.func49 (by kernel_rfl) rfl #[.string a0, .int .i64 a1] rfl (by (try simp only [List.map_toArray, List.map_cons, List.map_nil]); first | done | rfl | (simp only [List.length_drop, List.length_take]; rfl)) ?_; (with_reducible refine (codec_kind.calls k a0 a1 t107 _ ?side99  A3.out).mono ?_); (case side99 => first | exact HG.out | exact Glob.below HG.out (by repeat (first | (with_reducible first | exact HB.out | apply below_alloc | apply pw_below_drewN | apply below_drew1) | exact HB.out))); rintro e w' ⟨rfl, ⟨nd, rfl⟩⟩; refine ⟨_, rfl, ?_⟩))
    go_ret3
    exact ⟨by first | rfl | (simp [errW_none, errW_some] <;> rfl) | (simp [*, errW_none, errW_some] <;> rfl), by repeat (first | (with_reducible first | exact HB.out | apply below_alloc | apply pw_below_drewN | apply below_drew1) | exact HB.out)⟩
end Go.Proofs.YtndeikikeeeigaaDoor.Q
end
section
namespace Go.Proofs.YtndeikikeeeigaaDoor.Q
open Go.RowKit Go.Proofs.YtndeikikeeeigaaDoorW.PrintWords Go.Proofs.YtndeikikeeeigaaDoorW.PrintLast Go.Proofs.YtndeikikeeeigaaDoorW.PrintMore
attribute [local go_sem] max2_int min2_int max_two min_two max_three min_three max_four min_four
set_option linter.unusedVariables false
set_option linter.unusedSimpArgs false
def codec_list.f (k : Nat) (a0 : ByteArray) (a1 : Int) : Option (Int × Int × Bool) := (codec_kind.f k a0 a1).bind fun t111 => (if t111 = 6 then ((codec_raw.f k a0 (wrap64 (a1 + 1)) 3).bind fun bt112 => (if bt112.2.2 = true then (if bt112.1 > 65535 then (some (0, 0, false)) else (some (wrap64 (bt112.1), bt112.2.1, true))) else (some (0, 0, false)))) else (some (0, 0, false)))
theorem codec_list.mono : ∀ a0 a1 k, LeO (codec_list.f k a0 a1) (codec_list.f (k + 1) a0 a1) := by
  intro a0 a1 k
  unfold codec_list.f
  repeat' first
      | (with_reducible exact codec_kind.mono _ _ _)
      | (with_reducible exact codec_raw.mono _ _ _ _)
      | (with_reducible exact LeO.refl _)
      | (with_reducible exact LeO.none _)
      | (with_reducible refine LeO.ite ?_ ?_)
      | (with_reducible refine LeO.bind ?_ (fun _ => ?_))
      | exact codec_kind.mono _ _ _
      | exact codec_raw.mono _ _ _ _
      | exact LeO.none _
      | refine LeO.ite ?_ ?_
      | refine LeO.bind ?_ (fun _ => ?_)
set_option maxHeartbeats 8000000 in
set_option maxRecDepth 100000 in
theorem codec_list.calls (k : Nat) (a0 : ByteArray) (a1 : Int) (r1 : Int) (r2 : Int) (r3 : Bool) (w : World) (hG : Glob w) (h : codec_list.f k a0 a1 = some (r1, r2, r3)) :
    Calls Tryd.prog 57 #[.string a0, .int .i64 a1] w fun e w' => e = .returned (.tuple #[.int .i64 r1, .int .i64 r2, .bool r3]) ∧ Below w.heap.size w w' := by
  have HG := Aside0.mk hG
  clear hG
  have HB := Aside0.mk (Below.refl w.heap.size w)
  have H : ((codec_kind.f k a0 a1).bind fun t111 => (if t111 = 6 then ((codec_raw.f k a0 (wrap64 (a1 + 1)) 3).bind fun bt112 => (if bt112.2.2 = true then (if bt112.1 > 65535 then (some (0, 0, false)) else (some (wrap64 (bt112.1), bt112.2.1, true))) else (some (0, 0, false)))) else (some (0, 0, false)))) = some (r1, r2, r3) := h
  clear h
  replace H := Option.bind_eq_some_iff.mp H
  obtain ⟨t111, A30, H⟩ := H
  replace H : (if t111 = 6 then ((codec_raw.f k a0 (wrap64 (a1 + 1)) 3).bind fun bt112 => (if bt112.2.2 = true then (if bt112.1 > 65535 then (some (0, 0, false)) else (some (wrap64 (bt112.1), bt112.2.1, true))) else (some (0, 0, false)))) else (some (0, 0, false))) = some (r1, r2, r3) := H
  have A3 := Aside0.mk A30
  clear A30
  by_cases c4 : t111 = 6
  · rw [if_pos c4] at H
    have c4b0 : (t111 == 6) = true := beq_iff_eq.mpr c4
    have c4b1 : (t111 != 6) = false := bne_eq_false_iff_eq.mpr c4
    clear c4
    replace H := Option.bind_eq_some_iff.mp H
    obtain ⟨⟨t112, t113, t114⟩, A50, H⟩ := H
    replace H : (if t114 = true then (if t112 > 65535 then (some (0, 0, false)) else (some (wrap64 (t112), t113, true))) else (some (0, 0, false))) = some (r1, r2, r3) := H
    have A5 := Aside0.mk A50
    clear A50
    by_cases c6 : t114 = true
    · subst c6
      have H1 : (if t112 > 65535 then (some (0, 0, false)) else (some (wrap64 (t112), t113, true))) = some (r1, r2, r3) := by rw [if_pos rfl] at H; exact H
      clear H
      have H := H1
      clear H1
      by_cases c7 : t112 > 65535
      · rw [if_pos c7] at H
        have c7b0 : decide (65535 < t112) = true := decide_eq_true c7
        clear c7
        simp only [Option.some.injEq, Prod.mk.injEq] at H
        obtain ⟨rfl, rfl, rfl⟩ := H
        go_enter Tryd.func57, Tryd.ntmps57
        go_wp2_with (first | ((with_reducible refine gate_callee (f := 49) rfl ?_); refine goesL_ (some 12) rfl rfl Tryd.func49 (by kernel_rfl) rfl #[.string a0, .int .i64 a1] rfl (by (try simp only [List.map_toArray, List.map_cons, List.map_nil]); first | done | rfl | (simp only [List.length_drop, List.length_take]; rfl)) ?_; (with_reducible refine (codec_kind.calls k a0 a1 t111 _ ?side99  A3.out).mono ?_); (case side99 => first | exact HG.out | exact Glob.below HG.out (by repeat (first | (with_reducible first | exact HB.out | apply below_alloc | apply pw_below_drewN | apply below_drew1) | exact HB.out))); rintro e w' ⟨rfl, ⟨nd, rfl⟩⟩; refine ⟨_, rfl, ?_⟩) | ((with_reducible refine gate_callee (f := 52) rfl ?_); refine goesL_ (some 18) rfl rfl Tryd.func52 (by kernel_rfl) rfl #[.string a0, .int .i64 (wrap64 (a1 + 1)), .int .i64 3] rfl (by (try simp only [List.map_toArray, List.map_cons, List.map_nil]); first | done | rfl | (simp only [List.length_drop, List.length_take]; rfl)) ?_; (with_reducible refine (codec_raw.calls k a0 (wrap64 (a1 + 1)) 3 t112 t113 true _ ?side99  A5.out).mono ?_); (case side99 => first | exact HG.out | exact Glob.below HG.out (by repeat (first | (with_reducible first | exact HB.out | apply below_alloc | apply pw_below_drewN | apply below_drew1) | exact HB.out))); rintro e w8 ⟨rfl, hb⟩; refine ⟨_, rfl, ?_⟩; have n0_ := Aside0.mk (below_step (by repeat (first | (with_reducible first | exact HB.out | apply below_alloc | apply pw_below_drewN | apply below_drew1) | exact HB.out)) hb); clear HB; have HB := n0_; clear n0_; (try clear hb); (try clear hb2); (try clear hk); (try clear hi)))
        go_ret3
        exact ⟨by first | rfl | (simp [errW_none, errW_some] <;> rfl) | (simp [*, errW_none, errW_some] <;> rfl), by repeat (first | (with_reducible first | exact HB.out | apply below_alloc | apply pw_below_drewN | apply below_drew1) | exact HB.out)⟩
      · rw [if_neg c7] at H
        have c7b0 : decide (65535 < t112) = false := decide_eq_false c7
        clear c7
        simp only [Option.some.injEq, Prod.mk.injEq] at H
        obtain ⟨rfl, rfl, rfl⟩ := H
        go_enter Tryd.func57, Tryd.ntmps57
        go_wp2_with (first | ((with_reducible refine gate_callee (f := 49) rfl ?_); refine goesL_ (some 12) rfl rfl Tryd.func49 (by kernel_rfl) rfl #[.string a0, .int .i64 a1] rfl (by (try simp only [List.map_toArray, List.map_cons, List.map_nil]); first | done | rfl | (simp only [List.length_drop, List.length_take]; rfl)) ?_; (with_reducible refine (codec_kind.calls k a0 a1 t111 _ ?side99  A3.out).mono ?_); (case side99 => first | exact HG.out | exact Glob.below HG.out (by repeat (first | (with_reducible first | exact HB.out | apply below_alloc | apply pw_below_drewN | apply below_drew1) | exact HB.out))); rintro e w' ⟨rfl, ⟨nd, rfl⟩⟩; refine ⟨_, rfl, ?_⟩) | ((with_reducible refine gate_callee (f := 52) rfl ?_); refine goesL_ (some 18) rfl rfl Tryd.func52 (by kernel_rfl) rfl #[.string a0, .int .i64 (wrap64 (a1 + 1)), .int .i64 3] rfl (by (try simp only [List.map_toArray, List.map_cons, List.map_nil]); first | done | rfl | (simp only [List.length_drop, List.length_take]; rfl)) ?_; (with_reducible refine (codec_raw.calls k a0 (wrap64 (a1 + 1)) 3 t112 t113 true _ ?side99  A5.out).mono ?_); (case side99 => first | exact HG.out | exact Glob.below HG.out (by repeat (first | (with_reducible first | exact HB.out | apply below_alloc | apply pw_below_drewN | apply below_drew1) | exact HB.out))); rintro e w9 ⟨rfl, hb⟩; refine ⟨_, rfl, ?_⟩; have n0_ := Aside0.mk (below_step (by repeat (first | (with_reducible first | exact HB.out | apply below_alloc | apply pw_below_drewN | apply below_drew1) | exact HB.out)) hb); clear HB; have HB := n0_; clear n0_; (try clear hb); (try clear hb2); (try clear hk); (try clear hi)))
        go_ret3
        exact ⟨by first | rfl | (simp [errW_none, errW_some] <;> rfl) | (simp [*, errW_none, errW_some] <;> rfl), by repeat (first | (with_reducible first | exact HB.out | apply below_alloc | apply pw_below_drewN | apply below_drew1) | exact HB.out)⟩
    · replace c6 := Bool.eq_false_iff.mpr c6
      subst c6
      have H1 : (some (0, 0, false)) = some (r1, r2, r3) := by rw [if_neg (show ¬ (false = true) by decide)] at H; exact H
      clear H
      have H := H1
      clear H1
      simp only [Option.some.injEq, Prod.mk.injEq] at H
      obtain ⟨rfl, rfl, rfl⟩ := H
      go_enter Tryd.func57, Tryd.ntmps57
      go_wp2_with (first | ((with_reducible refine gate_callee (f := 49) rfl ?_); refine goesL_ (some 12) rfl rfl Tryd.func49 (by kernel_rfl) rfl #[.string a0, .int .i64 a1] rfl (by (try simp only [List.map_toArray, List.map_cons, List.map_nil]); first | done | rfl | (simp only [List.length_drop, List.length_take]; rfl)) ?_; (with_reducible refine (codec_kind.calls k a0 a1 t111 _ ?side99  A3.out).mono ?_); (case side99 => first | exact HG.out | exact Glob.below HG.out (by repeat (first | (with_reducible first | exact HB.out | apply below_alloc | apply pw_below_drewN | apply below_drew1) | exact HB.out))); rintro e w' ⟨rfl, ⟨nd, rfl⟩⟩; refine ⟨_, rfl, ?_⟩) | ((with_reducible refine gate_callee (f := 52) rfl ?_); refine goesL_ (some 18) rfl rfl Tryd.func52 (by kernel_rfl) rfl #[.string a0, .int .i64 (wrap64 (a1 + 1)), .int .i64 3] rfl (by (try simp only [List.map_toArray, List.map_cons, List.map_nil]); first | done | rfl | (simp only [List.length_drop, List.length_take]; rfl)) ?_; (with_reducible refine (codec_raw.calls k a0 (wrap64 (a1 + 1)) 3 t112 t113 false _ ?side99  A5.out).mono ?_); (case side99 => first | exact HG.out | exact Glob.below HG.out (by repeat (first | (with_reducible first | exact HB.out | apply below_alloc | apply pw_below_drewN | apply below_drew1) | exact HB.out))); rintro e w10 ⟨rfl, hb⟩; refine ⟨_, rfl, ?_⟩; have n0_ := Aside0.mk (below_step (by repeat (first | (with_reducible first | exact HB.out | apply below_alloc | apply pw_below_drewN | apply below_drew1) | exact HB.out)) hb); clear HB; have HB := n0_; clear n0_; (try clear hb); (try clear hb2); (try clear hk); (try clear hi)))
      go_ret3
      exact ⟨by first | rfl | (simp [errW_none, errW_some] <;> rfl) | (simp [*, errW_none, errW_some] <;> rfl), by repeat (first | (with_reducible first | exact HB.out | apply below_alloc | apply pw_below_drewN | apply below_drew1) | exact HB.out)⟩
  · rw [if_neg c4] at H
    have c4b0 : (t111 == 6) = false := beq_eq_false_iff_ne.mpr c4
    have c4b1 : (t111 != 6) = true := bne_iff_ne.mpr c4
    simp only [Option.some.injEq, Prod.mk.injEq] at H
    obtain ⟨rfl, rfl, rfl⟩ := H
    go_enter Tryd.func57, Tryd.ntmps57
    go_wp2_with (first | ((with_reducible refine gate_callee (f := 49) rfl ?_); refine goesL_ (some 12) rfl rfl Tryd.func49 (by kernel_rfl) rfl #[.string a0, .int .i64 a1] rfl (by (try simp only [List.map_toArray, List.map_cons, List.map_nil]); first | done | rfl | (simp only [List.length_drop, List.length_take]; rfl)) ?_; (with_reducible refine (codec_kind.calls k a0 a1 t111 _ ?side99  A3.out).mono ?_); (case side99 => first | exact HG.out | exact Glob.below HG.out (by repeat (first | (with_reducible first | exact HB.out | apply below_alloc | apply pw_below_drewN | apply below_drew1) | exact HB.out))); rintro e w' ⟨rfl, ⟨nd, rfl⟩⟩; refine ⟨_, rfl, ?_⟩))
    go_ret3
    exact ⟨by first | rfl | (simp [errW_none, errW_some] <;> rfl) | (simp [*, errW_none, errW_some] <;> rfl), by repeat (first | (with_reducible first | exact HB.out | apply below_alloc | apply pw_below_drewN | apply below_drew1) | exact HB.out)⟩
end Go.Proofs.YtndeikikeeeigaaDoor.Q
end
section
namespace Go.Proofs.YtndeikikeeeigaaDoor.Q
open Go.RowKit Go.Proofs.YtndeikikeeeigaaDoorW.PrintWords Go.Proofs.YtndeikikeeeigaaDoorW.PrintLast Go.Proofs.YtndeikikeeeigaaDoorW.PrintMore
attribute [local go_sem] max2_int min2_int max_two min_two max_three min_three max_four min_four
set_option linter.unusedVariables false
set_option linter.unusedSimpArgs false
mutual
def codec_skip.j0 : Nat → ByteArray → Int → Int → Int → Int → Bool → Option (Int × Int × Bool)
  | 0, _, _, _, _, _, _ => none
  | k + 1, x0, x1, x2, x9, x26, x27 => if x27 = true then (some (wrap64 (x1 + 1), 0, true)) else (if x26 = 3 then (codec_skip.j1 k x0 x1 x2 x9 x26 (x26 == 3)) else (codec_skip.j1 k x0 x1 x2 x9 x26 (x26 == 4)))
def codec_skip.j1 : Nat → ByteArray → Int → Int → Int → Int → Bool → Option (Int × Int × Bool)
  | 0, _, _, _, _, _, _ => none
  | k + 1, x0, x1, x2, x9, x26, x32 => if x32 = true then ((codec_raw.f k x0 x1 x9).bind fun bt116 => (some (bt116.2.1, 0, bt116.2.2))) else (if x26 = 5 then ((codec_text.f k x0 x1).bind fun bt119 => (some (bt119.2.1, 0, bt119.2.2))) else (if x26 = 6 then ((codec_list.f k x0 x1).bind fun bt122 => (if bt122.2.2 = true then (codec_skip.j2 k x0 x2 bt122.1 bt122.2.1 (x2 == 0)) else (codec_skip.j2 k x0 x2 bt122.1 bt122.2.1 true))) else (some (0, 0, false))))
def codec_skip.j2 : Nat → ByteArray → Int → Int → Int → Bool → Option (Int × Int × Bool)
  | 0, _, _, _, _, _ => none
  | k + 1, x0, x2, x16, x17, x70 => if x70 = true then (some (0, 0, false)) else (codec_skip.l0 k x0 x2 x17 0 x16 0)
def codec_skip.l0 : Nat → ByteArray → Int → Int → Int → Int → Int → Option (Int × Int × Bool)
  | 0, _, _, _, _, _, _ => none
  | k + 1, x0, x2, x17, x19, x71, x72 => if x72 < x71 then ((codec_skip.f k x0 x17 (wrap64 (x2 - 1))).bind fun bt125 => (if bt125.2.2 = true then (codec_skip.l0 k x0 x2 bt125.1 (mx x19 bt125.2.1) x71 (wrap64 (x72 + 1))) else (some (0, 0, false)))) else (some (x17, wrap64 (x19 + 1), true))
def codec_skip.f : Nat → ByteArray → Int → Int → Option (Int × Int × Bool)
  | 0, _, _, _ => none
  | k + 1, a0, a1, a2 => (codec_kind.f k a0 a1).bind fun t115 => (if t115 = 1 then (codec_skip.j0 k a0 a1 a2 t115 t115 (t115 == 1)) else (codec_skip.j0 k a0 a1 a2 t115 t115 (t115 == 2)))
end
theorem codec_skip.mono_l : ∀ k, (∀ y0 y1 y2, LeO (codec_skip.f k y0 y1 y2) (codec_skip.f (k + 1) y0 y1 y2)) ∧ (∀ y0 y1 y2 y3 y4 y5, LeO (codec_skip.j0 k y0 y1 y2 y3 y4 y5) (codec_skip.j0 (k + 1) y0 y1 y2 y3 y4 y5)) ∧ (∀ y0 y1 y2 y3 y4 y5, LeO (codec_skip.j1 k y0 y1 y2 y3 y4 y5) (codec_skip.j1 (k + 1) y0 y1 y2 y3 y4 y5)) ∧ (∀ y0 y1 y2 y3 y4, LeO (codec_skip.j2 k y0 y1 y2 y3 y4) (codec_skip.j2 (k + 1) y0 y1 y2 y3 y4)) ∧ (∀ y0 y1 y2 y3 y4 y5, LeO (codec_skip.l0 k y0 y1 y2 y3 y4 y5) (codec_skip.l0 (k + 1) y0 y1 y2 y3 y4 y5))
  | 0 => ⟨fun _ _ _ r h => by simp [codec_skip.f] at h, fun _ _ _ _ _ _ r h => by simp [codec_skip.j0] at h, fun _ _ _ _ _ _ r h => by simp [codec_skip.j1] at h, fun _ _ _ _ _ r h => by simp [codec_skip.j2] at h, fun _ _ _ _ _ _ r h => by simp [codec_skip.l0] at h⟩
  | k + 1 => by
    obtain ⟨ih0, ih1, ih2, ih3, ih4⟩ := codec_skip.mono_l k
    refine ⟨?_, ?_, ?_, ?_, ?_⟩
    · intro y0 y1 y2
      unfold codec_skip.f
      repeat' first
      | (with_reducible exact ih0 _ _ _)
      | (with_reducible exact ih1 _ _ _ _ _ _)
      | (with_reducible exact ih2 _ _ _ _ _ _)
      | (with_reducible exact ih3 _ _ _ _ _)
      | (with_reducible exact ih4 _ _ _ _ _ _)
      | (with_reducible exact codec_kind.mono _ _ _)
      | (with_reducible exact codec_list.mono _ _ _)
      | (with_reducible exact codec_raw.mono _ _ _ _)
      | (with_reducible exact codec_text.mono _ _ _)
      | (with_reducible exact LeO.refl _)
      | (with_reducible exact LeO.none _)
      | (with_reducible refine LeO.ite ?_ ?_)
      | (with_reducible refine LeO.bind ?_ (fun _ => ?_))
      | exact ih0 _ _ _
      | exact ih1 _ _ _ _ _ _
      | exact ih2 _ _ _ _ _ _
      | exact ih3 _ _ _ _ _
      | exact ih4 _ _ _ _ _ _
      | exact codec_kind.mono _ _ _
      | exact codec_list.mono _ _ _
      | exact codec_raw.mono _ _ _ _
      | exact codec_text.mono _ _ _
      | exact LeO.none _
      | refine LeO.ite ?_ ?_
      | refine LeO.bind ?_ (fun _ => ?_)
    · intro y0 y1 y2 y3 y4 y5
      unfold codec_skip.j0
      repeat' first
      | (with_reducible exact ih0 _ _ _)
      | (with_reducible exact ih1 _ _ _ _ _ _)
      | (with_reducible exact ih2 _ _ _ _ _ _)
      | (with_reducible exact ih3 _ _ _ _ _)
      | (with_reducible exact ih4 _ _ _ _ _ _)
      | (with_reducible exact codec_kind.mono _ _ _)
      | (with_reducible exact codec_list.mono _ _ _)
      | (with_reducible exact codec_raw.mono _ _ _ _)
      | (with_reducible exact codec_text.mono _ _ _)
      | (with_reducible exact LeO.refl _)
      | (with_reducible exact LeO.none _)
      | (with_reducible refine LeO.ite ?_ ?_)
      | (with_reducible refine LeO.bind ?_ (fun _ => ?_))
      | exact ih0 _ _ _
      | exact ih1 _ _ _ _ _ _
      | exact ih2 _ _ _ _ _ _
      | exact ih3 _ _ _ _ _
      | exact ih4 _ _ _ _ _ _
      | exact codec_kind.mono _ _ _
      | exact codec_list.mono _ _ _
      | exact codec_raw.mono _ _ _ _
      | exact codec_text.mono _ _ _
      | exact LeO.none _
      | refine LeO.ite ?_ ?_
      | refine LeO.bind ?_ (fun _ => ?_)
    · intro y0 y1 y2 y3 y4 y5
      unfold codec_skip.j1
      repeat' first
      | (with_reducible exact ih0 _ _ _)
      | (with_reducible exact ih1 _ _ _ _ _ _)
      | (with_reducible exact ih2 _ _ _ _ _ _)
      | (with_reducible exact ih3 _ _ _ _ _)
      | (with_reducible exact ih4 _ _ _ _ _ _)
      | (with_reducible exact codec_kind.mono _ _ _)
      | (with_reducible exact codec_list.mono _ _ _)
      | (with_reducible exact codec_raw.mono _ _ _ _)
      | (with_reducible exact codec_text.mono _ _ _)
      | (with_reducible exact LeO.refl _)
      | (with_reducible exact LeO.none _)
      | (with_reducible refine LeO.ite ?_ ?_)
      | (with_reducible refine LeO.bind ?_ (fun _ => ?_))
      | exact ih0 _ _ _
      | exact ih1 _ _ _ _ _ _
      | exact ih2 _ _ _ _ _ _
      | exact ih3 _ _ _ _ _
      | exact ih4 _ _ _ _ _ _
      | exact codec_kind.mono _ _ _
      | exact codec_list.mono _ _ _
      | exact codec_raw.mono _ _ _ _
      | exact codec_text.mono _ _ _
      | exact LeO.none _
      | refine LeO.ite ?_ ?_
      | refine LeO.bind ?_ (fun _ => ?_)
    · intro y0 y1 y2 y3 y4
      unfold codec_skip.j2
      repeat' first
      | (with_reducible exact ih0 _ _ _)
      | (with_reducible exact ih1 _ _ _ _ _ _)
      | (with_reducible exact ih2 _ _ _ _ _ _)
      | (with_reducible exact ih3 _ _ _ _ _)
      | (with_reducible exact ih4 _ _ _ _ _ _)
      | (with_reducible exact codec_kind.mono _ _ _)
      | (with_reducible exact codec_list.mono _ _ _)
      | (with_reducible exact codec_raw.mono _ _ _ _)
      | (with_reducible exact codec_text.mono _ _ _)
      | (with_reducible exact LeO.refl _)
      | (with_reducible exact LeO.none _)
      | (with_reducible refine LeO.ite ?_ ?_)
      | (with_reducible refine LeO.bind ?_ (fun _ => ?_))
      | exact ih0 _ _ _
      | exact ih1 _ _ _ _ _ _
      | exact ih2 _ _ _ _ _ _
      | exact ih3 _ _ _ _ _
      | exact ih4 _ _ _ _ _ _
      | exact codec_kind.mono _ _ _
      | exact codec_list.mono _ _ _
      | exact codec_raw.mono _ _ _ _
      | exact codec_text.mono _ _ _
      | exact LeO.none _
      | refine LeO.ite ?_ ?_
      | refine LeO.bind ?_ (fun _ => ?_)
    · intro y0 y1 y2 y3 y4 y5
      unfold codec_skip.l0
      repeat' first
      | (with_reducible exact ih0 _ _ _)
      | (with_reducible exact ih1 _ _ _ _ _ _)
      | (with_reducible exact ih2 _ _ _ _ _ _)
      | (with_reducible exact ih3 _ _ _ _ _)
      | (with_reducible exact ih4 _ _ _ _ _ _)
      | (with_reducible exact codec_kind.mono _ _ _)
      | (with_reducible exact codec_list.mono _ _ _)
      | (with_reducible exact codec_raw.mono _ _ _ _)
      | (with_reducible exact codec_text.mono _ _ _)
      | (with_reducible exact LeO.refl _)
      | (with_reducible exact LeO.none _)
      | (with_reducible refine LeO.ite ?_ ?_)
      | (with_reducible refine LeO.bind ?_ (fun _ => ?_))
      | exact ih0 _ _ _
      | exact ih1 _ _ _ _ _ _
      | exact ih2 _ _ _ _ _ _
      | exact ih3 _ _ _ _ _
      | exact ih4 _ _ _ _ _ _
      | exact codec_kind.mono _ _ _
      | exact codec_list.mono _ _ _
      | exact codec_raw.mono _ _ _ _
      | exact codec_text.mono _ _ _
      | exact LeO.none _
      | refine LeO.ite ?_ ?_
      | refine LeO.bind ?_ (fun _ => ?_)
theorem codec_skip.mono : ∀ a0 a1 a2 k, LeO (codec_skip.f k a0 a1 a2) (codec_skip.f (k + 1) a0 a1 a2) := by
  intro a0 a1 a2 k
  obtain ⟨ih0, ih1, ih2, ih3, ih4⟩ := codec_skip.mono_l k
  exact ih0 a0 a1 a2
set_option maxHeartbeats 8000000 in
set_option maxRecDepth 100000 in
theorem codec_skip.calls (k : Nat) : ∀ (a0 : ByteArray) (a1 : Int) (a2 : Int) (r1 : Int) (r2 : Int) (r3 : Bool) (w : World) (hG : Glob w) (h : codec_skip.f k a0 a1 a2 = some (r1, r2, r3)),
    Calls Tryd.prog 36 #[.string a0, .int .i64 a1, .int .i64 a2] w fun e w' => e = .returned (.tuple #[.int .i64 r1, .int .i64 r2, .bool r3]) ∧ Below w.heap.size w w' := by
  induction k using Nat.strongRecOn with
  | _ k ih =>
  intro a0 a1 a2 r1 r2 r3 w hG h
  cases k with
  | zero => exact absurd h (by simp [codec_skip.f])
  | succ k =>
  simp only [codec_skip.f] at h
  have HG := Aside0.mk hG
  clear hG
  have HB := Aside0.mk (Below.refl w.heap.size w)
  have H : ((codec_kind.f k a0 a1).bind fun t115 => (if t115 = 1 then (codec_skip.j0 k a0 a1 a2 t115 t115 (t115 == 1)) else (codec_skip.j0 k a0 a1 a2 t115 t115 (t115 == 2)))) = some (r1, r2, r3) := h
  clear h
  replace H := Option.bind_eq_some_iff.mp H
  obtain ⟨t115, A40, H⟩ := H
  replace H : (if t115 = 1 then (codec_skip.j0 k a0 a1 a2 t115 t115 (t115 == 1)) else (codec_skip.j0 k a0 a1 a2 t115 t115 (t115 == 2))) = some (r1, r2, r3) := H
  have A4 := Aside0.mk A40
  clear A40
  have HC5 := Aside0.mk H
  clear H
  go_enter Tryd.func36, Tryd.ntmps36
  go_upto_if 27 with (first | ((with_reducible refine gate_callee (f := 49) rfl ?_); refine goesL_ (some 25) rfl rfl Tryd.func49 (by kernel_rfl) rfl #[.string a0, .int .i64 a1] rfl (by (try simp only [List.map_toArray, List.map_cons, List.map_nil]); first | done | rfl | (simp only [List.length_drop, List.length_take]; rfl)) ?_; (with_reducible refine (codec_kind.calls k a0 a1 t115 _ ?side99  A4.out).mono ?_); (case side99 => first | exact HG.out | exact Glob.below HG.out (by repeat (first | (with_reducible first | exact HB.out | apply below_alloc | apply pw_below_drewN | apply below_drew1) | exact HB.out))); rintro e w' ⟨rfl, ⟨nd, rfl⟩⟩; refine ⟨_, rfl, ?_⟩))
  (try simp only [Act.put, List.setIfInBounds_toArray, List.set_cons_zero, List.set_cons_succ])
  go_cut [27] (fun v27 wc => ∃ (kq : Nat) (x27_4 : Bool), v27 = .bool x27_4 ∧ Aside0 (codec_skip.j0 kq a0 a1 a2 t115 t115 x27_4 = some (r1, r2, r3)) ∧ Aside0 (kq ≤ k) ∧ Aside0 (Below w.heap.size w wc))
  case first =>
    have H := HC5.out
    clear HC5
    by_cases c6 : t115 = 1
    · rw [if_pos c6] at H
      have c6b0 : (t115 == 1) = true := beq_iff_eq.mpr c6
      have c6b1 : (t115 != 1) = false := bne_eq_false_iff_eq.mpr c6
      clear c6
      (first | rw [c6b0] | (simp only [i64_w, i32_w]; rw [c6b0]) | skip)
      have H' := Aside0.mk H
      clear H
      go_wp2
      go_meet
      case rel => exact ⟨_, ((t115 == 1)), (by first | rfl | (simp; done) | (simp [*]; done)), H', ⟨by first | omega | exact Nat.le_refl _⟩, ⟨by repeat (first | (with_reducible first | exact HB.out | apply below_alloc | apply pw_below_drewN | apply below_drew1) | exact HB.out)⟩⟩
    · rw [if_neg c6] at H
      have c6b0 : (t115 == 1) = false := beq_eq_false_iff_ne.mpr c6
      have c6b1 : (t115 != 1) = true := bne_iff_ne.mpr c6
      (first | rw [c6b0] | (simp only [i64_w, i32_w]; rw [c6b0]) | skip)
      have H' := Aside0.mk H
      clear H
      go_wp2
      go_meet
      case rel => exact ⟨_, ((t115 == 2)), (by first | rfl | (simp; done) | (simp [*]; done)), H', ⟨by first | omega | exact Nat.le_refl _⟩, ⟨by repeat (first | (with_reducible first | exact HB.out | apply below_alloc | apply pw_below_drewN | apply below_drew1) | exact HB.out)⟩⟩
  case rest =>
    clear HC5
    try clear p2
    try clear c3
    try clear c4
    try clear c6
    try clear c6b0
    try clear c6b1
    obtain ⟨kq, x27_4, rfl, HA, HJ4, HB⟩ := hcut
    cases kq with
    | zero => exact absurd HA.out (by simp [codec_skip.j0])
    | succ kj4 =>
      have H := HA.out
      clear HA
      simp only [codec_skip.j0] at H
      by_cases c7 : x27_4 = true
      · subst c7
        have H1 : (some (wrap64 (a1 + 1), 0, true)) = some (r1, r2, r3) := by rw [if_pos rfl] at H; exact H
        clear H
        have H := H1
        clear H1
        simp only [Option.some.injEq, Prod.mk.injEq] at H
        obtain ⟨rfl, rfl, rfl⟩ := H
        go_wp2
        go_ret3
        exact ⟨by first | rfl | (simp [errW_none, errW_some] <;> rfl) | (simp [*, errW_none, errW_some] <;> rfl), by repeat (first | (with_reducible first | exact HB.out | apply below_alloc | apply pw_below_drewN | apply below_drew1) | exact HB.out)⟩
      · replace c7 := Bool.eq_false_iff.mpr c7
        subst c7
        have H1 : (if t115 = 3 then (codec_skip.j1 kj4 a0 a1 a2 t115 t115 (t115 == 3)) else (codec_skip.j1 kj4 a0 a1 a2 t115 t115 (t115 == 4))) = some (r1, r2, r3) := by rw [if_neg (show ¬ (false = true) by decide)] at H; exact H
        clear H
        have H := H1
        clear H1
        have HC8 := Aside0.mk H
        clear H
        go_upto_if 32 with (fail)
        go_cut [32] (fun v32 wc => ∃ (kq : Nat) (x32_7 : Bool), v32 = .bool x32_7 ∧ Aside0 (codec_skip.j1 kq a0 a1 a2 t115 t115 x32_7 = some (r1, r2, r3)) ∧ Aside0 (kq ≤ kj4) ∧ Aside0 (Below w.heap.size w wc))
        case first =>
          have H := HC8.out
          clear HC8
          by_cases c9 : t115 = 3
          · rw [if_pos c9] at H
            have c9b0 : (t115 == 3) = true := beq_iff_eq.mpr c9
            have c9b1 : (t115 != 3) = false := bne_eq_false_iff_eq.mpr c9
            clear c9
            (first | rw [c9b0] | (simp only [i64_w, i32_w]; rw [c9b0]) | skip)
            have H' := Aside0.mk H
            clear H
            go_wp2
            go_meet
            case rel => exact ⟨_, ((t115 == 3)), (by first | rfl | (simp; done) | (simp [*]; done)), H', ⟨by have := HJ4.out; first | omega | exact Nat.le_refl _⟩, ⟨by repeat (first | (with_reducible first | exact HB.out | apply below_alloc | apply pw_below_drewN | apply below_drew1) | exact HB.out)⟩⟩
          · rw [if_neg c9] at H
            have c9b0 : (t115 == 3) = false := beq_eq_false_iff_ne.mpr c9
            have c9b1 : (t115 != 3) = true := bne_iff_ne.mpr c9
            (first | rw [c9b0] | (simp only [i64_w, i32_w]; rw [c9b0]) | skip)
            have H' := Aside0.mk H
            clear H
            go_wp2
            go_meet
            case rel => exact ⟨_, ((t115 == 4)), (by first | rfl | (simp; done) | (simp [*]; done)), H', ⟨by have := HJ4.out; first | omega | exact Nat.le_refl _⟩, ⟨by repeat (first | (with_reducible first | exact HB.out | apply below_alloc | apply pw_below_drewN | apply below_drew1) | exact HB.out)⟩⟩
        case rest =>
          clear HC8
          try clear p2
          try clear c3
          try clear c4
          try clear c6
          try clear c6b0
          try clear c6b1
          try clear p6
          try clear c7
          try clear c9
          try clear c9b0
          try clear c9b1
          try clear p2
          obtain ⟨kq, x32_7, rfl, HA, HJ7, HB⟩ := hcut
          cases kq with
          | zero => exact absurd HA.out (by simp [codec_skip.j1])
          | succ kj7 =>
            have H := HA.out
            clear HA
            simp only [codec_skip.j1] at H
            by_cases c10 : x32_7 = true
            · subst c10
              have H1 : ((codec_raw.f kj7 a0 a1 t115).bind fun bt116 => (some (bt116.2.1, 0, bt116.2.2))) = some (r1, r2, r3) := by rw [if_pos rfl] at H; exact H
              clear H
              have H := H1
              clear H1
              replace H := Option.bind_eq_some_iff.mp H
              obtain ⟨⟨t116, t117, t118⟩, A110, H⟩ := H
              replace H : (some (t117, 0, t118)) = some (r1, r2, r3) := H
              have A11 := Aside0.mk A110
              clear A110
              simp only [Option.some.injEq, Prod.mk.injEq] at H
              obtain ⟨rfl, rfl, rfl⟩ := H
              go_wp2_with (first | ((with_reducible refine gate_callee (f := 52) rfl ?_); refine goesL_ (some 39) rfl rfl Tryd.func52 (by kernel_rfl) rfl #[.string a0, .int .i64 a1, .int .i64 t115] rfl (by (try simp only [List.map_toArray, List.map_cons, List.map_nil]); first | done | rfl | (simp only [List.length_drop, List.length_take]; rfl)) ?_; (with_reducible refine (codec_raw.calls kj7 a0 a1 t115 t116 t117 t118 _ ?side99  A11.out).mono ?_); (case side99 => first | exact HG.out | exact Glob.below HG.out (by repeat (first | (with_reducible first | exact HB.out | apply below_alloc | apply pw_below_drewN | apply below_drew1) | exact HB.out))); rintro e w12 ⟨rfl, hb⟩; refine ⟨_, rfl, ?_⟩; have n0_ := Aside0.mk (below_step (by repeat (first | (with_reducible first | exact HB.out | apply below_alloc | apply pw_below_drewN | apply below_drew1) | exact HB.out)) hb); clear HB; have HB := n0_; clear n0_; (try clear hb); (try clear hb2); (try clear hk); (try clear hi)))
              go_ret3
              exact ⟨by first | rfl | (simp [errW_none, errW_some] <;> rfl) | (simp [*, errW_none, errW_some] <;> rfl), by repeat (first | (with_reducible first | exact HB.out | apply below_alloc | apply pw_below_drewN | apply below_drew1) | exact HB.out)⟩
            · replace c10 := Bool.eq_false_iff.mpr c10
              subst c10
              have H1 : (if t115 = 5 then ((codec_text.f kj7 a0 a1).bind fun bt119 => (some (bt119.2.1, 0, bt119.2.2))) else (if t115 = 6 then ((codec_list.f kj7 a0 a1).bind fun bt122 => (if bt122.2.2 = true then (codec_skip.j2 kj7 a0 a2 bt122.1 bt122.2.1 (a2 == 0)) else (codec_skip.j2 kj7 a0 a2 bt122.1 bt122.2.1 true))) else (some (0, 0, false)))) = some (r1, r2, r3) := by rw [if_neg (show ¬ (false = true) by decide)] at H; exact H
              clear H
              have H := H1
              clear H1
              by_cases c13 : t115 = 5
              · rw [if_pos c13] at H
                have c13b0 : (t115 == 5) = true := beq_iff_eq.mpr c13
                have c13b1 : (t115 != 5) = false := bne_eq_false_iff_eq.mpr c13
                clear c13
                replace H := Option.bind_eq_some_iff.mp H
                obtain ⟨⟨t119, t120, t121⟩, A140, H⟩ := H
                replace H : (some (t120, 0, t121)) = some (r1, r2, r3) := H
                have A14 := Aside0.mk A140
                clear A140
                simp only [Option.some.injEq, Prod.mk.injEq] at H
                obtain ⟨rfl, rfl, rfl⟩ := H
                go_wp2_with (first | ((with_reducible refine gate_callee (f := 55) rfl ?_); refine goesL_ (some 50) rfl rfl Tryd.func55 (by kernel_rfl) rfl #[.string a0, .int .i64 a1] rfl (by (try simp only [List.map_toArray, List.map_cons, List.map_nil]); first | done | rfl | (simp only [List.length_drop, List.length_take]; rfl)) ?_; (with_reducible refine (codec_text.calls kj7 a0 a1 t119 t120 t121 _ ?side99  A14.out).mono ?_); (case side99 => first | exact HG.out | exact Glob.below HG.out (by repeat (first | (with_reducible first | exact HB.out | apply below_alloc | apply pw_below_drewN | apply below_drew1) | exact HB.out))); rintro e w15 ⟨rfl, hb⟩; refine ⟨_, rfl, ?_⟩; have n0_ := Aside0.mk (below_step (by repeat (first | (with_reducible first | exact HB.out | apply below_alloc | apply pw_below_drewN | apply below_drew1) | exact HB.out)) hb); clear HB; have HB := n0_; clear n0_; (try clear hb); (try clear hb2); (try clear hk); (try clear hi)))
                go_ret3
                exact ⟨by first | rfl | (simp [errW_none, errW_some] <;> rfl) | (simp [*, errW_none, errW_some] <;> rfl), by repeat (first | (with_reducible first | exact HB.out | apply below_alloc | apply pw_below_drewN | apply below_drew1) | exact HB.out)⟩
              · rw [if_neg c13] at H
                have c13b0 : (t115 == 5) = false := beq_eq_false_iff_ne.mpr c13
                have c13b1 : (t115 != 5) = true := bne_iff_ne.mpr c13
                by_cases c16 : t115 = 6
                · rw [if_pos c16] at H
                  have c16b0 : (t115 == 6) = true := beq_iff_eq.mpr c16
                  have c16b1 : (t115 != 6) = false := bne_eq_false_iff_eq.mpr c16
                  clear c16
                  replace H := Option.bind_eq_some_iff.mp H
                  obtain ⟨⟨t122, t123, t124⟩, A170, H⟩ := H
                  replace H : (if t124 = true then (codec_skip.j2 kj7 a0 a2 t122 t123 (a2 == 0)) else (codec_skip.j2 kj7 a0 a2 t122 t123 true)) = some (r1, r2, r3) := H
                  have A17 := Aside0.mk A170
                  clear A170
                  have HC18 := Aside0.mk H
                  clear H
                  go_upto_region 15 with (first | ((with_reducible refine gate_callee (f := 57) rfl ?_); refine goesL_ (some 61) rfl rfl Tryd.func57 (by kernel_rfl) rfl #[.string a0, .int .i64 a1] rfl (by (try simp only [List.map_toArray, List.map_cons, List.map_nil]); first | done | rfl | (simp only [List.length_drop, List.length_take]; rfl)) ?_; (with_reducible refine (codec_list.calls kj7 a0 a1 t122 t123 t124 _ ?side99  A17.out).mono ?_); (case side99 => first | exact HG.out | exact Glob.below HG.out (by repeat (first | (with_reducible first | exact HB.out | apply below_alloc | apply pw_below_drewN | apply below_drew1) | exact HB.out))); rintro e w19 ⟨rfl, hb⟩; refine ⟨_, rfl, ?_⟩; have n0_ := Aside0.mk (below_step (by repeat (first | (with_reducible first | exact HB.out | apply below_alloc | apply pw_below_drewN | apply below_drew1) | exact HB.out)) hb); clear HB; have HB := n0_; clear n0_; (try clear hb); (try clear hb2); (try clear hk); (try clear hi)))
                  (try simp only [Act.put, List.setIfInBounds_toArray, List.set_cons_zero, List.set_cons_succ])
                  go_cut [70] (fun v70 wc => ∃ (kq : Nat) (x70_17 : Bool), v70 = .bool x70_17 ∧ Aside0 (codec_skip.j2 kq a0 a2 t122 t123 x70_17 = some (r1, r2, r3)) ∧ Aside0 (kq ≤ kj7) ∧ Aside0 (Below w.heap.size w wc))
                  case first =>
                    have H := HC18.out
                    clear HC18
                    by_cases c20 : t124 = true
                    · subst c20
                      have H1 : (codec_skip.j2 kj7 a0 a2 t122 t123 (a2 == 0)) = some (r1, r2, r3) := by rw [if_pos rfl] at H; exact H
                      clear H
                      have H := H1
                      clear H1
                      have H' := Aside0.mk H
                      clear H
                      go_wp2
                      go_meet
                      case rel => exact ⟨_, ((a2 == 0)), (by first | rfl | (simp; done) | (simp [*]; done)), H', ⟨by have := HJ4.out; have := HJ7.out; first | omega | exact Nat.le_refl _⟩, ⟨by repeat (first | (with_reducible first | exact HB.out | apply below_alloc | apply pw_below_drewN | apply below_drew1) | exact HB.out)⟩⟩
                    · replace c20 := Bool.eq_false_iff.mpr c20
                      subst c20
                      have H1 : (codec_skip.j2 kj7 a0 a2 t122 t123 true) = some (r1, r2, r3) := by rw [if_neg (show ¬ (false = true) by decide)] at H; exact H
                      clear H
                      have H := H1
                      clear H1
                      have H' := Aside0.mk H
                      clear H
                      go_wp2
                      go_meet
                      case rel => exact ⟨_, (true), (by first | rfl | (simp; done) | (simp [*]; done)), H', ⟨by have := HJ4.out; have := HJ7.out; first | omega | exact Nat.le_refl _⟩, ⟨by repeat (first | (with_reducible first | exact HB.out | apply below_alloc | apply pw_below_drewN | apply below_drew1) | exact HB.out)⟩⟩
                  case rest =>
                    clear HC18
                    try clear c1
                    try clear c2
                    try clear p2
                    try clear c3
                    try clear c4
                    try clear c5
                    try clear c6
                    try clear c6b0
                    try clear c6b1
                    try clear p6
                    try clear c7
                    try clear c9
                    try clear c9b0
                    try clear c9b1
                    try clear c10
                    try clear c13
                    try clear c13b0
                    try clear c13b1
                    try clear c16
                    try clear c16b0
                    try clear c16b1
                    try clear c20
                    try clear p2
                    try clear p6
                    obtain ⟨kq, x70_17, rfl, HA, HJ17, HB⟩ := hcut
                    cases kq with
                    | zero => exact absurd HA.out (by simp [codec_skip.j2])
                    | succ kj17 =>
                      have H := HA.out
                      clear HA
                      simp only [codec_skip.j2] at H
                      by_cases c21 : x70_17 = true
                      · subst c21
                        have H1 : (some (0, 0, false)) = some (r1, r2, r3) := by rw [if_pos rfl] at H; exact H
                        clear H
                        have H := H1
                        clear H1
                        simp only [Option.some.injEq, Prod.mk.injEq] at H
                        obtain ⟨rfl, rfl, rfl⟩ := H
                        go_wp2
                        go_ret3
                        exact ⟨by first | rfl | (simp [errW_none, errW_some] <;> rfl) | (simp [*, errW_none, errW_some] <;> rfl), by repeat (first | (with_reducible first | exact HB.out | apply below_alloc | apply pw_below_drewN | apply below_drew1) | exact HB.out)⟩
                      · replace c21 := Bool.eq_false_iff.mpr c21
                        subst c21
                        have H1 : (codec_skip.l0 kj17 a0 a2 t123 0 t122 0) = some (r1, r2, r3) := by rw [if_neg (show ¬ (false = true) by decide)] at H; exact H
                        clear H
                        have H := H1
                        clear H1
                        have H' := Aside0.mk H
                        clear H
                        go_wp2
                        go_loopg [17, 19, 72] kj17 (fun kq v17 v19 v72 w' => ∃ (x17_4 : Int) (x19_4 : Int) (x72_4 : Int), v17 = .int .i64 x17_4 ∧ v19 = .int .i64 x19_4 ∧ v72 = .int .i64 x72_4 ∧ Aside0 (codec_skip.l0 kq a0 a2 x17_4 x19_4 t122 x72_4 = some (r1, r2, r3)) ∧ Aside0 (kq ≤ kj17) ∧ Aside0 (Below w.heap.size w w'))
                        case atStart => exact ⟨(t123), (0), (0), (by first | rfl | (simp; done) | (simp [*]; done)), (by first | rfl | (simp; done) | (simp [*]; done)), (by first | rfl | (simp; done) | (simp [*]; done)), H', ⟨Nat.le_refl _⟩, ⟨by repeat (first | (with_reducible first | exact HB.out | apply below_alloc | apply pw_below_drewN | apply below_drew1) | exact HB.out)⟩⟩
                        case round =>
                          clear H'
                          try clear c1
                          try clear c2
                          try clear p2
                          try clear c3
                          try clear c4
                          try clear c5
                          try clear c6
                          try clear c6b0
                          try clear c6b1
                          try clear p6
                          try clear c7
                          try clear c9
                          try clear c9b0
                          try clear c9b1
                          try clear c10
                          try clear c13
                          try clear c13b0
                          try clear c13b1
                          try clear c16
                          try clear c16b0
                          try clear c16b1
                          try clear c20
                          try clear c21
                          try clear p2
                          try clear p6
                          obtain ⟨x17_4, x19_4, x72_4, rfl, rfl, rfl, HA, HK4, HB⟩ := hrel
                          cases gk with
                          | zero => exact absurd HA.out (by simp [codec_skip.l0])
                          | succ k4 =>
                            have H := HA.out
                            clear HA
                            simp only [codec_skip.l0] at H
                            by_cases c22 : x72_4 < t122
                            · rw [if_pos c22] at H
                              have c22b0 : decide (x72_4 < t122) = true := decide_eq_true c22
                              clear c22
                              replace H := Option.bind_eq_some_iff.mp H
                              obtain ⟨⟨t125, t126, t127⟩, A230, H⟩ := H
                              replace H : (if t127 = true then (codec_skip.l0 k4 a0 a2 t125 (mx x19_4 t126) t122 (wrap64 (x72_4 + 1))) else (some (0, 0, false))) = some (r1, r2, r3) := H
                              have A23 := Aside0.mk A230
                              clear A230
                              by_cases c24 : t127 = true
                              · subst c24
                                have H1 : (codec_skip.l0 k4 a0 a2 t125 (mx x19_4 t126) t122 (wrap64 (x72_4 + 1))) = some (r1, r2, r3) := by rw [if_pos rfl] at H; exact H
                                clear H
                                have H := H1
                                clear H1
                                obtain ⟨ji25, hji25⟩ : ∃ j_ : Int, (mx x19_4 t126) = j_ := ⟨_, rfl⟩
                                replace H : (codec_skip.l0 k4 a0 a2 t125 ji25 t122 (wrap64 (x72_4 + 1))) = some (r1, r2, r3) := by first | (rw [hji25] at H; exact H) | (simp only [hji25] at H ⊢; exact H)
                                (try rw [hji25] at A23)
                                have hji25_ : (if x19_4 < t126 then t126 else x19_4) = ji25 := hji25
                                have H' := Aside0.mk H
                                clear H
                                go_wp2_with (first | ((with_reducible refine gate_callee (f := 36) rfl ?_); refine goesL_ (some 79) rfl rfl Tryd.func36 (by kernel_rfl) rfl #[.string a0, .int .i64 x17_4, .int .i64 (wrap64 (a2 - 1))] rfl (by (try simp only [List.map_toArray, List.map_cons, List.map_nil]); first | done | rfl | (simp only [List.length_drop, List.length_take]; rfl)) ?_; (with_reducible refine (ih k4 (by have := HJ4.out; have := HJ7.out; have := HJ17.out; have := HK4.out; omega) a0 x17_4 (wrap64 (a2 - 1)) t125 t126 true _ ?side99  A23.out).mono ?_); (case side99 => first | exact HG.out | exact Glob.below HG.out (by repeat (first | (with_reducible first | exact HB.out | apply below_alloc | apply pw_below_drewN | apply below_drew1) | exact HB.out))); rintro e w26 ⟨rfl, hb⟩; refine ⟨_, rfl, ?_⟩; have n0_ := Aside0.mk (below_step (by repeat (first | (with_reducible first | exact HB.out | apply below_alloc | apply pw_below_drewN | apply below_drew1) | exact HB.out)) hb); clear HB; have HB := n0_; clear n0_; (try clear hb); (try clear hb2); (try clear hk); (try clear hi)))
                                go_roundg k4
                                case measure => have := HJ4.out; have := HJ7.out; have := HJ17.out; have := HK4.out; omega
                                case rel => exact ⟨(t125), (ji25), (wrap64 (x72_4 + 1)), (by first | rfl | (simp; done) | (simp [*]; done)), (by first | rfl | (simp; done) | (simp only [← hji25] <;> (first | rfl | simp)) | (simp [*]; done)), (by first | rfl | (simp; done) | (simp [*]; done)), H', ⟨by have := HJ4.out; have := HJ7.out; have := HJ17.out; have := HK4.out; omega⟩, ⟨by repeat (first | (with_reducible first | exact HB.out | apply below_alloc | apply pw_below_drewN | apply below_drew1) | exact HB.out)⟩⟩
                              · replace c24 := Bool.eq_false_iff.mpr c24
                                subst c24
                                have H1 : (some (0, 0, false)) = some (r1, r2, r3) := by rw [if_neg (show ¬ (false = true) by decide)] at H; exact H
                                clear H
                                have H := H1
                                clear H1
                                simp only [Option.some.injEq, Prod.mk.injEq] at H
                                obtain ⟨rfl, rfl, rfl⟩ := H
                                go_wp2_with (first | ((with_reducible refine gate_callee (f := 36) rfl ?_); refine goesL_ (some 79) rfl rfl Tryd.func36 (by kernel_rfl) rfl #[.string a0, .int .i64 x17_4, .int .i64 (wrap64 (a2 - 1))] rfl (by (try simp only [List.map_toArray, List.map_cons, List.map_nil]); first | done | rfl | (simp only [List.length_drop, List.length_take]; rfl)) ?_; (with_reducible refine (ih k4 (by have := HJ4.out; have := HJ7.out; have := HJ17.out; have := HK4.out; omega) a0 x17_4 (wrap64 (a2 - 1)) t125 t126 false _ ?side99  A23.out).mono ?_); (case side99 => first | exact HG.out | exact Glob.below HG.out (by repeat (first | (with_reducible first | exact HB.out | apply below_alloc | apply pw_below_drewN | apply below_drew1) | exact HB.out))); rintro e w27 ⟨rfl, hb⟩; refine ⟨_, rfl, ?_⟩; have n0_ := Aside0.mk (below_step (by repeat (first | (with_reducible first | exact HB.out | apply below_alloc | apply pw_below_drewN | apply below_drew1) | exact HB.out)) hb); clear HB; have HB := n0_; clear n0_; (try clear hb); (try clear hb2); (try clear hk); (try clear hi)))
                                go_ret3
                                exact ⟨by first | rfl | (simp [errW_none, errW_some] <;> rfl) | (simp [*, errW_none, errW_some] <;> rfl), by repeat (first | (with_reducible first | exact HB.out | apply below_alloc | apply pw_below_drewN | apply below_drew1) | exact HB.out)⟩
                            · rw [if_neg c22] at H
                              have c22b0 : decide (x72_4 < t122) = false := decide_eq_false c22
                              clear c22
                              simp only [Option.some.injEq, Prod.mk.injEq] at H
                              obtain ⟨rfl, rfl, rfl⟩ := H
                              go_wp2
                              go_ret3
                              exact ⟨by first | rfl | (simp [errW_none, errW_some] <;> rfl) | (simp [*, errW_none, errW_some] <;> rfl), by repeat (first | (with_reducible first | exact HB.out | apply below_alloc | apply pw_below_drewN | apply below_drew1) | exact HB.out)⟩
                · rw [if_neg c16] at H
                  have c16b0 : (t115 == 6) = false := beq_eq_false_iff_ne.mpr c16
                  have c16b1 : (t115 != 6) = true := bne_iff_ne.mpr c16
                  simp only [Option.some.injEq, Prod.mk.injEq] at H
                  obtain ⟨rfl, rfl, rfl⟩ := H
                  go_wp2
                  go_ret3
                  exact ⟨by first | rfl | (simp [errW_none, errW_some] <;> rfl) | (simp [*, errW_none, errW_some] <;> rfl), by repeat (first | (with_reducible first | exact HB.out | apply below_alloc | apply pw_below_drewN | apply below_drew1) | exact HB.out)⟩
end Go.Proofs.YtndeikikeeeigaaDoor.Q
end
section
namespace Go.Proofs.YtndeikikeeeigaaDoor.Q
open Go.RowKit Go.Proofs.YtndeikikeeeigaaDoorW.PrintWords Go.Proofs.YtndeikikeeeigaaDoorW.PrintLast Go.Proofs.YtndeikikeeeigaaDoorW.PrintMore
attribute [local go_sem] max2_int min2_int max_two min_two max_three min_three max_four min_four
set_option linter.unusedVariables false
set_option linter.unusedSimpArgs false
def codec_Depth.f (k : Nat) (a0 : ByteArray) : Option (Int) := (codec_skip.f k a0 0 16).bind fun bt128 => (if bt128.2.2 = true then (if bt128.1 = (a0.size : Int) then (some bt128.2.1) else (some (-1))) else (some (-1)))
theorem codec_Depth.mono : ∀ a0 k, LeO (codec_Depth.f k a0) (codec_Depth.f (k + 1) a0) := by
  intro a0 k
  unfold codec_Depth.f
  repeat' first
      | (with_reducible exact codec_skip.mono _ _ _ _)
      | (with_reducible exact LeO.refl _)
      | (with_reducible exact LeO.none _)
      | (with_reducible refine LeO.ite ?_ ?_)
      | (with_reducible refine LeO.bind ?_ (fun _ => ?_))
      | exact codec_skip.mono _ _ _ _
      | exact LeO.none _
      | refine LeO.ite ?_ ?_
      | refine LeO.bind ?_ (fun _ => ?_)
set_option maxHeartbeats 8000000 in
set_option maxRecDepth 100000 in
theorem codec_Depth.calls (k : Nat) (a0 : ByteArray) (r : Int) (w : World) (hG : Glob w) (h : codec_Depth.f k a0 = some r) :
    Calls Tryd.prog 11 #[.string a0] w fun e w' => e = .returned (.int .i64 r) ∧ Below w.heap.size w w' := by
  have HG := Aside0.mk hG
  clear hG
  have HB := Aside0.mk (Below.refl w.heap.size w)
  have H : ((codec_skip.f k a0 0 16).bind fun bt128 => (if bt128.2.2 = true then (if bt128.1 = (a0.size : Int) then (some bt128.2.1) else (some (-1))) else (some (-1)))) = some r := h
  clear h
  replace H := Option.bind_eq_some_iff.mp H
  obtain ⟨⟨t128, t129, t130⟩, A20, H⟩ := H
  replace H : (if t130 = true then (if t128 = (a0.size : Int) then (some t129) else (some (-1))) else (some (-1))) = some r := H
  have A2 := Aside0.mk A20
  clear A20
  by_cases c3 : t130 = true
  · subst c3
    have H1 : (if t128 = (a0.size : Int) then (some t129) else (some (-1))) = some r := by rw [if_pos rfl] at H; exact H
    clear H
    have H := H1
    clear H1
    by_cases c4 : t128 = (a0.size : Int)
    · rw [if_pos c4] at H
      have c4b0 : (t128 == (a0.size : Int)) = true := beq_iff_eq.mpr c4
      have c4b1 : (t128 != (a0.size : Int)) = false := bne_eq_false_iff_eq.mpr c4
      clear c4
      obtain rfl := Option.some.inj H
      go_enter Tryd.func11, Tryd.ntmps11
      go_wp2_with (first | ((with_reducible refine gate_callee (f := 36) rfl ?_); refine goesL_ (some 8) rfl rfl Tryd.func36 (by kernel_rfl) rfl #[.string a0, .int .i64 0, .int .i64 16] rfl (by (try simp only [List.map_toArray, List.map_cons, List.map_nil]); first | done | rfl | (simp only [List.length_drop, List.length_take]; rfl)) ?_; (with_reducible refine (codec_skip.calls k a0 0 16 t128 t129 true _ ?side99  A2.out).mono ?_); (case side99 => first | exact HG.out | exact Glob.below HG.out (by repeat (first | (with_reducible first | exact HB.out | apply below_alloc | apply pw_below_drewN | apply below_drew1) | exact HB.out))); rintro e w5 ⟨rfl, hb⟩; refine ⟨_, rfl, ?_⟩; have n0_ := Aside0.mk (below_step (by repeat (first | (with_reducible first | exact HB.out | apply below_alloc | apply pw_below_drewN | apply below_drew1) | exact HB.out)) hb); clear HB; have HB := n0_; clear n0_; (try clear hb); (try clear hb2); (try clear hk); (try clear hi)))
      go_ret
      exact ⟨by first | rfl | (simp [errW_none, errW_some] <;> rfl) | (simp [*, errW_none, errW_some] <;> rfl), by repeat (first | (with_reducible first | exact HB.out | apply below_alloc | apply pw_below_drewN | apply below_drew1) | exact HB.out)⟩
    · rw [if_neg c4] at H
      have c4b0 : (t128 == (a0.size : Int)) = false := beq_eq_false_iff_ne.mpr c4
      have c4b1 : (t128 != (a0.size : Int)) = true := bne_iff_ne.mpr c4
      obtain rfl := Option.some.inj H
      go_enter Tryd.func11, Tryd.ntmps11
      go_wp2_with (first | ((with_reducible refine gate_callee (f := 36) rfl ?_); refine goesL_ (some 8) rfl rfl Tryd.func36 (by kernel_rfl) rfl #[.string a0, .int .i64 0, .int .i64 16] rfl (by (try simp only [List.map_toArray, List.map_cons, List.map_nil]); first | done | rfl | (simp only [List.length_drop, List.length_take]; rfl)) ?_; (with_reducible refine (codec_skip.calls k a0 0 16 t128 t129 true _ ?side99  A2.out).mono ?_); (case side99 => first | exact HG.out | exact Glob.below HG.out (by repeat (first | (with_reducible first | exact HB.out | apply below_alloc | apply pw_below_drewN | apply below_drew1) | exact HB.out))); rintro e w6 ⟨rfl, hb⟩; refine ⟨_, rfl, ?_⟩; have n0_ := Aside0.mk (below_step (by repeat (first | (with_reducible first | exact HB.out | apply below_alloc | apply pw_below_drewN | apply below_drew1) | exact HB.out)) hb); clear HB; have HB := n0_; clear n0_; (try clear hb); (try clear hb2); (try clear hk); (try clear hi)))
      go_ret
      exact ⟨by first | rfl | (simp [errW_none, errW_some] <;> rfl) | (simp [*, errW_none, errW_some] <;> rfl), by repeat (first | (with_reducible first | exact HB.out | apply below_alloc | apply pw_below_drewN | apply below_drew1) | exact HB.out)⟩
  · replace c3 := Bool.eq_false_iff.mpr c3
    subst c3
    have H1 : (some (-1)) = some r := by rw [if_neg (show ¬ (false = true) by decide)] at H; exact H
    clear H
    have H := H1
    clear H1
    obtain rfl := Option.some.inj H
    go_enter Tryd.func11, Tryd.ntmps11
    go_wp2_with (first | ((with_reducible refine gate_callee (f := 36) rfl ?_); refine goesL_ (some 8) rfl rfl Tryd.func36 (by kernel_rfl) rfl #[.string a0, .int .i64 0, .int .i64 16] rfl (by (try simp only [List.map_toArray, List.map_cons, List.map_nil]); first | done | rfl | (simp only [List.length_drop, List.length_take]; rfl)) ?_; (with_reducible refine (codec_skip.calls k a0 0 16 t128 t129 false _ ?side99  A2.out).mono ?_); (case side99 => first | exact HG.out | exact Glob.below HG.out (by repeat (first | (with_reducible first | exact HB.out | apply below_alloc | apply pw_below_drewN | apply below_drew1) | exact HB.out))); rintro e w7 ⟨rfl, hb⟩; refine ⟨_, rfl, ?_⟩; have n0_ := Aside0.mk (below_step (by repeat (first | (with_reducible first | exact HB.out | apply below_alloc | apply pw_below_drewN | apply below_drew1) | exact HB.out)) hb); clear HB; have HB := n0_; clear n0_; (try clear hb); (try clear hb2); (try clear hk); (try clear hi)))
    go_ret
    exact ⟨by first | rfl | (simp [errW_none, errW_some] <;> rfl) | (simp [*, errW_none, errW_some] <;> rfl), by repeat (first | (with_reducible first | exact HB.out | apply below_alloc | apply pw_below_drewN | apply below_drew1) | exact HB.out)⟩
end Go.Proofs.YtndeikikeeeigaaDoor.Q
end
section
namespace Go.Proofs.YtndeikikeeeigaaDoor.Q
open Go.RowKit Go.Proofs.YtndeikikeeeigaaDoorW.PrintWords Go.Proofs.YtndeikikeeeigaaDoorW.PrintLast Go.Proofs.YtndeikikeeeigaaDoorW.PrintMore
attribute [local go_sem] max2_int min2_int max_two min_two max_three min_three max_four min_four
set_option linter.unusedVariables false
set_option linter.unusedSimpArgs false
def codec_Valid.f (k : Nat) (a0 : ByteArray) : Option (Bool) := (codec_Depth.f k a0).bind fun t131 => (some (decide (t131 ≥ 0)))
theorem codec_Valid.mono : ∀ a0 k, LeO (codec_Valid.f k a0) (codec_Valid.f (k + 1) a0) := by
  intro a0 k
  unfold codec_Valid.f
  repeat' first
      | (with_reducible exact codec_Depth.mono _ _)
      | (with_reducible exact LeO.refl _)
      | (with_reducible exact LeO.none _)
      | (with_reducible refine LeO.ite ?_ ?_)
      | (with_reducible refine LeO.bind ?_ (fun _ => ?_))
      | exact codec_Depth.mono _ _
      | exact LeO.none _
      | refine LeO.ite ?_ ?_
      | refine LeO.bind ?_ (fun _ => ?_)
set_option maxHeartbeats 8000000 in
set_option maxRecDepth 100000 in
theorem codec_Valid.calls (k : Nat) (a0 : ByteArray) (r : Bool) (w : World) (hG : Glob w) (h : codec_Valid.f k a0 = some r) :
    Calls Tryd.prog 10 #[.string a0] w fun e w' => e = .returned (.bool r) ∧ Below w.heap.size w w' := by
  have HG := Aside0.mk hG
  clear hG
  have HB := Aside0.mk (Below.refl w.heap.size w)
  have H : ((codec_Depth.f k a0).bind fun t131 => (some (decide (t131 ≥ 0)))) = some r := h
  clear h
  replace H := Option.bind_eq_some_iff.mp H
  obtain ⟨t131, A20, H⟩ := H
  replace H : (some (decide (t131 ≥ 0))) = some r := H
  have A2 := Aside0.mk A20
  clear A20
  obtain rfl := Option.some.inj H
  go_enter Tryd.func10, Tryd.ntmps10
  go_wp2_with (first | ((with_reducible refine gate_callee (f := 11) rfl ?_); refine goesL_ (some 4) rfl rfl Tryd.func11 (by kernel_rfl) rfl #[.string a0] rfl (by (try simp only [List.map_toArray, List.map_cons, List.map_nil]); first | done | rfl | (simp only [List.length_drop, List.length_take]; rfl)) ?_; (with_reducible refine (codec_Depth.calls k a0 t131 _ ?side99  A2.out).mono ?_); (case side99 => first | exact HG.out | exact Glob.below HG.out (by repeat (first | (with_reducible first | exact HB.out | apply below_alloc | apply pw_below_drewN | apply below_drew1) | exact HB.out))); rintro e w3 ⟨rfl, hb⟩; refine ⟨_, rfl, ?_⟩; have n0_ := Aside0.mk (below_step (by repeat (first | (with_reducible first | exact HB.out | apply below_alloc | apply pw_below_drewN | apply below_drew1) | exact HB.out)) hb); clear HB; have HB := n0_; clear n0_; (try clear hb); (try clear hb2); (try clear hk); (try clear hi)))
  go_ret
  exact ⟨by first | rfl | (simp [errW_none, errW_some] <;> rfl) | (simp [*, errW_none, errW_some] <;> rfl), by repeat (first | (with_reducible first | exact HB.out | apply below_alloc | apply pw_below_drewN | apply below_drew1) | exact HB.out)⟩
end Go.Proofs.YtndeikikeeeigaaDoor.Q
end
section
namespace Go.Proofs.YtndeikikeeeigaaDoor.Q
open Go.RowKit Go.Proofs.YtndeikikeeeigaaDoorW.PrintWords Go.Proofs.YtndeikikeeeigaaDoorW.PrintLast Go.Proofs.YtndeikikeeeigaaDoorW.PrintMore
attribute [local go_sem] max2_int min2_int max_two min_two max_three min_three max_four min_four
set_option linter.unusedVariables false
set_option linter.unusedSimpArgs false
def codec_number.l0 : Nat → Int → List Int → Int → Option (List Int)
  | 0, _, _, _ => none
  | k + 1, x1, x7, x8 => if x8 ≥ 0 then (if 0 ≤ (wrap64 (8 * x8)) then (if x7.length < 140737488355328 then (codec_number.l0 k x1 (x7 ++ [(shr .u64 x1 (wrap64 (8 * x8))) % 256]) (wrap64 (x8 - 1))) else (none)) else (none)) else (some x7)
def codec_number.f (k : Nat) (a0 : Int) (a1 : Int) (a2 : Int) : Option (List Int) := codec_number.l0 k a1 (([(a0 + ((a2) % 256)) % 256] : List Int)) (wrap64 (a2 - 1))
theorem codec_number.mono_l : ∀ k, (∀ y0 y1 y2, LeO (codec_number.l0 k y0 y1 y2) (codec_number.l0 (k + 1) y0 y1 y2))
  | 0 => fun _ _ _ r h => by simp [codec_number.l0] at h
  | k + 1 => by
    have ih0 := codec_number.mono_l k
    · intro y0 y1 y2
      unfold codec_number.l0
      repeat' first
      | (with_reducible exact ih0 _ _ _)
      | (with_reducible exact LeO.refl _)
      | (with_reducible exact LeO.none _)
      | (with_reducible refine LeO.ite ?_ ?_)
      | (with_reducible refine LeO.bind ?_ (fun _ => ?_))
      | exact ih0 _ _ _
      | exact LeO.none _
      | refine LeO.ite ?_ ?_
      | refine LeO.bind ?_ (fun _ => ?_)
theorem codec_number.mono : ∀ a0 a1 a2 k, LeO (codec_number.f k a0 a1 a2) (codec_number.f (k + 1) a0 a1 a2) := by
  intro a0 a1 a2 k
  have ih0 := codec_number.mono_l k
  unfold codec_number.f
  repeat' first
      | (with_reducible exact ih0 _ _ _)
      | (with_reducible exact LeO.refl _)
      | (with_reducible exact LeO.none _)
      | (with_reducible refine LeO.ite ?_ ?_)
      | (with_reducible refine LeO.bind ?_ (fun _ => ?_))
      | exact ih0 _ _ _
      | exact LeO.none _
      | refine LeO.ite ?_ ?_
      | refine LeO.bind ?_ (fun _ => ?_)
set_option maxHeartbeats 8000000 in
set_option maxRecDepth 100000 in
theorem codec_number.calls (k : Nat) (a0 : Int) (a1 : Int) (a2 : Int) (r : List Int) (w : World) (hG : Glob w) (h : codec_number.f k a0 a1 a2 = some r) :
    Calls Tryd.prog 62 #[.int .u8 a0, .int .u64 a1, .int .i64 a2] w fun e w' => ∃ v0_ : Value, e = .returned (v0_) ∧ Kd.R (Kd.int .u8) 5 w' w.heap.size (fun _ => True) v0_ r ∧ Below w.heap.size w w' := by
  have HG := Aside0.mk hG
  clear hG
  have HB := Aside0.mk (Below.refl w.heap.size w)
  have H : (codec_number.l0 k a1 (([(a0 + ((a2) % 256)) % 256] : List Int)) (wrap64 (a2 - 1))) = some r := h
  clear h
  obtain ⟨y132, hy132⟩ : ∃ y_ : List Int, y_ = (([(a0 + ((a2) % 256)) % 256] : List Int)) := ⟨_, rfl⟩
  replace H : (codec_number.l0 k a1 y132 (wrap64 (a2 - 1))) = some r := by first | (rw [hy132]; with_reducible exact H) | (have H2_ := (Option.bind_some _ _).symm.trans H; rw [hy132]; with_reducible exact H2_) | (have H2_ := (Option.bind_some _ _).symm.trans H; with_reducible exact H2_) | with_reducible exact H | (rw [hy132]; exact H) | exact H
  have Ny132 := Aside0.mk hy132
  clear hy132
  have H' := Aside0.mk H
  clear H
  go_enter Tryd.func62, Tryd.ntmps62
  go_wp2_with (first | ((with_reducible refine gate_dst (N := 13) rfl ?_); refine Kd.R_lit (Kd.int .u8) _ 5 ?hg (N := 13) ?hd (xs := ([(a0 + ((a2) % 256)) % 256] : List Int)) (inner := [.int .u8 ((a0 + ((a2) % 256)) % 256)]) (ok := fun _ => True) (okp := fun _ => True) ?hr ?hp (fun _ hk => hk) trivial (Below.refl _ _) (Nat.le_refl _) (by simp) ?_; (case hd => rfl); (case hg => rfl); (case hr => first | (go_simp; done) | (go_simp; rfl)); (case hp => exact (Reps.one (show Kd.M (Kd.int .u8) _ _ _ ((a0 + ((a2) % 256)) % 256) [.int .u8 ((a0 + ((a2) % 256)) % 256)] from rfl) (Reps.none _ _))); intro v133 w4 ho5 hb hg_ hnew_; clear hg_ hnew_; (first | rw [← Ny132.out] at ho5 | (simp only [Int.reduceToNat] at ho5; rw [← Ny132.out] at ho5)); have n0_ := Aside0.mk (Kd.R_lower ho5 (below_size (by repeat (first | (with_reducible first | exact HB.out | apply below_alloc | apply pw_below_drewN | apply below_drew1) | exact HB.out)))); have n1_ := Aside0.mk (below_step (by repeat (first | (with_reducible first | exact HB.out | apply below_alloc | apply pw_below_drewN | apply below_drew1) | exact HB.out)) hb); clear HB; have HO134 := n0_; have HB := n1_; clear n0_ n1_; clear hb ho5))
  go_loopg [7, 8] k (fun kq v7 v8 w' => ∃ (x7_1 : List Int) (x8_1 : Int), v8 = .int .i64 x8_1 ∧ Aside0 (codec_number.l0 kq a1 x7_1 x8_1 = some r) ∧ Aside0 (kq ≤ k) ∧ Aside0 (Kd.R (Kd.int .u8) 5 w' w.heap.size (fun _ => True) v7 x7_1) ∧ Aside0 (Below w.heap.size w w'))
  case atStart => exact ⟨(y132), (wrap64 (a2 - 1)), (by first | rfl | (simp; done) | (simp [*]; done)), H', ⟨Nat.le_refl _⟩, ⟨by (with_reducible repeat (first | apply Kd.R_alloc | apply Kd.R_drewN | apply Kd.R_drew)); exact HO134.out⟩, ⟨by repeat (first | (with_reducible first | exact HB.out | apply below_alloc | apply pw_below_drewN | apply below_drew1) | exact HB.out)⟩⟩
  case round =>
    clear H'
    try clear p2
    obtain ⟨x7_1, x8_1, rfl, HA, HK1, HO_7, HB⟩ := hrel
    cases gk with
    | zero => exact absurd HA.out (by simp [codec_number.l0])
    | succ k1 =>
      have H := HA.out
      clear HA
      simp only [codec_number.l0] at H
      by_cases c6 : x8_1 ≥ 0
      · rw [if_pos c6] at H
        have c6b0 : decide (0 ≤ x8_1) = true := decide_eq_true c6
        clear c6
        obtain ⟨ji7, hji7⟩ : ∃ j_ : Int, (wrap64 (8 * x8_1)) = j_ := ⟨_, rfl⟩
        replace H : (if 0 ≤ (ji7) then (if x7_1.length < 140737488355328 then (codec_number.l0 k1 a1 (x7_1 ++ [(shr .u64 a1 (ji7)) % 256]) (wrap64 (x8_1 - 1))) else (none)) else (none)) = some r := by first | (rw [hji7] at H; exact H) | (simp only [hji7] at H ⊢; exact H)
        have hji7w : (IntKind.i64.wrap (8 * x8_1)) = ji7 := (i64_w _).trans hji7
        by_cases c8 : 0 ≤ (ji7)
        · rw [if_pos c8] at H
          have c8b0 := eq_true c8
          have c8b1 : decide (0 ≤ (ji7)) = true := decide_eq_true c8
          clear c8
          obtain ⟨ji9, hji9⟩ : ∃ j_ : Int, (shr .u64 a1 (ji7)) = j_ := ⟨_, rfl⟩
          replace H : (if x7_1.length < 140737488355328 then (codec_number.l0 k1 a1 (x7_1 ++ [(ji9) % 256]) (wrap64 (x8_1 - 1))) else (none)) = some r := by first | (rw [hji9] at H; exact H) | (simp only [hji9] at H ⊢; exact H)
          have hji9_ : (a1 / 2 ^ min (ji7).toNat 64) = ji9 := hji9
          have hji9z : (ji7) ≤ 64 → (a1 / 2 ^ (ji7).toNat) = ji9 := shr_small hji9
          by_cases c10 : x7_1.length < 140737488355328
          · rw [if_pos c10] at H
            have LMc10 := Aside0.mk c10
            clear c10
            obtain ⟨y135, hy135⟩ : ∃ y_ : List Int, y_ = (x7_1 ++ [(ji9) % 256]) := ⟨_, rfl⟩
            replace H : (codec_number.l0 k1 a1 y135 (wrap64 (x8_1 - 1))) = some r := by first | (rw [hy135]; with_reducible exact H) | (have H2_ := (Option.bind_some _ _).symm.trans H; rw [hy135]; with_reducible exact H2_) | (have H2_ := (Option.bind_some _ _).symm.trans H; with_reducible exact H2_) | with_reducible exact H | (rw [hy135]; exact H) | exact H
            have Ny135 := Aside0.mk hy135
            clear hy135
            have H' := Aside0.mk H
            clear H
            go_wp2_with (first | ((with_reducible refine gate_builtin (b := .append) (xs := #[.tmp 20, .tmp 26]) rfl ?_); at_builtin; refine Kd.R_append (Kd.int .u8) (w0 := w) w.heap.size rfl (.tmp 20) (.tmp 26) 28 5 (.int .u8 0) 1 rfl Tryd.underlying28 info5 rfl (by decide) (by omega) u7 x7_1 ((ji9) % 256) [.int .u8 ((ji9) % 256)] (fun _ => True) (fun _ => False) rfl rfl ?aP (fun _ hk => hk.elim) ?aF ?aO ?aB ?aS ?aL ?_; (case aP => exact rfl); (case aB => exact (by repeat (first | (with_reducible first | exact HB.out | apply below_alloc | apply pw_below_drewN | apply below_drew1) | exact HB.out))); (case aF => exact (fun _ _ => trivial)); (case aO => exact (by (with_reducible repeat (first | apply Kd.R_alloc | apply Kd.R_drewN | apply Kd.R_drew)); exact HO_7.out)); (case aS => exact (below_size (by repeat (first | (with_reducible first | exact HB.out | apply below_alloc | apply pw_below_drewN | apply below_drew1) | exact HB.out)))); (case aL => have := LMc10.out; first | omega | (simp only [ByteArray.size, List.size_toArray, List.length_cons, List.length_nil] at this ⊢; omega)); intro v136 w11 ho hb hg hat; rw [← Ny135.out] at ho; have n0_ := Aside0.mk (hb); have n1_ := Aside0.mk (ho); clear HB; clear HO_7; have HB := n0_; have HO137 := n1_; clear n0_ n1_; clear ho hb hg hat))
            go_roundg k1
            case measure => have := HK1.out; omega
            case rel => exact ⟨(y135), (wrap64 (x8_1 - 1)), (by first | rfl | (simp; done) | (simp [*]; done)), H', ⟨by have := HK1.out; omega⟩, ⟨by (with_reducible repeat (first | apply Kd.R_alloc | apply Kd.R_drewN | apply Kd.R_drew)); exact HO137.out⟩, ⟨by repeat (first | (with_reducible first | exact HB.out | apply below_alloc | apply pw_below_drewN | apply below_drew1) | exact HB.out)⟩⟩
          · rw [if_neg c10] at H
            exact absurd H (by simp)
        · rw [if_neg c8] at H
          exact absurd H (by simp)
      · rw [if_neg c6] at H
        have c6b0 : decide (0 ≤ x8_1) = false := decide_eq_false c6
        clear c6
        obtain rfl := Option.some.inj H
        go_wp2
        go_ret
        exact ⟨_, by first | rfl | (simp [errW_none, errW_some] <;> rfl) | (simp [*, errW_none, errW_some] <;> rfl), by (with_reducible repeat (first | apply Kd.R_alloc | apply Kd.R_drewN | apply Kd.R_drew)); exact HO_7.out, by repeat (first | (with_reducible first | exact HB.out | apply below_alloc | apply pw_below_drewN | apply below_drew1) | exact HB.out)⟩
end Go.Proofs.YtndeikikeeeigaaDoor.Q
end
section
namespace Go.Proofs.YtndeikikeeeigaaDoor.Q
open Go.RowKit Go.Proofs.YtndeikikeeeigaaDoorW.PrintWords Go.Proofs.YtndeikikeeeigaaDoorW.PrintLast Go.Proofs.YtndeikikeeeigaaDoorW.PrintMore
set_option linter.unusedVariables false
set_option linter.unusedSimpArgs false
def dig1 (h b : Int) : Int := IntKind.u64.wrap (Go.bits .xor .u64 h (IntKind.u64.wrap b) * 1099511628211)
def dig (s : ByteArray) : Nat → Int
  | 0 => 14695981039346656037
  | n + 1 => dig1 (dig s n) (bt s n)
def hexAt (h : Int) (i : Nat) : Int := bt (⟨#[48, 49, 50, 51, 52, 53, 54, 55, 56, 57, 97, 98, 99, 100, 101, 102]⟩ : ByteArray) (Go.bits .and .u64 (h / 2 ^ (60 - 4 * i)) 15)
theorem and15u (x : Int) : 0 ≤ Go.bits .and .u64 x 15 ∧ Go.bits .and .u64 x 15 < 16 := by
  show 0 ≤ IntKind.u64.wrap (((BitVec.ofInt 64 x) &&& (BitVec.ofInt 64 15)).toNat : Int) ∧ IntKind.u64.wrap (((BitVec.ofInt 64 x) &&& (BitVec.ofInt 64 15)).toNat : Int) < 16
  have h : ((BitVec.ofInt 64 x) &&& (BitVec.ofInt 64 15)).toNat ≤ 15 := by
    rw [BitVec.toNat_and]
    exact Nat.and_le_right
  show 0 ≤ ((((BitVec.ofInt 64 x) &&& (BitVec.ofInt 64 15)).toNat : Int) % 18446744073709551616) ∧ ((((BitVec.ofInt 64 x) &&& (BitVec.ofInt 64 15)).toNat : Int) % 18446744073709551616) < 16
  omega
def digits (h : Int) : List Int := (List.range 16).map (hexAt h)
def codec_Digest.f (a0 : ByteArray) : Option (ByteArray) := if a0.size ≤ 9223372036854775807 then some (strOfNums (digits (dig a0 a0.size))) else none
set_option maxHeartbeats 2000000 in
set_option maxRecDepth 100000 in
theorem codec_Digest.calls (a0 : ByteArray) (r : ByteArray) (w : World) (hG : Glob w) (h : codec_Digest.f a0 = some r) :
    Calls Tryd.prog 12 #[.string a0] w fun e w' => e = .returned (.string r) ∧ Below w.heap.size w w' := by
  unfold codec_Digest.f at h
  by_cases hs : a0.size ≤ 9223372036854775807
  · rw [if_pos hs] at h
    obtain rfl := Option.some.inj h
    clear h hG
    go_enter Tryd.func12, Tryd.ntmps12
    go_wp2_with fail
    go_loop [3, 4, 9] (fun n _ t => ∃ k : Nat, k ≤ a0.size ∧ t = .int .i64 k ∧ n = .int .u64 (dig a0 k)) (fun _ _ t => a0.size - (intOf t).toNat)
    case atStart => exact ⟨0, Nat.zero_le _, rfl, rfl⟩
    case round =>
      obtain ⟨k, hk, rfl, rfl⟩ := hrel
      by_cases hlt : k < a0.size
      · have hb : (a0[k].toNat : Int) = bt a0 k := bt_at a0 k hlt
        have HD : Hid (dig a0 (k + 1) = dig1 (dig a0 k) (bt a0 k)) := rfl
        generalize dig a0 k = dk at *
        go_wp2
        exact ⟨⟨k + 1, by omega, by go_num, by rw [HD.out]; rfl⟩, by simp [RowKit.intOf]; omega⟩
      · have hke : k = a0.size := by omega
        subst hke
        go_wp2_with fail
        obtain ⟨d, hd⟩ : ∃ d, d = dig a0 a0.size := ⟨_, rfl⟩
        rw [← hd]
        have HD : Hid (d = dig a0 a0.size) := hd
        clear hd
        have hrow0 : (w.alloc (.cells #[.int .u8 0, .int .u8 0, .int .u8 0, .int .u8 0, .int .u8 0, .int .u8 0, .int .u8 0, .int .u8 0, .int .u8 0, .int .u8 0, .int .u8 0, .int .u8 0, .int .u8 0, .int .u8 0, .int .u8 0, .int .u8 0] 62)).rowIs w.heap.size 62 16 (fun j => if j < 0 then .int .u8 (hexAt d j) else .int .u8 0) := by
          refine World.rowIs_alloc w _ 62 _ (fun i hi => ?_)
          rw [if_neg (Nat.not_lt_zero i)]
          have h16 : i < 16 := hi
          obtain rfl | rfl | rfl | rfl | rfl | rfl | rfl | rfl | rfl | rfl | rfl | rfl | rfl | rfl | rfl | rfl : i = 0 ∨ i = 1 ∨ i = 2 ∨ i = 3 ∨ i = 4 ∨ i = 5 ∨ i = 6 ∨ i = 7 ∨ i = 8 ∨ i = 9 ∨ i = 10 ∨ i = 11 ∨ i = 12 ∨ i = 13 ∨ i = 14 ∨ i = 15 := by omega
          all_goals rfl
        go_loopw [6, 20] (fun _ v wr => ∃ k : Nat, k ≤ 16 ∧ v = .int .i64 k ∧ Hid (wr.rowIs w.heap.size 62 16 (fun j => if j < k then .int .u8 (hexAt d j) else .int .u8 0)) ∧ Hid (Below w.heap.size w wr)) (fun _ v _ => 16 - (intOf v).toNat)
        case atStart => exact ⟨0, by omega, rfl, hrow0, below_alloc (Below.refl _ _) _⟩
        case round =>
          obtain ⟨k, hk, rfl, hrw, hbel⟩ := hrel
          by_cases hlt : k < 16
          · have hf1 : wr.frozen? ⟨w.heap.size, k, none⟩ = false := hrw.out.frozen _
            have hc1 : wr.cell? ⟨w.heap.size, k, none⟩ = some (.int .u8 0) := by
              refine (hrw.out.cell hlt).trans ?_
              rw [if_neg (by omega)]
            have hq := and15u (d / 2 ^ (60 - 4 * k))
            have hx : hexAt d k = bt (⟨#[48, 49, 50, 51, 52, 53, 54, 55, 56, 57, 97, 98, 99, 100, 101, 102]⟩ : ByteArray) (Go.bits .and .u64 (d / 2 ^ (60 - 4 * k)) 15) := rfl
            have hz : (Go.bits .and .u64 (d / 2 ^ (60 - 4 * k)) 15).toNat < (⟨#[48, 49, 50, 51, 52, 53, 54, 55, 56, 57, 97, 98, 99, 100, 101, 102]⟩ : ByteArray).size := by
              show (Go.bits .and .u64 (d / 2 ^ (60 - 4 * k)) 15).toNat < 16
              omega
            have hv := bt_at (⟨#[48, 49, 50, 51, 52, 53, 54, 55, 56, 57, 97, 98, 99, 100, 101, 102]⟩ : ByteArray) _ hz
            rw [← hx] at hv
            clear hx
            go_wp2
            refine ⟨⟨k + 1, by omega, by go_num, (hrw.out.set k _).congr (fun j _ => ?_), hbel.out.setCell (Nat.le_refl _) _⟩, by simp [RowKit.intOf]; omega⟩
            by_cases e : j = k
            · subst e
              rw [if_pos rfl, if_pos (by omega), ← hv]
            · rw [if_neg e]
              by_cases e2 : j < k
              · rw [if_pos e2, if_pos (by omega)]
              · rw [if_neg e2, if_neg (by omega)]
          · have hke : k = 16 := by omega
            subst hke
            have hreads : ReadsInt wr .u8 (some ⟨w.heap.size, 0, none⟩) 16 (digits d) := by
              refine ⟨by simp [digits], by decide, fun _ => ⟨_, rfl, fun j hj => ?_⟩⟩
              have e := hrw.out.cell hj
              simp only [if_pos hj] at e
              rw [show (digits d).getD j 0 = hexAt d j by simp [digits, List.getD_eq_getElem?_getD, List.getElem?_map, List.getElem?_range hj]]
              rw [← e]
              congr 1
              simp [Addr.add]
              exact fun h => h.symm
            have hconv : (convert 28 9 (.slice (some ⟨w.heap.size, 0, none⟩) 16 16)).run Tryd.prog wr = .ok (.string (strOfNums (digits d))) wr :=
              string_of_reads Tryd.underlying28 Tryd.underlying5 Tryd.underlying9 hreads
            go_wp2
            go_ret
            rw [← HD.out]
            exact ⟨rfl, hbel.out⟩
  · rw [if_neg hs] at h
    cases h
end Go.Proofs.YtndeikikeeeigaaDoor.Q
end
section
namespace Go.Proofs.YtndeikikeeeigaaDoor.Q
open Go.RowKit Go.Proofs.YtndeikikeeeigaaDoorW.PrintWords Go.Proofs.YtndeikikeeeigaaDoorW.PrintLast Go.Proofs.YtndeikikeeeigaaDoorW.PrintMore
attribute [local go_sem] max2_int min2_int max_two min_two max_three min_three max_four min_four
set_option linter.unusedVariables false
set_option linter.unusedSimpArgs false
def plenumlaw02_awake.f (k : Nat)  : Option (Bool) := if ([] : List Int).length < 140737488355328 then ((some (([] : List Int) ++ [64] : List Int)).bind fun y143 => ((codec_width.f k 2).bind fun t146 => ((codec_number.f k 16 2 t146).bind fun t147 => (if y143.length + t147.length < 140737488355328 then ((some (y143 ++ t147 : List Int)).bind fun y150 => (if y150.length < 140737488355328 then ((some (y150 ++ [0] : List Int)).bind fun y153 => (if y153.length < 140737488355328 then ((some (y153 ++ [48] : List Int)).bind fun y156 => ((codec_width.f k 1).bind fun t159 => ((codec_number.f k 16 1 t159).bind fun t160 => (if y156.length + t160.length < 140737488355328 then ((some (y156 ++ t160 : List Int)).bind fun y163 => (if y163.length + 1 < 140737488355328 then (if (strOfNums (y163 ++ bytesOf (⟨#[97]⟩ : ByteArray))).toList = ([64, 17, 2, 0, 48, 17, 1, 97] : List UInt8) then ((codec_Digest.f (⟨#[97]⟩ : ByteArray)).bind fun t169 => (if t169.toList = ([97, 102, 54, 51, 100, 99, 52, 99, 56, 54, 48, 49, 101, 99, 56, 99] : List UInt8) then ((codec_Valid.f k (⟨#[34, 0, 128]⟩ : ByteArray)).bind fun t170 => (if t170 = true then ((codec_Valid.f k (⟨#[18, 0, 1]⟩ : ByteArray)).bind fun t171 => (some (!t171))) else (none))) else (none))) else (none)) else (none))) else (none))))) else (none))) else (none))) else (none))))) else (none)
theorem plenumlaw02_awake.mono : ∀ k, LeO (plenumlaw02_awake.f k ) (plenumlaw02_awake.f (k + 1) ) := by
  intro  k
  unfold plenumlaw02_awake.f
  repeat' first
      | (with_reducible exact codec_Valid.mono _ _)
      | (with_reducible exact codec_number.mono _ _ _ _)
      | (with_reducible exact codec_width.mono _ _)
      | (with_reducible exact LeO.refl _)
      | (with_reducible exact LeO.none _)
      | (with_reducible refine LeO.ite ?_ ?_)
      | (with_reducible refine LeO.bind ?_ (fun _ => ?_))
      | exact codec_Valid.mono _ _
      | exact codec_number.mono _ _ _ _
      | exact codec_width.mono _ _
      | exact LeO.none _
      | refine LeO.ite ?_ ?_
      | refine LeO.bind ?_ (fun _ => ?_)
def plenumlaw02_awake.T43000 : Bool × List (List Nat × List Nat) := (true, [([], []), ([], []), ([1], [1]), ([2], [2]), ([3], [3]), ([], []), ([], []), ([6], [6]), ([5, 7, 7], [5, 7]), ([4, 8, 8], [4, 8]), ([0, 0, 1, 2, 3, 4, 5, 6, 7, 8, 9], [0]), ([10, 0, 1, 2, 3, 4, 5, 6, 7, 8, 9], [10]), ([11, 9, 9, 0, 1, 2, 3, 4, 5, 6, 7, 8, 9], [9, 11])])
def plenumlaw02_awake.B43000 : List Nat := [0, 0, 2, 6, 14, 0, 0, 64, 224, 510, 1023, 2047, 4095]
theorem plenumlaw02_awake.tab43000 : rtab .any (opsOf Tryd.f43 0) = plenumlaw02_awake.T43000 := by kernel_rfl
theorem plenumlaw02_awake.bits43000 : waitsOk plenumlaw02_awake.T43000.2 plenumlaw02_awake.B43000 = true := by kernel_rfl
set_option maxHeartbeats 8000000 in
set_option maxRecDepth 100000 in
theorem plenumlaw02_awake.calls (k : Nat)  (r : Bool) (w : World) (hG : Glob w) (h : plenumlaw02_awake.f k  = some r) :
    Calls Tryd.prog 9 #[] w fun e w' => e = .returned (.bool r) ∧ Below w.heap.size w w' := by
  have hmf_ : ∀ (fn : Fn) (first cap : Array Value) (w : World), (Instr.makeFunc fn first cap).run Tryd.prog w = .ok (.func fn first cap) w := fun _ _ _ _ => rfl
  have hu38 := Tryd.underlying38
  have HG := Aside0.mk hG
  clear hG
  have HB := Aside0.mk (Below.refl w.heap.size w)
  have H : (if ([] : List Int).length < 140737488355328 then ((some (([] : List Int) ++ [64] : List Int)).bind fun y143 => ((codec_width.f k 2).bind fun t146 => ((codec_number.f k 16 2 t146).bind fun t147 => (if y143.length + t147.length < 140737488355328 then ((some (y143 ++ t147 : List Int)).bind fun y150 => (if y150.length < 140737488355328 then ((some (y150 ++ [0] : List Int)).bind fun y153 => (if y153.length < 140737488355328 then ((some (y153 ++ [48] : List Int)).bind fun y156 => ((codec_width.f k 1).bind fun t159 => ((codec_number.f k 16 1 t159).bind fun t160 => (if y156.length + t160.length < 140737488355328 then ((some (y156 ++ t160 : List Int)).bind fun y163 => (if y163.length + 1 < 140737488355328 then (if (strOfNums (y163 ++ bytesOf (⟨#[97]⟩ : ByteArray))).toList = ([64, 17, 2, 0, 48, 17, 1, 97] : List UInt8) then ((codec_Digest.f (⟨#[97]⟩ : ByteArray)).bind fun t169 => (if t169.toList = ([97, 102, 54, 51, 100, 99, 52, 99, 56, 54, 48, 49, 101, 99, 56, 99] : List UInt8) then ((codec_Valid.f k (⟨#[34, 0, 128]⟩ : ByteArray)).bind fun t170 => (if t170 = true then ((codec_Valid.f k (⟨#[18, 0, 1]⟩ : ByteArray)).bind fun t171 => (some (!t171))) else (none))) else (none))) else (none)) else (none))) else (none))))) else (none))) else (none))) else (none))))) else (none)) = some r := h
  clear h
  by_cases c1 : ([] : List Int).length < 140737488355328
  · rw [if_pos c1] at H
    have LMc1 := Aside0.mk c1
    clear c1
    obtain ⟨y143, hy143⟩ : ∃ y_ : List Int, y_ = (([] : List Int) ++ [64]) := ⟨_, rfl⟩
    replace H : ((codec_width.f k 2).bind fun t146 => ((codec_number.f k 16 2 t146).bind fun t147 => (if y143.length + t147.length < 140737488355328 then ((some (y143 ++ t147 : List Int)).bind fun y150 => (if y150.length < 140737488355328 then ((some (y150 ++ [0] : List Int)).bind fun y153 => (if y153.length < 140737488355328 then ((some (y153 ++ [48] : List Int)).bind fun y156 => ((codec_width.f k 1).bind fun t159 => ((codec_number.f k 16 1 t159).bind fun t160 => (if y156.length + t160.length < 140737488355328 then ((some (y156 ++ t160 : List Int)).bind fun y163 => (if y163.length + 1 < 140737488355328 then (if (strOfNums (y163 ++ bytesOf (⟨#[97]⟩ : ByteArray))).toList = ([64, 17, 2, 0, 48, 17, 1, 97] : List UInt8) then ((codec_Digest.f (⟨#[97]⟩ : ByteArray)).bind fun t169 => (if t169.toList = ([97, 102, 54, 51, 100, 99, 52, 99, 56, 54, 48, 49, 101, 99, 56, 99] : List UInt8) then ((codec_Valid.f k (⟨#[34, 0, 128]⟩ : ByteArray)).bind fun t170 => (if t170 = true then ((codec_Valid.f k (⟨#[18, 0, 1]⟩ : ByteArray)).bind fun t171 => (some (!t171))) else (none))) else (none))) else (none)) else (none))) else (none))))) else (none))) else (none))) else (none)))) = some r := by first | (rw [hy143]; with_reducible exact H) | (have H2_ := (Option.bind_some _ _).symm.trans H; rw [hy143]; with_reducible exact H2_) | (have H2_ := (Option.bind_some _ _).symm.trans H; with_reducible exact H2_) | with_reducible exact H | (rw [hy143]; exact H) | exact H
    have Ny143 := Aside0.mk hy143
    clear hy143
    replace H := Option.bind_eq_some_iff.mp H
    obtain ⟨t146, A20, H⟩ := H
    replace H : ((codec_number.f k 16 2 t146).bind fun t147 => (if y143.length + t147.length < 140737488355328 then ((some (y143 ++ t147 : List Int)).bind fun y150 => (if y150.length < 140737488355328 then ((some (y150 ++ [0] : List Int)).bind fun y153 => (if y153.length < 140737488355328 then ((some (y153 ++ [48] : List Int)).bind fun y156 => ((codec_width.f k 1).bind fun t159 => ((codec_number.f k 16 1 t159).bind fun t160 => (if y156.length + t160.length < 140737488355328 then ((some (y156 ++ t160 : List Int)).bind fun y163 => (if y163.length + 1 < 140737488355328 then (if (strOfNums (y163 ++ bytesOf (⟨#[97]⟩ : ByteArray))).toList = ([64, 17, 2, 0, 48, 17, 1, 97] : List UInt8) then ((codec_Digest.f (⟨#[97]⟩ : ByteArray)).bind fun t169 => (if t169.toList = ([97, 102, 54, 51, 100, 99, 52, 99, 56, 54, 48, 49, 101, 99, 56, 99] : List UInt8) then ((codec_Valid.f k (⟨#[34, 0, 128]⟩ : ByteArray)).bind fun t170 => (if t170 = true then ((codec_Valid.f k (⟨#[18, 0, 1]⟩ : ByteArray)).bind fun t171 => (some (!t171))) else (none))) else (none))) else (none)) else (none))) else (none))))) else (none))) else (none))) else (none))) = some r := H
    have A2 := Aside0.mk A20
    clear A20
    replace H := Option.bind_eq_some_iff.mp H
    obtain ⟨t147, A30, H⟩ := H
    replace H : (if y143.length + t147.length < 140737488355328 then ((some (y143 ++ t147 : List Int)).bind fun y150 => (if y150.length < 140737488355328 then ((some (y150 ++ [0] : List Int)).bind fun y153 => (if y153.length < 140737488355328 then ((some (y153 ++ [48] : List Int)).bind fun y156 => ((codec_width.f k 1).bind fun t159 => ((codec_number.f k 16 1 t159).bind fun t160 => (if y156.length + t160.length < 140737488355328 then ((some (y156 ++ t160 : List Int)).bind fun y163 => (if y163.length + 1 < 140737488355328 then (if (strOfNums (y163 ++ bytesOf (⟨#[97]⟩ : ByteArray))).toList = ([64, 17, 2, 0, 48, 17, 1, 97] : List UInt8) then ((codec_Digest.f (⟨#[97]⟩ : ByteArray)).bind fun t169 => (if t169.toList = ([97, 102, 54, 51, 100, 99, 52, 99, 56, 54, 48, 49, 101, 99, 56, 99] : List UInt8) then ((codec_Valid.f k (⟨#[34, 0, 128]⟩ : ByteArray)).bind fun t170 => (if t170 = true then ((codec_Valid.f k (⟨#[18, 0, 1]⟩ : ByteArray)).bind fun t171 => (some (!t171))) else (none))) else (none))) else (none)) else (none))) else (none))))) else (none))) else (none))) else (none)) = some r := H
    have A3 := Aside0.mk A30
    clear A30
    by_cases c4 : y143.length + t147.length < 140737488355328
    · rw [if_pos c4] at H
      have LMc4 := Aside0.mk c4
      clear c4
      obtain ⟨y150, hy150⟩ : ∃ y_ : List Int, y_ = (y143 ++ t147) := ⟨_, rfl⟩
      replace H : (if y150.length < 140737488355328 then ((some (y150 ++ [0] : List Int)).bind fun y153 => (if y153.length < 140737488355328 then ((some (y153 ++ [48] : List Int)).bind fun y156 => ((codec_width.f k 1).bind fun t159 => ((codec_number.f k 16 1 t159).bind fun t160 => (if y156.length + t160.length < 140737488355328 then ((some (y156 ++ t160 : List Int)).bind fun y163 => (if y163.length + 1 < 140737488355328 then (if (strOfNums (y163 ++ bytesOf (⟨#[97]⟩ : ByteArray))).toList = ([64, 17, 2, 0, 48, 17, 1, 97] : List UInt8) then ((codec_Digest.f (⟨#[97]⟩ : ByteArray)).bind fun t169 => (if t169.toList = ([97, 102, 54, 51, 100, 99, 52, 99, 56, 54, 48, 49, 101, 99, 56, 99] : List UInt8) then ((codec_Valid.f k (⟨#[34, 0, 128]⟩ : ByteArray)).bind fun t170 => (if t170 = true then ((codec_Valid.f k (⟨#[18, 0, 1]⟩ : ByteArray)).bind fun t171 => (some (!t171))) else (none))) else (none))) else (none)) else (none))) else (none))))) else (none))) else (none)) = some r := by first | (rw [hy150]; with_reducible exact H) | (have H2_ := (Option.bind_some _ _).symm.trans H; rw [hy150]; with_reducible exact H2_) | (have H2_ := (Option.bind_some _ _).symm.trans H; with_reducible exact H2_) | with_reducible exact H | (rw [hy150]; exact H) | exact H
      have Ny150 := Aside0.mk hy150
      clear hy150
      by_cases c5 : y150.length < 140737488355328
      · rw [if_pos c5] at H
        have LMc5 := Aside0.mk c5
        clear c5
        obtain ⟨y153, hy153⟩ : ∃ y_ : List Int, y_ = (y150 ++ [0]) := ⟨_, rfl⟩
        replace H : (if y153.length < 140737488355328 then ((some (y153 ++ [48] : List Int)).bind fun y156 => ((codec_width.f k 1).bind fun t159 => ((codec_number.f k 16 1 t159).bind fun t160 => (if y156.length + t160.length < 140737488355328 then ((some (y156 ++ t160 : List Int)).bind fun y163 => (if y163.length + 1 < 140737488355328 then (if (strOfNums (y163 ++ bytesOf (⟨#[97]⟩ : ByteArray))).toList = ([64, 17, 2, 0, 48, 17, 1, 97] : List UInt8) then ((codec_Digest.f (⟨#[97]⟩ : ByteArray)).bind fun t169 => (if t169.toList = ([97, 102, 54, 51, 100, 99, 52, 99, 56, 54, 48, 49, 101, 99, 56, 99] : List UInt8) then ((codec_Valid.f k (⟨#[34, 0, 128]⟩ : ByteArray)).bind fun t170 => (if t170 = true then ((codec_Valid.f k (⟨#[18, 0, 1]⟩ : ByteArray)).bind fun t171 => (some (!t171))) else (none))) else (none))) else (none)) else (none))) else (none))))) else (none)) = some r := by first | (rw [hy153]; with_reducible exact H) | (have H2_ := (Option.bind_some _ _).symm.trans H; rw [hy153]; with_reducible exact H2_) | (have H2_ := (Option.bind_some _ _).symm.trans H; with_reducible exact H2_) | with_reducible exact H | (rw [hy153]; exact H) | exact H
        have Ny153 := Aside0.mk hy153
        clear hy153
        by_cases c6 : y153.length < 140737488355328
        · rw [if_pos c6] at H
          have LMc6 := Aside0.mk c6
          clear c6
          obtain ⟨y156, hy156⟩ : ∃ y_ : List Int, y_ = (y153 ++ [48]) := ⟨_, rfl⟩
          replace H : ((codec_width.f k 1).bind fun t159 => ((codec_number.f k 16 1 t159).bind fun t160 => (if y156.length + t160.length < 140737488355328 then ((some (y156 ++ t160 : List Int)).bind fun y163 => (if y163.length + 1 < 140737488355328 then (if (strOfNums (y163 ++ bytesOf (⟨#[97]⟩ : ByteArray))).toList = ([64, 17, 2, 0, 48, 17, 1, 97] : List UInt8) then ((codec_Digest.f (⟨#[97]⟩ : ByteArray)).bind fun t169 => (if t169.toList = ([97, 102, 54, 51, 100, 99, 52, 99, 56, 54, 48, 49, 101, 99, 56, 99] : List UInt8) then ((codec_Valid.f k (⟨#[34, 0, 128]⟩ : ByteArray)).bind fun t170 => (if t170 = true then ((codec_Valid.f k (⟨#[18, 0, 1]⟩ : ByteArray)).bind fun t171 => (some (!t171))) else (none))) else (none))) else (none)) else (none))) else (none)))) = some r := by first | (rw [hy156]; with_reducible exact H) | (have H2_ := (Option.bind_some _ _).symm.trans H; rw [hy156]; with_reducible exact H2_) | (have H2_ := (Option.bind_some _ _).symm.trans H; with_reducible exact H2_) | with_reducible exact H | (rw [hy156]; exact H) | exact H
          have Ny156 := Aside0.mk hy156
          clear hy156
          replace H := Option.bind_eq_some_iff.mp H
          obtain ⟨t159, A70, H⟩ := H
          replace H : ((codec_number.f k 16 1 t159).bind fun t160 => (if y156.length + t160.length < 140737488355328 then ((some (y156 ++ t160 : List Int)).bind fun y163 => (if y163.length + 1 < 140737488355328 then (if (strOfNums (y163 ++ bytesOf (⟨#[97]⟩ : ByteArray))).toList = ([64, 17, 2, 0, 48, 17, 1, 97] : List UInt8) then ((codec_Digest.f (⟨#[97]⟩ : ByteArray)).bind fun t169 => (if t169.toList = ([97, 102, 54, 51, 100, 99, 52, 99, 56, 54, 48, 49, 101, 99, 56, 99] : List UInt8) then ((codec_Valid.f k (⟨#[34, 0, 128]⟩ : ByteArray)).bind fun t170 => (if t170 = true then ((codec_Valid.f k (⟨#[18, 0, 1]⟩ : ByteArray)).bind fun t171 => (some (!t171))) else (none))) else (none))) else (none)) else (none))) else (none))) = some r := H
          have A7 := Aside0.mk A70
          clear A70
          replace H := Option.bind_eq_some_iff.mp H
          obtain ⟨t160, A80, H⟩ := H
          replace H : (if y156.length + t160.length < 140737488355328 then ((some (y156 ++ t160 : List Int)).bind fun y163 => (if y163.length + 1 < 140737488355328 then (if (strOfNums (y163 ++ bytesOf (⟨#[97]⟩ : ByteArray))).toList = ([64, 17, 2, 0, 48, 17, 1, 97] : List UInt8) then ((codec_Digest.f (⟨#[97]⟩ : ByteArray)).bind fun t169 => (if t169.toList = ([97, 102, 54, 51, 100, 99, 52, 99, 56, 54, 48, 49, 101, 99, 56, 99] : List UInt8) then ((codec_Valid.f k (⟨#[34, 0, 128]⟩ : ByteArray)).bind fun t170 => (if t170 = true then ((codec_Valid.f k (⟨#[18, 0, 1]⟩ : ByteArray)).bind fun t171 => (some (!t171))) else (none))) else (none))) else (none)) else (none))) else (none)) = some r := H
          have A8 := Aside0.mk A80
          clear A80
          by_cases c9 : y156.length + t160.length < 140737488355328
          · rw [if_pos c9] at H
            have LMc9 := Aside0.mk c9
            clear c9
            obtain ⟨y163, hy163⟩ : ∃ y_ : List Int, y_ = (y156 ++ t160) := ⟨_, rfl⟩
            replace H : (if y163.length + 1 < 140737488355328 then (if (strOfNums (y163 ++ bytesOf (⟨#[97]⟩ : ByteArray))).toList = ([64, 17, 2, 0, 48, 17, 1, 97] : List UInt8) then ((codec_Digest.f (⟨#[97]⟩ : ByteArray)).bind fun t169 => (if t169.toList = ([97, 102, 54, 51, 100, 99, 52, 99, 56, 54, 48, 49, 101, 99, 56, 99] : List UInt8) then ((codec_Valid.f k (⟨#[34, 0, 128]⟩ : ByteArray)).bind fun t170 => (if t170 = true then ((codec_Valid.f k (⟨#[18, 0, 1]⟩ : ByteArray)).bind fun t171 => (some (!t171))) else (none))) else (none))) else (none)) else (none)) = some r := by first | (rw [hy163]; with_reducible exact H) | (have H2_ := (Option.bind_some _ _).symm.trans H; rw [hy163]; with_reducible exact H2_) | (have H2_ := (Option.bind_some _ _).symm.trans H; with_reducible exact H2_) | with_reducible exact H | (rw [hy163]; exact H) | exact H
            have Ny163 := Aside0.mk hy163
            clear hy163
            by_cases c10 : y163.length + 1 < 140737488355328
            · rw [if_pos c10] at H
              have LMc10 := Aside0.mk c10
              clear c10
              obtain ⟨y166, hy166⟩ : ∃ y_ : List Int, y_ = (y163 ++ bytesOf (⟨#[97]⟩ : ByteArray)) := ⟨_, rfl⟩
              replace H : (if (strOfNums y166).toList = ([64, 17, 2, 0, 48, 17, 1, 97] : List UInt8) then ((codec_Digest.f (⟨#[97]⟩ : ByteArray)).bind fun t169 => (if t169.toList = ([97, 102, 54, 51, 100, 99, 52, 99, 56, 54, 48, 49, 101, 99, 56, 99] : List UInt8) then ((codec_Valid.f k (⟨#[34, 0, 128]⟩ : ByteArray)).bind fun t170 => (if t170 = true then ((codec_Valid.f k (⟨#[18, 0, 1]⟩ : ByteArray)).bind fun t171 => (some (!t171))) else (none))) else (none))) else (none)) = some r := by first | (rw [hy166]; with_reducible exact H) | (have H2_ := (Option.bind_some _ _).symm.trans H; rw [hy166]; with_reducible exact H2_) | (have H2_ := (Option.bind_some _ _).symm.trans H; with_reducible exact H2_) | with_reducible exact H | (rw [hy166]; exact H) | exact H
              have Ny166 := Aside0.mk hy166
              clear hy166
              by_cases c11 : (strOfNums y166).toList = ([64, 17, 2, 0, 48, 17, 1, 97] : List UInt8)
              · rw [if_pos c11] at H
                have c11b0 : ((strOfNums y166).toList == ([64, 17, 2, 0, 48, 17, 1, 97] : List UInt8)) = true := beq_iff_eq.mpr c11
                have c11b1 : ((strOfNums y166).toList != ([64, 17, 2, 0, 48, 17, 1, 97] : List UInt8)) = false := bne_eq_false_iff_eq.mpr c11
                clear c11
                replace H := Option.bind_eq_some_iff.mp H
                obtain ⟨t169, A120, H⟩ := H
                replace H : (if t169.toList = ([97, 102, 54, 51, 100, 99, 52, 99, 56, 54, 48, 49, 101, 99, 56, 99] : List UInt8) then ((codec_Valid.f k (⟨#[34, 0, 128]⟩ : ByteArray)).bind fun t170 => (if t170 = true then ((codec_Valid.f k (⟨#[18, 0, 1]⟩ : ByteArray)).bind fun t171 => (some (!t171))) else (none))) else (none)) = some r := H
                have A12 := Aside0.mk A120
                clear A120
                by_cases c13 : t169.toList = ([97, 102, 54, 51, 100, 99, 52, 99, 56, 54, 48, 49, 101, 99, 56, 99] : List UInt8)
                · rw [if_pos c13] at H
                  have c13b0 : (t169.toList == ([97, 102, 54, 51, 100, 99, 52, 99, 56, 54, 48, 49, 101, 99, 56, 99] : List UInt8)) = true := beq_iff_eq.mpr c13
                  have c13b1 : (t169.toList != ([97, 102, 54, 51, 100, 99, 52, 99, 56, 54, 48, 49, 101, 99, 56, 99] : List UInt8)) = false := bne_eq_false_iff_eq.mpr c13
                  clear c13
                  replace H := Option.bind_eq_some_iff.mp H
                  obtain ⟨t170, A140, H⟩ := H
                  replace H : (if t170 = true then ((codec_Valid.f k (⟨#[18, 0, 1]⟩ : ByteArray)).bind fun t171 => (some (!t171))) else (none)) = some r := H
                  have A14 := Aside0.mk A140
                  clear A140
                  by_cases c15 : t170 = true
                  · subst c15
                    have H1 : ((codec_Valid.f k (⟨#[18, 0, 1]⟩ : ByteArray)).bind fun t171 => (some (!t171))) = some r := by rw [if_pos rfl] at H; exact H
                    clear H
                    have H := H1
                    clear H1
                    replace H := Option.bind_eq_some_iff.mp H
                    obtain ⟨t171, A160, H⟩ := H
                    replace H : (some (!t171)) = some r := H
                    have A16 := Aside0.mk A160
                    clear A160
                    obtain rfl := Option.some.inj H
                    go_enter Tryd.func9, Tryd.ntmps9
                    try go_wp2_with (first | (go_at_call 33; go_in) | (go_at_call 43; go_in) | (go_at_call 34; go_in) | (go_at_call 35; go_in) | (go_at_call 19; go_in) | ((try simp only [Exit.inBlock, Exit.then]); refine bodyPost_end (results_none rfl _ _ _) rfl ?_; simp only []; go_at_K) | ((with_reducible refine gate_dst (N := 5) rfl ?_); refine box_event ?hg (N := 5) ?hd (cs := #[.slice none 0 0]) (t := 38) ?hr ?_; (case hd => rfl); (case hg => rfl); (case hr => first | (go_simp; done) | (go_simp; rfl)); intro gb142 hg w17 hbox hb; have n0_ := Aside0.mk (below_step (by repeat (first | (with_reducible first | exact HB.out | apply below_alloc | apply pw_below_drewN | apply below_drew1) | exact HB.out)) hb); have n1_ := Aside0.mk (hbox); have n2_ := Aside0.mk ((by rw [hg]; exact (below_size (by repeat (first | (with_reducible first | exact HB.out | apply below_alloc | apply pw_below_drewN | apply below_drew1) | exact HB.out))) : w.heap.size ≤ gb142)); have n3_ := Aside0.mk ((by rw [hg]; exact (below_size (by repeat (first | (with_reducible first | exact HB.out | apply below_alloc | apply pw_below_drewN | apply below_drew1) | exact HB.out))) : w.heap.size ≤ gb142)); clear HB; have HB := n0_; have BK142 := n1_; have GW142 := n2_; have GE142 := n3_; clear n0_ n1_ n2_ n3_; clear hb hbox hg; have hcz18_0 : w17.cell? ⟨gb142, 0, none⟩ = some (.slice none 0 0) := (blk_cell BK142.out 0).trans rfl; have hfz18_0 := blk_frozen BK142.out 0) | ((with_reducible refine gate_builtin (b := .append) (xs := #[.tmp 15, .tmp 16]) rfl ?_); at_builtin; refine Kd.R_append (Kd.int .u8) (w0 := w) w.heap.size rfl (.tmp 15) (.tmp 16) 28 5 (.int .u8 0) 1 rfl Tryd.underlying28 info5 rfl (by decide) (by omega) (.slice none 0 0) ([] : List Int) 64 [.int .u8 64] (fun _ => True) (fun _ => False) rfl rfl ?aP (fun _ hk => hk.elim) ?aF ?aO ?aB ?aS ?aL ?_; (case aP => exact rfl); (case aB => exact (by repeat (first | (with_reducible first | exact HB.out | apply below_alloc | apply pw_below_drewN | apply below_drew1 | refine below_set ?_ GE142.out) | exact HB.out))); (case aF => exact (fun _ _ => trivial)); (case aO => exact ((Kd.R_nil _ _ _ _ (fun _ => True)))); (case aS => exact (below_size (by repeat (first | (with_reducible first | exact HB.out | apply below_alloc | apply pw_below_drewN | apply below_drew1 | refine below_set ?_ GE142.out) | exact HB.out)))); (case aL => have := LMc1.out; first | omega | (simp only [ByteArray.size, List.size_toArray, List.length_cons, List.length_nil] at this ⊢; omega)); intro v144 w19 ho hb hg hat; rw [← Ny143.out] at ho; have n0_ := Aside0.mk (blk_grown (g := gb142) (o := .cells #[.slice none 0 0] 38 (0, 0)) (by (with_reducible repeat (first | refine blk_drewN ?_ _ | refine blk_drew ?_ | refine blk_alloc ?_ _)); exact BK142.out) hg (by simp [Value.ownBlock])); have n1_ := Aside0.mk (hb); have n2_ := Aside0.mk (ho); clear BK142; clear HB; have BK142 := n0_; have HB := n1_; have HO145 := n2_; clear n0_ n1_ n2_; clear ho hb hg hat; obtain ⟨Ao20, co20, eo20⟩ := Kd.R_slice HO145.out; subst eo20; have hcz21_0 : w19.cell? ⟨gb142, 0, none⟩ = some (.slice none 0 0) := (blk_cell BK142.out 0).trans rfl; have hfz21_0 := blk_frozen BK142.out 0))
                    have n0_ : Aside0 (Kd.R (Kd.int .u8) 5 (w19.setCell ⟨gb142, 0, none⟩ (.slice Ao20 y143.length co20)) w.heap.size (fun _ => True) (.slice Ao20 y143.length co20) y143) := ⟨by (with_reducible repeat (first | apply Kd.R_alloc | apply Kd.R_drewN | apply Kd.R_drew)); exact Kd.R_mono (Kd.R_far (p := ⟨gb142, 0, none⟩) (Kd.R_types HO145.out BK142.out (by decide)) (fun _ hk => hk.2) (.slice Ao20 y143.length co20)) (fun _ hk => trivial)⟩
                    have n1_ : Aside0 ((w19.setCell ⟨gb142, 0, none⟩ (.slice Ao20 y143.length co20)).heap[gb142]? = some (.cells #[.slice Ao20 y143.length co20] 38 (0, 0))) := ⟨by (with_reducible repeat (first | refine blk_drewN ?_ _ | refine blk_drew ?_ | refine blk_alloc ?_ _)); refine blk_put (cs := #[.slice none 0 0]) ?_ 0 _ rfl; (with_reducible repeat (first | refine blk_drewN ?_ _ | refine blk_drew ?_ | refine blk_alloc ?_ _)); exact BK142.out⟩
                    have n2_ : Aside0 (Below w.heap.size w (w19.setCell ⟨gb142, 0, none⟩ (.slice Ao20 y143.length co20))) := ⟨by repeat (first | (with_reducible first | exact HB.out | apply below_alloc | apply pw_below_drewN | apply below_drew1 | refine below_set ?_ GE142.out) | exact HB.out)⟩
                    (try clear HO145)
                    (try clear BK142)
                    (try clear HB)
                    generalize (w19.setCell ⟨gb142, 0, none⟩ (.slice Ao20 y143.length co20)) = w22 at n0_ n1_ n2_ ⊢
                    have HO145 := n0_
                    have BK142 := n1_
                    have HB := n2_
                    clear n0_ n1_ n2_
                    have n0_ := Aside0.mk (Kd.R_drew HO145.out)
                    have n1_ := Aside0.mk (blk_drew BK142.out)
                    have n2_ := Aside0.mk (below_drew1 HB.out)
                    clear HO145
                    clear BK142
                    clear HB
                    have HO145 := n0_
                    have BK142 := n1_
                    have HB := n2_
                    clear n0_ n1_ n2_
                    refine start_ (n := 13) (S := fun w' => w'.cell? ⟨gb142, 0, none⟩ = some (.slice Ao20 y143.length co20)) (ds := [12]) #[false, false, false, false, false, false, false, false, false, false, false, false, false] (by kernel_rfl) rfl rfl ((blk_cell BK142.out 0).trans rfl) (fun hHeld => ?_); refine with_tabW plenumlaw02_awake.tab43000 plenumlaw02_awake.bits43000 (fun HT_ HW_ => ?_)
                    generalize w22.drew = w23 at HO145 BK142 HB hHeld ⊢
                    refine pure_ (i := 0) (N := some 4) (v := ?_) (a' := ?_) #[true, false, false, false, false, false, false, false, false, false, false, false, false] rfl rfl (any_of HT_.out (by kernel_rfl)) (fun _ _ _ h => h) (Or.inl ⟨by rfl, ?_⟩) ?_ ?_
                    rotate_left
                    · intro w'
                      go_simp
                      with_reducible rfl
                    rotate_left
                    · simp only [Act.put, List.setIfInBounds_toArray, List.set_cons_zero, List.set_cons_succ, i64_w, i32_w]
                      rfl
                    refine pure_ (i := 1) (N := some 5) (v := ?_) (a' := ?_) #[true, true, false, false, false, false, false, false, false, false, false, false, false] rfl rfl (any_of HT_.out (by kernel_rfl)) (fun _ _ _ h => h) (Or.inl ⟨by rfl, ?_⟩) ?_ ?_
                    rotate_left
                    · intro w'
                      go_simp
                      with_reducible rfl
                    rotate_left
                    · simp only [Act.put, List.setIfInBounds_toArray, List.set_cons_zero, List.set_cons_succ, i64_w, i32_w]
                      rfl
                    refine pure_ (i := 2) (N := some 6) (v := ?_) (a' := ?_) #[true, true, true, false, false, false, false, false, false, false, false, false, false] rfl rfl (any_of HT_.out (by kernel_rfl)) (fun _ _ _ h => h) (Or.inl ⟨by rfl, ?_⟩) ?_ ?_
                    rotate_left
                    · intro w'
                      go_simp
                      with_reducible rfl
                    rotate_left
                    · simp only [Act.put, List.setIfInBounds_toArray, List.set_cons_zero, List.set_cons_succ, i64_w, i32_w]
                      rfl
                    refine pure_ (i := 3) (N := some 7) (v := ?_) (a' := ?_) #[true, true, true, true, false, false, false, false, false, false, false, false, false] rfl rfl (any_of HT_.out (by kernel_rfl)) (fun _ _ _ h => h) (Or.inl ⟨by rfl, ?_⟩) ?_ ?_
                    rotate_left
                    · intro w'
                      go_simp
                      with_reducible rfl
                    rotate_left
                    · simp only [Act.put, List.setIfInBounds_toArray, List.set_cons_zero, List.set_cons_succ, i64_w, i32_w]
                      rfl
                    refine pure_ (i := 5) (N := some 9) (v := ?_) (a' := ?_) #[true, true, true, true, false, true, false, false, false, false, false, false, false] rfl rfl (any_of HT_.out (by kernel_rfl)) (fun _ _ _ h => h) (Or.inl ⟨by rfl, ?_⟩) ?_ ?_
                    rotate_left
                    · intro w'
                      go_simp
                      with_reducible rfl
                    rotate_left
                    · simp only [Act.put, List.setIfInBounds_toArray, List.set_cons_zero, List.set_cons_succ, i64_w, i32_w]
                      rfl
                    refine pure_ (i := 6) (N := some 10) (v := ?_) (a' := ?_) #[true, true, true, true, false, true, true, false, false, false, false, false, false] rfl rfl (any_of HT_.out (by kernel_rfl)) (fun _ _ _ h => h) (Or.inl ⟨by rfl, ?_⟩) ?_ ?_
                    rotate_left
                    · intro w'
                      go_simp
                      with_reducible rfl
                    rotate_left
                    · simp only [Act.put, List.setIfInBounds_toArray, List.set_cons_zero, List.set_cons_succ, i64_w, i32_w]
                      rfl
                    refine take_ (i := 4) (N := some 8) (v := ?_) (a' := ?_) #[true, true, true, true, true, true, true, false, false, false, false, false, false] rfl rfl (take_ofW HT_.out HW_.out (by kernel_rfl)) (fun _ _ _ h => h) (Or.inl ⟨by rfl, ?_⟩) hHeld ?_ ?_
                    rotate_left
                    · intro w' s0
                      go_simp
                      with_reducible rfl
                    rotate_left
                    · simp only [Act.put, List.setIfInBounds_toArray, List.set_cons_zero, List.set_cons_succ, i64_w, i32_w]
                      rfl
                    refine one_ (i := 7) (N := some 11) #[true, true, true, true, true, true, true, true, false, false, false, false, false] rfl rfl (one_of HT_.out (by kernel_rfl)) (by decide) (fun K hK => ?_)
                    refine goes_ Tryd.func63 (by kernel_rfl) rfl #[.int .u64 2] (by rfl) rfl rfl (by (try simp only [List.map_toArray, List.map_cons, List.map_nil]); first | done | rfl | (simp only [List.length_drop, List.length_take]; rfl)) ?_
                    with_reducible refine (codec_width.calls k 2 t146 _ ?side99  A2.out).mono ?_
                    (case side99 => first | exact HG.out | exact Glob.below HG.out (by repeat (first | (with_reducible first | exact HB.out | apply below_alloc | apply pw_below_drewN | apply below_drew1 | refine below_set ?_ GE142.out) | exact HB.out)))
                    rintro e w24 ⟨rfl, hb⟩
                    refine ⟨_, rfl, ?_⟩
                    have n0_ := Aside0.mk (Kd.R_below (by (with_reducible repeat (first | apply Kd.R_alloc | apply Kd.R_drewN | apply Kd.R_drew)); exact HO145.out) hb)
                    have n1_ := Aside0.mk (blk_below (g := gb142) (o := .cells #[.slice Ao20 y143.length co20] 38 (0, 0)) (by (with_reducible repeat (first | refine blk_drewN ?_ _ | refine blk_drew ?_ | refine blk_alloc ?_ _)); exact BK142.out) hb)
                    have n2_ := Aside0.mk (below_step (by repeat (first | (with_reducible first | exact HB.out | apply below_alloc | apply pw_below_drewN | apply below_drew1 | refine below_set ?_ GE142.out) | exact HB.out)) hb)
                    clear HO145
                    clear BK142
                    clear HB
                    have HO145 := n0_
                    have BK142 := n1_
                    have HB := n2_
                    clear n0_ n1_ n2_
                    (try clear hb)
                    (try clear hb2)
                    (try clear hk)
                    (try clear hi)
                    refine hK.out _ _ ((blk_cell BK142.out 0).trans rfl) (fun hHeld => ?_)
                    clear hK K
                    refine norm_ (a' := ?_) ?_ ?_
                    rotate_left
                    · show Act.put _ (some 11) _ = _
                      simp only [Act.put, List.setIfInBounds_toArray, List.set_cons_zero, List.set_cons_succ, i64_w, i32_w]
                      rfl
                    refine one_ (i := 8) (N := some 12) #[true, true, true, true, true, true, true, true, true, false, false, false, false] rfl rfl (one_of HT_.out (by kernel_rfl)) (by decide) (fun K hK => ?_)
                    refine goes_ Tryd.func62 (by kernel_rfl) rfl #[.int .u8 16, .int .u64 2, .int .i64 t146] (by rfl) rfl rfl (by (try simp only [List.map_toArray, List.map_cons, List.map_nil]); first | done | rfl | (simp only [List.length_drop, List.length_take]; rfl)) ?_
                    with_reducible refine (codec_number.calls k 16 2 t146 t147 _ ?side99  A3.out).mono ?_
                    (case side99 => first | exact HG.out | exact Glob.below HG.out (by repeat (first | (with_reducible first | exact HB.out | apply below_alloc | apply pw_below_drewN | apply below_drew1 | refine below_set ?_ GE142.out) | exact HB.out)))
                    rintro e w25 ⟨v148, rfl, ho0, hb⟩
                    refine ⟨_, rfl, ?_⟩
                    have n0_ := Aside0.mk (Kd.R_elder' (by (with_reducible repeat (first | apply Kd.R_alloc | apply Kd.R_drewN | apply Kd.R_drew)); exact HO145.out) (Kd.R_base ho0) hb)
                    have n1_ := Aside0.mk (Kd.R_lower (Kd.R_new' ho0 (Kd.R_lt (by (with_reducible repeat (first | apply Kd.R_alloc | apply Kd.R_drewN | apply Kd.R_drew)); exact HO145.out))) (below_size (by repeat (first | (with_reducible first | exact HB.out | apply below_alloc | apply pw_below_drewN | apply below_drew1 | refine below_set ?_ GE142.out) | exact HB.out))))
                    have n2_ := Aside0.mk (blk_below (g := gb142) (o := .cells #[.slice Ao20 y143.length co20] 38 (0, 0)) (by (with_reducible repeat (first | refine blk_drewN ?_ _ | refine blk_drew ?_ | refine blk_alloc ?_ _)); exact BK142.out) hb)
                    have n3_ := Aside0.mk (below_step (by repeat (first | (with_reducible first | exact HB.out | apply below_alloc | apply pw_below_drewN | apply below_drew1 | refine below_set ?_ GE142.out) | exact HB.out)) hb)
                    clear HO145
                    clear BK142
                    clear HB
                    have HO145 := n0_
                    have HO149 := n1_
                    have BK142 := n2_
                    have HB := n3_
                    clear n0_ n1_ n2_ n3_
                    (try clear hb)
                    (try clear hb2)
                    (try clear hk)
                    (try clear hi)
                    (try clear ho0)
                    obtain ⟨Ao27, co27, eo27⟩ := Kd.R_slice HO149.out
                    (first | subst eo27 | (injection eo27 with f1_ f2_ f3_; have f4_ := f1_.symm; have f5_ := f3_.symm; clear f1_ f2_ f3_; subst f4_; subst f5_))
                    refine hK.out _ _ ((blk_cell BK142.out 0).trans rfl) (fun hHeld => ?_)
                    clear hK K
                    refine norm_ (a' := ?_) ?_ ?_
                    rotate_left
                    · show Act.put _ (some 12) _ = _
                      simp only [Act.put, List.setIfInBounds_toArray, List.set_cons_zero, List.set_cons_succ, i64_w, i32_w]
                      rfl
                    refine one_ (i := 9) (N := some 13) #[true, true, true, true, true, true, true, true, true, true, false, false, false] rfl rfl (one_of HT_.out (by kernel_rfl)) (by decide) (fun K hK => ?_)
                    refine Kd.R_append_rows_step (Kd.int .u8) (w0 := w) w.heap.size (by rfl) (.tmp 8) (.tmp 12) 28 5 (.int .u8 0) 1 rfl Tryd.underlying28 info5 rfl (by decide) (by omega) (.slice Ao20 y143.length co20) y143 t147 _ _ _ (fun k_ => some k_ ≠ (.slice Ao27 t147.length co27 : Value).ownBlock) (fun _ => False) rfl rfl ?aO ?aR (fun _ _ h => h) (fun _ h => h.elim) ?aF ?aB ?aS ?aL ?_
                    (case aR => repeat (first | exact (Kd.R_reads' HO149.out).2.2 | (with_reducible refine Kd.C_alloc ?_ _) | (with_reducible refine Kd.C_drewN ?_ _) | (with_reducible refine Kd.C_drew ?_)))
                    (case aB => exact (by repeat (first | (with_reducible first | exact HB.out | apply below_alloc | apply pw_below_drewN | apply below_drew1 | refine below_set ?_ GE142.out) | exact HB.out)))
                    (case aF => exact (fun k_ hk => Kd.fresh' (Kd.R_lt (by (with_reducible repeat (first | apply Kd.R_alloc | apply Kd.R_drewN | apply Kd.R_drew)); exact HO149.out)) k_ hk))
                    (case aO => exact (by (with_reducible repeat (first | apply Kd.R_alloc | apply Kd.R_drewN | apply Kd.R_drew)); exact Kd.R_mono HO145.out (fun _ hk => hk.2)))
                    (case aS => exact (below_size (by repeat (first | (with_reducible first | exact HB.out | apply below_alloc | apply pw_below_drewN | apply below_drew1 | refine below_set ?_ GE142.out) | exact HB.out))))
                    (case aL => have := LMc4.out; first | omega | (simp only [ByteArray.size, List.size_toArray, List.length_cons, List.length_nil] at this ⊢; omega))
                    intro v151 w26 ho hb hg hat
                    rw [← Ny150.out] at ho
                    have n0_ := Aside0.mk (blk_grown (g := gb142) (o := .cells #[.slice Ao20 y143.length co20] 38 (0, 0)) (by (with_reducible repeat (first | refine blk_drewN ?_ _ | refine blk_drew ?_ | refine blk_alloc ?_ _)); exact BK142.out) hg (Kd.R_ne HO145.out BK142.out (by decide)))
                    have n1_ := Aside0.mk (Kd.R_after (ok := (fun _ => True)) (by (with_reducible repeat (first | apply Kd.R_alloc | apply Kd.R_drewN | apply Kd.R_drew)); exact HO149.out) hg hat)
                    have n2_ := Aside0.mk (hb)
                    have n3_ := Aside0.mk (ho)
                    clear BK142
                    clear HO149
                    clear HB
                    clear HO145
                    have BK142 := n0_
                    have HO149 := n1_
                    have HB := n2_
                    have HO152 := n3_
                    clear n0_ n1_ n2_ n3_
                    clear ho hb hg hat
                    obtain ⟨Ao28, co28, eo28⟩ := Kd.R_slice HO152.out
                    (first | subst eo28 | (injection eo28 with f1_ f2_ f3_; have f4_ := f1_.symm; have f5_ := f3_.symm; clear f1_ f2_ f3_; subst f4_; subst f5_))
                    refine hK.out _ _ ((blk_cell BK142.out 0).trans rfl) (fun hHeld => ?_)
                    clear hK K
                    refine norm_ (a' := ?_) ?_ ?_
                    rotate_left
                    · show Act.put _ (some 13) _ = _
                      simp only [Act.put, List.setIfInBounds_toArray, List.set_cons_zero, List.set_cons_succ, i64_w, i32_w]
                      rfl
                    refine pure_ (i := 10) (N := some 14) (v := ?_) (a' := ?_) #[true, true, true, true, true, true, true, true, true, true, true, false, false] rfl rfl (any_of HT_.out (by kernel_rfl)) (fun _ _ _ h => h) (Or.inl ⟨by rfl, ?_⟩) ?_ ?_
                    rotate_left
                    · intro w'
                      go_simp
                      with_reducible rfl
                    rotate_left
                    · simp only [Act.put, List.setIfInBounds_toArray, List.set_cons_zero, List.set_cons_succ, i64_w, i32_w]
                      rfl
                    refine pure_ (i := 11) (N := some 15) (v := ?_) (a' := ?_) #[true, true, true, true, true, true, true, true, true, true, true, true, false] rfl rfl (any_of HT_.out (by kernel_rfl)) (fun _ _ _ h => h) (Or.inl ⟨by rfl, ?_⟩) ?_ ?_
                    rotate_left
                    · intro w'
                      go_simp
                      with_reducible rfl
                    rotate_left
                    · simp only [Act.put, List.setIfInBounds_toArray, List.set_cons_zero, List.set_cons_succ, i64_w, i32_w]
                      rfl
                    refine last_ (i := 12) (N := none) #[true, true, true, true, true, true, true, true, true, true, true, true, true] rfl rfl (one_of HT_.out (by kernel_rfl)) (by decide) (fun K hK => ?_)
                    have hs29 : w26.cell? ⟨gb142, 0, none⟩ = some (.slice Ao20 y143.length co20) := (blk_cell BK142.out 0).trans rfl
                    have hfs29 := blk_frozen BK142.out 0
                    refine skip_ (w1 := ?_) (by rfl) rfl ?_ ?_
                    rotate_left
                    · go_simp
                      rfl
                    refine hK.out _ _ ?_
                    clear hK K
                    refine done_ (done_of HT_.out (by kernel_rfl)) ?_
                    have hcz30_0 : w26.cell? ⟨gb142, 0, none⟩ = some (.slice Ao20 y143.length co20) := (blk_cell BK142.out 0).trans rfl
                    have hfz30_0 := blk_frozen BK142.out 0
                    try go_wp2_with (first | (go_at_call 33; go_in) | (go_at_call 43; go_in) | (go_at_call 34; go_in) | (go_at_call 35; go_in) | (go_at_call 19; go_in) | ((try simp only [Exit.inBlock, Exit.then]); refine bodyPost_end (results_none rfl _ _ _) rfl ?_; simp only []; go_at_K) | ((with_reducible refine gate_builtin (b := .append) (xs := #[.tmp 6, .tmp 7]) rfl ?_); at_builtin; refine Kd.R_append (Kd.int .u8) (w0 := w) w.heap.size rfl (.tmp 6) (.tmp 7) 28 5 (.int .u8 0) 1 rfl Tryd.underlying28 info5 rfl (by decide) (by omega) (.slice Ao28 y150.length co28) y150 0 [.int .u8 0] (fun k_ => some k_ ≠ (.slice Ao27 t147.length co27 : Value).ownBlock) (fun _ => False) rfl (by first | (go_simp; done) | (go_simp; rfl)) ?aP (fun _ hk => hk.elim) ?aF ?aO ?aB ?aS ?aL ?_; (case aP => exact rfl); (case aB => exact (by repeat (first | (with_reducible first | exact HB.out | apply below_alloc | apply pw_below_drewN | apply below_drew1 | refine below_set ?_ GE142.out) | exact HB.out))); (case aF => exact (fun k_ hk => Kd.fresh' (Kd.R_lt (by (with_reducible repeat (first | apply Kd.R_alloc | apply Kd.R_drewN | apply Kd.R_drew)); exact (Kd.R_mono (Kd.R_far (p := ⟨gb142, 0, none⟩) (Kd.R_types HO149.out BK142.out (by decide)) (fun _ hk => hk.2) (.slice Ao28 y150.length co28)) (fun _ h_ => h_.1)))) k_ hk)); (case aO => exact (by (with_reducible repeat (first | apply Kd.R_alloc | apply Kd.R_drewN | apply Kd.R_drew)); exact Kd.R_mono (Kd.R_far (p := ⟨gb142, 0, none⟩) (Kd.R_types HO152.out BK142.out (by decide)) (fun _ hk => hk.2) (.slice Ao28 y150.length co28)) (fun _ hk => hk.1))); (case aS => exact (below_size (by repeat (first | (with_reducible first | exact HB.out | apply below_alloc | apply pw_below_drewN | apply below_drew1 | refine below_set ?_ GE142.out) | exact HB.out)))); (case aL => have := LMc5.out; first | omega | (simp only [ByteArray.size, List.size_toArray, List.length_cons, List.length_nil] at this ⊢; omega)); intro v154 w31 ho hb hg hat; rw [← Ny153.out] at ho; have n0_ := Aside0.mk (blk_grown (g := gb142) (o := .cells #[.slice Ao28 y150.length co28] 38 (0, 0)) (by (with_reducible repeat (first | refine blk_drewN ?_ _ | refine blk_drew ?_ | refine blk_alloc ?_ _)); refine blk_put (cs := #[.slice Ao20 y143.length co20]) ?_ 0 _ rfl; (with_reducible repeat (first | refine blk_drewN ?_ _ | refine blk_drew ?_ | refine blk_alloc ?_ _)); exact BK142.out) hg (Kd.R_ne HO152.out BK142.out (by decide))); have n1_ := Aside0.mk (Kd.R_after (ok := (fun _ => True)) (by (with_reducible repeat (first | apply Kd.R_alloc | apply Kd.R_drewN | apply Kd.R_drew)); exact Kd.R_mono (Kd.R_far (p := ⟨gb142, 0, none⟩) (Kd.R_types HO149.out BK142.out (by decide)) (fun _ hk => hk.2) (.slice Ao28 y150.length co28)) (fun _ hk => ⟨trivial, hk.1.2⟩)) hg hat); have n2_ := Aside0.mk (hb); have n3_ := Aside0.mk (ho); clear BK142; clear HO149; clear HB; clear HO152; have BK142 := n0_; have HO149 := n1_; have HB := n2_; have HO155 := n3_; clear n0_ n1_ n2_ n3_; clear ho hb hg hat; obtain ⟨Ao32, co32, eo32⟩ := Kd.R_slice HO155.out; subst eo32; have hcz33_0 : w31.cell? ⟨gb142, 0, none⟩ = some (.slice Ao28 y150.length co28) := (blk_cell BK142.out 0).trans rfl; have hfz33_0 := blk_frozen BK142.out 0) | ((with_reducible refine gate_builtin (b := .append) (xs := #[.tmp 12, .tmp 13]) rfl ?_); at_builtin; refine Kd.R_append (Kd.int .u8) (w0 := w) w.heap.size rfl (.tmp 12) (.tmp 13) 28 5 (.int .u8 0) 1 rfl Tryd.underlying28 info5 rfl (by decide) (by omega) (.slice Ao32 y153.length co32) y153 48 [.int .u8 48] (fun k_ => some k_ ≠ (.slice Ao27 t147.length co27 : Value).ownBlock) (fun _ => False) rfl (by first | (go_simp; done) | (go_simp; rfl)) ?aP (fun _ hk => hk.elim) ?aF ?aO ?aB ?aS ?aL ?_; (case aP => exact rfl); (case aB => exact (by repeat (first | (with_reducible first | exact HB.out | apply below_alloc | apply pw_below_drewN | apply below_drew1 | refine below_set ?_ GE142.out) | exact HB.out))); (case aF => exact (fun k_ hk => Kd.fresh' (Kd.R_lt (by (with_reducible repeat (first | apply Kd.R_alloc | apply Kd.R_drewN | apply Kd.R_drew)); exact (Kd.R_mono (Kd.R_far (p := ⟨gb142, 0, none⟩) (Kd.R_types HO149.out BK142.out (by decide)) (fun _ hk => hk.2) (.slice Ao32 y153.length co32)) (fun _ h_ => h_.1)))) k_ hk)); (case aO => exact (by (with_reducible repeat (first | apply Kd.R_alloc | apply Kd.R_drewN | apply Kd.R_drew)); exact Kd.R_mono (Kd.R_far (p := ⟨gb142, 0, none⟩) (Kd.R_types HO155.out BK142.out (by decide)) (fun _ hk => hk.2) (.slice Ao32 y153.length co32)) (fun _ hk => hk.1))); (case aS => exact (below_size (by repeat (first | (with_reducible first | exact HB.out | apply below_alloc | apply pw_below_drewN | apply below_drew1 | refine below_set ?_ GE142.out) | exact HB.out)))); (case aL => have := LMc6.out; first | omega | (simp only [ByteArray.size, List.size_toArray, List.length_cons, List.length_nil] at this ⊢; omega)); intro v157 w34 ho hb hg hat; rw [← Ny156.out] at ho; have n0_ := Aside0.mk (blk_grown (g := gb142) (o := .cells #[.slice Ao32 y153.length co32] 38 (0, 0)) (by (with_reducible repeat (first | refine blk_drewN ?_ _ | refine blk_drew ?_ | refine blk_alloc ?_ _)); refine blk_put (cs := #[.slice Ao28 y150.length co28]) ?_ 0 _ rfl; (with_reducible repeat (first | refine blk_drewN ?_ _ | refine blk_drew ?_ | refine blk_alloc ?_ _)); exact BK142.out) hg (Kd.R_ne HO155.out BK142.out (by decide))); have n1_ := Aside0.mk (Kd.R_after (ok := (fun _ => True)) (by (with_reducible repeat (first | apply Kd.R_alloc | apply Kd.R_drewN | apply Kd.R_drew)); exact Kd.R_mono (Kd.R_far (p := ⟨gb142, 0, none⟩) (Kd.R_types HO149.out BK142.out (by decide)) (fun _ hk => hk.2) (.slice Ao32 y153.length co32)) (fun _ hk => ⟨trivial, hk.1.2⟩)) hg hat); have n2_ := Aside0.mk (hb); have n3_ := Aside0.mk (ho); clear BK142; clear HO149; clear HB; clear HO155; have BK142 := n0_; have HO149 := n1_; have HB := n2_; have HO158 := n3_; clear n0_ n1_ n2_ n3_; clear ho hb hg hat; obtain ⟨Ao35, co35, eo35⟩ := Kd.R_slice HO158.out; subst eo35; have hcz36_0 : w34.cell? ⟨gb142, 0, none⟩ = some (.slice Ao32 y153.length co32) := (blk_cell BK142.out 0).trans rfl; have hfz36_0 := blk_frozen BK142.out 0))
                    have n0_ : Aside0 (Kd.R (Kd.int .u8) 5 (w34.setCell ⟨gb142, 0, none⟩ (.slice Ao35 y156.length co35)) w.heap.size (fun k_ => some k_ ≠ (.slice Ao35 y156.length co35 : Value).ownBlock) (.slice Ao27 t147.length co27) t147) := ⟨by (with_reducible repeat (first | apply Kd.R_alloc | apply Kd.R_drewN | apply Kd.R_drew)); exact Kd.R_mono (Kd.R_far (p := ⟨gb142, 0, none⟩) (Kd.R_types HO149.out BK142.out (by decide)) (fun _ hk => hk.2) (.slice Ao35 y156.length co35)) (fun _ hk => hk.1.2)⟩
                    have n1_ : Aside0 (Kd.R (Kd.int .u8) 5 (w34.setCell ⟨gb142, 0, none⟩ (.slice Ao35 y156.length co35)) w.heap.size (fun k_ => some k_ ≠ (.slice Ao27 t147.length co27 : Value).ownBlock) (.slice Ao35 y156.length co35) y156) := ⟨by (with_reducible repeat (first | apply Kd.R_alloc | apply Kd.R_drewN | apply Kd.R_drew)); exact Kd.R_mono (Kd.R_far (p := ⟨gb142, 0, none⟩) (Kd.R_types HO158.out BK142.out (by decide)) (fun _ hk => hk.2) (.slice Ao35 y156.length co35)) (fun _ hk => hk.1)⟩
                    have n2_ : Aside0 ((w34.setCell ⟨gb142, 0, none⟩ (.slice Ao35 y156.length co35)).heap[gb142]? = some (.cells #[.slice Ao35 y156.length co35] 38 (0, 0))) := ⟨by (with_reducible repeat (first | refine blk_drewN ?_ _ | refine blk_drew ?_ | refine blk_alloc ?_ _)); refine blk_put (cs := #[.slice Ao32 y153.length co32]) ?_ 0 _ rfl; (with_reducible repeat (first | refine blk_drewN ?_ _ | refine blk_drew ?_ | refine blk_alloc ?_ _)); exact BK142.out⟩
                    have n3_ : Aside0 (Below w.heap.size w (w34.setCell ⟨gb142, 0, none⟩ (.slice Ao35 y156.length co35))) := ⟨by repeat (first | (with_reducible first | exact HB.out | apply below_alloc | apply pw_below_drewN | apply below_drew1 | refine below_set ?_ GE142.out) | exact HB.out)⟩
                    (try clear HO149)
                    (try clear HO158)
                    (try clear BK142)
                    (try clear HB)
                    generalize (w34.setCell ⟨gb142, 0, none⟩ (.slice Ao35 y156.length co35)) = w37 at n0_ n1_ n2_ n3_ ⊢
                    have HO149 := n0_
                    have HO158 := n1_
                    have BK142 := n2_
                    have HB := n3_
                    clear n0_ n1_ n2_ n3_
                    have n0_ := Aside0.mk (Kd.R_drew HO149.out)
                    have n1_ := Aside0.mk (Kd.R_drew HO158.out)
                    have n2_ := Aside0.mk (blk_drew BK142.out)
                    have n3_ := Aside0.mk (below_drew1 HB.out)
                    clear HO149
                    clear HO158
                    clear BK142
                    clear HB
                    have HO149 := n0_
                    have HO158 := n1_
                    have BK142 := n2_
                    have HB := n3_
                    clear n0_ n1_ n2_ n3_
                    refine start_ (n := 13) (S := fun w' => w'.cell? ⟨gb142, 0, none⟩ = some (.slice Ao35 y156.length co35)) (ds := [12]) #[false, false, false, false, false, false, false, false, false, false, false, false, false] (by kernel_rfl) rfl rfl ((blk_cell BK142.out 0).trans rfl) (fun hHeld => ?_); refine with_tabW plenumlaw02_awake.tab43000 plenumlaw02_awake.bits43000 (fun HT_ HW_ => ?_)
                    generalize w37.drew = w38 at HO149 HO158 BK142 HB hHeld ⊢
                    refine pure_ (i := 0) (N := some 4) (v := ?_) (a' := ?_) #[true, false, false, false, false, false, false, false, false, false, false, false, false] rfl rfl (any_of HT_.out (by kernel_rfl)) (fun _ _ _ h => h) (Or.inl ⟨by rfl, ?_⟩) ?_ ?_
                    rotate_left
                    · intro w'
                      go_simp
                      with_reducible rfl
                    rotate_left
                    · simp only [Act.put, List.setIfInBounds_toArray, List.set_cons_zero, List.set_cons_succ, i64_w, i32_w]
                      rfl
                    refine pure_ (i := 1) (N := some 5) (v := ?_) (a' := ?_) #[true, true, false, false, false, false, false, false, false, false, false, false, false] rfl rfl (any_of HT_.out (by kernel_rfl)) (fun _ _ _ h => h) (Or.inl ⟨by rfl, ?_⟩) ?_ ?_
                    rotate_left
                    · intro w'
                      go_simp
                      with_reducible rfl
                    rotate_left
                    · simp only [Act.put, List.setIfInBounds_toArray, List.set_cons_zero, List.set_cons_succ, i64_w, i32_w]
                      rfl
                    refine pure_ (i := 2) (N := some 6) (v := ?_) (a' := ?_) #[true, true, true, false, false, false, false, false, false, false, false, false, false] rfl rfl (any_of HT_.out (by kernel_rfl)) (fun _ _ _ h => h) (Or.inl ⟨by rfl, ?_⟩) ?_ ?_
                    rotate_left
                    · intro w'
                      go_simp
                      with_reducible rfl
                    rotate_left
                    · simp only [Act.put, List.setIfInBounds_toArray, List.set_cons_zero, List.set_cons_succ, i64_w, i32_w]
                      rfl
                    refine pure_ (i := 3) (N := some 7) (v := ?_) (a' := ?_) #[true, true, true, true, false, false, false, false, false, false, false, false, false] rfl rfl (any_of HT_.out (by kernel_rfl)) (fun _ _ _ h => h) (Or.inl ⟨by rfl, ?_⟩) ?_ ?_
                    rotate_left
                    · intro w'
                      go_simp
                      with_reducible rfl
                    rotate_left
                    · simp only [Act.put, List.setIfInBounds_toArray, List.set_cons_zero, List.set_cons_succ, i64_w, i32_w]
                      rfl
                    refine pure_ (i := 5) (N := some 9) (v := ?_) (a' := ?_) #[true, true, true, true, false, true, false, false, false, false, false, false, false] rfl rfl (any_of HT_.out (by kernel_rfl)) (fun _ _ _ h => h) (Or.inl ⟨by rfl, ?_⟩) ?_ ?_
                    rotate_left
                    · intro w'
                      go_simp
                      with_reducible rfl
                    rotate_left
                    · simp only [Act.put, List.setIfInBounds_toArray, List.set_cons_zero, List.set_cons_succ, i64_w, i32_w]
                      rfl
                    refine pure_ (i := 6) (N := some 10) (v := ?_) (a' := ?_) #[true, true, true, true, false, true, true, false, false, false, false, false, false] rfl rfl (any_of HT_.out (by kernel_rfl)) (fun _ _ _ h => h) (Or.inl ⟨by rfl, ?_⟩) ?_ ?_
                    rotate_left
                    · intro w'
                      go_simp
                      with_reducible rfl
                    rotate_left
                    · simp only [Act.put, List.setIfInBounds_toArray, List.set_cons_zero, List.set_cons_succ, i64_w, i32_w]
                      rfl
                    refine take_ (i := 4) (N := some 8) (v := ?_) (a' := ?_) #[true, true, true, true, true, true, true, false, false, false, false, false, false] rfl rfl (take_ofW HT_.out HW_.out (by kernel_rfl)) (fun _ _ _ h => h) (Or.inl ⟨by rfl, ?_⟩) hHeld ?_ ?_
                    rotate_left
                    · intro w' s0
                      go_simp
                      with_reducible rfl
                    rotate_left
                    · simp only [Act.put, List.setIfInBounds_toArray, List.set_cons_zero, List.set_cons_succ, i64_w, i32_w]
                      rfl
                    refine one_ (i := 7) (N := some 11) #[true, true, true, true, true, true, true, true, false, false, false, false, false] rfl rfl (one_of HT_.out (by kernel_rfl)) (by decide) (fun K hK => ?_)
                    refine goes_ Tryd.func63 (by kernel_rfl) rfl #[.int .u64 1] (by rfl) rfl rfl (by (try simp only [List.map_toArray, List.map_cons, List.map_nil]); first | done | rfl | (simp only [List.length_drop, List.length_take]; rfl)) ?_
                    with_reducible refine (codec_width.calls k 1 t159 _ ?side99  A7.out).mono ?_
                    (case side99 => first | exact HG.out | exact Glob.below HG.out (by repeat (first | (with_reducible first | exact HB.out | apply below_alloc | apply pw_below_drewN | apply below_drew1 | refine below_set ?_ GE142.out) | exact HB.out)))
                    rintro e w39 ⟨rfl, hb⟩
                    refine ⟨_, rfl, ?_⟩
                    have n0_ := Aside0.mk (Kd.R_below (by (with_reducible repeat (first | apply Kd.R_alloc | apply Kd.R_drewN | apply Kd.R_drew)); exact HO149.out) hb)
                    have n1_ := Aside0.mk (Kd.R_below (by (with_reducible repeat (first | apply Kd.R_alloc | apply Kd.R_drewN | apply Kd.R_drew)); exact HO158.out) hb)
                    have n2_ := Aside0.mk (blk_below (g := gb142) (o := .cells #[.slice Ao35 y156.length co35] 38 (0, 0)) (by (with_reducible repeat (first | refine blk_drewN ?_ _ | refine blk_drew ?_ | refine blk_alloc ?_ _)); exact BK142.out) hb)
                    have n3_ := Aside0.mk (below_step (by repeat (first | (with_reducible first | exact HB.out | apply below_alloc | apply pw_below_drewN | apply below_drew1 | refine below_set ?_ GE142.out) | exact HB.out)) hb)
                    clear HO149
                    clear HO158
                    clear BK142
                    clear HB
                    have HO149 := n0_
                    have HO158 := n1_
                    have BK142 := n2_
                    have HB := n3_
                    clear n0_ n1_ n2_ n3_
                    (try clear hb)
                    (try clear hb2)
                    (try clear hk)
                    (try clear hi)
                    refine hK.out _ _ ((blk_cell BK142.out 0).trans rfl) (fun hHeld => ?_)
                    clear hK K
                    refine norm_ (a' := ?_) ?_ ?_
                    rotate_left
                    · show Act.put _ (some 11) _ = _
                      simp only [Act.put, List.setIfInBounds_toArray, List.set_cons_zero, List.set_cons_succ, i64_w, i32_w]
                      rfl
                    refine one_ (i := 8) (N := some 12) #[true, true, true, true, true, true, true, true, true, false, false, false, false] rfl rfl (one_of HT_.out (by kernel_rfl)) (by decide) (fun K hK => ?_)
                    refine goes_ Tryd.func62 (by kernel_rfl) rfl #[.int .u8 16, .int .u64 1, .int .i64 t159] (by rfl) rfl rfl (by (try simp only [List.map_toArray, List.map_cons, List.map_nil]); first | done | rfl | (simp only [List.length_drop, List.length_take]; rfl)) ?_
                    with_reducible refine (codec_number.calls k 16 1 t159 t160 _ ?side99  A8.out).mono ?_
                    (case side99 => first | exact HG.out | exact Glob.below HG.out (by repeat (first | (with_reducible first | exact HB.out | apply below_alloc | apply pw_below_drewN | apply below_drew1 | refine below_set ?_ GE142.out) | exact HB.out)))
                    rintro e w40 ⟨v161, rfl, ho0, hb⟩
                    refine ⟨_, rfl, ?_⟩
                    have n0_ := Aside0.mk (Kd.R_elder' (by (with_reducible repeat (first | apply Kd.R_alloc | apply Kd.R_drewN | apply Kd.R_drew)); exact HO149.out) (Kd.R_base ho0) hb)
                    have n1_ := Aside0.mk (Kd.R_elder' (by (with_reducible repeat (first | apply Kd.R_alloc | apply Kd.R_drewN | apply Kd.R_drew)); exact HO158.out) (Kd.R_base ho0) hb)
                    have n2_ := Aside0.mk (Kd.R_lower (Kd.R_new' (Kd.R_new' ho0 (Kd.R_lt (by (with_reducible repeat (first | apply Kd.R_alloc | apply Kd.R_drewN | apply Kd.R_drew)); exact HO149.out))) (Kd.R_lt (by (with_reducible repeat (first | apply Kd.R_alloc | apply Kd.R_drewN | apply Kd.R_drew)); exact HO158.out))) (below_size (by repeat (first | (with_reducible first | exact HB.out | apply below_alloc | apply pw_below_drewN | apply below_drew1 | refine below_set ?_ GE142.out) | exact HB.out))))
                    have n3_ := Aside0.mk (blk_below (g := gb142) (o := .cells #[.slice Ao35 y156.length co35] 38 (0, 0)) (by (with_reducible repeat (first | refine blk_drewN ?_ _ | refine blk_drew ?_ | refine blk_alloc ?_ _)); exact BK142.out) hb)
                    have n4_ := Aside0.mk (below_step (by repeat (first | (with_reducible first | exact HB.out | apply below_alloc | apply pw_below_drewN | apply below_drew1 | refine below_set ?_ GE142.out) | exact HB.out)) hb)
                    clear HO149
                    clear HO158
                    clear BK142
                    clear HB
                    have HO149 := n0_
                    have HO158 := n1_
                    have HO162 := n2_
                    have BK142 := n3_
                    have HB := n4_
                    clear n0_ n1_ n2_ n3_ n4_
                    (try clear hb)
                    (try clear hb2)
                    (try clear hk)
                    (try clear hi)
                    (try clear ho0)
                    obtain ⟨Ao42, co42, eo42⟩ := Kd.R_slice HO162.out
                    (first | subst eo42 | (injection eo42 with f1_ f2_ f3_; have f4_ := f1_.symm; have f5_ := f3_.symm; clear f1_ f2_ f3_; subst f4_; subst f5_))
                    refine hK.out _ _ ((blk_cell BK142.out 0).trans rfl) (fun hHeld => ?_)
                    clear hK K
                    refine norm_ (a' := ?_) ?_ ?_
                    rotate_left
                    · show Act.put _ (some 12) _ = _
                      simp only [Act.put, List.setIfInBounds_toArray, List.set_cons_zero, List.set_cons_succ, i64_w, i32_w]
                      rfl
                    refine one_ (i := 9) (N := some 13) #[true, true, true, true, true, true, true, true, true, true, false, false, false] rfl rfl (one_of HT_.out (by kernel_rfl)) (by decide) (fun K hK => ?_)
                    refine Kd.R_append_rows_step (Kd.int .u8) (w0 := w) w.heap.size (by rfl) (.tmp 8) (.tmp 12) 28 5 (.int .u8 0) 1 rfl Tryd.underlying28 info5 rfl (by decide) (by omega) (.slice Ao35 y156.length co35) y156 t160 _ _ _ (fun k_ => some k_ ≠ (.slice Ao27 t147.length co27 : Value).ownBlock ∧ some k_ ≠ (.slice Ao42 t160.length co42 : Value).ownBlock) (fun _ => False) rfl rfl ?aO ?aR (fun _ _ h => h) (fun _ h => h.elim) ?aF ?aB ?aS ?aL ?_
                    (case aR => repeat (first | exact (Kd.R_reads' HO162.out).2.2 | (with_reducible refine Kd.C_alloc ?_ _) | (with_reducible refine Kd.C_drewN ?_ _) | (with_reducible refine Kd.C_drew ?_)))
                    (case aB => exact (by repeat (first | (with_reducible first | exact HB.out | apply below_alloc | apply pw_below_drewN | apply below_drew1 | refine below_set ?_ GE142.out) | exact HB.out)))
                    (case aF => exact (fun k_ hk => ⟨Kd.fresh' (Kd.R_lt (by (with_reducible repeat (first | apply Kd.R_alloc | apply Kd.R_drewN | apply Kd.R_drew)); exact HO149.out)) k_ hk, Kd.fresh' (Kd.R_lt (by (with_reducible repeat (first | apply Kd.R_alloc | apply Kd.R_drewN | apply Kd.R_drew)); exact HO162.out)) k_ hk⟩))
                    (case aO => exact (by (with_reducible repeat (first | apply Kd.R_alloc | apply Kd.R_drewN | apply Kd.R_drew)); exact HO158.out))
                    (case aS => exact (below_size (by repeat (first | (with_reducible first | exact HB.out | apply below_alloc | apply pw_below_drewN | apply below_drew1 | refine below_set ?_ GE142.out) | exact HB.out))))
                    (case aL => have := LMc9.out; first | omega | (simp only [ByteArray.size, List.size_toArray, List.length_cons, List.length_nil] at this ⊢; omega))
                    intro v164 w41 ho hb hg hat
                    rw [← Ny163.out] at ho
                    have n0_ := Aside0.mk (blk_grown (g := gb142) (o := .cells #[.slice Ao35 y156.length co35] 38 (0, 0)) (by (with_reducible repeat (first | refine blk_drewN ?_ _ | refine blk_drew ?_ | refine blk_alloc ?_ _)); exact BK142.out) hg (Kd.R_ne HO158.out BK142.out (by decide)))
                    have n1_ := Aside0.mk (Kd.R_after (ok := (fun k_ => some k_ ≠ (.slice Ao42 t160.length co42 : Value).ownBlock)) (by (with_reducible repeat (first | apply Kd.R_alloc | apply Kd.R_drewN | apply Kd.R_drew)); exact Kd.R_mono HO149.out (fun _ hk => ⟨hk.2, hk.1⟩)) hg hat)
                    have n2_ := Aside0.mk (Kd.R_after (ok := (fun k_ => some k_ ≠ (.slice Ao27 t147.length co27 : Value).ownBlock)) (by (with_reducible repeat (first | apply Kd.R_alloc | apply Kd.R_drewN | apply Kd.R_drew)); exact Kd.R_mono HO162.out (fun _ hk => ⟨hk.1.2, hk.2⟩)) hg hat)
                    have n3_ := Aside0.mk (hb)
                    have n4_ := Aside0.mk (ho)
                    clear BK142
                    clear HO149
                    clear HO162
                    clear HB
                    clear HO158
                    have BK142 := n0_
                    have HO149 := n1_
                    have HO162 := n2_
                    have HB := n3_
                    have HO165 := n4_
                    clear n0_ n1_ n2_ n3_ n4_
                    clear ho hb hg hat
                    obtain ⟨Ao43, co43, eo43⟩ := Kd.R_slice HO165.out
                    (first | subst eo43 | (injection eo43 with f1_ f2_ f3_; have f4_ := f1_.symm; have f5_ := f3_.symm; clear f1_ f2_ f3_; subst f4_; subst f5_))
                    refine hK.out _ _ ((blk_cell BK142.out 0).trans rfl) (fun hHeld => ?_)
                    clear hK K
                    refine norm_ (a' := ?_) ?_ ?_
                    rotate_left
                    · show Act.put _ (some 13) _ = _
                      simp only [Act.put, List.setIfInBounds_toArray, List.set_cons_zero, List.set_cons_succ, i64_w, i32_w]
                      rfl
                    refine pure_ (i := 10) (N := some 14) (v := ?_) (a' := ?_) #[true, true, true, true, true, true, true, true, true, true, true, false, false] rfl rfl (any_of HT_.out (by kernel_rfl)) (fun _ _ _ h => h) (Or.inl ⟨by rfl, ?_⟩) ?_ ?_
                    rotate_left
                    · intro w'
                      go_simp
                      with_reducible rfl
                    rotate_left
                    · simp only [Act.put, List.setIfInBounds_toArray, List.set_cons_zero, List.set_cons_succ, i64_w, i32_w]
                      rfl
                    refine pure_ (i := 11) (N := some 15) (v := ?_) (a' := ?_) #[true, true, true, true, true, true, true, true, true, true, true, true, false] rfl rfl (any_of HT_.out (by kernel_rfl)) (fun _ _ _ h => h) (Or.inl ⟨by rfl, ?_⟩) ?_ ?_
                    rotate_left
                    · intro w'
                      go_simp
                      with_reducible rfl
                    rotate_left
                    · simp only [Act.put, List.setIfInBounds_toArray, List.set_cons_zero, List.set_cons_succ, i64_w, i32_w]
                      rfl
                    refine last_ (i := 12) (N := none) #[true, true, true, true, true, true, true, true, true, true, true, true, true] rfl rfl (one_of HT_.out (by kernel_rfl)) (by decide) (fun K hK => ?_)
                    have hs44 : w41.cell? ⟨gb142, 0, none⟩ = some (.slice Ao35 y156.length co35) := (blk_cell BK142.out 0).trans rfl
                    have hfs44 := blk_frozen BK142.out 0
                    refine skip_ (w1 := ?_) (by rfl) rfl ?_ ?_
                    rotate_left
                    · go_simp
                      rfl
                    refine hK.out _ _ ?_
                    clear hK K
                    refine done_ (done_of HT_.out (by kernel_rfl)) ?_
                    have hcz45_0 : w41.cell? ⟨gb142, 0, none⟩ = some (.slice Ao35 y156.length co35) := (blk_cell BK142.out 0).trans rfl
                    have hfz45_0 := blk_frozen BK142.out 0
                    try go_wp2_with (first | (go_at_call 33; go_in) | (go_at_call 43; go_in) | (go_at_call 34; go_in) | (go_at_call 35; go_in) | (go_at_call 19; go_in) | ((try simp only [Exit.inBlock, Exit.then]); refine bodyPost_end (results_none rfl _ _ _) rfl ?_; simp only []; go_at_K) | (at_builtin; refine print_append_str (w0 := w) w.heap.size rfl (.tmp 26) _ 28 9 5 rfl Tryd.underlying28 Tryd.underlying9 info5 (.slice Ao43 y163.length co43) y163 (⟨#[97]⟩ : ByteArray) rfl rfl ?aO ?aB ?aS ?aL ?_; (case aB => exact (by repeat (first | (with_reducible first | exact HB.out | apply below_alloc | apply pw_below_drewN | apply below_drew1 | refine below_set ?_ GE142.out) | exact HB.out))); (case aO => exact (Kd.own_of_R (by (with_reducible repeat (first | apply Kd.R_alloc | apply Kd.R_drewN | apply Kd.R_drew)); exact Kd.R_mono (Kd.R_far (p := ⟨gb142, 0, none⟩) (Kd.R_types HO165.out BK142.out (by decide)) (fun _ hk => hk.2) (.slice Ao43 y163.length co43)) (fun _ hk => trivial)))); (case aS => exact (below_size (by repeat (first | (with_reducible first | exact HB.out | apply below_alloc | apply pw_below_drewN | apply below_drew1 | refine below_set ?_ GE142.out) | exact HB.out)))); (case aL => have := LMc10.out; first | omega | (simp only [ByteArray.size, List.size_toArray, List.length_cons, List.length_nil] at this ⊢; omega)); intro v167 w46 ho0 hb hg; have ho := Kd.R_of_own (h1 := fun _ => rfl) (ok := fun _ => True) ho0 (fun _ _ => trivial); clear ho0; have hat := True.intro; rw [← Ny166.out] at ho; change Kd.R (Kd.int .u8) 5 w46 w.heap.size (fun _ => True) v167 y166 at ho; have n0_ := Aside0.mk (blk_grown (g := gb142) (o := .cells #[.slice Ao43 y163.length co43] 38 (0, 0)) (by (with_reducible repeat (first | refine blk_drewN ?_ _ | refine blk_drew ?_ | refine blk_alloc ?_ _)); refine blk_put (cs := #[.slice Ao35 y156.length co35]) ?_ 0 _ rfl; (with_reducible repeat (first | refine blk_drewN ?_ _ | refine blk_drew ?_ | refine blk_alloc ?_ _)); exact BK142.out) hg (Kd.R_ne HO165.out BK142.out (by decide))); have n1_ := Aside0.mk (hb); have n2_ := Aside0.mk (ho); clear BK142; clear HB; clear HO165; have BK142 := n0_; have HB := n1_; have HO168 := n2_; clear n0_ n1_ n2_; clear ho hb hg hat; obtain ⟨Ao47, co47, eo47⟩ := Kd.R_slice HO168.out; subst eo47; have hcz48_0 : w46.cell? ⟨gb142, 0, none⟩ = some (.slice Ao43 y163.length co43) := (blk_cell BK142.out 0).trans rfl; have hfz48_0 := blk_frozen BK142.out 0; have hcv49 := own_string (w := (w46.setCell ⟨gb142, 0, none⟩ (.slice Ao47 y166.length co47))) (P := Tryd.prog) Tryd.underlying28 Tryd.underlying5 Tryd.underlying9 (Kd.own_of_R (by (with_reducible repeat (first | apply Kd.R_alloc | apply Kd.R_drewN | apply Kd.R_drew)); exact (Kd.R_mono (Kd.R_far (p := ⟨gb142, 0, none⟩) (Kd.R_types HO168.out BK142.out (by decide)) (fun _ hk => hk.2) (.slice Ao47 y166.length co47)) (fun _ h_ => h_.1))))) | (go_at_call 12; (with_reducible refine (codec_Digest.calls (⟨#[97]⟩ : ByteArray) t169 _ ?side99  A12.out).mono ?_); (case side99 => first | exact HG.out | exact Glob.below HG.out (by repeat (first | (with_reducible first | exact HB.out | apply below_alloc | apply pw_below_drewN | apply below_drew1 | refine below_set ?_ GE142.out) | exact HB.out))); rintro e w50 ⟨rfl, hb⟩; have n0_ := Aside0.mk (Kd.R_below (by (with_reducible repeat (first | apply Kd.R_alloc | apply Kd.R_drewN | apply Kd.R_drew)); exact (Kd.R_mono (Kd.R_far (p := ⟨gb142, 0, none⟩) (Kd.R_types HO168.out BK142.out (by decide)) (fun _ hk => hk.2) (.slice Ao47 y166.length co47)) (fun _ h_ => h_.1))) hb); have n1_ := Aside0.mk (blk_below (g := gb142) (o := .cells #[.slice Ao47 y166.length co47] 38 (0, 0)) (by (with_reducible repeat (first | refine blk_drewN ?_ _ | refine blk_drew ?_ | refine blk_alloc ?_ _)); refine blk_put (cs := #[.slice Ao43 y163.length co43]) ?_ 0 _ rfl; (with_reducible repeat (first | refine blk_drewN ?_ _ | refine blk_drew ?_ | refine blk_alloc ?_ _)); exact BK142.out) hb); have n2_ := Aside0.mk (below_step (by repeat (first | (with_reducible first | exact HB.out | apply below_alloc | apply pw_below_drewN | apply below_drew1 | refine below_set ?_ GE142.out) | exact HB.out)) hb); clear HO168; clear BK142; clear HB; have HO168 := n0_; have BK142 := n1_; have HB := n2_; clear n0_ n1_ n2_; (try clear hb); (try clear hb2); (try clear hk); (try clear hi)) | (go_at_call 10; (with_reducible refine (codec_Valid.calls k (⟨#[34, 0, 128]⟩ : ByteArray) true _ ?side99  A14.out).mono ?_); (case side99 => first | exact HG.out | exact Glob.below HG.out (by repeat (first | (with_reducible first | exact HB.out | apply below_alloc | apply pw_below_drewN | apply below_drew1 | refine below_set ?_ GE142.out) | exact HB.out))); rintro e w51 ⟨rfl, hb⟩; have n0_ := Aside0.mk (Kd.R_below (by (with_reducible repeat (first | apply Kd.R_alloc | apply Kd.R_drewN | apply Kd.R_drew)); exact HO168.out) hb); have n1_ := Aside0.mk (blk_below (g := gb142) (o := .cells #[.slice Ao47 y166.length co47] 38 (0, 0)) (by (with_reducible repeat (first | refine blk_drewN ?_ _ | refine blk_drew ?_ | refine blk_alloc ?_ _)); exact BK142.out) hb); have n2_ := Aside0.mk (below_step (by repeat (first | (with_reducible first | exact HB.out | apply below_alloc | apply pw_below_drewN | apply below_drew1 | refine below_set ?_ GE142.out) | exact HB.out)) hb); clear HO168; clear BK142; clear HB; have HO168 := n0_; have BK142 := n1_; have HB := n2_; clear n0_ n1_ n2_; (try clear hb); (try clear hb2); (try clear hk); (try clear hi)) | (go_at_call 10; (with_reducible refine (codec_Valid.calls k (⟨#[18, 0, 1]⟩ : ByteArray) t171 _ ?side99  A16.out).mono ?_); (case side99 => first | exact HG.out | exact Glob.below HG.out (by repeat (first | (with_reducible first | exact HB.out | apply below_alloc | apply pw_below_drewN | apply below_drew1 | refine below_set ?_ GE142.out) | exact HB.out))); rintro e w52 ⟨rfl, hb⟩; have n0_ := Aside0.mk (Kd.R_below (by (with_reducible repeat (first | apply Kd.R_alloc | apply Kd.R_drewN | apply Kd.R_drew)); exact HO168.out) hb); have n1_ := Aside0.mk (blk_below (g := gb142) (o := .cells #[.slice Ao47 y166.length co47] 38 (0, 0)) (by (with_reducible repeat (first | refine blk_drewN ?_ _ | refine blk_drew ?_ | refine blk_alloc ?_ _)); exact BK142.out) hb); have n2_ := Aside0.mk (below_step (by repeat (first | (with_reducible first | exact HB.out | apply below_alloc | apply pw_below_drewN | apply below_drew1 | refine below_set ?_ GE142.out) | exact HB.out)) hb); clear HO168; clear BK142; clear HB; have HO168 := n0_; have BK142 := n1_; have HB := n2_; clear n0_ n1_ n2_; (try clear hb); (try clear hb2); (try clear hk); (try clear hi)))
                    go_ret
                    exact ⟨by first | rfl | (simp [errW_none, errW_some] <;> rfl) | (simp [*, errW_none, errW_some] <;> rfl), by repeat (first | (with_reducible first | exact HB.out | apply below_alloc | apply pw_below_drewN | apply below_drew1 | refine below_set ?_ GE142.out) | exact HB.out)⟩
                  · replace c15 := Bool.eq_false_iff.mpr c15
                    subst c15
                    have H1 : (none) = some r := by rw [if_neg (show ¬ (false = true) by decide)] at H; exact H
                    clear H
                    have H := H1
                    clear H1
                    exact absurd H (by simp)
                · rw [if_neg c13] at H
                  exact absurd H (by simp)
              · rw [if_neg c11] at H
                exact absurd H (by simp)
            · rw [if_neg c10] at H
              exact absurd H (by simp)
          · rw [if_neg c9] at H
            exact absurd H (by simp)
        · rw [if_neg c6] at H
          exact absurd H (by simp)
      · rw [if_neg c5] at H
        exact absurd H (by simp)
    · rw [if_neg c4] at H
      exact absurd H (by simp)
  · rw [if_neg c1] at H
    exact absurd H (by simp)
end Go.Proofs.YtndeikikeeeigaaDoor.Q
end
section
namespace Go.Proofs.YtndeikikeeeigaaDoor.Q
open Go.RowKit Go.Proofs.YtndeikikeeeigaaDoorW.PrintWords Go.Proofs.YtndeikikeeeigaaDoorW.PrintLast Go.Proofs.YtndeikikeeeigaaDoorW.PrintMore
attribute [local go_sem] max2_int min2_int max_two min_two max_three min_three max_four min_four
set_option linter.unusedVariables false
set_option linter.unusedSimpArgs false
mutual
def plenumref02_Kind.j0 : Nat → ByteArray → Int → Bool → Option (Int)
  | 0, _, _, _ => none
  | k + 1, x0, x1, x13 => if x13 = true then (some 0) else (if 0 ≤ x1 then (if x1 < (x0.size : Int) then (if (bt x0 x1) = 0 then (some 1) else (if (bt x0 x1) = 1 then (plenumref02_Kind.j1 k (bt x0 x1) true) else (plenumref02_Kind.j1 k (bt x0 x1) ((bt x0 x1) == 2)))) else (none)) else (none))
def plenumref02_Kind.j1 : Nat → Int → Bool → Option (Int)
  | 0, _, _ => none
  | k + 1, x5, x20 => if x20 = true then (some 2) else (if x5 > 16 then (plenumref02_Kind.j2 k x5 (decide (x5 ≤ 24))) else (plenumref02_Kind.j2 k x5 false))
def plenumref02_Kind.j2 : Nat → Int → Bool → Option (Int)
  | 0, _, _ => none
  | k + 1, x5, x27 => if x27 = true then (some 3) else (if x5 > 32 then (plenumref02_Kind.j3 k x5 (decide (x5 ≤ 40))) else (plenumref02_Kind.j3 k x5 false))
def plenumref02_Kind.j3 : Nat → Int → Bool → Option (Int)
  | 0, _, _ => none
  | k + 1, x5, x34 => if x34 = true then (some 4) else (if x5 = 48 then (some 5) else (if x5 = 64 then (some 6) else (some 0)))
end
def plenumref02_Kind.f (k : Nat) (a0 : ByteArray) (a1 : Int) : Option (Int) := if a1 < 0 then (plenumref02_Kind.j0 k a0 a1 true) else (plenumref02_Kind.j0 k a0 a1 (decide (a1 ≥ (a0.size : Int))))
set_option maxHeartbeats 8000000 in
set_option maxRecDepth 100000 in
theorem plenumref02_Kind.calls (k : Nat) (a0 : ByteArray) (a1 : Int) (r : Int) (w : World) (hG : Glob w) (h : plenumref02_Kind.f k a0 a1 = some r) :
    Calls Tryd.prog 21 #[.string a0, .int .i64 a1] w fun e w' => e = .returned (.int .i64 r) ∧ Drawn0 w w' := by
  have HG := Aside0.mk hG
  clear hG
  have H : (if a1 < 0 then (plenumref02_Kind.j0 k a0 a1 true) else (plenumref02_Kind.j0 k a0 a1 (decide (a1 ≥ (a0.size : Int))))) = some r := h
  clear h
  have HC3 := Aside0.mk H
  clear H
  go_enter Tryd.func21, Tryd.ntmps21
  go_upto_region 1 with (fail)
  go_cut [13] (fun v13 wc => ∃ (kq : Nat) (x13_2 : Bool), v13 = .bool x13_2 ∧ Aside0 (plenumref02_Kind.j0 kq a0 a1 x13_2 = some r) ∧ Aside0 (kq ≤ k) ∧ Drawn0 w wc)
  case first =>
    have H := HC3.out
    clear HC3
    by_cases c4 : a1 < 0
    · rw [if_pos c4] at H
      have c4b0 : decide (a1 < 0) = true := decide_eq_true c4
      clear c4
      (first | rw [c4b0] | (simp only [i64_w, i32_w]; rw [c4b0]) | skip)
      have H' := Aside0.mk H
      clear H
      go_wp2
      go_meet
      case rel => exact ⟨_, (true), (by first | rfl | (simp; done) | (simp [*]; done)), H', ⟨by first | omega | exact Nat.le_refl _⟩, by repeat (first | exact Drawn0.refl _ | apply Drawn0.step)⟩
    · rw [if_neg c4] at H
      have c4b0 : decide (a1 < 0) = false := decide_eq_false c4
      clear c4
      (first | rw [c4b0] | (simp only [i64_w, i32_w]; rw [c4b0]) | skip)
      have H' := Aside0.mk H
      clear H
      go_wp2
      go_meet
      case rel => exact ⟨_, (decide (a1 ≥ (a0.size : Int))), (by first | rfl | (simp; done) | (simp [*]; done)), H', ⟨by first | omega | exact Nat.le_refl _⟩, by repeat (first | exact Drawn0.refl _ | apply Drawn0.step)⟩
  case rest =>
    clear HC3
    try clear c2
    try clear p2
    try clear c4
    try clear c4b0
    obtain ⟨kq, x13_2, rfl, HA, HJ2, ⟨mc2, rfl⟩⟩ := hcut
    cases kq with
    | zero => exact absurd HA.out (by simp [plenumref02_Kind.j0])
    | succ kj2 =>
      have H := HA.out
      clear HA
      simp only [plenumref02_Kind.j0] at H
      by_cases c5 : x13_2 = true
      · subst c5
        have H1 : (some 0) = some r := by rw [if_pos rfl] at H; exact H
        clear H
        have H := H1
        clear H1
        obtain rfl := Option.some.inj H
        go_wp2
        go_ret
        exact ⟨by first | rfl | (simp; done) | (simp [*]; done), by repeat (first | exact Drawn0.refl _ | apply Drawn0.step)⟩
      · replace c5 := Bool.eq_false_iff.mpr c5
        subst c5
        have H1 : (if 0 ≤ a1 then (if a1 < (a0.size : Int) then (if (bt a0 a1) = 0 then (some 1) else (if (bt a0 a1) = 1 then (plenumref02_Kind.j1 kj2 (bt a0 a1) true) else (plenumref02_Kind.j1 kj2 (bt a0 a1) ((bt a0 a1) == 2)))) else (none)) else (none)) = some r := by rw [if_neg (show ¬ (false = true) by decide)] at H; exact H
        clear H
        have H := H1
        clear H1
        by_cases c6 : 0 ≤ a1
        · rw [if_pos c6] at H
          have c6b0 : decide (0 ≤ a1) = true := decide_eq_true c6
          clear c6
          by_cases c7 : a1 < (a0.size : Int)
          · rw [if_pos c7] at H
            have c7b0 : decide (a1 < (a0.size : Int)) = true := decide_eq_true c7
            clear c7
            by_cases c9 : (bt a0 a1) = 0
            · rw [if_pos c9] at H
              have c9b0 : ((bt a0 a1) == 0) = true := beq_iff_eq.mpr c9
              have c9b1 : ((bt a0 a1) != 0) = false := bne_eq_false_iff_eq.mpr c9
              clear c9
              obtain rfl := Option.some.inj H
              have p8 : 0 ≤ (a1 : Int) := of_decide_eq_true (by first | (with_reducible assumption) | assumption)
              have q8 : a1 < (a0.size : Int) := of_decide_eq_true (by first | (with_reducible assumption) | assumption)
              have hx8 := bt_at a0 a1
              replace p8 := eq_true p8
              replace q8 := eq_true q8
              go_wp2
              go_ret
              exact ⟨by first | rfl | (simp; done) | (simp [*]; done), by repeat (first | exact Drawn0.refl _ | apply Drawn0.step)⟩
            · rw [if_neg c9] at H
              have c9b0 : ((bt a0 a1) == 0) = false := beq_eq_false_iff_ne.mpr c9
              have c9b1 : ((bt a0 a1) != 0) = true := bne_iff_ne.mpr c9
              have HC10 := Aside0.mk H
              clear H
              have p8 : 0 ≤ (a1 : Int) := of_decide_eq_true (by first | (with_reducible assumption) | assumption)
              have q8 : a1 < (a0.size : Int) := of_decide_eq_true (by first | (with_reducible assumption) | assumption)
              have hx8 := bt_at a0 a1
              replace p8 := eq_true p8
              replace q8 := eq_true q8
              go_upto_region 6 with (fail)
              go_cut [20] (fun v20 wc => ∃ (kq : Nat) (x20_9 : Bool), v20 = .bool x20_9 ∧ Aside0 (plenumref02_Kind.j1 kq (bt a0 a1) x20_9 = some r) ∧ Aside0 (kq ≤ kj2) ∧ Drawn0 w wc)
              case first =>
                have H := HC10.out
                clear HC10
                by_cases c11 : (bt a0 a1) = 1
                · rw [if_pos c11] at H
                  have c11b0 : ((bt a0 a1) == 1) = true := beq_iff_eq.mpr c11
                  have c11b1 : ((bt a0 a1) != 1) = false := bne_eq_false_iff_eq.mpr c11
                  clear c11
                  (first | rw [c11b0] | (simp only [i64_w, i32_w]; rw [c11b0]) | skip)
                  have H' := Aside0.mk H
                  clear H
                  go_wp2
                  go_meet
                  case rel => exact ⟨_, (true), (by first | rfl | (simp; done) | (simp [*]; done)), H', ⟨by have := HJ2.out; first | omega | exact Nat.le_refl _⟩, by repeat (first | exact Drawn0.refl _ | apply Drawn0.step)⟩
                · rw [if_neg c11] at H
                  have c11b0 : ((bt a0 a1) == 1) = false := beq_eq_false_iff_ne.mpr c11
                  have c11b1 : ((bt a0 a1) != 1) = true := bne_iff_ne.mpr c11
                  (first | rw [c11b0] | (simp only [i64_w, i32_w]; rw [c11b0]) | skip)
                  have H' := Aside0.mk H
                  clear H
                  go_wp2
                  go_meet
                  case rel => exact ⟨_, (((bt a0 a1) == 2)), (by first | rfl | (simp; done) | (simp [*]; done)), H', ⟨by have := HJ2.out; first | omega | exact Nat.le_refl _⟩, by repeat (first | exact Drawn0.refl _ | apply Drawn0.step)⟩
              case rest =>
                clear HC10
                try clear c1
                try clear c2
                try clear p2
                try clear c4
                try clear c4b0
                try clear c5
                try clear c6
                try clear c6b0
                try clear c7
                try clear c7b0
                try clear p8
                try clear q8
                try clear hx8
                try clear c9
                try clear c9b0
                try clear c9b1
                try clear c11
                try clear c11b0
                try clear c11b1
                try clear p2
                try clear p8
                try clear q8
                obtain ⟨kq, x20_9, rfl, HA, HJ9, ⟨mc9, rfl⟩⟩ := hcut
                cases kq with
                | zero => exact absurd HA.out (by simp [plenumref02_Kind.j1])
                | succ kj9 =>
                  have H := HA.out
                  clear HA
                  simp only [plenumref02_Kind.j1] at H
                  by_cases c12 : x20_9 = true
                  · subst c12
                    have H1 : (some 2) = some r := by rw [if_pos rfl] at H; exact H
                    clear H
                    have H := H1
                    clear H1
                    obtain rfl := Option.some.inj H
                    go_wp2
                    go_ret
                    exact ⟨by first | rfl | (simp; done) | (simp [*]; done), by repeat (first | exact Drawn0.refl _ | apply Drawn0.step)⟩
                  · replace c12 := Bool.eq_false_iff.mpr c12
                    subst c12
                    have H1 : (if (bt a0 a1) > 16 then (plenumref02_Kind.j2 kj9 (bt a0 a1) (decide ((bt a0 a1) ≤ 24))) else (plenumref02_Kind.j2 kj9 (bt a0 a1) false)) = some r := by rw [if_neg (show ¬ (false = true) by decide)] at H; exact H
                    clear H
                    have H := H1
                    clear H1
                    have HC13 := Aside0.mk H
                    clear H
                    go_upto_region 8 with (fail)
                    go_cut [27] (fun v27 wc => ∃ (kq : Nat) (x27_12 : Bool), v27 = .bool x27_12 ∧ Aside0 (plenumref02_Kind.j2 kq (bt a0 a1) x27_12 = some r) ∧ Aside0 (kq ≤ kj9) ∧ Drawn0 w wc)
                    case first =>
                      have H := HC13.out
                      clear HC13
                      by_cases c14 : (bt a0 a1) > 16
                      · rw [if_pos c14] at H
                        have c14b0 : decide (16 < (bt a0 a1)) = true := decide_eq_true c14
                        clear c14
                        (first | rw [c14b0] | (simp only [i64_w, i32_w]; rw [c14b0]) | skip)
                        have H' := Aside0.mk H
                        clear H
                        go_wp2
                        go_meet
                        case rel => exact ⟨_, (decide ((bt a0 a1) ≤ 24)), (by first | rfl | (simp; done) | (simp [*]; done)), H', ⟨by have := HJ2.out; have := HJ9.out; first | omega | exact Nat.le_refl _⟩, by repeat (first | exact Drawn0.refl _ | apply Drawn0.step)⟩
                      · rw [if_neg c14] at H
                        have c14b0 : decide (16 < (bt a0 a1)) = false := decide_eq_false c14
                        clear c14
                        (first | rw [c14b0] | (simp only [i64_w, i32_w]; rw [c14b0]) | skip)
                        have H' := Aside0.mk H
                        clear H
                        go_wp2
                        go_meet
                        case rel => exact ⟨_, (false), (by first | rfl | (simp; done) | (simp [*]; done)), H', ⟨by have := HJ2.out; have := HJ9.out; first | omega | exact Nat.le_refl _⟩, by repeat (first | exact Drawn0.refl _ | apply Drawn0.step)⟩
                    case rest =>
                      clear HC13
                      try clear c1
                      try clear c2
                      try clear p2
                      try clear c4
                      try clear c4b0
                      try clear c5
                      try clear c6
                      try clear c6b0
                      try clear c7
                      try clear c7b0
                      try clear p8
                      try clear q8
                      try clear hx8
                      try clear c9
                      try clear c9b0
                      try clear c9b1
                      try clear c11
                      try clear c11b0
                      try clear c11b1
                      try clear c12
                      try clear c14
                      try clear c14b0
                      try clear p2
                      try clear p8
                      try clear q8
                      obtain ⟨kq, x27_12, rfl, HA, HJ12, ⟨mc12, rfl⟩⟩ := hcut
                      cases kq with
                      | zero => exact absurd HA.out (by simp [plenumref02_Kind.j2])
                      | succ kj12 =>
                        have H := HA.out
                        clear HA
                        simp only [plenumref02_Kind.j2] at H
                        by_cases c15 : x27_12 = true
                        · subst c15
                          have H1 : (some 3) = some r := by rw [if_pos rfl] at H; exact H
                          clear H
                          have H := H1
                          clear H1
                          obtain rfl := Option.some.inj H
                          go_wp2
                          go_ret
                          exact ⟨by first | rfl | (simp; done) | (simp [*]; done), by repeat (first | exact Drawn0.refl _ | apply Drawn0.step)⟩
                        · replace c15 := Bool.eq_false_iff.mpr c15
                          subst c15
                          have H1 : (if (bt a0 a1) > 32 then (plenumref02_Kind.j3 kj12 (bt a0 a1) (decide ((bt a0 a1) ≤ 40))) else (plenumref02_Kind.j3 kj12 (bt a0 a1) false)) = some r := by rw [if_neg (show ¬ (false = true) by decide)] at H; exact H
                          clear H
                          have H := H1
                          clear H1
                          have HC16 := Aside0.mk H
                          clear H
                          go_upto_region 10 with (fail)
                          go_cut [34] (fun v34 wc => ∃ (kq : Nat) (x34_15 : Bool), v34 = .bool x34_15 ∧ Aside0 (plenumref02_Kind.j3 kq (bt a0 a1) x34_15 = some r) ∧ Aside0 (kq ≤ kj12) ∧ Drawn0 w wc)
                          case first =>
                            have H := HC16.out
                            clear HC16
                            by_cases c17 : (bt a0 a1) > 32
                            · rw [if_pos c17] at H
                              have c17b0 : decide (32 < (bt a0 a1)) = true := decide_eq_true c17
                              clear c17
                              (first | rw [c17b0] | (simp only [i64_w, i32_w]; rw [c17b0]) | skip)
                              have H' := Aside0.mk H
                              clear H
                              go_wp2
                              go_meet
                              case rel => exact ⟨_, (decide ((bt a0 a1) ≤ 40)), (by first | rfl | (simp; done) | (simp [*]; done)), H', ⟨by have := HJ2.out; have := HJ9.out; have := HJ12.out; first | omega | exact Nat.le_refl _⟩, by repeat (first | exact Drawn0.refl _ | apply Drawn0.step)⟩
                            · rw [if_neg c17] at H
                              have c17b0 : decide (32 < (bt a0 a1)) = false := decide_eq_false c17
                              clear c17
                              (first | rw [c17b0] | (simp only [i64_w, i32_w]; rw [c17b0]) | skip)
                              have H' := Aside0.mk H
                              clear H
                              go_wp2
                              go_meet
                              case rel => exact ⟨_, (false), (by first | rfl | (simp; done) | (simp [*]; done)), H', ⟨by have := HJ2.out; have := HJ9.out; have := HJ12.out; first | omega | exact Nat.le_refl _⟩, by repeat (first | exact Drawn0.refl _ | apply Drawn0.step)⟩
                          case rest =>
                            clear HC16
                            try clear c1
                            try clear c2
                            try clear p2
                            try clear c4
                            try clear c4b0
                            try clear c5
                            try clear c6
                            try clear c6b0
                            try clear c7
                            try clear c7b0
                            try clear p8
                            try clear q8
                            try clear hx8
                            try clear c9
                            try clear c9b0
                            try clear c9b1
                            try clear c11
                            try clear c11b0
                            try clear c11b1
                            try clear c12
                            try clear c14
                            try clear c14b0
                            try clear c15
                            try clear c17
                            try clear c17b0
                            try clear p2
                            try clear p8
                            try clear q8
                            obtain ⟨kq, x34_15, rfl, HA, HJ15, ⟨mc15, rfl⟩⟩ := hcut
                            cases kq with
                            | zero => exact absurd HA.out (by simp [plenumref02_Kind.j3])
                            | succ kj15 =>
                              have H := HA.out
                              clear HA
                              simp only [plenumref02_Kind.j3] at H
                              by_cases c18 : x34_15 = true
                              · subst c18
                                have H1 : (some 4) = some r := by rw [if_pos rfl] at H; exact H
                                clear H
                                have H := H1
                                clear H1
                                obtain rfl := Option.some.inj H
                                go_wp2
                                go_ret
                                exact ⟨by first | rfl | (simp; done) | (simp [*]; done), by repeat (first | exact Drawn0.refl _ | apply Drawn0.step)⟩
                              · replace c18 := Bool.eq_false_iff.mpr c18
                                subst c18
                                have H1 : (if (bt a0 a1) = 48 then (some 5) else (if (bt a0 a1) = 64 then (some 6) else (some 0))) = some r := by rw [if_neg (show ¬ (false = true) by decide)] at H; exact H
                                clear H
                                have H := H1
                                clear H1
                                by_cases c19 : (bt a0 a1) = 48
                                · rw [if_pos c19] at H
                                  have c19b0 : ((bt a0 a1) == 48) = true := beq_iff_eq.mpr c19
                                  have c19b1 : ((bt a0 a1) != 48) = false := bne_eq_false_iff_eq.mpr c19
                                  clear c19
                                  obtain rfl := Option.some.inj H
                                  go_wp2
                                  go_ret
                                  exact ⟨by first | rfl | (simp; done) | (simp [*]; done), by repeat (first | exact Drawn0.refl _ | apply Drawn0.step)⟩
                                · rw [if_neg c19] at H
                                  have c19b0 : ((bt a0 a1) == 48) = false := beq_eq_false_iff_ne.mpr c19
                                  have c19b1 : ((bt a0 a1) != 48) = true := bne_iff_ne.mpr c19
                                  by_cases c20 : (bt a0 a1) = 64
                                  · rw [if_pos c20] at H
                                    have c20b0 : ((bt a0 a1) == 64) = true := beq_iff_eq.mpr c20
                                    have c20b1 : ((bt a0 a1) != 64) = false := bne_eq_false_iff_eq.mpr c20
                                    clear c20
                                    obtain rfl := Option.some.inj H
                                    go_wp2
                                    go_ret
                                    exact ⟨by first | rfl | (simp; done) | (simp [*]; done), by repeat (first | exact Drawn0.refl _ | apply Drawn0.step)⟩
                                  · rw [if_neg c20] at H
                                    have c20b0 : ((bt a0 a1) == 64) = false := beq_eq_false_iff_ne.mpr c20
                                    have c20b1 : ((bt a0 a1) != 64) = true := bne_iff_ne.mpr c20
                                    obtain rfl := Option.some.inj H
                                    go_wp2
                                    go_ret
                                    exact ⟨by first | rfl | (simp; done) | (simp [*]; done), by repeat (first | exact Drawn0.refl _ | apply Drawn0.step)⟩
          · rw [if_neg c7] at H
            exact absurd H (by simp)
        · rw [if_neg c6] at H
          exact absurd H (by simp)
end Go.Proofs.YtndeikikeeeigaaDoor.Q
end
section
namespace Go.Proofs.YtndeikikeeeigaaDoor.Q
open Go.RowKit Go.Proofs.YtndeikikeeeigaaDoorW.PrintWords Go.Proofs.YtndeikikeeeigaaDoorW.PrintLast Go.Proofs.YtndeikikeeeigaaDoorW.PrintMore
attribute [local go_sem] max2_int min2_int max_two min_two max_three min_three max_four min_four
set_option linter.unusedVariables false
set_option linter.unusedSimpArgs false
def IsS78 (w0 W : World) (g : Nat) (f0 : ByteArray) (f1 : Int) (f2 : Int) : Prop := W.heap[g]? = some (.cells #[.string f0, .int .i64 f1, .int .i64 f2] 78 (0, 0)) ∧ w0.heap.size ≤ g
theorem IsS78.grown {w0 W : World} {g : Nat} {f0 : ByteArray} {f1 : Int} {f2 : Int} {W1 : World} {row : Option Nat} (h : IsS78 w0 W g f0 f1 f2) (hw : W.grownBy W1 row) (hne : some g ≠ row) : IsS78 w0 W1 g f0 f1 f2 := by
  obtain ⟨hb, hg⟩ := h
  exact ⟨blk_grown hb hw hne, hg⟩
theorem IsS78.below {w0 W : World} {g : Nat} {f0 : ByteArray} {f1 : Int} {f2 : Int} {W1 : World} (h : IsS78 w0 W g f0 f1 f2) (hw : Below W.heap.size W W1) : IsS78 w0 W1 g f0 f1 f2 := h.grown (grown_of_below hw none) (by simp)
theorem IsS78.drewN {w0 W : World} {g : Nat} {f0 : ByteArray} {f1 : Int} {f2 : Int} (h : IsS78 w0 W g f0 f1 f2) (m : Nat) : IsS78 w0 (W.drewN m) g f0 f1 f2 := h
theorem IsS78.drew {w0 W : World} {g : Nat} {f0 : ByteArray} {f1 : Int} {f2 : Int} (h : IsS78 w0 W g f0 f1 f2) : IsS78 w0 W.drew g f0 f1 f2 := h
theorem IsS78.ge {w0 W : World} {g : Nat} {f0 : ByteArray} {f1 : Int} {f2 : Int} (h : IsS78 w0 W g f0 f1 f2) : w0.heap.size ≤ g := by
  obtain ⟨hb, hg⟩ := h
  exact hg
theorem cellS78_0 {W : World} {g : Nat} {f0 : ByteArray} {f1 : Int} {f2 : Int} (h : W.heap[g]? = some (.cells #[.string f0, .int .i64 f1, .int .i64 f2] 78 (0, 0))) : W.cell? ⟨g, 0, none⟩ = some (.string f0) := (blk_cell h 0).trans rfl
theorem cellS78_1 {W : World} {g : Nat} {f0 : ByteArray} {f1 : Int} {f2 : Int} (h : W.heap[g]? = some (.cells #[.string f0, .int .i64 f1, .int .i64 f2] 78 (0, 0))) : W.cell? ⟨g, 1, none⟩ = some (.int .i64 f1) := (blk_cell h 1).trans rfl
theorem IsS78.set_1 {w0 W : World} {g : Nat} {f0 : ByteArray} {f1 : Int} {f2 : Int} (h : IsS78 w0 W g f0 f1 f2) (x : Int) : IsS78 w0 (W.setCell ⟨g, 1, none⟩ (.int .i64 x)) g f0 x f2 := by
  obtain ⟨hb, hg⟩ := h
  exact ⟨by simpa using blk_set hb 1 (.int .i64 x), hg⟩
theorem cellS78_2 {W : World} {g : Nat} {f0 : ByteArray} {f1 : Int} {f2 : Int} (h : W.heap[g]? = some (.cells #[.string f0, .int .i64 f1, .int .i64 f2] 78 (0, 0))) : W.cell? ⟨g, 2, none⟩ = some (.int .i64 f2) := (blk_cell h 2).trans rfl
theorem IsS78.set_2 {w0 W : World} {g : Nat} {f0 : ByteArray} {f1 : Int} {f2 : Int} (h : IsS78 w0 W g f0 f1 f2) (x : Int) : IsS78 w0 (W.setCell ⟨g, 2, none⟩ (.int .i64 x)) g f0 f1 x := by
  obtain ⟨hb, hg⟩ := h
  exact ⟨by simpa using blk_set hb 2 (.int .i64 x), hg⟩
def codec_NewReader.f (a0 : ByteArray) : Option (ByteArray × Int × Int) := some (a0, 0, 0)
set_option maxHeartbeats 8000000 in
set_option maxRecDepth 100000 in
theorem codec_NewReader.calls (a0 : ByteArray) (r1 : ByteArray) (r2 : Int) (r3 : Int) (w0 w : World) (hG : Glob w0) (hB : Below w0.heap.size w0 w) (h : codec_NewReader.f a0 = some (r1, r2, r3)) :
    Calls Tryd.prog 20 #[.string a0] w fun e w' => ∃ g_ : Nat, e = .returned (.pointer (some ⟨g_, 0, none⟩)) ∧ IsS78 w0 w' g_ r1 r2 r3 ∧ Below w0.heap.size w0 w' ∧ Below w.heap.size w w' := by
  have hu78 := Tryd.underlying78
  have HG := Aside0.mk hG
  clear hG
  have HBW := Aside0.mk (Below.refl w.heap.size w)
  have HW0 := Aside0.mk hB.size
  have HB := Aside0.mk hB
  clear hB
  have H : (some (a0, 0, 0)) = some (r1, r2, r3) := h
  clear h
  simp only [Option.some.injEq, Prod.mk.injEq] at H
  obtain ⟨rfl, rfl, rfl⟩ := H
  go_enter Tryd.func20, Tryd.ntmps20
  go_wp2_with (first | ((with_reducible refine gate_dst (N := 5) rfl ?_); refine box_event ?hg (N := 5) ?hd (cs := #[.string a0, .int .i64 0, .int .i64 0]) (t := 78) ?hr ?_; (case hd => rfl); (case hg => rfl); (case hr => first | (go_simp; done) | (go_simp; rfl)); intro gb324 hg w2 hbox hb; have n0_ := Aside0.mk (below_step HBW.out hb); have n1_ := Aside0.mk (below_step (by repeat (first | (with_reducible first | exact HB.out | apply below_alloc | apply pw_below_drewN | apply below_drew1) | exact HB.out)) hb); have n2_ := Aside0.mk (hbox); have n3_ := Aside0.mk ((by rw [hg]; exact (below_size (by repeat (first | (with_reducible first | exact HBW.out | apply below_alloc | apply pw_below_drewN | apply below_drew1) | exact HBW.out))) : w.heap.size ≤ gb324)); have n4_ := Aside0.mk ((Nat.le_trans HW0.out (by rw [hg]; exact (below_size (by repeat (first | (with_reducible first | exact HBW.out | apply below_alloc | apply pw_below_drewN | apply below_drew1) | exact HBW.out))) : w.heap.size ≤ gb324) : w0.heap.size ≤ gb324)); clear HBW; clear HB; have HBW := n0_; have HB := n1_; have BK324 := n2_; have GW324 := n3_; have GE324 := n4_; clear n0_ n1_ n2_ n3_ n4_; clear hb hbox hg))
  go_ret
  exact ⟨_, rfl, (show IsS78 w0 _ gb324 a0 0 0 from ⟨by (with_reducible repeat (first | refine blk_drewN ?_ _ | refine blk_drew ?_ | refine blk_alloc ?_ _)); exact BK324.out, GE324.out⟩), by repeat (first | (with_reducible first | exact HB.out | apply below_alloc | apply pw_below_drewN | apply below_drew1 | refine below_set ?_ GE324.out) | exact HB.out), by repeat (first | (with_reducible first | exact HBW.out | apply below_alloc | apply pw_below_drewN | apply below_drew1 | refine below_set ?_ GW324.out) | exact HBW.out)⟩
end Go.Proofs.YtndeikikeeeigaaDoor.Q
end
section
namespace Go.Proofs.YtndeikikeeeigaaDoor.Q
open Go.RowKit Go.Proofs.YtndeikikeeeigaaDoorW.PrintWords Go.Proofs.YtndeikikeeeigaaDoorW.PrintLast Go.Proofs.YtndeikikeeeigaaDoorW.PrintMore
attribute [local go_sem] max2_int min2_int max_two min_two max_three min_three max_four min_four
set_option linter.unusedVariables false
set_option linter.unusedSimpArgs false
def codec_Reader_Kind.f (k : Nat) (s0_0 : ByteArray) (s0_1 : Int) (s0_2 : Int) : Option (Int × ByteArray × Int × Int) := if s0_2 = 0 then ((codec_kind.f k s0_0 s0_1).bind fun t325 => (some (t325, s0_0, s0_1, s0_2))) else (some (0, s0_0, s0_1, s0_2))
set_option maxHeartbeats 8000000 in
set_option maxRecDepth 100000 in
theorem codec_Reader_Kind.calls (k : Nat) (g : Nat) (s0_0 : ByteArray) (s0_1 : Int) (s0_2 : Int) (r1 : Int) (r2 : ByteArray) (r3 : Int) (r4 : Int) (w0 w : World) (hG : Glob w0) (hI : IsS78 w0 w g s0_0 s0_1 s0_2) (hB : Below w0.heap.size w0 w) (h : codec_Reader_Kind.f k s0_0 s0_1 s0_2 = some (r1, r2, r3, r4)) :
    Calls Tryd.prog 22 #[.pointer (some ⟨g, 0, none⟩)] w fun e w' => e = .returned (.int .i64 r1) ∧ IsS78 w0 w' g r2 r3 r4 ∧ Below w0.heap.size w0 w' ∧ KeepBut w w' g none := by
  have HG := Aside0.mk hG
  clear hG
  have HI0 := Aside0.mk hI
  have HK := Aside0.mk (KeepBut.refl w g none)
  have HL := Aside0.mk hB.size
  clear hI
  have HW0 := Aside0.mk hB.size
  have HB := Aside0.mk hB
  clear hB
  have H : (if s0_2 = 0 then ((codec_kind.f k s0_0 s0_1).bind fun t325 => (some (t325, s0_0, s0_1, s0_2))) else (some (0, s0_0, s0_1, s0_2))) = some (r1, r2, r3, r4) := h
  clear h
  by_cases c2 : s0_2 = 0
  · rw [if_pos c2] at H
    have c2b0 : (s0_2 == 0) = true := beq_iff_eq.mpr c2
    have c2b1 : (s0_2 != 0) = false := bne_eq_false_iff_eq.mpr c2
    clear c2
    replace H := Option.bind_eq_some_iff.mp H
    obtain ⟨t325, A30, H⟩ := H
    replace H : (some (t325, s0_0, s0_1, s0_2)) = some (r1, r2, r3, r4) := H
    have A3 := Aside0.mk A30
    clear A30
    simp only [Option.some.injEq, Prod.mk.injEq] at H
    obtain ⟨rfl, rfl, rfl, rfl⟩ := H
    obtain ⟨HGz4, hgz4⟩ := HI0.out
    have hcz4_0 := cellS78_0 HGz4
    have hcz4_1 := cellS78_1 HGz4
    have hcz4_2 := cellS78_2 HGz4
    have hfz4_0 := blk_frozen HGz4 0
    have hfz4_1 := blk_frozen HGz4 1
    have hfz4_2 := blk_frozen HGz4 2
    clear HGz4 hgz4
    go_enter Tryd.func22, Tryd.ntmps22
    go_wp2_with (first | (go_at_call 49; (with_reducible refine (codec_kind.calls k s0_0 s0_1 t325 _ ?side99  A3.out).mono ?_); (case side99 => first | exact HG.out | exact Glob.below HG.out (by repeat (first | (with_reducible first | exact HB.out | apply below_alloc | apply pw_below_drewN | apply below_drew1 | refine below_set ?_ (IsS78.ge HI0.out)) | exact HB.out))); rintro e w' ⟨rfl, ⟨nd, rfl⟩⟩; (try first | exact ⟨rfl, _, World.drewN_drewN _ _ _⟩ | exact ⟨rfl, _, Eq.trans (World.drewN_drewN _ _ _) (congrArg (World.drewN _) (Nat.add_assoc _ _ _))⟩)))
    repeat (go_quiet (first | (go_at_call 49; (with_reducible refine (codec_kind.calls k s0_0 s0_1 t325 _ ?side99  A3.out).mono ?_); (case side99 => first | exact HG.out | exact Glob.below HG.out (by repeat (first | (with_reducible first | exact HB.out | apply below_alloc | apply pw_below_drewN | apply below_drew1 | refine below_set ?_ (IsS78.ge HI0.out)) | exact HB.out))); rintro e w' ⟨rfl, ⟨nd, rfl⟩⟩; (try first | exact ⟨rfl, _, World.drewN_drewN _ _ _⟩ | exact ⟨rfl, _, Eq.trans (World.drewN_drewN _ _ _) (congrArg (World.drewN _) (Nat.add_assoc _ _ _))⟩))); try go_wp2_with (first | (go_at_call 49; (with_reducible refine (codec_kind.calls k s0_0 s0_1 t325 _ ?side99  A3.out).mono ?_); (case side99 => first | exact HG.out | exact Glob.below HG.out (by repeat (first | (with_reducible first | exact HB.out | apply below_alloc | apply pw_below_drewN | apply below_drew1 | refine below_set ?_ (IsS78.ge HI0.out)) | exact HB.out))); rintro e w' ⟨rfl, ⟨nd, rfl⟩⟩; (try first | exact ⟨rfl, _, World.drewN_drewN _ _ _⟩ | exact ⟨rfl, _, Eq.trans (World.drewN_drewN _ _ _) (congrArg (World.drewN _) (Nat.add_assoc _ _ _))⟩))))
    go_ret
    exact ⟨by first | rfl | (simp [errW_none, errW_some] <;> rfl) | (simp [*, errW_none, errW_some] <;> rfl), by repeat (first | (with_reducible first | exact HI0.out | apply IsS78.alloc | apply IsS78.drewN | apply IsS78.drew | apply IsS78.set_0 | apply IsS78.set_1 | apply IsS78.set_2) | exact HI0.out), by repeat (first | (with_reducible first | exact HB.out | apply below_alloc | apply pw_below_drewN | apply below_drew1 | refine below_set ?_ (IsS78.ge HI0.out)) | exact HB.out), by repeat (first | (with_reducible first | exact HK.out | apply KeepBut.set_ | apply keep_drewN | apply keep_drew | apply keep_alloc) | exact HK.out)⟩
  · rw [if_neg c2] at H
    have c2b0 : (s0_2 == 0) = false := beq_eq_false_iff_ne.mpr c2
    have c2b1 : (s0_2 != 0) = true := bne_iff_ne.mpr c2
    simp only [Option.some.injEq, Prod.mk.injEq] at H
    obtain ⟨rfl, rfl, rfl, rfl⟩ := H
    obtain ⟨HGz5, hgz5⟩ := HI0.out
    have hcz5_0 := cellS78_0 HGz5
    have hcz5_1 := cellS78_1 HGz5
    have hcz5_2 := cellS78_2 HGz5
    have hfz5_0 := blk_frozen HGz5 0
    have hfz5_1 := blk_frozen HGz5 1
    have hfz5_2 := blk_frozen HGz5 2
    clear HGz5 hgz5
    go_enter Tryd.func22, Tryd.ntmps22
    go_wp2
    repeat (go_quiet (fail); try go_wp2)
    go_ret
    exact ⟨by first | rfl | (simp [errW_none, errW_some] <;> rfl) | (simp [*, errW_none, errW_some] <;> rfl), by repeat (first | (with_reducible first | exact HI0.out | apply IsS78.alloc | apply IsS78.drewN | apply IsS78.drew | apply IsS78.set_0 | apply IsS78.set_1 | apply IsS78.set_2) | exact HI0.out), by repeat (first | (with_reducible first | exact HB.out | apply below_alloc | apply pw_below_drewN | apply below_drew1 | refine below_set ?_ (IsS78.ge HI0.out)) | exact HB.out), by repeat (first | (with_reducible first | exact HK.out | apply KeepBut.set_ | apply keep_drewN | apply keep_drew | apply keep_alloc) | exact HK.out)⟩
end Go.Proofs.YtndeikikeeeigaaDoor.Q
end
