/- TrendRulesCard: one part of the proof that the law answers true for every input, and that its arguments read afterwards as before. No condition. -/
import Derived.Test.YtbccjcdmpiolpaaDoorCRules0
import Derived.Test.YtbccjcdmpiolpaaDoorProg
import Derived.Below
import Derived.Deep.Draws
import Derived.Deep.AppendLies
import Derived.Maps.AppendAt
import Derived.OwnWalk
import Derived.Laws.BytesArg
import Derived.Laws.MakeOwn
import Derived.Laws.OwnMore
import Derived.Deep.OwnRows
import Derived.Tactics
import Derived.Lib.ConvBytes
import Derived.Laws.Slices
import Derived.WalkKit
import Derived.KernelRfl
import Derived.RowKit3
import Derived.Deep.LoopGhost
import Derived.Deep.QuietTactic
import Derived.BigQuiet
import Derived.WideLaws
import Derived.Deep.DeepCutAuto
import Derived.Deep.CutBlock
import Derived.Deep.RegionHeld3
import Derived.Laws.Rows
import Derived.Lib.AppendStr
import Derived.ArgAppend
import Derived.Laws.IdiomCopy
import Derived.OrdersHeld
import Derived.Laws.BitsLemmas
import Derived.RowKit
import Derived.ChangeSame
import Derived.ChangeVars
import Derived.JoinedOf
import Derived.Handed
import Derived.Outline
import Derived.LoopTactic
import Derived.Test.YtbccjcdmpiolpaaDoorRows
section
namespace Go.Proofs.YtbccjcdmpiolpaaDoor.T
open Go.RowKit Go.Proofs.YtbccjcdmpiolpaaDoorW.PrintWords Go.Proofs.YtbccjcdmpiolpaaDoorW.PrintLast Go.Proofs.YtbccjcdmpiolpaaDoorW.PrintMore
attribute [local go_sem] max2_int min2_int max_two min_two max_three min_three max_four min_four
set_option linter.unusedVariables false
set_option linter.unusedSimpArgs false
def Glob (w : World) : Prop := ∃ t, w.heap[0]? = some (.cells #[.int .i64 2, .int .i64 3, .int .i64 4, .int .i64 5, .int .i64 6] t (0, 0))
def gtab : List Int := [2, 3, 4, 5, 6]
theorem gt_at {w : World} (h : Glob w) {i : Int} (h0 : 0 ≤ i) (h1 : i < 5) : w.cell? ⟨0, i.toNat, none⟩ = some (.int .i64 (rd gtab i)) := by
  obtain ⟨t, h⟩ := h
  rw [blk_cell h]
  obtain rfl | rfl | rfl | rfl | rfl : i = 0 ∨ i = 1 ∨ i = 2 ∨ i = 3 ∨ i = 4 := by omega
  all_goals rfl
theorem goesT_ {P : Program} {ops : Array Oper} {Q : Exit → Act → World → Prop} {oi : Oper} {N : Option Tmp} {a : Act} {w : World} {K : Act → World → Prop} {f : FuncId} {fn : Func} {x : Operand} {xs : Array Operand} {ts : Array TypeId} (hf : P.funcs[f]? = some fn) (hname : (fn.name == "runtime.NumGoroutine") = false) (hb : fn.body.isSome = true) (args : Array Value)
    (hw : Region.wanted oi (yielded ops a.tmps) = true) (hN : oi.dst = N) (hop : oi.op = .call { callee := .value x, args := xs, argTypes := ts }) (hv : a.eval x = .func (.func f) #[] #[]) (hargs : xs.map a.eval = args)
    (h : Calls P f args w fun e w' => ∃ v, e = .returned v ∧ K (a.put N v) w') : if Region.wanted oi (yielded ops a.tmps) = true then Oper.wp P oi a w K Q else K (a.put N undef) w := by
  refine call_ f args hw hN ?_ h
  have he := enters_ hf hname hb args w
  unfold execOp
  simp [hop, resolve, Deferred.ofValue, invoke, hv, hargs, he]
theorem Glob.below {w w1 : World} (h : Glob w) (hb : Below w.heap.size w w1) : Glob w1 := h.imp fun _ h => blk_below h hb
theorem info5 : (Tryd.prog.info? 5).map (fun i => (i.zero, i.size, i.bytes)) = some (some (.int .u8 0), 1, 1) := by kernel_rfl
structure S30 where
  f0 : Int
  f1 : Int
def z30 : S30 := ⟨(0 : Int), (0 : Int)⟩
def k30 : Kd S30 := Kd.iso (Kd.pair (Kd.int .i64) (Kd.int .i64)) (fun x : S30 => (x.f0, x.f1))
theorem k30_open {w : World} {x : S30} {cs : List Value} (h : k30.K w x cs) : cs = [.int .i64 x.f0, .int .i64 x.f1] := by
  obtain ⟨_, _, rfl, rfl, rfl⟩ := h
  exact rfl
theorem k30_mkM (w : World) (base : Nat) (ok : Nat → Prop) (x : S30)  : k30.M w base ok x [.int .i64 x.f0, .int .i64 x.f1] := ⟨[.int .i64 x.f0], [.int .i64 x.f1], rfl, rfl, rfl⟩
structure S44 where
  f0 : Int
  f1 : Int
  f2 : S30
  f3 : Int
  f4 : Int
def z44 : S44 := ⟨(0 : Int), (0 : Int), z30, (0 : Int), (0 : Int)⟩
def k44 : Kd S44 := Kd.iso (Kd.pair (Kd.int .i64) (Kd.pair (Kd.int .i64) (Kd.pair k30 (Kd.pair (Kd.int .i64) (Kd.int .i64))))) (fun x : S44 => (x.f0, x.f1, x.f2, x.f3, x.f4))
theorem k44_open {w : World} {x : S44} {cs : List Value} (h : k44.K w x cs) : cs = [.int .i64 x.f0, .int .i64 x.f1, .int .i64 x.f2.f0, .int .i64 x.f2.f1, .int .i64 x.f3, .int .i64 x.f4] := by
  obtain ⟨_, _, rfl, rfl, ⟨_, _, rfl, rfl, ⟨_, _, rfl, s2, ⟨_, _, rfl, rfl, rfl⟩⟩⟩⟩ := h
  obtain rfl := k30_open s2
  exact rfl
theorem k44_mkM (w : World) (base : Nat) (ok : Nat → Prop) (x : S44)  : k44.M w base ok x [.int .i64 x.f0, .int .i64 x.f1, .int .i64 x.f2.f0, .int .i64 x.f2.f1, .int .i64 x.f3, .int .i64 x.f4] := ⟨[.int .i64 x.f0], [.int .i64 x.f1, .int .i64 x.f2.f0, .int .i64 x.f2.f1, .int .i64 x.f3, .int .i64 x.f4], rfl, rfl, ⟨[.int .i64 x.f1], [.int .i64 x.f2.f0, .int .i64 x.f2.f1, .int .i64 x.f3, .int .i64 x.f4], rfl, rfl, ⟨[.int .i64 x.f2.f0, .int .i64 x.f2.f1], [.int .i64 x.f3, .int .i64 x.f4], rfl, (k30_mkM w base ok x.f2 ), ⟨[.int .i64 x.f3], [.int .i64 x.f4], rfl, rfl, rfl⟩⟩⟩⟩
def rd_T44 (xs : List S44) (i : Int) : S44 := xs.getD i.toNat z44
theorem at_T44 {w : World} {A : Option Addr} {n : Nat} {xs : List S44} (h : Kd.C k44 w A n xs) (i : Int) (h0 : 0 ≤ i) (h1 : i < n) : ∃ ad , A = some ad ∧ w.cell? (ad.add (i.toNat * 6)) = some (.int .i64 (rd_T44 xs i).f0) ∧ w.cell? ⟨(ad.add (i.toNat * 6)).block, (ad.add (i.toNat * 6)).off + 1, none⟩ = some (.int .i64 (rd_T44 xs i).f1) ∧ w.cell? ⟨(ad.add (i.toNat * 6)).block, (ad.add (i.toNat * 6)).off + 2, none⟩ = some (.int .i64 (rd_T44 xs i).f2.f0) ∧ w.cell? ⟨(ad.add (i.toNat * 6)).block, (ad.add (i.toNat * 6)).off + 3, none⟩ = some (.int .i64 (rd_T44 xs i).f2.f1) ∧ w.cell? ⟨(ad.add (i.toNat * 6)).block, (ad.add (i.toNat * 6)).off + 4, none⟩ = some (.int .i64 (rd_T44 xs i).f3) ∧ w.cell? ⟨(ad.add (i.toNat * 6)).block, (ad.add (i.toNat * 6)).off + 5, none⟩ = some (.int .i64 (rd_T44 xs i).f4) := by
  obtain ⟨ad, c, e, _, hK, hc0⟩ := Kd.C_get h z44 i h0 h1
  have hc : ∀ j u, c[j]? = some u → w.cell? (ad.add (i.toNat * 6 + j)) = some u := hc0
  obtain rfl := k44_open hK
  exact ⟨ad, e, hc 0 _ rfl, by rw [← add_field _ _ 1 (by omega)]; exact hc 1 _ rfl, by rw [← add_field _ _ 2 (by omega)]; exact hc 2 _ rfl, by rw [← add_field _ _ 3 (by omega)]; exact hc 3 _ rfl, by rw [← add_field _ _ 4 (by omega)]; exact hc 4 _ rfl, by rw [← add_field _ _ 5 (by omega)]; exact hc 5 _ rfl⟩
structure S23 where
  f0 : ByteArray
  f1 : ByteArray
  f2 : Int
  f3 : Int
  f4 : Int
  f5 : Int
def k23 : Kd S23 := Kd.iso (Kd.pair Kd.string (Kd.pair Kd.string (Kd.pair (Kd.int .i64) (Kd.pair (Kd.int .i64) (Kd.pair (Kd.int .i64) (Kd.int .i64)))))) (fun x : S23 => (x.f0, x.f1, x.f2, x.f3, x.f4, x.f5))
theorem k23_open {w : World} {x : S23} {cs : List Value} (h : k23.K w x cs) : cs = [.string x.f0, .string x.f1, .int .i64 x.f2, .int .i64 x.f3, .int .i64 x.f4, .int .i64 x.f5] := by
  obtain ⟨_, _, rfl, rfl, ⟨_, _, rfl, rfl, ⟨_, _, rfl, rfl, ⟨_, _, rfl, rfl, ⟨_, _, rfl, rfl, rfl⟩⟩⟩⟩⟩ := h
  exact rfl
structure S51 where
  f0 : ByteArray
  f1 : Int
  f2 : Int
  f3 : ByteArray
  f4 : Int
  f5 : Int
  f6 : Int
  f7 : (List ByteArray)
  f8 : S30
  f9 : Int
  f10 : Int
def k51 : Kd S51 := Kd.iso (Kd.pair Kd.string (Kd.pair (Kd.int .i64) (Kd.pair (Kd.int .i64) (Kd.pair Kd.string (Kd.pair (Kd.int .i64) (Kd.pair (Kd.int .i64) (Kd.pair (Kd.int .i64) (Kd.pair (Kd.slice 9 Kd.string) (Kd.pair k30 (Kd.pair (Kd.int .i64) (Kd.int .i64))))))))))) (fun x : S51 => (x.f0, x.f1, x.f2, x.f3, x.f4, x.f5, x.f6, x.f7, x.f8, x.f9, x.f10))
theorem k51_open {w : World} {x : S51} {cs : List Value} (h : k51.K w x cs) : ∃ A7 c7, cs = [.string x.f0, .int .i64 x.f1, .int .i64 x.f2, .string x.f3, .int .i64 x.f4, .int .i64 x.f5, .int .i64 x.f6, .slice A7 x.f7.length c7, .int .i64 x.f8.f0, .int .i64 x.f8.f1, .int .i64 x.f9, .int .i64 x.f10] ∧ x.f7.length ≤ c7 ∧ Kd.string.C w A7 x.f7.length x.f7 := by
  obtain ⟨_, _, rfl, rfl, ⟨_, _, rfl, rfl, ⟨_, _, rfl, rfl, ⟨_, _, rfl, rfl, ⟨_, _, rfl, rfl, ⟨_, _, rfl, rfl, ⟨_, _, rfl, rfl, ⟨_, _, rfl, ⟨A7, c7, rfl, l7, g7⟩, ⟨_, _, rfl, s8, ⟨_, _, rfl, rfl, rfl⟩⟩⟩⟩⟩⟩⟩⟩⟩⟩ := h
  obtain rfl := k30_open s8
  exact ⟨A7, c7, rfl, l7, g7⟩
end Go.Proofs.YtbccjcdmpiolpaaDoor.T
end
section
namespace Go.Proofs.YtbccjcdmpiolpaaDoor.T
open Go.ChangeShapes Go.WideShapes Go.RowKit
abbrev theLaid : List (String × DataW Unit) := [("plenum/codec.kinds", Rows.laid_plenum_codec_kinds)]
theorem lvName : Tryd.prog.globalNamed "plenum/codec.kinds" = some 0 := by kernel_rfl
theorem lvType : (Tryd.prog.globals[0]?).map (·.type) = some 125 := by kernel_rfl
theorem lvUnder : Tryd.prog.underlying 125 = some (.array 5 3) := by kernel_rfl
theorem lvUnderE : Tryd.prog.underlying 3 = some (.int .i64) := by kernel_rfl
theorem lvCells : Tryd.prog.cellsOf 125 = 5 := by kernel_rfl
theorem lvCellsE : Tryd.prog.cellsOf 3 = 1 := by kernel_rfl
theorem int_of_trod {H : Type} {enc : TypeId × Value → H} {P : Program} {w : World} {base : Nat} {sp : Nat → Bool} {held : Bool} {fuel : Nat} {t : TypeId} {k : IntKind} {c : Value} {y : DataW H × List MemPlace}
    (ht : P.underlying t = some (.int k)) (h : DataW.trod enc P w base sp held fuel t [c] = some y) : ∃ n, c = .int k n ∧ y = (.lit (.int k n), []) := by
  cases fuel with
  | zero => simp [DataW.trod] at h
  | succ fuel =>
    cases c <;> simp [DataW.trod, ht] at h
    rename_i k' n
    obtain ⟨⟨rfl, _⟩, rfl⟩ := h
    exact ⟨n, rfl, rfl⟩
def cellsL : Array Value := #[.int .i64 2, .int .i64 3, .int .i64 4, .int .i64 5, .int .i64 6]
theorem cells_of_laid {W : World} (h : laidMet Tryd.prog theLaid W) : W.var? Tryd.prog "plenum/codec.kinds" = some cellsL := by
  obtain ⟨ps, ⟨g, t, cs, fuel, p, q, hg, ht, hvar, hd, _, _⟩, _⟩ := h
  obtain rfl := Option.some.inj (lvName.symm.trans hg)
  obtain rfl := Option.some.inj (lvType.symm.trans ht)
  rw [hvar]
  congr 1
  obtain ⟨l⟩ := cs
  cases fuel with
  | zero => simp [DataW.trod] at hd
  | succ fuel =>
    simp only [DataW.trod, lvUnder, lvCells, lvCellsE] at hd
    split at hd
    · rename_i hl
      obtain ⟨c0, c1, c2, c3, c4, rfl⟩ : ∃ c0 c1 c2 c3 c4, l = [c0, c1, c2, c3, c4] := by
        match l, hl with
        | [a, b, c, d, e], _ => exact ⟨a, b, c, d, e, rfl⟩
      have e : List.range 5 = [0, 1, 2, 3, 4] := rfl
      rw [e] at hd
      simp only [Option.map_eq_some_iff, List.mapM_cons, List.mapM_nil, Option.bind_eq_bind, Option.bind_eq_some_iff, Option.pure_def, Option.some.injEq] at hd
      obtain ⟨xs, ⟨y0, h0, _, ⟨y1, h1, _, ⟨y2, h2, _, ⟨y3, h3, _, ⟨y4, h4, _, rfl, rfl⟩, rfl⟩, rfl⟩, rfl⟩, rfl⟩, hx⟩ := hd
      obtain ⟨n0, rfl, rfl⟩ := int_of_trod lvUnderE h0
      obtain ⟨n1, rfl, rfl⟩ := int_of_trod lvUnderE h1
      obtain ⟨n2, rfl, rfl⟩ := int_of_trod lvUnderE h2
      obtain ⟨n3, rfl, rfl⟩ := int_of_trod lvUnderE h3
      obtain ⟨n4, rfl, rfl⟩ := int_of_trod lvUnderE h4
      simp [Rows.laid_plenum_codec_kinds] at hx
      obtain ⟨⟨rfl, rfl, rfl, rfl, rfl⟩, _⟩ := hx
      rfl
    · cases hd
theorem glob_of_laid {W : World} (h : laidMet Tryd.prog theLaid W) : Glob W := by
  have hv := cells_of_laid h
  obtain ⟨ps, ⟨g, t, cs, fuel, p, q, hg, ht, hvar, hd, hq, hps⟩, _, hrow⟩ := h
  obtain rfl := Option.some.inj (lvName.symm.trans hg)
  obtain rfl := Option.some.inj (hvar.symm.trans hv)
  subst hps
  obtain ⟨⟨c, t', hc⟩, _⟩ := hrow 0 0 (List.mem_append_left _ (List.mem_append_left _ (by decide)))
  have hv' := hv
  unfold World.var? at hv'
  rw [lvName] at hv'
  simp only [Option.bind_some, hc] at hv'
  obtain rfl := Option.some.inj hv'
  exact ⟨t', hc⟩
noncomputable def laidWorld (os : Os) : World :=
  { World.holding Tryd.prog os ⟨#[], #[], []⟩ with heap := (World.holding Tryd.prog os ⟨#[], #[], []⟩).heap.modify 0 fun
      | .cells _ t frozen => .cells cellsL t frozen
      | o => o }
theorem laidWorld_row (os : Os) (args : Array Value) : ((laidWorld os).forCall (fun _ _ => 0) ⟨#[], args, []⟩).memory.heap[0]? = some (.cells cellsL 125 (0, 0)) := by kernel_rfl
set_option maxRecDepth 100000 in
theorem laidWorld_met (os : Os) (args : Array Value) : laidMet Tryd.prog theLaid ((laidWorld os).forCall (fun _ _ => 0) ⟨#[], args, []⟩).memory := by
  refine ⟨_, ⟨0, 125, cellsL, 8, [], [], lvName, lvType, ?_, ?_, rfl, rfl⟩, by decide, fun b off h => ?_⟩
  · unfold World.var?
    rw [lvName]
    simp only [Option.bind_some, laidWorld_row os args]
  · kernel_rfl
  · have h' : MemPlace.cell b off ∈ [MemPlace.cell 0 0, .cell 0 1, .cell 0 2, .cell 0 3, .cell 0 4] := h
    have hb : b = 0 := by
      simp at h'
      omega
    subst hb
    refine ⟨⟨_, _, laidWorld_row os args⟩, fun u v hc => ?_⟩
    simp only [World.cell?, laidWorld_row os args] at hc
    simp at h'
    rcases h' with rfl | rfl | rfl | rfl | rfl <;> simp [cellsL] at hc
end Go.Proofs.YtbccjcdmpiolpaaDoor.T
end
section
namespace Go.Proofs.YtbccjcdmpiolpaaDoor.T
open Go.RowKit Go.Proofs.YtbccjcdmpiolpaaDoorW.PrintWords Go.Proofs.YtbccjcdmpiolpaaDoorW.PrintLast Go.Proofs.YtbccjcdmpiolpaaDoorW.PrintMore
attribute [local go_sem] max2_int min2_int max_two min_two max_three min_three max_four min_four
set_option linter.unusedVariables false
set_option linter.unusedSimpArgs false
def codec_number.l0 : Nat → Int → List Int → Int → Option (List Int)
  | 0, _, _, _ => none
  | k + 1, x1, x7, x8 => if x8 ≥ 0 then (if 0 ≤ (wrap64 (8 * x8)) then (if x7.length < 140737488355328 then (codec_number.l0 k x1 (x7 ++ [(shr .u64 x1 (wrap64 (8 * x8))) % 256]) (wrap64 (x8 - 1))) else (none)) else (none)) else (some x7)
def codec_number.f (k : Nat) (a0 : Int) (a1 : Int) (a2 : Int) : Option (List Int) := codec_number.l0 k a1 (([(a0 + ((a2) % 256)) % 256] : List Int)) (wrap64 (a2 - 1))
set_option maxHeartbeats 8000000 in
set_option maxRecDepth 100000 in
theorem codec_number.calls (k : Nat) (a0 : Int) (a1 : Int) (a2 : Int) (r : List Int) (w : World) (hG : Glob w) (h : codec_number.f k a0 a1 a2 = some r) :
    Calls Tryd.prog 69 #[.int .u8 a0, .int .u64 a1, .int .i64 a2] w fun e w' => ∃ v0_ : Value, e = .returned (v0_) ∧ Kd.R (Kd.int .u8) 5 w' w.heap.size (fun _ => True) v0_ r ∧ Below w.heap.size w w' := by
  have HG := Aside0.mk hG
  clear hG
  have HB := Aside0.mk (Below.refl w.heap.size w)
  have H : (codec_number.l0 k a1 (([(a0 + ((a2) % 256)) % 256] : List Int)) (wrap64 (a2 - 1))) = some r := h
  clear h
  obtain ⟨y147, hy147⟩ : ∃ y_ : List Int, y_ = (([(a0 + ((a2) % 256)) % 256] : List Int)) := ⟨_, rfl⟩
  replace H : (codec_number.l0 k a1 y147 (wrap64 (a2 - 1))) = some r := by first | (rw [hy147]; with_reducible exact H) | (have H2_ := (Option.bind_some _ _).symm.trans H; rw [hy147]; with_reducible exact H2_) | (have H2_ := (Option.bind_some _ _).symm.trans H; with_reducible exact H2_) | with_reducible exact H | (rw [hy147]; exact H) | exact H
  have Ny147 := Aside0.mk hy147
  clear hy147
  have H' := Aside0.mk H
  clear H
  go_enter Tryd.func69, Tryd.ntmps69
  go_wp2_with (first | ((with_reducible refine gate_dst (N := 13) rfl ?_); refine Kd.R_lit (Kd.int .u8) _ 5 ?hg (N := 13) ?hd (xs := ([(a0 + ((a2) % 256)) % 256] : List Int)) (inner := [.int .u8 ((a0 + ((a2) % 256)) % 256)]) (ok := fun _ => True) (okp := fun _ => True) ?hr ?hp (fun _ hk => hk) trivial (Below.refl _ _) (Nat.le_refl _) (by simp) ?_; (case hd => rfl); (case hg => rfl); (case hr => first | (go_simp; done) | (go_simp; rfl)); (case hp => exact (Reps.one (show Kd.M (Kd.int .u8) _ _ _ ((a0 + ((a2) % 256)) % 256) [.int .u8 ((a0 + ((a2) % 256)) % 256)] from rfl) (Reps.none _ _))); intro v148 w4 ho5 hb hg_ hnew_; clear hg_ hnew_; (first | rw [← Ny147.out] at ho5 | (simp only [Int.reduceToNat] at ho5; rw [← Ny147.out] at ho5)); have n0_ := Aside0.mk (Kd.R_lower ho5 (below_size (by repeat (first | (with_reducible first | exact HB.out | apply below_alloc | apply pw_below_drewN | apply below_drew1) | exact HB.out)))); have n1_ := Aside0.mk (below_step (by repeat (first | (with_reducible first | exact HB.out | apply below_alloc | apply pw_below_drewN | apply below_drew1) | exact HB.out)) hb); clear HB; have HO149 := n0_; have HB := n1_; clear n0_ n1_; clear hb ho5))
  go_loopg [7, 8] k (fun kq v7 v8 w' => ∃ (x7_1 : List Int) (x8_1 : Int), v8 = .int .i64 x8_1 ∧ Aside0 (codec_number.l0 kq a1 x7_1 x8_1 = some r) ∧ Aside0 (kq ≤ k) ∧ Aside0 (Kd.R (Kd.int .u8) 5 w' w.heap.size (fun _ => True) v7 x7_1) ∧ Aside0 (Below w.heap.size w w'))
  case atStart => exact ⟨(y147), (wrap64 (a2 - 1)), (by first | rfl | (simp; done) | (simp [*]; done)), H', ⟨Nat.le_refl _⟩, ⟨by (with_reducible repeat (first | apply Kd.R_alloc | apply Kd.R_drewN | apply Kd.R_drew)); exact HO149.out⟩, ⟨by repeat (first | (with_reducible first | exact HB.out | apply below_alloc | apply pw_below_drewN | apply below_drew1) | exact HB.out)⟩⟩
  case round =>
    clear H'
    try clear p2
    obtain ⟨x7_1, x8_1, rfl, HA, HK1, HO_7, HB⟩ := hrel
    cases gk with
    | zero => exact absurd HA.out (by simp [codec_number.l0])
    | succ k1 =>
      have H := HA.out
      clear HA
      simp only [codec_number.l0] at H
      by_cases c6 : x8_1 ≥ 0
      · rw [if_pos c6] at H
        have c6b0 : decide (0 ≤ x8_1) = true := decide_eq_true c6
        clear c6
        obtain ⟨ji7, hji7⟩ : ∃ j_ : Int, (wrap64 (8 * x8_1)) = j_ := ⟨_, rfl⟩
        replace H : (if 0 ≤ (ji7) then (if x7_1.length < 140737488355328 then (codec_number.l0 k1 a1 (x7_1 ++ [(shr .u64 a1 (ji7)) % 256]) (wrap64 (x8_1 - 1))) else (none)) else (none)) = some r := by first | (rw [hji7] at H; exact H) | (simp only [hji7] at H ⊢; exact H)
        have hji7w : (IntKind.i64.wrap (8 * x8_1)) = ji7 := (i64_w _).trans hji7
        by_cases c8 : 0 ≤ (ji7)
        · rw [if_pos c8] at H
          have c8b0 := eq_true c8
          have c8b1 : decide (0 ≤ (ji7)) = true := decide_eq_true c8
          clear c8
          obtain ⟨ji9, hji9⟩ : ∃ j_ : Int, (shr .u64 a1 (ji7)) = j_ := ⟨_, rfl⟩
          replace H : (if x7_1.length < 140737488355328 then (codec_number.l0 k1 a1 (x7_1 ++ [(ji9) % 256]) (wrap64 (x8_1 - 1))) else (none)) = some r := by first | (rw [hji9] at H; exact H) | (simp only [hji9] at H ⊢; exact H)
          have hji9_ : (a1 / 2 ^ min (ji7).toNat 64) = ji9 := hji9
          have hji9z : (ji7) ≤ 64 → (a1 / 2 ^ (ji7).toNat) = ji9 := shr_small hji9
          by_cases c10 : x7_1.length < 140737488355328
          · rw [if_pos c10] at H
            have LMc10 := Aside0.mk c10
            clear c10
            obtain ⟨y150, hy150⟩ : ∃ y_ : List Int, y_ = (x7_1 ++ [(ji9) % 256]) := ⟨_, rfl⟩
            replace H : (codec_number.l0 k1 a1 y150 (wrap64 (x8_1 - 1))) = some r := by first | (rw [hy150]; with_reducible exact H) | (have H2_ := (Option.bind_some _ _).symm.trans H; rw [hy150]; with_reducible exact H2_) | (have H2_ := (Option.bind_some _ _).symm.trans H; with_reducible exact H2_) | with_reducible exact H | (rw [hy150]; exact H) | exact H
            have Ny150 := Aside0.mk hy150
            clear hy150
            have H' := Aside0.mk H
            clear H
            go_wp2_with (first | ((with_reducible refine gate_builtin (b := .append) (xs := #[.tmp 20, .tmp 26]) rfl ?_); at_builtin; refine Kd.R_append (Kd.int .u8) (w0 := w) w.heap.size rfl (.tmp 20) (.tmp 26) 88 5 (.int .u8 0) 1 rfl Tryd.underlying88 info5 rfl (by decide) (by omega) u7 x7_1 ((ji9) % 256) [.int .u8 ((ji9) % 256)] (fun _ => True) (fun _ => False) rfl rfl ?aP (fun _ hk => hk.elim) ?aF ?aO ?aB ?aS ?aL ?_; (case aP => exact rfl); (case aB => exact (by repeat (first | (with_reducible first | exact HB.out | apply below_alloc | apply pw_below_drewN | apply below_drew1) | exact HB.out))); (case aF => exact (fun _ _ => trivial)); (case aO => exact (by (with_reducible repeat (first | apply Kd.R_alloc | apply Kd.R_drewN | apply Kd.R_drew)); exact HO_7.out)); (case aS => exact (below_size (by repeat (first | (with_reducible first | exact HB.out | apply below_alloc | apply pw_below_drewN | apply below_drew1) | exact HB.out)))); (case aL => have := LMc10.out; first | omega | (simp only [ByteArray.size, List.size_toArray, List.length_cons, List.length_nil] at this ⊢; omega)); intro v151 w11 ho hb hg hat; rw [← Ny150.out] at ho; have n0_ := Aside0.mk (hb); have n1_ := Aside0.mk (ho); clear HB; clear HO_7; have HB := n0_; have HO152 := n1_; clear n0_ n1_; clear ho hb hg hat))
            go_roundg k1
            case measure => have := HK1.out; omega
            case rel => exact ⟨(y150), (wrap64 (x8_1 - 1)), (by first | rfl | (simp; done) | (simp [*]; done)), H', ⟨by have := HK1.out; omega⟩, ⟨by (with_reducible repeat (first | apply Kd.R_alloc | apply Kd.R_drewN | apply Kd.R_drew)); exact HO152.out⟩, ⟨by repeat (first | (with_reducible first | exact HB.out | apply below_alloc | apply pw_below_drewN | apply below_drew1) | exact HB.out)⟩⟩
          · rw [if_neg c10] at H
            exact absurd H (by simp)
        · rw [if_neg c8] at H
          exact absurd H (by simp)
      · rw [if_neg c6] at H
        have c6b0 : decide (0 ≤ x8_1) = false := decide_eq_false c6
        clear c6
        obtain rfl := Option.some.inj H
        go_wp2
        go_ret
        exact ⟨_, by first | rfl | (simp [errW_none, errW_some] <;> rfl) | (simp [*, errW_none, errW_some] <;> rfl), by (with_reducible repeat (first | apply Kd.R_alloc | apply Kd.R_drewN | apply Kd.R_drew)); exact HO_7.out, by repeat (first | (with_reducible first | exact HB.out | apply below_alloc | apply pw_below_drewN | apply below_drew1) | exact HB.out)⟩
end Go.Proofs.YtbccjcdmpiolpaaDoor.T
end
section
namespace Go.Proofs.YtbccjcdmpiolpaaDoor.Pure
open Go.RowKit Go.Proofs.YtbccjcdmpiolpaaDoorW.PrintWords Go.Proofs.YtbccjcdmpiolpaaDoorW.PrintLast Go.Proofs.YtbccjcdmpiolpaaDoorW.PrintMore
theorem u64w (n : Int) : IntKind.u64.wrap n = n % 18446744073709551616 := rfl
theorem i64w (n : Int) : IntKind.i64.wrap n = wrap64 n := by
  unfold wrap64
  show (if (true && decide (n % 18446744073709551616 ≥ 9223372036854775808)) = true then n % 18446744073709551616 - 18446744073709551616 else n % 18446744073709551616) = _
  by_cases h : n % 18446744073709551616 ≥ 9223372036854775808
  · simp only [h, decide_true, Bool.and_self, if_true]; omega
  · simp only [h, decide_false, Bool.and_false, Bool.false_eq_true, if_false]; omega
theorem w64 {n : Int} (h0 : -9223372036854775808 ≤ n) (h1 : n ≤ 9223372036854775807) : wrap64 n = n := by unfold wrap64; omega
theorem and15 (n : Int) (h0 : 0 ≤ n) (h1 : n ≤ 255) : Go.bits .and .u8 n 15 = n % 16 := by
  have : ∀ m : Fin 256, Go.bits .and .u8 (m.val : Int) 15 = (m.val : Int) % 16 := by decide +kernel
  have e := this ⟨n.toNat, by omega⟩
  have hn : ((n.toNat : Nat) : Int) = n := by omega
  simpa [hn] using e
theorem and15_bt (s : ByteArray) (p : Int) : Go.bits .and .u8 (bt s p) 15 = bt s p % 16 := and15 _ (bt_range s p).1 (bt_range s p).2
theorem or_nat (m b : Nat) (hb : b < 256) : (m * 256) ||| b = m * 256 + b := by
  have := Nat.two_pow_add_eq_or_of_lt (i := 8) (b := b) hb m
  rw [Nat.mul_comm] at this
  exact this.symm
theorem or_u64 (a b : Int) (h0 : 0 ≤ a) (h1 : a * 256 < 18446744073709551616) (hb0 : 0 ≤ b) (hb1 : b < 256) : Go.bits .or .u64 (a * 256) b = a * 256 + b := by
  obtain ⟨a, rfl⟩ := Int.eq_ofNat_of_zero_le h0
  obtain ⟨b, rfl⟩ := Int.eq_ofNat_of_zero_le hb0
  show IntKind.u64.wrap (((BitVec.ofInt 64 ((a : Int) * 256)) ||| (BitVec.ofInt 64 (b : Int))).toNat : Int) = _
  rw [BitVec.toNat_or, BitVec.toNat_ofInt, BitVec.toNat_ofInt]
  have e1 : (((a : Int) * 256) % ((2 ^ 64 : Nat) : Int)).toNat = a * 256 := by omega
  have e2 : ((b : Int) % ((2 ^ 64 : Nat) : Int)).toNat = b := by omega
  rw [e1, e2, or_nat a b (by omega), u64w]
  omega
theorem not_i64 (a : Int) (h0 : -9223372036854775808 ≤ a) (h1 : a < 0) : IntKind.u64.wrap (Go.bits .xor .i64 (-1) a) = -1 - a := by
  show IntKind.u64.wrap (IntKind.i64.wrap (((BitVec.ofInt 64 (-1)) ^^^ (BitVec.ofInt 64 a)).toNat : Int)) = _
  have e : (BitVec.ofInt 64 (-1)) = BitVec.allOnes 64 := by decide
  rw [e, BitVec.allOnes_xor, BitVec.toNat_not, BitVec.toNat_ofInt, i64w, u64w]
  unfold wrap64
  omega
def nb (x : Int) : Int := if x < 256 then 1 else if x < 65536 then 2 else if x < 16777216 then 3 else if x < 4294967296 then 4 else if x < 1099511627776 then 5 else if x < 281474976710656 then 6 else if x < 72057594037927936 then 7 else 8
def sb (x : Int) : Int := if x < 128 then 1 else if x < 32768 then 2 else if x < 8388608 then 3 else if x < 2147483648 then 4 else if x < 549755813888 then 5 else if x < 140737488355328 then 6 else if x < 36028797018963968 then 7 else if x < 9223372036854775808 then 8 else 9
def ss (x : Int) : Int := if x < 0 then sb (-1 - x) else sb x
theorem nb_range (x : Int) : 1 ≤ nb x ∧ nb x ≤ 8 := by unfold nb; omega
theorem ss_range (x : Int) (h0 : -9223372036854775808 ≤ x) (h1 : x ≤ 9223372036854775807) : 1 ≤ ss x ∧ ss x ≤ 8 := by unfold ss sb; omega
end Go.Proofs.YtbccjcdmpiolpaaDoor.Pure
end
section
namespace Go.Proofs.YtbccjcdmpiolpaaDoor.T
open Go.RowKit Go.Proofs.YtbccjcdmpiolpaaDoorW.PrintWords Go.Proofs.YtbccjcdmpiolpaaDoorW.PrintLast Go.Proofs.YtbccjcdmpiolpaaDoorW.PrintMore
attribute [local go_sem] max2_int min2_int max_two min_two max_three min_three max_four min_four
set_option linter.unusedVariables false
set_option linter.unusedSimpArgs false
end Go.Proofs.YtbccjcdmpiolpaaDoor.T
end
section
namespace Go.Proofs.YtbccjcdmpiolpaaDoor.T
open Go.RowKit Go.Proofs.YtbccjcdmpiolpaaDoor.Pure Go.Proofs.YtbccjcdmpiolpaaDoorW.PrintWords Go.Proofs.YtbccjcdmpiolpaaDoorW.PrintLast Go.Proofs.YtbccjcdmpiolpaaDoorW.PrintMore
set_option linter.unusedVariables false
set_option linter.unusedSimpArgs false
attribute [local go_sem] max2_int min2_int max_two min_two
def lowB (b : Int) : Bool := decide (97 ≤ b) && decide (b ≤ 122)
def digB' (b : Int) : Bool := decide (48 ≤ b) && decide (b ≤ 57)
def nmB (b : Int) : Bool := lowB b || (digB' b || b == 95)
def allNm (s : ByteArray) : Bool := (List.range s.size).all fun j => nmB (bt s (j : Int))
def nameS (s : ByteArray) : Bool := decide (1 ≤ s.size) && decide (s.size ≤ 24) && lowB (bt s 0) && allNm s
def RunPost (s : ByteArray) (w : World) (e : Ending) (w' : World) : Prop := ∃ e0 : Nat, e = .returned (.int .i64 (e0 : Int)) ∧ Below w.heap.size w w' ∧ e0 ≤ s.size ∧ (∀ j : Nat, j < e0 → nmB (bt s (j : Int)) = true) ∧ (e0 < s.size → nmB (bt s (e0 : Int)) = false)
theorem intOf_int' (k : IntKind) (x : Int) : intOf (.int k x) = x := rfl
set_option maxHeartbeats 16000000 in
set_option maxRecDepth 100000 in
theorem run_calls (s : ByteArray) (gs : Nat) (w : World) (hG : Glob w) (hs : w.heap[gs]? = some (.cells #[.string s] 9 (0, 0))) (hz : s.size ≤ 140737488355327) :
    Calls Tryd.prog 52 #[.string s, .int .i64 0, .func (.func 53) #[] #[.pointer (some ⟨gs, 0, none⟩)]] w fun e w' => RunPost s w e w' := by
  have HG := Aside0.mk hG
  have HS := Aside0.mk hs
  clear hG hs
  go_enter Tryd.func52, Tryd.ntmps52
  go_wp2
  go_loopw [1] (fun i wr => ∃ k : Nat, i = .int .i64 (k : Int) ∧ k ≤ s.size ∧ Aside0 (Below w.heap.size w wr) ∧ Aside0 (∀ j : Nat, j < k → nmB (bt s (j : Int)) = true)) (fun i _ => s.size - (intOf i).toNat)
  case atStart => exact ⟨0, rfl, Nat.zero_le _, ⟨Below.refl _ _⟩, ⟨fun j hj => absurd hj (Nat.not_lt_zero j)⟩⟩
  case round =>
    obtain ⟨k, hk, hle, HB, HA⟩ := hrel
    subst hk
    have HLE := Aside0.mk hle
    by_cases hlt : k < s.size
    · have hl1 : decide ((k : Int) < (s.size : Int)) = true := decide_eq_true (by omega)
      have hl2 : decide (k < s.size) = true := decide_eq_true hlt
      have c0 := (blk_cell (blk_below HS.out HB.out) 0).trans rfl
      have hbk : (s[k].toNat : Int) = bt s (k : Int) := bt_at s k hlt
      have hwk : wrap64 ((k : Int) + 1) = ((k + 1 : Nat) : Int) := by rw [w64 (by omega) (by omega)]; omega
      have HLT := Aside0.mk hlt
      clear hle
      by_cases k1 : bt s (k : Int) < 48
      · have d0 : decide (97 ≤ bt s (k : Int)) = false := decide_eq_false (by omega)
        have p0 : (97 ≤ bt s (k : Int)) = False := eq_false (by omega)
        have n0 : (bt s (k : Int) < 97) = True := eq_true (by omega)
        have d1 : decide (bt s (k : Int) ≤ 122) = true := decide_eq_true (by omega)
        have p1 : (bt s (k : Int) ≤ 122) = True := eq_true (by omega)
        have n1 : (122 < bt s (k : Int)) = False := eq_false (by omega)
        have d2 : decide (48 ≤ bt s (k : Int)) = false := decide_eq_false (by omega)
        have p2 : (48 ≤ bt s (k : Int)) = False := eq_false (by omega)
        have n2 : (bt s (k : Int) < 48) = True := eq_true (by omega)
        have d3 : decide (bt s (k : Int) ≤ 57) = true := decide_eq_true (by omega)
        have p3 : (bt s (k : Int) ≤ 57) = True := eq_true (by omega)
        have n3 : (57 < bt s (k : Int)) = False := eq_false (by omega)
        have q9 : (bt s (k : Int) == 95) = false := beq_false_of_ne (by omega)
        have r9 : (bt s (k : Int) = 95) = False := eq_false (by omega)
        have HNM := Aside0.mk (show nmB (bt s (k : Int)) = false by unfold nmB lowB digB'; rw [d0, d1, d2, d3, q9]; rfl)
        clear k1
        go_wp2
        go_ret
        exact ⟨k, rfl, HB.out, HLE.out, HA.out, fun _ => HNM.out⟩
      by_cases k2 : bt s (k : Int) ≤ 57
      · have d0 : decide (97 ≤ bt s (k : Int)) = false := decide_eq_false (by omega)
        have p0 : (97 ≤ bt s (k : Int)) = False := eq_false (by omega)
        have n0 : (bt s (k : Int) < 97) = True := eq_true (by omega)
        have d1 : decide (bt s (k : Int) ≤ 122) = true := decide_eq_true (by omega)
        have p1 : (bt s (k : Int) ≤ 122) = True := eq_true (by omega)
        have n1 : (122 < bt s (k : Int)) = False := eq_false (by omega)
        have d2 : decide (48 ≤ bt s (k : Int)) = true := decide_eq_true (by omega)
        have p2 : (48 ≤ bt s (k : Int)) = True := eq_true (by omega)
        have n2 : (bt s (k : Int) < 48) = False := eq_false (by omega)
        have d3 : decide (bt s (k : Int) ≤ 57) = true := decide_eq_true (by omega)
        have p3 : (bt s (k : Int) ≤ 57) = True := eq_true (by omega)
        have n3 : (57 < bt s (k : Int)) = False := eq_false (by omega)
        have q9 : (bt s (k : Int) == 95) = false := beq_false_of_ne (by omega)
        have r9 : (bt s (k : Int) = 95) = False := eq_false (by omega)
        have HNM := Aside0.mk (show nmB (bt s (k : Int)) = true by unfold nmB lowB digB'; rw [d0, d1, d2, d3, q9]; rfl)
        clear k1 k2
        go_wp2
        exact ⟨⟨k + 1, by first | rw [hwk] | rfl, HLT.out, HB, ⟨fun j hj => by
          by_cases e : j = k
          · rw [e]
            exact HNM.out
          · exact HA.out j (by omega)⟩⟩, by first | (rw [intOf_int', intOf_int', hwk, Int.toNat_natCast, Int.toNat_natCast]; have := HLT.out; omega) | (rw [intOf_int', intOf_int']; have := HLT.out; omega)⟩
      by_cases k3 : bt s (k : Int) = 95
      · have d0 : decide (97 ≤ bt s (k : Int)) = false := decide_eq_false (by omega)
        have p0 : (97 ≤ bt s (k : Int)) = False := eq_false (by omega)
        have n0 : (bt s (k : Int) < 97) = True := eq_true (by omega)
        have d1 : decide (bt s (k : Int) ≤ 122) = true := decide_eq_true (by omega)
        have p1 : (bt s (k : Int) ≤ 122) = True := eq_true (by omega)
        have n1 : (122 < bt s (k : Int)) = False := eq_false (by omega)
        have d2 : decide (48 ≤ bt s (k : Int)) = true := decide_eq_true (by omega)
        have p2 : (48 ≤ bt s (k : Int)) = True := eq_true (by omega)
        have n2 : (bt s (k : Int) < 48) = False := eq_false (by omega)
        have d3 : decide (bt s (k : Int) ≤ 57) = false := decide_eq_false (by omega)
        have p3 : (bt s (k : Int) ≤ 57) = False := eq_false (by omega)
        have n3 : (57 < bt s (k : Int)) = True := eq_true (by omega)
        have q9 : (bt s (k : Int) == 95) = true := beq_iff_eq.mpr (by omega)
        have r9 : (bt s (k : Int) = 95) = True := eq_true (by omega)
        have HNM := Aside0.mk (show nmB (bt s (k : Int)) = true by unfold nmB lowB digB'; rw [d0, d1, d2, d3, q9]; rfl)
        clear k1 k2 k3
        go_wp2
        exact ⟨⟨k + 1, by first | rw [hwk] | rfl, HLT.out, HB, ⟨fun j hj => by
          by_cases e : j = k
          · rw [e]
            exact HNM.out
          · exact HA.out j (by omega)⟩⟩, by first | (rw [intOf_int', intOf_int', hwk, Int.toNat_natCast, Int.toNat_natCast]; have := HLT.out; omega) | (rw [intOf_int', intOf_int']; have := HLT.out; omega)⟩
      by_cases k4 : bt s (k : Int) < 97
      · have d0 : decide (97 ≤ bt s (k : Int)) = false := decide_eq_false (by omega)
        have p0 : (97 ≤ bt s (k : Int)) = False := eq_false (by omega)
        have n0 : (bt s (k : Int) < 97) = True := eq_true (by omega)
        have d1 : decide (bt s (k : Int) ≤ 122) = true := decide_eq_true (by omega)
        have p1 : (bt s (k : Int) ≤ 122) = True := eq_true (by omega)
        have n1 : (122 < bt s (k : Int)) = False := eq_false (by omega)
        have d2 : decide (48 ≤ bt s (k : Int)) = true := decide_eq_true (by omega)
        have p2 : (48 ≤ bt s (k : Int)) = True := eq_true (by omega)
        have n2 : (bt s (k : Int) < 48) = False := eq_false (by omega)
        have d3 : decide (bt s (k : Int) ≤ 57) = false := decide_eq_false (by omega)
        have p3 : (bt s (k : Int) ≤ 57) = False := eq_false (by omega)
        have n3 : (57 < bt s (k : Int)) = True := eq_true (by omega)
        have q9 : (bt s (k : Int) == 95) = false := beq_false_of_ne (by omega)
        have r9 : (bt s (k : Int) = 95) = False := eq_false (by omega)
        have HNM := Aside0.mk (show nmB (bt s (k : Int)) = false by unfold nmB lowB digB'; rw [d0, d1, d2, d3, q9]; rfl)
        clear k1 k2 k3 k4
        go_wp2
        go_ret
        exact ⟨k, rfl, HB.out, HLE.out, HA.out, fun _ => HNM.out⟩
      by_cases k5 : bt s (k : Int) ≤ 122
      · have d0 : decide (97 ≤ bt s (k : Int)) = true := decide_eq_true (by omega)
        have p0 : (97 ≤ bt s (k : Int)) = True := eq_true (by omega)
        have n0 : (bt s (k : Int) < 97) = False := eq_false (by omega)
        have d1 : decide (bt s (k : Int) ≤ 122) = true := decide_eq_true (by omega)
        have p1 : (bt s (k : Int) ≤ 122) = True := eq_true (by omega)
        have n1 : (122 < bt s (k : Int)) = False := eq_false (by omega)
        have d2 : decide (48 ≤ bt s (k : Int)) = true := decide_eq_true (by omega)
        have p2 : (48 ≤ bt s (k : Int)) = True := eq_true (by omega)
        have n2 : (bt s (k : Int) < 48) = False := eq_false (by omega)
        have d3 : decide (bt s (k : Int) ≤ 57) = false := decide_eq_false (by omega)
        have p3 : (bt s (k : Int) ≤ 57) = False := eq_false (by omega)
        have n3 : (57 < bt s (k : Int)) = True := eq_true (by omega)
        have q9 : (bt s (k : Int) == 95) = false := beq_false_of_ne (by omega)
        have r9 : (bt s (k : Int) = 95) = False := eq_false (by omega)
        have HNM := Aside0.mk (show nmB (bt s (k : Int)) = true by unfold nmB lowB digB'; rw [d0, d1, d2, d3, q9]; rfl)
        clear k1 k2 k3 k4 k5
        go_wp2
        exact ⟨⟨k + 1, by first | rw [hwk] | rfl, HLT.out, HB, ⟨fun j hj => by
          by_cases e : j = k
          · rw [e]
            exact HNM.out
          · exact HA.out j (by omega)⟩⟩, by first | (rw [intOf_int', intOf_int', hwk, Int.toNat_natCast, Int.toNat_natCast]; have := HLT.out; omega) | (rw [intOf_int', intOf_int']; have := HLT.out; omega)⟩
      · have d0 : decide (97 ≤ bt s (k : Int)) = true := decide_eq_true (by omega)
        have p0 : (97 ≤ bt s (k : Int)) = True := eq_true (by omega)
        have n0 : (bt s (k : Int) < 97) = False := eq_false (by omega)
        have d1 : decide (bt s (k : Int) ≤ 122) = false := decide_eq_false (by omega)
        have p1 : (bt s (k : Int) ≤ 122) = False := eq_false (by omega)
        have n1 : (122 < bt s (k : Int)) = True := eq_true (by omega)
        have d2 : decide (48 ≤ bt s (k : Int)) = true := decide_eq_true (by omega)
        have p2 : (48 ≤ bt s (k : Int)) = True := eq_true (by omega)
        have n2 : (bt s (k : Int) < 48) = False := eq_false (by omega)
        have d3 : decide (bt s (k : Int) ≤ 57) = false := decide_eq_false (by omega)
        have p3 : (bt s (k : Int) ≤ 57) = False := eq_false (by omega)
        have n3 : (57 < bt s (k : Int)) = True := eq_true (by omega)
        have q9 : (bt s (k : Int) == 95) = false := beq_false_of_ne (by omega)
        have r9 : (bt s (k : Int) = 95) = False := eq_false (by omega)
        have HNM := Aside0.mk (show nmB (bt s (k : Int)) = false by unfold nmB lowB digB'; rw [d0, d1, d2, d3, q9]; rfl)
        clear k1 k2 k3 k4 k5
        go_wp2
        go_ret
        exact ⟨k, rfl, HB.out, HLE.out, HA.out, fun _ => HNM.out⟩
    · have hl1 : decide ((k : Int) < (s.size : Int)) = false := decide_eq_false (by omega)
      have hl2 : decide (k < s.size) = false := decide_eq_false hlt
      have HEQ := Aside0.mk (show k = s.size by omega)
      clear hlt hle
      go_wp2
      go_ret
      exact ⟨k, rfl, HB.out, HLE.out, HA.out, fun h => absurd h (by have := HEQ.out; omega)⟩
theorem all_run {s : ByteArray} {e0 : Nat} (h0 : e0 ≤ s.size) (h1 : ∀ j : Nat, j < e0 → nmB (bt s (j : Int)) = true) (h2 : e0 < s.size → nmB (bt s (e0 : Int)) = false) : ((e0 : Int) == (s.size : Int)) = allNm s := by
  by_cases e : e0 = s.size
  · rw [e, beq_self_eq_true]
    symm
    unfold allNm
    rw [List.all_eq_true]
    intro j hj
    rw [List.mem_range] at hj
    exact h1 j (by omega)
  · rw [beq_false_of_ne (by omega)]
    symm
    rw [Bool.eq_false_iff]
    intro h
    unfold allNm at h
    rw [List.all_eq_true] at h
    have := h e0 (List.mem_range.mpr (by omega))
    rw [h2 (by omega)] at this
    cases this
def lexer_Name.f (a0 : ByteArray) : Option (Bool) := if a0.size ≤ 140737488355327 then some (nameS a0) else none
set_option maxHeartbeats 16000000 in
set_option maxRecDepth 100000 in
theorem lexer_Name.calls (a0 : ByteArray) (r : Bool) (w : World) (hG : Glob w) (h : lexer_Name.f a0 = some r) :
    Calls Tryd.prog 29 #[.string a0] w fun e w' => e = .returned (.bool r) ∧ Below w.heap.size w w' := by
  unfold lexer_Name.f at h
  by_cases hz : a0.size ≤ 140737488355327
  case neg =>
    rw [if_neg hz] at h
    cases h
  rw [if_pos hz] at h
  injection h with h
  subst h
  have HG := Aside0.mk hG
  have HZ := Aside0.mk hz
  clear hG
  by_cases k1 : a0.size < 1
  · have z1 : decide ((a0.size : Int) < 1) = true := decide_eq_true (by omega)
    have z1P : ((a0.size : Int) < 1) = True := eq_true (by omega)
    have z2 : decide (a0.size < 1) = true := decide_eq_true (by omega)
    have z2P : (a0.size < 1) = True := eq_true (by omega)
    have HR := Aside0.mk (show nameS a0 = false by
      unfold nameS
      rw [decide_eq_false (show ¬ 1 ≤ a0.size by omega), Bool.false_and, Bool.false_and, Bool.false_and])
    clear k1
    go_enter Tryd.func29, Tryd.ntmps29
    go_wp2_with ((with_reducible refine gate_dst (N := 1) rfl ?_); refine box_event ?hg (N := 1) ?hd (cs := #[.string a0]) (t := 9) ?hr ?_; (case hd => rfl); (case hg => rfl); (case hr => first | (go_simp; done) | (go_simp; rfl)); intro gs hgz w1 hbox hb; have HS1 := Aside0.mk hbox; have HB1 := Aside0.mk hb; have c0 := (blk_cell hbox 0).trans rfl; clear hb hbox hgz)
    go_ret
    exact ⟨by rw [HR.out]; rfl, HB1.out⟩
  by_cases k2 : 24 < a0.size
  · have z1 : decide ((a0.size : Int) < 1) = false := decide_eq_false (by omega)
    have z1P : ((a0.size : Int) < 1) = False := eq_false (by omega)
    have z2 : decide (a0.size < 1) = false := decide_eq_false (by omega)
    have z2P : (a0.size < 1) = False := eq_false (by omega)
    have z3 : decide (24 < (a0.size : Int)) = true := decide_eq_true (by omega)
    have z3P : (24 < (a0.size : Int)) = True := eq_true (by omega)
    have z4 : decide (24 < a0.size) = true := decide_eq_true (by omega)
    have z4P : (24 < a0.size) = True := eq_true (by omega)
    have HR := Aside0.mk (show nameS a0 = false by
      unfold nameS
      rw [decide_eq_false (show ¬ a0.size ≤ 24 by omega), Bool.and_false, Bool.false_and, Bool.false_and])
    clear k1 k2
    go_enter Tryd.func29, Tryd.ntmps29
    go_wp2_with ((with_reducible refine gate_dst (N := 1) rfl ?_); refine box_event ?hg (N := 1) ?hd (cs := #[.string a0]) (t := 9) ?hr ?_; (case hd => rfl); (case hg => rfl); (case hr => first | (go_simp; done) | (go_simp; rfl)); intro gs hgz w1 hbox hb; have HS1 := Aside0.mk hbox; have HB1 := Aside0.mk hb; have c0 := (blk_cell hbox 0).trans rfl; clear hb hbox hgz)
    go_ret
    exact ⟨by rw [HR.out]; rfl, HB1.out⟩
  have z1 : decide ((a0.size : Int) < 1) = false := decide_eq_false (by omega)
  have z1P : ((a0.size : Int) < 1) = False := eq_false (by omega)
  have z2 : decide (a0.size < 1) = false := decide_eq_false (by omega)
  have z2P : (a0.size < 1) = False := eq_false (by omega)
  have z3 : decide (24 < (a0.size : Int)) = false := decide_eq_false (by omega)
  have z3P : (24 < (a0.size : Int)) = False := eq_false (by omega)
  have z4 : decide (24 < a0.size) = false := decide_eq_false (by omega)
  have z4P : (24 < a0.size) = False := eq_false (by omega)
  have hpos : 0 < a0.size := by omega
  have hbk : (a0[0].toNat : Int) = bt a0 ((0 : Nat) : Int) := bt_at a0 0 hpos
  have hbk0 : bt a0 ((0 : Nat) : Int) = bt a0 0 := rfl
  rw [hbk0] at hbk
  have zp : decide (0 < a0.size) = true := decide_eq_true hpos
  by_cases k3 : bt a0 0 < 97
  · have d1 : decide (bt a0 0 < 97) = true := decide_eq_true (by omega)
    have d1P : (bt a0 0 < 97) = True := eq_true (by omega)
    have HR := Aside0.mk (show nameS a0 = false by
      have hl : lowB (bt a0 0) = false := (by unfold lowB; rw [decide_eq_false (show ¬ 97 ≤ bt a0 0 by omega)]; rfl)
      unfold nameS
      rw [hl, Bool.and_false, Bool.false_and])
    clear k1 k2 k3
    go_enter Tryd.func29, Tryd.ntmps29
    go_wp2_with ((with_reducible refine gate_dst (N := 1) rfl ?_); refine box_event ?hg (N := 1) ?hd (cs := #[.string a0]) (t := 9) ?hr ?_; (case hd => rfl); (case hg => rfl); (case hr => first | (go_simp; done) | (go_simp; rfl)); intro gs hgz w1 hbox hb; have HS1 := Aside0.mk hbox; have HB1 := Aside0.mk hb; have c0 := (blk_cell hbox 0).trans rfl; clear hb hbox hgz)
    go_ret
    exact ⟨by rw [HR.out]; rfl, HB1.out⟩
  by_cases k4 : 122 < bt a0 0
  · have d1 : decide (bt a0 0 < 97) = false := decide_eq_false (by omega)
    have d1P : (bt a0 0 < 97) = False := eq_false (by omega)
    have d2 : decide (122 < bt a0 0) = true := decide_eq_true (by omega)
    have d2P : (122 < bt a0 0) = True := eq_true (by omega)
    have HR := Aside0.mk (show nameS a0 = false by
      have hl : lowB (bt a0 0) = false := (by unfold lowB; rw [decide_eq_false (show ¬ bt a0 0 ≤ 122 by omega), Bool.and_false])
      unfold nameS
      rw [hl, Bool.and_false, Bool.false_and])
    clear k1 k2 k3 k4
    go_enter Tryd.func29, Tryd.ntmps29
    go_wp2_with ((with_reducible refine gate_dst (N := 1) rfl ?_); refine box_event ?hg (N := 1) ?hd (cs := #[.string a0]) (t := 9) ?hr ?_; (case hd => rfl); (case hg => rfl); (case hr => first | (go_simp; done) | (go_simp; rfl)); intro gs hgz w1 hbox hb; have HS1 := Aside0.mk hbox; have HB1 := Aside0.mk hb; have c0 := (blk_cell hbox 0).trans rfl; clear hb hbox hgz)
    go_ret
    exact ⟨by rw [HR.out]; rfl, HB1.out⟩
  have d1 : decide (bt a0 0 < 97) = false := decide_eq_false (by omega)
  have d1P : (bt a0 0 < 97) = False := eq_false (by omega)
  have d2 : decide (122 < bt a0 0) = false := decide_eq_false (by omega)
  have d2P : (122 < bt a0 0) = False := eq_false (by omega)
  have HR := Aside0.mk (show nameS a0 = allNm a0 by
    have hl : lowB (bt a0 0) = true := (by unfold lowB; rw [decide_eq_true (show 97 ≤ bt a0 0 by omega), decide_eq_true (show bt a0 0 ≤ 122 by omega)]; rfl)
    unfold nameS
    rw [hl, decide_eq_true (show 1 ≤ a0.size by omega), decide_eq_true (show a0.size ≤ 24 by omega), Bool.true_and, Bool.true_and, Bool.true_and])
  have hmf_ : ∀ (fn : Fn) (first cap : Array Value) (w : World), (Instr.makeFunc fn first cap).run Tryd.prog w = .ok (.func fn first cap) w := fun _ _ _ _ => rfl
  clear k1 k2 k3 k4
  go_enter Tryd.func29, Tryd.ntmps29
  go_wp2_with ((with_reducible refine gate_dst (N := 1) rfl ?_); refine box_event ?hg (N := 1) ?hd (cs := #[.string a0]) (t := 9) ?hr ?_; (case hd => rfl); (case hg => rfl); (case hr => first | (go_simp; done) | (go_simp; rfl)); intro gs hgz w1 hbox hb; have HS1 := Aside0.mk hbox; have HB1 := Aside0.mk hb; have c0 := (blk_cell hbox 0).trans rfl; clear hb hbox hgz)
  have HS2 := Aside0.mk (blk_drew HS1.out)
  have HB2 := Aside0.mk (below_drew1 HB1.out)
  refine start_ (n := 7) (S := fun w' => w'.cell? ⟨gs, 0, none⟩ = some (.string a0)) (ds := []) #[Yn, Yn, Yn, Yn, Yn, Yn, Yn] (by kernel_rfl) rfl rfl (c0) (fun hHeld => ?_)
  generalize w1.drew = w2 at HS2 HB2 hHeld ⊢
  refine pure_ (i := 1) (N := some 22) (v := ?_) (a' := ?_) #[Yn, Y, Yn, Yn, Yn, Yn, Yn] rfl rfl (by kernel_rfl) (fun _ _ _ h => h) (Or.inl ⟨by rfl, ?_⟩) ?_ ?_
  rotate_left
  · intro w'
    go_simp
    with_reducible rfl
  rotate_left
  · simp only [Act.put, List.setIfInBounds_toArray, List.set_cons_zero, List.set_cons_succ, i64_w, i32_w]
    rfl
  refine take_ (i := 0) (N := some 21) (v := ?_) (a' := ?_) #[Y, Y, Yn, Yn, Yn, Yn, Yn] rfl rfl (by kernel_rfl) (fun _ _ _ h => h) (Or.inl ⟨by rfl, ?_⟩) hHeld ?_ ?_
  rotate_left
  · intro w' s0
    go_simp
    with_reducible rfl
  rotate_left
  · simp only [Act.put, List.setIfInBounds_toArray, List.set_cons_zero, List.set_cons_succ, i64_w, i32_w]
    rfl
  refine take_ (i := 3) (N := some 24) (v := ?_) (a' := ?_) #[Y, Y, Yn, Y, Yn, Yn, Yn] rfl rfl (by kernel_rfl) (fun _ _ _ h => h) (Or.inl ⟨by rfl, ?_⟩) hHeld ?_ ?_
  rotate_left
  · intro w' s0
    go_simp
    with_reducible rfl
  rotate_left
  · simp only [Act.put, List.setIfInBounds_toArray, List.set_cons_zero, List.set_cons_succ, i64_w, i32_w]
    rfl
  refine pure_ (i := 4) (N := some 25) (v := ?_) (a' := ?_) #[Y, Y, Yn, Y, Y, Yn, Yn] rfl rfl (by kernel_rfl) (fun _ _ _ h => h) (Or.inl ⟨by rfl, ?_⟩) ?_ ?_
  rotate_left
  · intro w'
    go_simp
    with_reducible rfl
  rotate_left
  · simp only [Act.put, List.setIfInBounds_toArray, List.set_cons_zero, List.set_cons_succ, i64_w, i32_w]
    rfl
  refine one_ (i := 2) (N := some 23) #[Y, Y, Y, Y, Y, Yn, Yn] rfl rfl (by kernel_rfl) (by decide) (fun K hK => ?_)
  refine goes_ Tryd.func52 (by kernel_rfl) rfl #[.string a0, .int .i64 0, .func (.func 53) #[] #[.pointer (some ⟨gs, 0, none⟩)]] (by rfl) rfl rfl (by simp only [List.map_toArray, List.map_cons, List.map_nil]; rfl) ?_
  with_reducible refine (run_calls a0 gs _ (Glob.below HG.out HB2.out) HS2.out HZ.out).mono ?_
  rintro e w3 ⟨e0, rfl, hb, q1, q2, q3⟩
  refine ⟨_, rfl, ?_⟩
  have HB3 := Aside0.mk (below_step HB2.out hb)
  have HS3 := Aside0.mk (blk_below HS2.out hb)
  have HEQ := Aside0.mk (all_run q1 q2 q3)
  clear hb q1 q2 q3
  refine hK.out _ _ ((blk_cell HS3.out 0).trans rfl) (fun hHeld => ?_)
  clear hK K
  refine norm_ (a' := ?_) ?_ ?_
  rotate_left
  · show Act.put _ (some 23) _ = _
    simp only [Act.put, List.setIfInBounds_toArray, List.set_cons_zero, List.set_cons_succ, i64_w, i32_w]
    rfl
  refine pure_ (i := 5) (N := some 26) (v := ?_) (a' := ?_) #[Y, Y, Y, Y, Y, Y, Yn] rfl rfl (by kernel_rfl) (fun _ _ _ h => h) (Or.inl ⟨by rfl, ?_⟩) ?_ ?_
  rotate_left
  · intro w'
    go_simp
    with_reducible rfl
  rotate_left
  · simp only [Act.put, List.setIfInBounds_toArray, List.set_cons_zero, List.set_cons_succ, i64_w, i32_w]
    rfl
  refine pure_ (i := 6) (N := some 2) (v := ?_) (a' := ?_) #[Y, Y, Y, Y, Y, Y, Y] rfl rfl (by kernel_rfl) (fun _ _ _ h => h) (Or.inl ⟨by rfl, ?_⟩) ?_ ?_
  rotate_left
  · intro w'
    go_simp
    with_reducible rfl
  rotate_left
  · simp only [Act.put, List.setIfInBounds_toArray, List.set_cons_zero, List.set_cons_succ, i64_w, i32_w]
    rfl
  refine done_ (by kernel_rfl) ?_
  go_wp2
  go_ret
  exact ⟨by rw [HR.out, ← HEQ.out]; rfl, HB3.out⟩
end Go.Proofs.YtbccjcdmpiolpaaDoor.T
end
section
namespace Go.Proofs.YtbccjcdmpiolpaaDoor.T
open Go.RowKit Go.Proofs.YtbccjcdmpiolpaaDoorW.PrintWords Go.Proofs.YtbccjcdmpiolpaaDoorW.PrintLast Go.Proofs.YtbccjcdmpiolpaaDoorW.PrintMore
attribute [local go_sem] max2_int min2_int max_two min_two max_three min_three max_four min_four
set_option linter.unusedVariables false
set_option linter.unusedSimpArgs false
mutual
def trend_Check.j0 : Nat → Bool → Bool → ByteArray → ByteArray → Int → Int → Int → Int → ByteArray → Int → Int → ByteArray → Int → Int → Int → List ByteArray → Int → Int → Int → Int → Option (Int)
  | 0, _, _, _, _, _, _, _, _, _, _, _, _, _, _, _, _, _, _, _, _ => none
  | k + 1, x5, x6, x110000, x110001, x110002, x110003, x110004, x110005, x111000, x111001, x111002, x111003, x111004, x111005, x111006, x111007, x111008, x111009, x111010, x111011 => (lexer_Name.f x110000).bind fun t111 => (if t111 = true then (if x110001.toList = x111000.toList then (if x110002 = 1 then (trend_Check.j1 k x5 x6 false x110000 x110001 x110002 x110003 x110004 x110005) else (if x110002 = 2 then (trend_Check.j1 k x5 x6 false x110000 x110001 x110002 x110003 x110004 x110005) else (trend_Check.j1 k x5 x6 (x110002 != 3) x110000 x110001 x110002 x110003 x110004 x110005))) else (some 3)) else (some 4))
def trend_Check.j1 : Nat → Bool → Bool → Bool → ByteArray → ByteArray → Int → Int → Int → Int → Option (Int)
  | 0, _, _, _, _, _, _, _, _, _ => none
  | k + 1, x5, x6, x49, x110000, x110001, x110002, x110003, x110004, x110005 => if x49 = true then (some 1) else (if x110005 < 1 then (some 6) else (if x110005 > 1024 then (some 6) else (if x5 = true then (if x6 = true then (some 0) else (some 6)) else (some 6))))
end
def trend_Check.f (k : Nat) (a0_0 : ByteArray) (a0_1 : ByteArray) (a0_2 : Int) (a0_3 : Int) (a0_4 : Int) (a0_5 : Int) (a1_0 : ByteArray) (a1_1 : Int) (a1_2 : Int) (a1_3 : ByteArray) (a1_4 : Int) (a1_5 : Int) (a1_6 : Int) (l1_7 : List ByteArray) (a1_8 : Int) (a1_9 : Int) (a1_10 : Int) (a1_11 : Int) : Option (Int) := if a0_2 = 1 then (if a0_3 ≥ 1 then (trend_Check.j0 k (decide (a0_3 ≤ 86400)) (a0_4 == 0) a0_0 a0_1 a0_2 a0_3 a0_4 a0_5 a1_0 a1_1 a1_2 a1_3 a1_4 a1_5 a1_6 l1_7 a1_8 a1_9 a1_10 a1_11) else (trend_Check.j0 k false (a0_4 == 0) a0_0 a0_1 a0_2 a0_3 a0_4 a0_5 a1_0 a1_1 a1_2 a1_3 a1_4 a1_5 a1_6 l1_7 a1_8 a1_9 a1_10 a1_11)) else (if a0_2 = 2 then (if a1_1 = 1 then (if a0_4 ≥ 1 then (trend_Check.j0 k (a0_3 == 0) (decide (a0_4 ≤ 1000000000000)) a0_0 a0_1 a0_2 a0_3 a0_4 a0_5 a1_0 a1_1 a1_2 a1_3 a1_4 a1_5 a1_6 l1_7 a1_8 a1_9 a1_10 a1_11) else (trend_Check.j0 k (a0_3 == 0) false a0_0 a0_1 a0_2 a0_3 a0_4 a0_5 a1_0 a1_1 a1_2 a1_3 a1_4 a1_5 a1_6 l1_7 a1_8 a1_9 a1_10 a1_11)) else (trend_Check.j0 k (a0_3 == 0) (a0_4 == 0) a0_0 a0_1 a0_2 a0_3 a0_4 a0_5 a1_0 a1_1 a1_2 a1_3 a1_4 a1_5 a1_6 l1_7 a1_8 a1_9 a1_10 a1_11)) else (trend_Check.j0 k (a0_3 == 0) (a0_4 == 0) a0_0 a0_1 a0_2 a0_3 a0_4 a0_5 a1_0 a1_1 a1_2 a1_3 a1_4 a1_5 a1_6 l1_7 a1_8 a1_9 a1_10 a1_11))
set_option maxHeartbeats 8000000 in
set_option maxRecDepth 100000 in
theorem trend_Check.calls (k : Nat) (a0_0 : ByteArray) (a0_1 : ByteArray) (a0_2 : Int) (a0_3 : Int) (a0_4 : Int) (a0_5 : Int) (a1_0 : ByteArray) (a1_1 : Int) (a1_2 : Int) (a1_3 : ByteArray) (a1_4 : Int) (a1_5 : Int) (a1_6 : Int) (A1_7 : Option Addr) (c1_7 : Nat) (l1_7 : List ByteArray) (a1_8 : Int) (a1_9 : Int) (a1_10 : Int) (a1_11 : Int) (r : Int) (w : World) (hG : Glob w) (hr1_7 : Kd.C Kd.string w A1_7 l1_7.length l1_7) (hc1_7 : l1_7.length ≤ c1_7) (h : trend_Check.f k a0_0 a0_1 a0_2 a0_3 a0_4 a0_5 a1_0 a1_1 a1_2 a1_3 a1_4 a1_5 a1_6 l1_7 a1_8 a1_9 a1_10 a1_11 = some r) :
    Calls Tryd.prog 17 #[.agg #[.string a0_0, .string a0_1, .int .i64 a0_2, .int .i64 a0_3, .int .i64 a0_4, .int .i64 a0_5], .agg #[.string a1_0, .int .i64 a1_1, .int .i64 a1_2, .string a1_3, .int .i64 a1_4, .int .i64 a1_5, .int .i64 a1_6, .slice A1_7 l1_7.length c1_7, .int .i64 a1_8, .int .i64 a1_9, .int .i64 a1_10, .int .i64 a1_11]] w fun e w' => e = .returned (.int .i64 r) ∧ Below w.heap.size w w' := by
  have hu23 := Tryd.underlying23
  have hu51 := Tryd.underlying51
  have HG := Aside0.mk hG
  clear hG
  have HR1_7 := Aside0.mk hr1_7
  have HC1_7 := Aside0.mk hc1_7
  clear hr1_7 hc1_7
  have HB := Aside0.mk (Below.refl w.heap.size w)
  have H : (if a0_2 = 1 then (if a0_3 ≥ 1 then (trend_Check.j0 k (decide (a0_3 ≤ 86400)) (a0_4 == 0) a0_0 a0_1 a0_2 a0_3 a0_4 a0_5 a1_0 a1_1 a1_2 a1_3 a1_4 a1_5 a1_6 l1_7 a1_8 a1_9 a1_10 a1_11) else (trend_Check.j0 k false (a0_4 == 0) a0_0 a0_1 a0_2 a0_3 a0_4 a0_5 a1_0 a1_1 a1_2 a1_3 a1_4 a1_5 a1_6 l1_7 a1_8 a1_9 a1_10 a1_11)) else (if a0_2 = 2 then (if a1_1 = 1 then (if a0_4 ≥ 1 then (trend_Check.j0 k (a0_3 == 0) (decide (a0_4 ≤ 1000000000000)) a0_0 a0_1 a0_2 a0_3 a0_4 a0_5 a1_0 a1_1 a1_2 a1_3 a1_4 a1_5 a1_6 l1_7 a1_8 a1_9 a1_10 a1_11) else (trend_Check.j0 k (a0_3 == 0) false a0_0 a0_1 a0_2 a0_3 a0_4 a0_5 a1_0 a1_1 a1_2 a1_3 a1_4 a1_5 a1_6 l1_7 a1_8 a1_9 a1_10 a1_11)) else (trend_Check.j0 k (a0_3 == 0) (a0_4 == 0) a0_0 a0_1 a0_2 a0_3 a0_4 a0_5 a1_0 a1_1 a1_2 a1_3 a1_4 a1_5 a1_6 l1_7 a1_8 a1_9 a1_10 a1_11)) else (trend_Check.j0 k (a0_3 == 0) (a0_4 == 0) a0_0 a0_1 a0_2 a0_3 a0_4 a0_5 a1_0 a1_1 a1_2 a1_3 a1_4 a1_5 a1_6 l1_7 a1_8 a1_9 a1_10 a1_11))) = some r := h
  clear h
  have HC3 := Aside0.mk H
  clear H
  go_enter Tryd.func17, Tryd.ntmps17
  go_upto_block 0 with (first | ((with_reducible refine gate_dst (N := 2) rfl ?_); refine box_event ?hg (N := 2) ?hd (cs := #[.string a0_0, .string a0_1, .int .i64 a0_2, .int .i64 a0_3, .int .i64 a0_4, .int .i64 a0_5]) (t := 23) ?hr ?_; (case hd => rfl); (case hg => rfl); (case hr => first | (go_simp; done) | (go_simp; rfl)); intro gb109 hg w4 hbox hb; have n0_ := Aside0.mk (below_step (by repeat (first | (with_reducible first | exact HB.out | apply below_alloc | apply pw_below_drewN | apply below_drew1) | exact HB.out)) hb); have n1_ := Aside0.mk (hbox); have n2_ := Aside0.mk ((by rw [hg]; exact (below_size (by repeat (first | (with_reducible first | exact HB.out | apply below_alloc | apply pw_below_drewN | apply below_drew1) | exact HB.out))) : w.heap.size ≤ gb109)); have n3_ := Aside0.mk ((by rw [hg]; exact (below_size (by repeat (first | (with_reducible first | exact HB.out | apply below_alloc | apply pw_below_drewN | apply below_drew1) | exact HB.out))) : w.heap.size ≤ gb109)); clear HB; have HB := n0_; have BK109 := n1_; have GW109 := n2_; have GE109 := n3_; clear n0_ n1_ n2_ n3_; clear hb hbox hg) | ((with_reducible refine gate_dst (N := 3) rfl ?_); refine box_event ?hg (N := 3) ?hd (cs := #[.string a1_0, .int .i64 a1_1, .int .i64 a1_2, .string a1_3, .int .i64 a1_4, .int .i64 a1_5, .int .i64 a1_6, .slice A1_7 l1_7.length c1_7, .int .i64 a1_8, .int .i64 a1_9, .int .i64 a1_10, .int .i64 a1_11]) (t := 51) ?hr ?_; (case hd => rfl); (case hg => rfl); (case hr => first | (go_simp; done) | (go_simp; rfl)); intro gb110 hg w5 hbox hb; have n0_ := Aside0.mk (blk_below (g := gb109) (o := .cells #[.string a0_0, .string a0_1, .int .i64 a0_2, .int .i64 a0_3, .int .i64 a0_4, .int .i64 a0_5] 23 (0, 0)) (by (with_reducible repeat (first | refine blk_drewN ?_ _ | refine blk_drew ?_ | refine blk_alloc ?_ _)); exact BK109.out) hb); have n1_ := Aside0.mk (below_step (by repeat (first | (with_reducible first | exact HB.out | apply below_alloc | apply pw_below_drewN | apply below_drew1 | refine below_set ?_ GE109.out) | exact HB.out)) hb); have n2_ := Aside0.mk (hbox); have n3_ := Aside0.mk ((by rw [hg]; exact (below_size (by repeat (first | (with_reducible first | exact HB.out | apply below_alloc | apply pw_below_drewN | apply below_drew1 | refine below_set ?_ GE109.out) | exact HB.out))) : w.heap.size ≤ gb110)); have n4_ := Aside0.mk ((by rw [hg]; exact (below_size (by repeat (first | (with_reducible first | exact HB.out | apply below_alloc | apply pw_below_drewN | apply below_drew1 | refine below_set ?_ GE109.out) | exact HB.out))) : w.heap.size ≤ gb110)); have n5_ := Aside0.mk ((by rw [hg]; exact Nat.ne_of_lt (blk_lt (g := gb109) (o := .cells #[.string a0_0, .string a0_1, .int .i64 a0_2, .int .i64 a0_3, .int .i64 a0_4, .int .i64 a0_5] 23 (0, 0)) (by (with_reducible repeat (first | refine blk_drewN ?_ _ | refine blk_drew ?_ | refine blk_alloc ?_ _)); exact BK109.out)) : gb109 ≠ gb110)); have n6_ := Aside0.mk ((by rw [hg]; exact Nat.ne_of_gt (blk_lt (g := gb109) (o := .cells #[.string a0_0, .string a0_1, .int .i64 a0_2, .int .i64 a0_3, .int .i64 a0_4, .int .i64 a0_5] 23 (0, 0)) (by (with_reducible repeat (first | refine blk_drewN ?_ _ | refine blk_drew ?_ | refine blk_alloc ?_ _)); exact BK109.out)) : gb110 ≠ gb109)); clear BK109; clear HB; have BK109 := n0_; have HB := n1_; have BK110 := n2_; have GW110 := n3_; have GE110 := n4_; have NB109_110 := n5_; have NB110_109 := n6_; clear n0_ n1_ n2_ n3_ n4_ n5_ n6_; clear hb hbox hg; have hnb6 := NB109_110.out; have hnc6 := NB110_109.out; have hcz7_0 : w5.cell? ⟨gb109, 0, none⟩ = some (.string a0_0) := (blk_cell BK109.out 0).trans rfl; have hcz7_1 : w5.cell? ⟨gb109, 1, none⟩ = some (.string a0_1) := (blk_cell BK109.out 1).trans rfl; have hcz7_2 : w5.cell? ⟨gb109, 2, none⟩ = some (.int .i64 a0_2) := (blk_cell BK109.out 2).trans rfl; have hcz7_3 : w5.cell? ⟨gb109, 3, none⟩ = some (.int .i64 a0_3) := (blk_cell BK109.out 3).trans rfl; have hcz7_4 : w5.cell? ⟨gb109, 4, none⟩ = some (.int .i64 a0_4) := (blk_cell BK109.out 4).trans rfl; have hcz7_5 : w5.cell? ⟨gb109, 5, none⟩ = some (.int .i64 a0_5) := (blk_cell BK109.out 5).trans rfl; have hfz7_0 := blk_frozen BK109.out 0; have hfz7_1 := blk_frozen BK109.out 1; have hfz7_2 := blk_frozen BK109.out 2; have hfz7_3 := blk_frozen BK109.out 3; have hfz7_4 := blk_frozen BK109.out 4; have hfz7_5 := blk_frozen BK109.out 5))
  repeat (go_quiet (first | ((with_reducible refine gate_dst (N := 2) rfl ?_); refine box_event ?hg (N := 2) ?hd (cs := #[.string a0_0, .string a0_1, .int .i64 a0_2, .int .i64 a0_3, .int .i64 a0_4, .int .i64 a0_5]) (t := 23) ?hr ?_; (case hd => rfl); (case hg => rfl); (case hr => first | (go_simp; done) | (go_simp; rfl)); intro gb109 hg w4 hbox hb; have n0_ := Aside0.mk (below_step (by repeat (first | (with_reducible first | exact HB.out | apply below_alloc | apply pw_below_drewN | apply below_drew1) | exact HB.out)) hb); have n1_ := Aside0.mk (hbox); have n2_ := Aside0.mk ((by rw [hg]; exact (below_size (by repeat (first | (with_reducible first | exact HB.out | apply below_alloc | apply pw_below_drewN | apply below_drew1) | exact HB.out))) : w.heap.size ≤ gb109)); have n3_ := Aside0.mk ((by rw [hg]; exact (below_size (by repeat (first | (with_reducible first | exact HB.out | apply below_alloc | apply pw_below_drewN | apply below_drew1) | exact HB.out))) : w.heap.size ≤ gb109)); clear HB; have HB := n0_; have BK109 := n1_; have GW109 := n2_; have GE109 := n3_; clear n0_ n1_ n2_ n3_; clear hb hbox hg) | ((with_reducible refine gate_dst (N := 3) rfl ?_); refine box_event ?hg (N := 3) ?hd (cs := #[.string a1_0, .int .i64 a1_1, .int .i64 a1_2, .string a1_3, .int .i64 a1_4, .int .i64 a1_5, .int .i64 a1_6, .slice A1_7 l1_7.length c1_7, .int .i64 a1_8, .int .i64 a1_9, .int .i64 a1_10, .int .i64 a1_11]) (t := 51) ?hr ?_; (case hd => rfl); (case hg => rfl); (case hr => first | (go_simp; done) | (go_simp; rfl)); intro gb110 hg w5 hbox hb; have n0_ := Aside0.mk (blk_below (g := gb109) (o := .cells #[.string a0_0, .string a0_1, .int .i64 a0_2, .int .i64 a0_3, .int .i64 a0_4, .int .i64 a0_5] 23 (0, 0)) (by (with_reducible repeat (first | refine blk_drewN ?_ _ | refine blk_drew ?_ | refine blk_alloc ?_ _)); exact BK109.out) hb); have n1_ := Aside0.mk (below_step (by repeat (first | (with_reducible first | exact HB.out | apply below_alloc | apply pw_below_drewN | apply below_drew1 | refine below_set ?_ GE109.out) | exact HB.out)) hb); have n2_ := Aside0.mk (hbox); have n3_ := Aside0.mk ((by rw [hg]; exact (below_size (by repeat (first | (with_reducible first | exact HB.out | apply below_alloc | apply pw_below_drewN | apply below_drew1 | refine below_set ?_ GE109.out) | exact HB.out))) : w.heap.size ≤ gb110)); have n4_ := Aside0.mk ((by rw [hg]; exact (below_size (by repeat (first | (with_reducible first | exact HB.out | apply below_alloc | apply pw_below_drewN | apply below_drew1 | refine below_set ?_ GE109.out) | exact HB.out))) : w.heap.size ≤ gb110)); have n5_ := Aside0.mk ((by rw [hg]; exact Nat.ne_of_lt (blk_lt (g := gb109) (o := .cells #[.string a0_0, .string a0_1, .int .i64 a0_2, .int .i64 a0_3, .int .i64 a0_4, .int .i64 a0_5] 23 (0, 0)) (by (with_reducible repeat (first | refine blk_drewN ?_ _ | refine blk_drew ?_ | refine blk_alloc ?_ _)); exact BK109.out)) : gb109 ≠ gb110)); have n6_ := Aside0.mk ((by rw [hg]; exact Nat.ne_of_gt (blk_lt (g := gb109) (o := .cells #[.string a0_0, .string a0_1, .int .i64 a0_2, .int .i64 a0_3, .int .i64 a0_4, .int .i64 a0_5] 23 (0, 0)) (by (with_reducible repeat (first | refine blk_drewN ?_ _ | refine blk_drew ?_ | refine blk_alloc ?_ _)); exact BK109.out)) : gb110 ≠ gb109)); clear BK109; clear HB; have BK109 := n0_; have HB := n1_; have BK110 := n2_; have GW110 := n3_; have GE110 := n4_; have NB109_110 := n5_; have NB110_109 := n6_; clear n0_ n1_ n2_ n3_ n4_ n5_ n6_; clear hb hbox hg; have hnb6 := NB109_110.out; have hnc6 := NB110_109.out; have hcz7_0 : w5.cell? ⟨gb109, 0, none⟩ = some (.string a0_0) := (blk_cell BK109.out 0).trans rfl; have hcz7_1 : w5.cell? ⟨gb109, 1, none⟩ = some (.string a0_1) := (blk_cell BK109.out 1).trans rfl; have hcz7_2 : w5.cell? ⟨gb109, 2, none⟩ = some (.int .i64 a0_2) := (blk_cell BK109.out 2).trans rfl; have hcz7_3 : w5.cell? ⟨gb109, 3, none⟩ = some (.int .i64 a0_3) := (blk_cell BK109.out 3).trans rfl; have hcz7_4 : w5.cell? ⟨gb109, 4, none⟩ = some (.int .i64 a0_4) := (blk_cell BK109.out 4).trans rfl; have hcz7_5 : w5.cell? ⟨gb109, 5, none⟩ = some (.int .i64 a0_5) := (blk_cell BK109.out 5).trans rfl; have hfz7_0 := blk_frozen BK109.out 0; have hfz7_1 := blk_frozen BK109.out 1; have hfz7_2 := blk_frozen BK109.out 2; have hfz7_3 := blk_frozen BK109.out 3; have hfz7_4 := blk_frozen BK109.out 4; have hfz7_5 := blk_frozen BK109.out 5)); go_upto_block 0 with (first | ((with_reducible refine gate_dst (N := 2) rfl ?_); refine box_event ?hg (N := 2) ?hd (cs := #[.string a0_0, .string a0_1, .int .i64 a0_2, .int .i64 a0_3, .int .i64 a0_4, .int .i64 a0_5]) (t := 23) ?hr ?_; (case hd => rfl); (case hg => rfl); (case hr => first | (go_simp; done) | (go_simp; rfl)); intro gb109 hg w4 hbox hb; have n0_ := Aside0.mk (below_step (by repeat (first | (with_reducible first | exact HB.out | apply below_alloc | apply pw_below_drewN | apply below_drew1) | exact HB.out)) hb); have n1_ := Aside0.mk (hbox); have n2_ := Aside0.mk ((by rw [hg]; exact (below_size (by repeat (first | (with_reducible first | exact HB.out | apply below_alloc | apply pw_below_drewN | apply below_drew1) | exact HB.out))) : w.heap.size ≤ gb109)); have n3_ := Aside0.mk ((by rw [hg]; exact (below_size (by repeat (first | (with_reducible first | exact HB.out | apply below_alloc | apply pw_below_drewN | apply below_drew1) | exact HB.out))) : w.heap.size ≤ gb109)); clear HB; have HB := n0_; have BK109 := n1_; have GW109 := n2_; have GE109 := n3_; clear n0_ n1_ n2_ n3_; clear hb hbox hg) | ((with_reducible refine gate_dst (N := 3) rfl ?_); refine box_event ?hg (N := 3) ?hd (cs := #[.string a1_0, .int .i64 a1_1, .int .i64 a1_2, .string a1_3, .int .i64 a1_4, .int .i64 a1_5, .int .i64 a1_6, .slice A1_7 l1_7.length c1_7, .int .i64 a1_8, .int .i64 a1_9, .int .i64 a1_10, .int .i64 a1_11]) (t := 51) ?hr ?_; (case hd => rfl); (case hg => rfl); (case hr => first | (go_simp; done) | (go_simp; rfl)); intro gb110 hg w5 hbox hb; have n0_ := Aside0.mk (blk_below (g := gb109) (o := .cells #[.string a0_0, .string a0_1, .int .i64 a0_2, .int .i64 a0_3, .int .i64 a0_4, .int .i64 a0_5] 23 (0, 0)) (by (with_reducible repeat (first | refine blk_drewN ?_ _ | refine blk_drew ?_ | refine blk_alloc ?_ _)); exact BK109.out) hb); have n1_ := Aside0.mk (below_step (by repeat (first | (with_reducible first | exact HB.out | apply below_alloc | apply pw_below_drewN | apply below_drew1 | refine below_set ?_ GE109.out) | exact HB.out)) hb); have n2_ := Aside0.mk (hbox); have n3_ := Aside0.mk ((by rw [hg]; exact (below_size (by repeat (first | (with_reducible first | exact HB.out | apply below_alloc | apply pw_below_drewN | apply below_drew1 | refine below_set ?_ GE109.out) | exact HB.out))) : w.heap.size ≤ gb110)); have n4_ := Aside0.mk ((by rw [hg]; exact (below_size (by repeat (first | (with_reducible first | exact HB.out | apply below_alloc | apply pw_below_drewN | apply below_drew1 | refine below_set ?_ GE109.out) | exact HB.out))) : w.heap.size ≤ gb110)); have n5_ := Aside0.mk ((by rw [hg]; exact Nat.ne_of_lt (blk_lt (g := gb109) (o := .cells #[.string a0_0, .string a0_1, .int .i64 a0_2, .int .i64 a0_3, .int .i64 a0_4, .int .i64 a0_5] 23 (0, 0)) (by (with_reducible repeat (first | refine blk_drewN ?_ _ | refine blk_drew ?_ | refine blk_alloc ?_ _)); exact BK109.out)) : gb109 ≠ gb110)); have n6_ := Aside0.mk ((by rw [hg]; exact Nat.ne_of_gt (blk_lt (g := gb109) (o := .cells #[.string a0_0, .string a0_1, .int .i64 a0_2, .int .i64 a0_3, .int .i64 a0_4, .int .i64 a0_5] 23 (0, 0)) (by (with_reducible repeat (first | refine blk_drewN ?_ _ | refine blk_drew ?_ | refine blk_alloc ?_ _)); exact BK109.out)) : gb110 ≠ gb109)); clear BK109; clear HB; have BK109 := n0_; have HB := n1_; have BK110 := n2_; have GW110 := n3_; have GE110 := n4_; have NB109_110 := n5_; have NB110_109 := n6_; clear n0_ n1_ n2_ n3_ n4_ n5_ n6_; clear hb hbox hg; have hnb6 := NB109_110.out; have hnc6 := NB110_109.out; have hcz7_0 : w5.cell? ⟨gb109, 0, none⟩ = some (.string a0_0) := (blk_cell BK109.out 0).trans rfl; have hcz7_1 : w5.cell? ⟨gb109, 1, none⟩ = some (.string a0_1) := (blk_cell BK109.out 1).trans rfl; have hcz7_2 : w5.cell? ⟨gb109, 2, none⟩ = some (.int .i64 a0_2) := (blk_cell BK109.out 2).trans rfl; have hcz7_3 : w5.cell? ⟨gb109, 3, none⟩ = some (.int .i64 a0_3) := (blk_cell BK109.out 3).trans rfl; have hcz7_4 : w5.cell? ⟨gb109, 4, none⟩ = some (.int .i64 a0_4) := (blk_cell BK109.out 4).trans rfl; have hcz7_5 : w5.cell? ⟨gb109, 5, none⟩ = some (.int .i64 a0_5) := (blk_cell BK109.out 5).trans rfl; have hfz7_0 := blk_frozen BK109.out 0; have hfz7_1 := blk_frozen BK109.out 1; have hfz7_2 := blk_frozen BK109.out 2; have hfz7_3 := blk_frozen BK109.out 3; have hfz7_4 := blk_frozen BK109.out 4; have hfz7_5 := blk_frozen BK109.out 5)))
  (try simp only [Act.put, List.setIfInBounds_toArray, List.set_cons_zero, List.set_cons_succ])
  go_cut [5, 6] (fun v5 v6 wc => ∃ (kq : Nat) (x5_2 : Bool) (x6_2 : Bool), v5 = .bool x5_2 ∧ v6 = .bool x6_2 ∧ Aside0 (trend_Check.j0 kq x5_2 x6_2 a0_0 a0_1 a0_2 a0_3 a0_4 a0_5 a1_0 a1_1 a1_2 a1_3 a1_4 a1_5 a1_6 l1_7 a1_8 a1_9 a1_10 a1_11 = some r) ∧ Aside0 (kq ≤ k) ∧ Aside0 (wc.heap[gb109]? = some (.cells #[.string a0_0, .string a0_1, .int .i64 a0_2, .int .i64 a0_3, .int .i64 a0_4, .int .i64 a0_5] 23 (0, 0))) ∧ Aside0 (wc.heap[gb110]? = some (.cells #[.string a1_0, .int .i64 a1_1, .int .i64 a1_2, .string a1_3, .int .i64 a1_4, .int .i64 a1_5, .int .i64 a1_6, (.slice A1_7 l1_7.length c1_7), .int .i64 a1_8, .int .i64 a1_9, .int .i64 a1_10, .int .i64 a1_11] 51 (0, 0))) ∧ Aside0 (Below w.heap.size w wc))
  case first =>
    have H := HC3.out
    clear HC3
    by_cases c8 : a0_2 = 1
    · rw [if_pos c8] at H
      have c8b0 : (a0_2 == 1) = true := beq_iff_eq.mpr c8
      have c8b1 : (a0_2 != 1) = false := bne_eq_false_iff_eq.mpr c8
      clear c8
      (first | rw [c8b0] | (simp only [i64_w, i32_w]; rw [c8b0]) | skip)
      by_cases c9 : a0_3 ≥ 1
      · rw [if_pos c9] at H
        have c9b0 : decide (1 ≤ a0_3) = true := decide_eq_true c9
        clear c9
        have H' := Aside0.mk H
        clear H
        have hnb10 := NB109_110.out
        have hnc10 := NB110_109.out
        have hcz11_0 : w5.cell? ⟨gb109, 0, none⟩ = some (.string a0_0) := (blk_cell BK109.out 0).trans rfl
        have hcz11_1 : w5.cell? ⟨gb109, 1, none⟩ = some (.string a0_1) := (blk_cell BK109.out 1).trans rfl
        have hcz11_2 : w5.cell? ⟨gb109, 2, none⟩ = some (.int .i64 a0_2) := (blk_cell BK109.out 2).trans rfl
        have hcz11_3 : w5.cell? ⟨gb109, 3, none⟩ = some (.int .i64 a0_3) := (blk_cell BK109.out 3).trans rfl
        have hcz11_4 : w5.cell? ⟨gb109, 4, none⟩ = some (.int .i64 a0_4) := (blk_cell BK109.out 4).trans rfl
        have hcz11_5 : w5.cell? ⟨gb109, 5, none⟩ = some (.int .i64 a0_5) := (blk_cell BK109.out 5).trans rfl
        have hfz11_0 := blk_frozen BK109.out 0
        have hfz11_1 := blk_frozen BK109.out 1
        have hfz11_2 := blk_frozen BK109.out 2
        have hfz11_3 := blk_frozen BK109.out 3
        have hfz11_4 := blk_frozen BK109.out 4
        have hfz11_5 := blk_frozen BK109.out 5
        go_wp2
        repeat (go_quiet (fail); try go_wp2)
        go_meet
        case rel => exact ⟨_, (decide (a0_3 ≤ 86400)), ((a0_4 == 0)), (by first | rfl | (simp; done) | (simp [*]; done)), (by first | rfl | (simp; done) | (simp [*]; done)), H', ⟨by first | omega | exact Nat.le_refl _⟩, ⟨by (with_reducible repeat (first | refine blk_drewN ?_ _ | refine blk_drew ?_ | refine blk_alloc ?_ _)); exact BK109.out⟩, ⟨by (with_reducible repeat (first | refine blk_drewN ?_ _ | refine blk_drew ?_ | refine blk_alloc ?_ _)); exact BK110.out⟩, ⟨by repeat (first | (with_reducible first | exact HB.out | apply below_alloc | apply pw_below_drewN | apply below_drew1 | refine below_set ?_ GE109.out | refine below_set ?_ GE110.out) | exact HB.out)⟩⟩
      · rw [if_neg c9] at H
        have c9b0 : decide (1 ≤ a0_3) = false := decide_eq_false c9
        clear c9
        have H' := Aside0.mk H
        clear H
        have hnb12 := NB109_110.out
        have hnc12 := NB110_109.out
        have hcz13_0 : w5.cell? ⟨gb109, 0, none⟩ = some (.string a0_0) := (blk_cell BK109.out 0).trans rfl
        have hcz13_1 : w5.cell? ⟨gb109, 1, none⟩ = some (.string a0_1) := (blk_cell BK109.out 1).trans rfl
        have hcz13_2 : w5.cell? ⟨gb109, 2, none⟩ = some (.int .i64 a0_2) := (blk_cell BK109.out 2).trans rfl
        have hcz13_3 : w5.cell? ⟨gb109, 3, none⟩ = some (.int .i64 a0_3) := (blk_cell BK109.out 3).trans rfl
        have hcz13_4 : w5.cell? ⟨gb109, 4, none⟩ = some (.int .i64 a0_4) := (blk_cell BK109.out 4).trans rfl
        have hcz13_5 : w5.cell? ⟨gb109, 5, none⟩ = some (.int .i64 a0_5) := (blk_cell BK109.out 5).trans rfl
        have hfz13_0 := blk_frozen BK109.out 0
        have hfz13_1 := blk_frozen BK109.out 1
        have hfz13_2 := blk_frozen BK109.out 2
        have hfz13_3 := blk_frozen BK109.out 3
        have hfz13_4 := blk_frozen BK109.out 4
        have hfz13_5 := blk_frozen BK109.out 5
        go_wp2
        repeat (go_quiet (fail); try go_wp2)
        go_meet
        case rel => exact ⟨_, (false), ((a0_4 == 0)), (by first | rfl | (simp; done) | (simp [*]; done)), (by first | rfl | (simp; done) | (simp [*]; done)), H', ⟨by first | omega | exact Nat.le_refl _⟩, ⟨by (with_reducible repeat (first | refine blk_drewN ?_ _ | refine blk_drew ?_ | refine blk_alloc ?_ _)); exact BK109.out⟩, ⟨by (with_reducible repeat (first | refine blk_drewN ?_ _ | refine blk_drew ?_ | refine blk_alloc ?_ _)); exact BK110.out⟩, ⟨by repeat (first | (with_reducible first | exact HB.out | apply below_alloc | apply pw_below_drewN | apply below_drew1 | refine below_set ?_ GE109.out | refine below_set ?_ GE110.out) | exact HB.out)⟩⟩
    · rw [if_neg c8] at H
      have c8b0 : (a0_2 == 1) = false := beq_eq_false_iff_ne.mpr c8
      have c8b1 : (a0_2 != 1) = true := bne_iff_ne.mpr c8
      (first | rw [c8b0] | (simp only [i64_w, i32_w]; rw [c8b0]) | skip)
      by_cases c14 : a0_2 = 2
      · rw [if_pos c14] at H
        have c14b0 : (a0_2 == 2) = true := beq_iff_eq.mpr c14
        have c14b1 : (a0_2 != 2) = false := bne_eq_false_iff_eq.mpr c14
        clear c14
        by_cases c15 : a1_1 = 1
        · rw [if_pos c15] at H
          have c15b0 : (a1_1 == 1) = true := beq_iff_eq.mpr c15
          have c15b1 : (a1_1 != 1) = false := bne_eq_false_iff_eq.mpr c15
          clear c15
          by_cases c16 : a0_4 ≥ 1
          · rw [if_pos c16] at H
            have c16b0 : decide (1 ≤ a0_4) = true := decide_eq_true c16
            clear c16
            have H' := Aside0.mk H
            clear H
            have hnb17 := NB110_109.out
            have hnc17 := NB109_110.out
            have hcz18_0 : w5.cell? ⟨gb110, 0, none⟩ = some (.string a1_0) := (blk_cell BK110.out 0).trans rfl
            have hcz18_1 : w5.cell? ⟨gb110, 1, none⟩ = some (.int .i64 a1_1) := (blk_cell BK110.out 1).trans rfl
            have hcz18_2 : w5.cell? ⟨gb110, 2, none⟩ = some (.int .i64 a1_2) := (blk_cell BK110.out 2).trans rfl
            have hcz18_3 : w5.cell? ⟨gb110, 3, none⟩ = some (.string a1_3) := (blk_cell BK110.out 3).trans rfl
            have hcz18_4 : w5.cell? ⟨gb110, 4, none⟩ = some (.int .i64 a1_4) := (blk_cell BK110.out 4).trans rfl
            have hcz18_5 : w5.cell? ⟨gb110, 5, none⟩ = some (.int .i64 a1_5) := (blk_cell BK110.out 5).trans rfl
            have hcz18_6 : w5.cell? ⟨gb110, 6, none⟩ = some (.int .i64 a1_6) := (blk_cell BK110.out 6).trans rfl
            have hcz18_7 : w5.cell? ⟨gb110, 7, none⟩ = some (.slice A1_7 l1_7.length c1_7) := (blk_cell BK110.out 7).trans rfl
            have hcz18_8 : w5.cell? ⟨gb110, 8, none⟩ = some (.int .i64 a1_8) := (blk_cell BK110.out 8).trans rfl
            have hcz18_9 : w5.cell? ⟨gb110, 9, none⟩ = some (.int .i64 a1_9) := (blk_cell BK110.out 9).trans rfl
            have hcz18_10 : w5.cell? ⟨gb110, 10, none⟩ = some (.int .i64 a1_10) := (blk_cell BK110.out 10).trans rfl
            have hcz18_11 : w5.cell? ⟨gb110, 11, none⟩ = some (.int .i64 a1_11) := (blk_cell BK110.out 11).trans rfl
            have hfz18_0 := blk_frozen BK110.out 0
            have hfz18_1 := blk_frozen BK110.out 1
            have hfz18_2 := blk_frozen BK110.out 2
            have hfz18_3 := blk_frozen BK110.out 3
            have hfz18_4 := blk_frozen BK110.out 4
            have hfz18_5 := blk_frozen BK110.out 5
            have hfz18_6 := blk_frozen BK110.out 6
            have hfz18_7 := blk_frozen BK110.out 7
            have hfz18_8 := blk_frozen BK110.out 8
            have hfz18_9 := blk_frozen BK110.out 9
            have hfz18_10 := blk_frozen BK110.out 10
            have hfz18_11 := blk_frozen BK110.out 11
            have hcz19_0 : w5.cell? ⟨gb109, 0, none⟩ = some (.string a0_0) := (blk_cell BK109.out 0).trans rfl
            have hcz19_1 : w5.cell? ⟨gb109, 1, none⟩ = some (.string a0_1) := (blk_cell BK109.out 1).trans rfl
            have hcz19_2 : w5.cell? ⟨gb109, 2, none⟩ = some (.int .i64 a0_2) := (blk_cell BK109.out 2).trans rfl
            have hcz19_3 : w5.cell? ⟨gb109, 3, none⟩ = some (.int .i64 a0_3) := (blk_cell BK109.out 3).trans rfl
            have hcz19_4 : w5.cell? ⟨gb109, 4, none⟩ = some (.int .i64 a0_4) := (blk_cell BK109.out 4).trans rfl
            have hcz19_5 : w5.cell? ⟨gb109, 5, none⟩ = some (.int .i64 a0_5) := (blk_cell BK109.out 5).trans rfl
            have hfz19_0 := blk_frozen BK109.out 0
            have hfz19_1 := blk_frozen BK109.out 1
            have hfz19_2 := blk_frozen BK109.out 2
            have hfz19_3 := blk_frozen BK109.out 3
            have hfz19_4 := blk_frozen BK109.out 4
            have hfz19_5 := blk_frozen BK109.out 5
            go_wp2
            repeat (go_quiet (fail); try go_wp2)
            go_meet
            case rel => exact ⟨_, ((a0_3 == 0)), (decide (a0_4 ≤ 1000000000000)), (by first | rfl | (simp; done) | (simp [*]; done)), (by first | rfl | (simp; done) | (simp [*]; done)), H', ⟨by first | omega | exact Nat.le_refl _⟩, ⟨by (with_reducible repeat (first | refine blk_drewN ?_ _ | refine blk_drew ?_ | refine blk_alloc ?_ _)); exact BK109.out⟩, ⟨by (with_reducible repeat (first | refine blk_drewN ?_ _ | refine blk_drew ?_ | refine blk_alloc ?_ _)); exact BK110.out⟩, ⟨by repeat (first | (with_reducible first | exact HB.out | apply below_alloc | apply pw_below_drewN | apply below_drew1 | refine below_set ?_ GE109.out | refine below_set ?_ GE110.out) | exact HB.out)⟩⟩
          · rw [if_neg c16] at H
            have c16b0 : decide (1 ≤ a0_4) = false := decide_eq_false c16
            clear c16
            have H' := Aside0.mk H
            clear H
            have hnb20 := NB110_109.out
            have hnc20 := NB109_110.out
            have hcz21_0 : w5.cell? ⟨gb110, 0, none⟩ = some (.string a1_0) := (blk_cell BK110.out 0).trans rfl
            have hcz21_1 : w5.cell? ⟨gb110, 1, none⟩ = some (.int .i64 a1_1) := (blk_cell BK110.out 1).trans rfl
            have hcz21_2 : w5.cell? ⟨gb110, 2, none⟩ = some (.int .i64 a1_2) := (blk_cell BK110.out 2).trans rfl
            have hcz21_3 : w5.cell? ⟨gb110, 3, none⟩ = some (.string a1_3) := (blk_cell BK110.out 3).trans rfl
            have hcz21_4 : w5.cell? ⟨gb110, 4, none⟩ = some (.int .i64 a1_4) := (blk_cell BK110.out 4).trans rfl
            have hcz21_5 : w5.cell? ⟨gb110, 5, none⟩ = some (.int .i64 a1_5) := (blk_cell BK110.out 5).trans rfl
            have hcz21_6 : w5.cell? ⟨gb110, 6, none⟩ = some (.int .i64 a1_6) := (blk_cell BK110.out 6).trans rfl
            have hcz21_7 : w5.cell? ⟨gb110, 7, none⟩ = some (.slice A1_7 l1_7.length c1_7) := (blk_cell BK110.out 7).trans rfl
            have hcz21_8 : w5.cell? ⟨gb110, 8, none⟩ = some (.int .i64 a1_8) := (blk_cell BK110.out 8).trans rfl
            have hcz21_9 : w5.cell? ⟨gb110, 9, none⟩ = some (.int .i64 a1_9) := (blk_cell BK110.out 9).trans rfl
            have hcz21_10 : w5.cell? ⟨gb110, 10, none⟩ = some (.int .i64 a1_10) := (blk_cell BK110.out 10).trans rfl
            have hcz21_11 : w5.cell? ⟨gb110, 11, none⟩ = some (.int .i64 a1_11) := (blk_cell BK110.out 11).trans rfl
            have hfz21_0 := blk_frozen BK110.out 0
            have hfz21_1 := blk_frozen BK110.out 1
            have hfz21_2 := blk_frozen BK110.out 2
            have hfz21_3 := blk_frozen BK110.out 3
            have hfz21_4 := blk_frozen BK110.out 4
            have hfz21_5 := blk_frozen BK110.out 5
            have hfz21_6 := blk_frozen BK110.out 6
            have hfz21_7 := blk_frozen BK110.out 7
            have hfz21_8 := blk_frozen BK110.out 8
            have hfz21_9 := blk_frozen BK110.out 9
            have hfz21_10 := blk_frozen BK110.out 10
            have hfz21_11 := blk_frozen BK110.out 11
            have hcz22_0 : w5.cell? ⟨gb109, 0, none⟩ = some (.string a0_0) := (blk_cell BK109.out 0).trans rfl
            have hcz22_1 : w5.cell? ⟨gb109, 1, none⟩ = some (.string a0_1) := (blk_cell BK109.out 1).trans rfl
            have hcz22_2 : w5.cell? ⟨gb109, 2, none⟩ = some (.int .i64 a0_2) := (blk_cell BK109.out 2).trans rfl
            have hcz22_3 : w5.cell? ⟨gb109, 3, none⟩ = some (.int .i64 a0_3) := (blk_cell BK109.out 3).trans rfl
            have hcz22_4 : w5.cell? ⟨gb109, 4, none⟩ = some (.int .i64 a0_4) := (blk_cell BK109.out 4).trans rfl
            have hcz22_5 : w5.cell? ⟨gb109, 5, none⟩ = some (.int .i64 a0_5) := (blk_cell BK109.out 5).trans rfl
            have hfz22_0 := blk_frozen BK109.out 0
            have hfz22_1 := blk_frozen BK109.out 1
            have hfz22_2 := blk_frozen BK109.out 2
            have hfz22_3 := blk_frozen BK109.out 3
            have hfz22_4 := blk_frozen BK109.out 4
            have hfz22_5 := blk_frozen BK109.out 5
            go_wp2
            repeat (go_quiet (fail); try go_wp2)
            go_meet
            case rel => exact ⟨_, ((a0_3 == 0)), (false), (by first | rfl | (simp; done) | (simp [*]; done)), (by first | rfl | (simp; done) | (simp [*]; done)), H', ⟨by first | omega | exact Nat.le_refl _⟩, ⟨by (with_reducible repeat (first | refine blk_drewN ?_ _ | refine blk_drew ?_ | refine blk_alloc ?_ _)); exact BK109.out⟩, ⟨by (with_reducible repeat (first | refine blk_drewN ?_ _ | refine blk_drew ?_ | refine blk_alloc ?_ _)); exact BK110.out⟩, ⟨by repeat (first | (with_reducible first | exact HB.out | apply below_alloc | apply pw_below_drewN | apply below_drew1 | refine below_set ?_ GE109.out | refine below_set ?_ GE110.out) | exact HB.out)⟩⟩
        · rw [if_neg c15] at H
          have c15b0 : (a1_1 == 1) = false := beq_eq_false_iff_ne.mpr c15
          have c15b1 : (a1_1 != 1) = true := bne_iff_ne.mpr c15
          have H' := Aside0.mk H
          clear H
          have hnb23 := NB110_109.out
          have hnc23 := NB109_110.out
          have hcz24_0 : w5.cell? ⟨gb110, 0, none⟩ = some (.string a1_0) := (blk_cell BK110.out 0).trans rfl
          have hcz24_1 : w5.cell? ⟨gb110, 1, none⟩ = some (.int .i64 a1_1) := (blk_cell BK110.out 1).trans rfl
          have hcz24_2 : w5.cell? ⟨gb110, 2, none⟩ = some (.int .i64 a1_2) := (blk_cell BK110.out 2).trans rfl
          have hcz24_3 : w5.cell? ⟨gb110, 3, none⟩ = some (.string a1_3) := (blk_cell BK110.out 3).trans rfl
          have hcz24_4 : w5.cell? ⟨gb110, 4, none⟩ = some (.int .i64 a1_4) := (blk_cell BK110.out 4).trans rfl
          have hcz24_5 : w5.cell? ⟨gb110, 5, none⟩ = some (.int .i64 a1_5) := (blk_cell BK110.out 5).trans rfl
          have hcz24_6 : w5.cell? ⟨gb110, 6, none⟩ = some (.int .i64 a1_6) := (blk_cell BK110.out 6).trans rfl
          have hcz24_7 : w5.cell? ⟨gb110, 7, none⟩ = some (.slice A1_7 l1_7.length c1_7) := (blk_cell BK110.out 7).trans rfl
          have hcz24_8 : w5.cell? ⟨gb110, 8, none⟩ = some (.int .i64 a1_8) := (blk_cell BK110.out 8).trans rfl
          have hcz24_9 : w5.cell? ⟨gb110, 9, none⟩ = some (.int .i64 a1_9) := (blk_cell BK110.out 9).trans rfl
          have hcz24_10 : w5.cell? ⟨gb110, 10, none⟩ = some (.int .i64 a1_10) := (blk_cell BK110.out 10).trans rfl
          have hcz24_11 : w5.cell? ⟨gb110, 11, none⟩ = some (.int .i64 a1_11) := (blk_cell BK110.out 11).trans rfl
          have hfz24_0 := blk_frozen BK110.out 0
          have hfz24_1 := blk_frozen BK110.out 1
          have hfz24_2 := blk_frozen BK110.out 2
          have hfz24_3 := blk_frozen BK110.out 3
          have hfz24_4 := blk_frozen BK110.out 4
          have hfz24_5 := blk_frozen BK110.out 5
          have hfz24_6 := blk_frozen BK110.out 6
          have hfz24_7 := blk_frozen BK110.out 7
          have hfz24_8 := blk_frozen BK110.out 8
          have hfz24_9 := blk_frozen BK110.out 9
          have hfz24_10 := blk_frozen BK110.out 10
          have hfz24_11 := blk_frozen BK110.out 11
          go_wp2
          repeat (go_quiet (fail); try go_wp2)
          go_meet
          case rel => exact ⟨_, ((a0_3 == 0)), ((a0_4 == 0)), (by first | rfl | (simp; done) | (simp [*]; done)), (by first | rfl | (simp; done) | (simp [*]; done)), H', ⟨by first | omega | exact Nat.le_refl _⟩, ⟨by (with_reducible repeat (first | refine blk_drewN ?_ _ | refine blk_drew ?_ | refine blk_alloc ?_ _)); exact BK109.out⟩, ⟨by (with_reducible repeat (first | refine blk_drewN ?_ _ | refine blk_drew ?_ | refine blk_alloc ?_ _)); exact BK110.out⟩, ⟨by repeat (first | (with_reducible first | exact HB.out | apply below_alloc | apply pw_below_drewN | apply below_drew1 | refine below_set ?_ GE109.out | refine below_set ?_ GE110.out) | exact HB.out)⟩⟩
      · rw [if_neg c14] at H
        have c14b0 : (a0_2 == 2) = false := beq_eq_false_iff_ne.mpr c14
        have c14b1 : (a0_2 != 2) = true := bne_iff_ne.mpr c14
        have H' := Aside0.mk H
        clear H
        go_wp2
        repeat (go_quiet (fail); try go_wp2)
        go_meet
        case rel => exact ⟨_, ((a0_3 == 0)), ((a0_4 == 0)), (by first | rfl | (simp; done) | (simp [*]; done)), (by first | rfl | (simp; done) | (simp [*]; done)), H', ⟨by first | omega | exact Nat.le_refl _⟩, ⟨by (with_reducible repeat (first | refine blk_drewN ?_ _ | refine blk_drew ?_ | refine blk_alloc ?_ _)); exact BK109.out⟩, ⟨by (with_reducible repeat (first | refine blk_drewN ?_ _ | refine blk_drew ?_ | refine blk_alloc ?_ _)); exact BK110.out⟩, ⟨by repeat (first | (with_reducible first | exact HB.out | apply below_alloc | apply pw_below_drewN | apply below_drew1 | refine below_set ?_ GE109.out | refine below_set ?_ GE110.out) | exact HB.out)⟩⟩
  case rest =>
    clear HC3
    try clear c1
    try clear c2
    try clear p2
    try clear c6
    try clear c8
    try clear c8b0
    try clear c8b1
    try clear c9
    try clear c9b0
    try clear c10
    try clear c12
    try clear c14
    try clear c14b0
    try clear c14b1
    try clear c15
    try clear c15b0
    try clear c15b1
    try clear c16
    try clear c16b0
    try clear c17
    try clear c20
    try clear c23
    try clear hcz11_0
    try clear hcz11_1
    try clear hcz11_2
    try clear hcz11_3
    try clear hcz11_4
    try clear hcz11_5
    try clear hcz13_0
    try clear hcz13_1
    try clear hcz13_2
    try clear hcz13_3
    try clear hcz13_4
    try clear hcz13_5
    try clear hcz18_0
    try clear hcz18_1
    try clear hcz18_10
    try clear hcz18_11
    try clear hcz18_2
    try clear hcz18_3
    try clear hcz18_4
    try clear hcz18_5
    try clear hcz18_6
    try clear hcz18_7
    try clear hcz18_8
    try clear hcz18_9
    try clear hcz19_0
    try clear hcz19_1
    try clear hcz19_2
    try clear hcz19_3
    try clear hcz19_4
    try clear hcz19_5
    try clear hcz21_0
    try clear hcz21_1
    try clear hcz21_10
    try clear hcz21_11
    try clear hcz21_2
    try clear hcz21_3
    try clear hcz21_4
    try clear hcz21_5
    try clear hcz21_6
    try clear hcz21_7
    try clear hcz21_8
    try clear hcz21_9
    try clear hcz22_0
    try clear hcz22_1
    try clear hcz22_2
    try clear hcz22_3
    try clear hcz22_4
    try clear hcz22_5
    try clear hcz24_0
    try clear hcz24_1
    try clear hcz24_10
    try clear hcz24_11
    try clear hcz24_2
    try clear hcz24_3
    try clear hcz24_4
    try clear hcz24_5
    try clear hcz24_6
    try clear hcz24_7
    try clear hcz24_8
    try clear hcz24_9
    try clear hcz7_0
    try clear hcz7_1
    try clear hcz7_2
    try clear hcz7_3
    try clear hcz7_4
    try clear hcz7_5
    try clear hfz11_0
    try clear hfz11_1
    try clear hfz11_2
    try clear hfz11_3
    try clear hfz11_4
    try clear hfz11_5
    try clear hfz13_0
    try clear hfz13_1
    try clear hfz13_2
    try clear hfz13_3
    try clear hfz13_4
    try clear hfz13_5
    try clear hfz18_0
    try clear hfz18_1
    try clear hfz18_10
    try clear hfz18_11
    try clear hfz18_2
    try clear hfz18_3
    try clear hfz18_4
    try clear hfz18_5
    try clear hfz18_6
    try clear hfz18_7
    try clear hfz18_8
    try clear hfz18_9
    try clear hfz19_0
    try clear hfz19_1
    try clear hfz19_2
    try clear hfz19_3
    try clear hfz19_4
    try clear hfz19_5
    try clear hfz21_0
    try clear hfz21_1
    try clear hfz21_10
    try clear hfz21_11
    try clear hfz21_2
    try clear hfz21_3
    try clear hfz21_4
    try clear hfz21_5
    try clear hfz21_6
    try clear hfz21_7
    try clear hfz21_8
    try clear hfz21_9
    try clear hfz22_0
    try clear hfz22_1
    try clear hfz22_2
    try clear hfz22_3
    try clear hfz22_4
    try clear hfz22_5
    try clear hfz24_0
    try clear hfz24_1
    try clear hfz24_10
    try clear hfz24_11
    try clear hfz24_2
    try clear hfz24_3
    try clear hfz24_4
    try clear hfz24_5
    try clear hfz24_6
    try clear hfz24_7
    try clear hfz24_8
    try clear hfz24_9
    try clear hfz7_0
    try clear hfz7_1
    try clear hfz7_2
    try clear hfz7_3
    try clear hfz7_4
    try clear hfz7_5
    obtain ⟨kq, x5_2, x6_2, rfl, rfl, HA, HJ2, BK109, BK110, HB⟩ := hcut
    cases kq with
    | zero => exact absurd HA.out (by simp [trend_Check.j0])
    | succ kj2 =>
      have H := HA.out
      clear HA
      simp only [trend_Check.j0] at H
      replace H := Option.bind_eq_some_iff.mp H
      obtain ⟨t111, A250, H⟩ := H
      replace H : (if t111 = true then (if a0_1.toList = a1_0.toList then (if a0_2 = 1 then (trend_Check.j1 kj2 x5_2 x6_2 false a0_0 a0_1 a0_2 a0_3 a0_4 a0_5) else (if a0_2 = 2 then (trend_Check.j1 kj2 x5_2 x6_2 false a0_0 a0_1 a0_2 a0_3 a0_4 a0_5) else (trend_Check.j1 kj2 x5_2 x6_2 (a0_2 != 3) a0_0 a0_1 a0_2 a0_3 a0_4 a0_5))) else (some 3)) else (some 4)) = some r := H
      have A25 := Aside0.mk A250
      clear A250
      by_cases c26 : t111 = true
      · subst c26
        have H1 : (if a0_1.toList = a1_0.toList then (if a0_2 = 1 then (trend_Check.j1 kj2 x5_2 x6_2 false a0_0 a0_1 a0_2 a0_3 a0_4 a0_5) else (if a0_2 = 2 then (trend_Check.j1 kj2 x5_2 x6_2 false a0_0 a0_1 a0_2 a0_3 a0_4 a0_5) else (trend_Check.j1 kj2 x5_2 x6_2 (a0_2 != 3) a0_0 a0_1 a0_2 a0_3 a0_4 a0_5))) else (some 3)) = some r := by rw [if_pos rfl] at H; exact H
        clear H
        have H := H1
        clear H1
        by_cases c27 : a0_1.toList = a1_0.toList
        · rw [if_pos c27] at H
          have c27b0 : (a0_1.toList == a1_0.toList) = true := beq_iff_eq.mpr c27
          have c27b1 : (a0_1.toList != a1_0.toList) = false := bne_eq_false_iff_eq.mpr c27
          clear c27
          have HC28 := Aside0.mk H
          clear H
          have hnb29 := NB109_110.out
          have hnc29 := NB110_109.out
          have hcz30_0 : wc.cell? ⟨gb109, 0, none⟩ = some (.string a0_0) := (blk_cell BK109.out 0).trans rfl
          have hcz30_1 : wc.cell? ⟨gb109, 1, none⟩ = some (.string a0_1) := (blk_cell BK109.out 1).trans rfl
          have hcz30_2 : wc.cell? ⟨gb109, 2, none⟩ = some (.int .i64 a0_2) := (blk_cell BK109.out 2).trans rfl
          have hcz30_3 : wc.cell? ⟨gb109, 3, none⟩ = some (.int .i64 a0_3) := (blk_cell BK109.out 3).trans rfl
          have hcz30_4 : wc.cell? ⟨gb109, 4, none⟩ = some (.int .i64 a0_4) := (blk_cell BK109.out 4).trans rfl
          have hcz30_5 : wc.cell? ⟨gb109, 5, none⟩ = some (.int .i64 a0_5) := (blk_cell BK109.out 5).trans rfl
          have hfz30_0 := blk_frozen BK109.out 0
          have hfz30_1 := blk_frozen BK109.out 1
          have hfz30_2 := blk_frozen BK109.out 2
          have hfz30_3 := blk_frozen BK109.out 3
          have hfz30_4 := blk_frozen BK109.out 4
          have hfz30_5 := blk_frozen BK109.out 5
          go_upto_region 12 with (first | (go_at_call 29; (with_reducible refine (lexer_Name.calls a0_0 true _ ?side99  A25.out).mono ?_); (case side99 => first | exact HG.out | exact Glob.below HG.out (by repeat (first | (with_reducible first | exact HB.out | apply below_alloc | apply pw_below_drewN | apply below_drew1 | refine below_set ?_ GE109.out | refine below_set ?_ GE110.out) | exact HB.out))); rintro e w31 ⟨rfl, hb⟩; have n0_ := Aside0.mk (blk_below (g := gb109) (o := .cells #[.string a0_0, .string a0_1, .int .i64 a0_2, .int .i64 a0_3, .int .i64 a0_4, .int .i64 a0_5] 23 (0, 0)) (by (with_reducible repeat (first | refine blk_drewN ?_ _ | refine blk_drew ?_ | refine blk_alloc ?_ _)); exact BK109.out) hb); have n1_ := Aside0.mk (blk_below (g := gb110) (o := .cells #[.string a1_0, .int .i64 a1_1, .int .i64 a1_2, .string a1_3, .int .i64 a1_4, .int .i64 a1_5, .int .i64 a1_6, .slice A1_7 l1_7.length c1_7, .int .i64 a1_8, .int .i64 a1_9, .int .i64 a1_10, .int .i64 a1_11] 51 (0, 0)) (by (with_reducible repeat (first | refine blk_drewN ?_ _ | refine blk_drew ?_ | refine blk_alloc ?_ _)); exact BK110.out) hb); have n2_ := Aside0.mk (below_step (by repeat (first | (with_reducible first | exact HB.out | apply below_alloc | apply pw_below_drewN | apply below_drew1 | refine below_set ?_ GE109.out | refine below_set ?_ GE110.out) | exact HB.out)) hb); clear BK109; clear BK110; clear HB; have BK109 := n0_; have BK110 := n1_; have HB := n2_; clear n0_ n1_ n2_; (try clear hb); (try clear hb2); (try clear hk); (try clear hi); have hcz32_0 : w31.cell? ⟨gb109, 0, none⟩ = some (.string a0_0) := (blk_cell BK109.out 0).trans rfl; have hcz32_1 : w31.cell? ⟨gb109, 1, none⟩ = some (.string a0_1) := (blk_cell BK109.out 1).trans rfl; have hcz32_2 : w31.cell? ⟨gb109, 2, none⟩ = some (.int .i64 a0_2) := (blk_cell BK109.out 2).trans rfl; have hcz32_3 : w31.cell? ⟨gb109, 3, none⟩ = some (.int .i64 a0_3) := (blk_cell BK109.out 3).trans rfl; have hcz32_4 : w31.cell? ⟨gb109, 4, none⟩ = some (.int .i64 a0_4) := (blk_cell BK109.out 4).trans rfl; have hcz32_5 : w31.cell? ⟨gb109, 5, none⟩ = some (.int .i64 a0_5) := (blk_cell BK109.out 5).trans rfl; have hfz32_0 := blk_frozen BK109.out 0; have hfz32_1 := blk_frozen BK109.out 1; have hfz32_2 := blk_frozen BK109.out 2; have hfz32_3 := blk_frozen BK109.out 3; have hfz32_4 := blk_frozen BK109.out 4; have hfz32_5 := blk_frozen BK109.out 5; have hcz33_0 : w31.cell? ⟨gb110, 0, none⟩ = some (.string a1_0) := (blk_cell BK110.out 0).trans rfl; have hcz33_1 : w31.cell? ⟨gb110, 1, none⟩ = some (.int .i64 a1_1) := (blk_cell BK110.out 1).trans rfl; have hcz33_2 : w31.cell? ⟨gb110, 2, none⟩ = some (.int .i64 a1_2) := (blk_cell BK110.out 2).trans rfl; have hcz33_3 : w31.cell? ⟨gb110, 3, none⟩ = some (.string a1_3) := (blk_cell BK110.out 3).trans rfl; have hcz33_4 : w31.cell? ⟨gb110, 4, none⟩ = some (.int .i64 a1_4) := (blk_cell BK110.out 4).trans rfl; have hcz33_5 : w31.cell? ⟨gb110, 5, none⟩ = some (.int .i64 a1_5) := (blk_cell BK110.out 5).trans rfl; have hcz33_6 : w31.cell? ⟨gb110, 6, none⟩ = some (.int .i64 a1_6) := (blk_cell BK110.out 6).trans rfl; have hcz33_7 : w31.cell? ⟨gb110, 7, none⟩ = some (.slice A1_7 l1_7.length c1_7) := (blk_cell BK110.out 7).trans rfl; have hcz33_8 : w31.cell? ⟨gb110, 8, none⟩ = some (.int .i64 a1_8) := (blk_cell BK110.out 8).trans rfl; have hcz33_9 : w31.cell? ⟨gb110, 9, none⟩ = some (.int .i64 a1_9) := (blk_cell BK110.out 9).trans rfl; have hcz33_10 : w31.cell? ⟨gb110, 10, none⟩ = some (.int .i64 a1_10) := (blk_cell BK110.out 10).trans rfl; have hcz33_11 : w31.cell? ⟨gb110, 11, none⟩ = some (.int .i64 a1_11) := (blk_cell BK110.out 11).trans rfl; have hfz33_0 := blk_frozen BK110.out 0; have hfz33_1 := blk_frozen BK110.out 1; have hfz33_2 := blk_frozen BK110.out 2; have hfz33_3 := blk_frozen BK110.out 3; have hfz33_4 := blk_frozen BK110.out 4; have hfz33_5 := blk_frozen BK110.out 5; have hfz33_6 := blk_frozen BK110.out 6; have hfz33_7 := blk_frozen BK110.out 7; have hfz33_8 := blk_frozen BK110.out 8; have hfz33_9 := blk_frozen BK110.out 9; have hfz33_10 := blk_frozen BK110.out 10; have hfz33_11 := blk_frozen BK110.out 11))
          repeat (go_quiet (first | (go_at_call 29; (with_reducible refine (lexer_Name.calls a0_0 true _ ?side99  A25.out).mono ?_); (case side99 => first | exact HG.out | exact Glob.below HG.out (by repeat (first | (with_reducible first | exact HB.out | apply below_alloc | apply pw_below_drewN | apply below_drew1 | refine below_set ?_ GE109.out | refine below_set ?_ GE110.out) | exact HB.out))); rintro e w31 ⟨rfl, hb⟩; have n0_ := Aside0.mk (blk_below (g := gb109) (o := .cells #[.string a0_0, .string a0_1, .int .i64 a0_2, .int .i64 a0_3, .int .i64 a0_4, .int .i64 a0_5] 23 (0, 0)) (by (with_reducible repeat (first | refine blk_drewN ?_ _ | refine blk_drew ?_ | refine blk_alloc ?_ _)); exact BK109.out) hb); have n1_ := Aside0.mk (blk_below (g := gb110) (o := .cells #[.string a1_0, .int .i64 a1_1, .int .i64 a1_2, .string a1_3, .int .i64 a1_4, .int .i64 a1_5, .int .i64 a1_6, .slice A1_7 l1_7.length c1_7, .int .i64 a1_8, .int .i64 a1_9, .int .i64 a1_10, .int .i64 a1_11] 51 (0, 0)) (by (with_reducible repeat (first | refine blk_drewN ?_ _ | refine blk_drew ?_ | refine blk_alloc ?_ _)); exact BK110.out) hb); have n2_ := Aside0.mk (below_step (by repeat (first | (with_reducible first | exact HB.out | apply below_alloc | apply pw_below_drewN | apply below_drew1 | refine below_set ?_ GE109.out | refine below_set ?_ GE110.out) | exact HB.out)) hb); clear BK109; clear BK110; clear HB; have BK109 := n0_; have BK110 := n1_; have HB := n2_; clear n0_ n1_ n2_; (try clear hb); (try clear hb2); (try clear hk); (try clear hi); have hcz32_0 : w31.cell? ⟨gb109, 0, none⟩ = some (.string a0_0) := (blk_cell BK109.out 0).trans rfl; have hcz32_1 : w31.cell? ⟨gb109, 1, none⟩ = some (.string a0_1) := (blk_cell BK109.out 1).trans rfl; have hcz32_2 : w31.cell? ⟨gb109, 2, none⟩ = some (.int .i64 a0_2) := (blk_cell BK109.out 2).trans rfl; have hcz32_3 : w31.cell? ⟨gb109, 3, none⟩ = some (.int .i64 a0_3) := (blk_cell BK109.out 3).trans rfl; have hcz32_4 : w31.cell? ⟨gb109, 4, none⟩ = some (.int .i64 a0_4) := (blk_cell BK109.out 4).trans rfl; have hcz32_5 : w31.cell? ⟨gb109, 5, none⟩ = some (.int .i64 a0_5) := (blk_cell BK109.out 5).trans rfl; have hfz32_0 := blk_frozen BK109.out 0; have hfz32_1 := blk_frozen BK109.out 1; have hfz32_2 := blk_frozen BK109.out 2; have hfz32_3 := blk_frozen BK109.out 3; have hfz32_4 := blk_frozen BK109.out 4; have hfz32_5 := blk_frozen BK109.out 5; have hcz33_0 : w31.cell? ⟨gb110, 0, none⟩ = some (.string a1_0) := (blk_cell BK110.out 0).trans rfl; have hcz33_1 : w31.cell? ⟨gb110, 1, none⟩ = some (.int .i64 a1_1) := (blk_cell BK110.out 1).trans rfl; have hcz33_2 : w31.cell? ⟨gb110, 2, none⟩ = some (.int .i64 a1_2) := (blk_cell BK110.out 2).trans rfl; have hcz33_3 : w31.cell? ⟨gb110, 3, none⟩ = some (.string a1_3) := (blk_cell BK110.out 3).trans rfl; have hcz33_4 : w31.cell? ⟨gb110, 4, none⟩ = some (.int .i64 a1_4) := (blk_cell BK110.out 4).trans rfl; have hcz33_5 : w31.cell? ⟨gb110, 5, none⟩ = some (.int .i64 a1_5) := (blk_cell BK110.out 5).trans rfl; have hcz33_6 : w31.cell? ⟨gb110, 6, none⟩ = some (.int .i64 a1_6) := (blk_cell BK110.out 6).trans rfl; have hcz33_7 : w31.cell? ⟨gb110, 7, none⟩ = some (.slice A1_7 l1_7.length c1_7) := (blk_cell BK110.out 7).trans rfl; have hcz33_8 : w31.cell? ⟨gb110, 8, none⟩ = some (.int .i64 a1_8) := (blk_cell BK110.out 8).trans rfl; have hcz33_9 : w31.cell? ⟨gb110, 9, none⟩ = some (.int .i64 a1_9) := (blk_cell BK110.out 9).trans rfl; have hcz33_10 : w31.cell? ⟨gb110, 10, none⟩ = some (.int .i64 a1_10) := (blk_cell BK110.out 10).trans rfl; have hcz33_11 : w31.cell? ⟨gb110, 11, none⟩ = some (.int .i64 a1_11) := (blk_cell BK110.out 11).trans rfl; have hfz33_0 := blk_frozen BK110.out 0; have hfz33_1 := blk_frozen BK110.out 1; have hfz33_2 := blk_frozen BK110.out 2; have hfz33_3 := blk_frozen BK110.out 3; have hfz33_4 := blk_frozen BK110.out 4; have hfz33_5 := blk_frozen BK110.out 5; have hfz33_6 := blk_frozen BK110.out 6; have hfz33_7 := blk_frozen BK110.out 7; have hfz33_8 := blk_frozen BK110.out 8; have hfz33_9 := blk_frozen BK110.out 9; have hfz33_10 := blk_frozen BK110.out 10; have hfz33_11 := blk_frozen BK110.out 11)); go_upto_region 12 with (first | (go_at_call 29; (with_reducible refine (lexer_Name.calls a0_0 true _ ?side99  A25.out).mono ?_); (case side99 => first | exact HG.out | exact Glob.below HG.out (by repeat (first | (with_reducible first | exact HB.out | apply below_alloc | apply pw_below_drewN | apply below_drew1 | refine below_set ?_ GE109.out | refine below_set ?_ GE110.out) | exact HB.out))); rintro e w31 ⟨rfl, hb⟩; have n0_ := Aside0.mk (blk_below (g := gb109) (o := .cells #[.string a0_0, .string a0_1, .int .i64 a0_2, .int .i64 a0_3, .int .i64 a0_4, .int .i64 a0_5] 23 (0, 0)) (by (with_reducible repeat (first | refine blk_drewN ?_ _ | refine blk_drew ?_ | refine blk_alloc ?_ _)); exact BK109.out) hb); have n1_ := Aside0.mk (blk_below (g := gb110) (o := .cells #[.string a1_0, .int .i64 a1_1, .int .i64 a1_2, .string a1_3, .int .i64 a1_4, .int .i64 a1_5, .int .i64 a1_6, .slice A1_7 l1_7.length c1_7, .int .i64 a1_8, .int .i64 a1_9, .int .i64 a1_10, .int .i64 a1_11] 51 (0, 0)) (by (with_reducible repeat (first | refine blk_drewN ?_ _ | refine blk_drew ?_ | refine blk_alloc ?_ _)); exact BK110.out) hb); have n2_ := Aside0.mk (below_step (by repeat (first | (with_reducible first | exact HB.out | apply below_alloc | apply pw_below_drewN | apply below_drew1 | refine below_set ?_ GE109.out | refine below_set ?_ GE110.out) | exact HB.out)) hb); clear BK109; clear BK110; clear HB; have BK109 := n0_; have BK110 := n1_; have HB := n2_; clear n0_ n1_ n2_; (try clear hb); (try clear hb2); (try clear hk); (try clear hi); have hcz32_0 : w31.cell? ⟨gb109, 0, none⟩ = some (.string a0_0) := (blk_cell BK109.out 0).trans rfl; have hcz32_1 : w31.cell? ⟨gb109, 1, none⟩ = some (.string a0_1) := (blk_cell BK109.out 1).trans rfl; have hcz32_2 : w31.cell? ⟨gb109, 2, none⟩ = some (.int .i64 a0_2) := (blk_cell BK109.out 2).trans rfl; have hcz32_3 : w31.cell? ⟨gb109, 3, none⟩ = some (.int .i64 a0_3) := (blk_cell BK109.out 3).trans rfl; have hcz32_4 : w31.cell? ⟨gb109, 4, none⟩ = some (.int .i64 a0_4) := (blk_cell BK109.out 4).trans rfl; have hcz32_5 : w31.cell? ⟨gb109, 5, none⟩ = some (.int .i64 a0_5) := (blk_cell BK109.out 5).trans rfl; have hfz32_0 := blk_frozen BK109.out 0; have hfz32_1 := blk_frozen BK109.out 1; have hfz32_2 := blk_frozen BK109.out 2; have hfz32_3 := blk_frozen BK109.out 3; have hfz32_4 := blk_frozen BK109.out 4; have hfz32_5 := blk_frozen BK109.out 5; have hcz33_0 : w31.cell? ⟨gb110, 0, none⟩ = some (.string a1_0) := (blk_cell BK110.out 0).trans rfl; have hcz33_1 : w31.cell? ⟨gb110, 1, none⟩ = some (.int .i64 a1_1) := (blk_cell BK110.out 1).trans rfl; have hcz33_2 : w31.cell? ⟨gb110, 2, none⟩ = some (.int .i64 a1_2) := (blk_cell BK110.out 2).trans rfl; have hcz33_3 : w31.cell? ⟨gb110, 3, none⟩ = some (.string a1_3) := (blk_cell BK110.out 3).trans rfl; have hcz33_4 : w31.cell? ⟨gb110, 4, none⟩ = some (.int .i64 a1_4) := (blk_cell BK110.out 4).trans rfl; have hcz33_5 : w31.cell? ⟨gb110, 5, none⟩ = some (.int .i64 a1_5) := (blk_cell BK110.out 5).trans rfl; have hcz33_6 : w31.cell? ⟨gb110, 6, none⟩ = some (.int .i64 a1_6) := (blk_cell BK110.out 6).trans rfl; have hcz33_7 : w31.cell? ⟨gb110, 7, none⟩ = some (.slice A1_7 l1_7.length c1_7) := (blk_cell BK110.out 7).trans rfl; have hcz33_8 : w31.cell? ⟨gb110, 8, none⟩ = some (.int .i64 a1_8) := (blk_cell BK110.out 8).trans rfl; have hcz33_9 : w31.cell? ⟨gb110, 9, none⟩ = some (.int .i64 a1_9) := (blk_cell BK110.out 9).trans rfl; have hcz33_10 : w31.cell? ⟨gb110, 10, none⟩ = some (.int .i64 a1_10) := (blk_cell BK110.out 10).trans rfl; have hcz33_11 : w31.cell? ⟨gb110, 11, none⟩ = some (.int .i64 a1_11) := (blk_cell BK110.out 11).trans rfl; have hfz33_0 := blk_frozen BK110.out 0; have hfz33_1 := blk_frozen BK110.out 1; have hfz33_2 := blk_frozen BK110.out 2; have hfz33_3 := blk_frozen BK110.out 3; have hfz33_4 := blk_frozen BK110.out 4; have hfz33_5 := blk_frozen BK110.out 5; have hfz33_6 := blk_frozen BK110.out 6; have hfz33_7 := blk_frozen BK110.out 7; have hfz33_8 := blk_frozen BK110.out 8; have hfz33_9 := blk_frozen BK110.out 9; have hfz33_10 := blk_frozen BK110.out 10; have hfz33_11 := blk_frozen BK110.out 11)))
          (try simp only [Act.put, List.setIfInBounds_toArray, List.set_cons_zero, List.set_cons_succ])
          go_cut [49] (fun v49 wc => ∃ (kq : Nat) (x49_27 : Bool), v49 = .bool x49_27 ∧ Aside0 (trend_Check.j1 kq x5_2 x6_2 x49_27 a0_0 a0_1 a0_2 a0_3 a0_4 a0_5 = some r) ∧ Aside0 (kq ≤ kj2) ∧ Aside0 (wc.heap[gb109]? = some (.cells #[.string a0_0, .string a0_1, .int .i64 a0_2, .int .i64 a0_3, .int .i64 a0_4, .int .i64 a0_5] 23 (0, 0))) ∧ Aside0 (wc.heap[gb110]? = some (.cells #[.string a1_0, .int .i64 a1_1, .int .i64 a1_2, .string a1_3, .int .i64 a1_4, .int .i64 a1_5, .int .i64 a1_6, (.slice A1_7 l1_7.length c1_7), .int .i64 a1_8, .int .i64 a1_9, .int .i64 a1_10, .int .i64 a1_11] 51 (0, 0))) ∧ Aside0 (Below w.heap.size w wc))
          case first =>
            have H := HC28.out
            clear HC28
            by_cases c34 : a0_2 = 1
            · rw [if_pos c34] at H
              have c34b0 : (a0_2 == 1) = true := beq_iff_eq.mpr c34
              have c34b1 : (a0_2 != 1) = false := bne_eq_false_iff_eq.mpr c34
              clear c34
              (first | rw [c34b0] | (simp only [i64_w, i32_w]; rw [c34b0]) | skip)
              have H' := Aside0.mk H
              clear H
              have hnb35 := NB109_110.out
              have hnc35 := NB110_109.out
              have hcz36_0 : w31.cell? ⟨gb109, 0, none⟩ = some (.string a0_0) := (blk_cell BK109.out 0).trans rfl
              have hcz36_1 : w31.cell? ⟨gb109, 1, none⟩ = some (.string a0_1) := (blk_cell BK109.out 1).trans rfl
              have hcz36_2 : w31.cell? ⟨gb109, 2, none⟩ = some (.int .i64 a0_2) := (blk_cell BK109.out 2).trans rfl
              have hcz36_3 : w31.cell? ⟨gb109, 3, none⟩ = some (.int .i64 a0_3) := (blk_cell BK109.out 3).trans rfl
              have hcz36_4 : w31.cell? ⟨gb109, 4, none⟩ = some (.int .i64 a0_4) := (blk_cell BK109.out 4).trans rfl
              have hcz36_5 : w31.cell? ⟨gb109, 5, none⟩ = some (.int .i64 a0_5) := (blk_cell BK109.out 5).trans rfl
              have hfz36_0 := blk_frozen BK109.out 0
              have hfz36_1 := blk_frozen BK109.out 1
              have hfz36_2 := blk_frozen BK109.out 2
              have hfz36_3 := blk_frozen BK109.out 3
              have hfz36_4 := blk_frozen BK109.out 4
              have hfz36_5 := blk_frozen BK109.out 5
              go_wp2
              repeat (go_quiet (fail); try go_wp2)
              go_meet
              case rel => exact ⟨_, (false), (by first | rfl | (simp; done) | (simp [*]; done)), H', ⟨by have := HJ2.out; first | omega | exact Nat.le_refl _⟩, ⟨by (with_reducible repeat (first | refine blk_drewN ?_ _ | refine blk_drew ?_ | refine blk_alloc ?_ _)); exact BK109.out⟩, ⟨by (with_reducible repeat (first | refine blk_drewN ?_ _ | refine blk_drew ?_ | refine blk_alloc ?_ _)); exact BK110.out⟩, ⟨by repeat (first | (with_reducible first | exact HB.out | apply below_alloc | apply pw_below_drewN | apply below_drew1 | refine below_set ?_ GE109.out | refine below_set ?_ GE110.out) | exact HB.out)⟩⟩
            · rw [if_neg c34] at H
              have c34b0 : (a0_2 == 1) = false := beq_eq_false_iff_ne.mpr c34
              have c34b1 : (a0_2 != 1) = true := bne_iff_ne.mpr c34
              (first | rw [c34b0] | (simp only [i64_w, i32_w]; rw [c34b0]) | skip)
              by_cases c37 : a0_2 = 2
              · rw [if_pos c37] at H
                have c37b0 : (a0_2 == 2) = true := beq_iff_eq.mpr c37
                have c37b1 : (a0_2 != 2) = false := bne_eq_false_iff_eq.mpr c37
                clear c37
                have H' := Aside0.mk H
                clear H
                have hnb38 := NB109_110.out
                have hnc38 := NB110_109.out
                have hcz39_0 : w31.cell? ⟨gb109, 0, none⟩ = some (.string a0_0) := (blk_cell BK109.out 0).trans rfl
                have hcz39_1 : w31.cell? ⟨gb109, 1, none⟩ = some (.string a0_1) := (blk_cell BK109.out 1).trans rfl
                have hcz39_2 : w31.cell? ⟨gb109, 2, none⟩ = some (.int .i64 a0_2) := (blk_cell BK109.out 2).trans rfl
                have hcz39_3 : w31.cell? ⟨gb109, 3, none⟩ = some (.int .i64 a0_3) := (blk_cell BK109.out 3).trans rfl
                have hcz39_4 : w31.cell? ⟨gb109, 4, none⟩ = some (.int .i64 a0_4) := (blk_cell BK109.out 4).trans rfl
                have hcz39_5 : w31.cell? ⟨gb109, 5, none⟩ = some (.int .i64 a0_5) := (blk_cell BK109.out 5).trans rfl
                have hfz39_0 := blk_frozen BK109.out 0
                have hfz39_1 := blk_frozen BK109.out 1
                have hfz39_2 := blk_frozen BK109.out 2
                have hfz39_3 := blk_frozen BK109.out 3
                have hfz39_4 := blk_frozen BK109.out 4
                have hfz39_5 := blk_frozen BK109.out 5
                go_wp2
                repeat (go_quiet (fail); try go_wp2)
                go_meet
                case rel => exact ⟨_, (false), (by first | rfl | (simp; done) | (simp [*]; done)), H', ⟨by have := HJ2.out; first | omega | exact Nat.le_refl _⟩, ⟨by (with_reducible repeat (first | refine blk_drewN ?_ _ | refine blk_drew ?_ | refine blk_alloc ?_ _)); exact BK109.out⟩, ⟨by (with_reducible repeat (first | refine blk_drewN ?_ _ | refine blk_drew ?_ | refine blk_alloc ?_ _)); exact BK110.out⟩, ⟨by repeat (first | (with_reducible first | exact HB.out | apply below_alloc | apply pw_below_drewN | apply below_drew1 | refine below_set ?_ GE109.out | refine below_set ?_ GE110.out) | exact HB.out)⟩⟩
              · rw [if_neg c37] at H
                have c37b0 : (a0_2 == 2) = false := beq_eq_false_iff_ne.mpr c37
                have c37b1 : (a0_2 != 2) = true := bne_iff_ne.mpr c37
                have H' := Aside0.mk H
                clear H
                have hnb40 := NB109_110.out
                have hnc40 := NB110_109.out
                have hcz41_0 : w31.cell? ⟨gb109, 0, none⟩ = some (.string a0_0) := (blk_cell BK109.out 0).trans rfl
                have hcz41_1 : w31.cell? ⟨gb109, 1, none⟩ = some (.string a0_1) := (blk_cell BK109.out 1).trans rfl
                have hcz41_2 : w31.cell? ⟨gb109, 2, none⟩ = some (.int .i64 a0_2) := (blk_cell BK109.out 2).trans rfl
                have hcz41_3 : w31.cell? ⟨gb109, 3, none⟩ = some (.int .i64 a0_3) := (blk_cell BK109.out 3).trans rfl
                have hcz41_4 : w31.cell? ⟨gb109, 4, none⟩ = some (.int .i64 a0_4) := (blk_cell BK109.out 4).trans rfl
                have hcz41_5 : w31.cell? ⟨gb109, 5, none⟩ = some (.int .i64 a0_5) := (blk_cell BK109.out 5).trans rfl
                have hfz41_0 := blk_frozen BK109.out 0
                have hfz41_1 := blk_frozen BK109.out 1
                have hfz41_2 := blk_frozen BK109.out 2
                have hfz41_3 := blk_frozen BK109.out 3
                have hfz41_4 := blk_frozen BK109.out 4
                have hfz41_5 := blk_frozen BK109.out 5
                go_wp2
                repeat (go_quiet (fail); try go_wp2)
                go_meet
                case rel => exact ⟨_, ((a0_2 != 3)), (by first | rfl | (simp; done) | (simp [*]; done)), H', ⟨by have := HJ2.out; first | omega | exact Nat.le_refl _⟩, ⟨by (with_reducible repeat (first | refine blk_drewN ?_ _ | refine blk_drew ?_ | refine blk_alloc ?_ _)); exact BK109.out⟩, ⟨by (with_reducible repeat (first | refine blk_drewN ?_ _ | refine blk_drew ?_ | refine blk_alloc ?_ _)); exact BK110.out⟩, ⟨by repeat (first | (with_reducible first | exact HB.out | apply below_alloc | apply pw_below_drewN | apply below_drew1 | refine below_set ?_ GE109.out | refine below_set ?_ GE110.out) | exact HB.out)⟩⟩
          case rest =>
            clear HC28
            try clear c1
            try clear c2
            try clear p2
            try clear c3
            try clear c4
            try clear c6
            try clear c8
            try clear c8b0
            try clear c8b1
            try clear c9
            try clear c9b0
            try clear c10
            try clear c12
            try clear c14
            try clear c14b0
            try clear c14b1
            try clear c15
            try clear c15b0
            try clear c15b1
            try clear c16
            try clear c16b0
            try clear c17
            try clear c20
            try clear c23
            try clear c26
            try clear c27
            try clear c27b0
            try clear c27b1
            try clear c29
            try clear c34
            try clear c34b0
            try clear c34b1
            try clear c35
            try clear c37
            try clear c37b0
            try clear c37b1
            try clear c38
            try clear c40
            try clear hcz11_0
            try clear hcz11_1
            try clear hcz11_2
            try clear hcz11_3
            try clear hcz11_4
            try clear hcz11_5
            try clear hcz13_0
            try clear hcz13_1
            try clear hcz13_2
            try clear hcz13_3
            try clear hcz13_4
            try clear hcz13_5
            try clear hcz18_0
            try clear hcz18_1
            try clear hcz18_10
            try clear hcz18_11
            try clear hcz18_2
            try clear hcz18_3
            try clear hcz18_4
            try clear hcz18_5
            try clear hcz18_6
            try clear hcz18_7
            try clear hcz18_8
            try clear hcz18_9
            try clear hcz19_0
            try clear hcz19_1
            try clear hcz19_2
            try clear hcz19_3
            try clear hcz19_4
            try clear hcz19_5
            try clear hcz21_0
            try clear hcz21_1
            try clear hcz21_10
            try clear hcz21_11
            try clear hcz21_2
            try clear hcz21_3
            try clear hcz21_4
            try clear hcz21_5
            try clear hcz21_6
            try clear hcz21_7
            try clear hcz21_8
            try clear hcz21_9
            try clear hcz22_0
            try clear hcz22_1
            try clear hcz22_2
            try clear hcz22_3
            try clear hcz22_4
            try clear hcz22_5
            try clear hcz24_0
            try clear hcz24_1
            try clear hcz24_10
            try clear hcz24_11
            try clear hcz24_2
            try clear hcz24_3
            try clear hcz24_4
            try clear hcz24_5
            try clear hcz24_6
            try clear hcz24_7
            try clear hcz24_8
            try clear hcz24_9
            try clear hcz30_0
            try clear hcz30_1
            try clear hcz30_2
            try clear hcz30_3
            try clear hcz30_4
            try clear hcz30_5
            try clear hcz32_0
            try clear hcz32_1
            try clear hcz32_2
            try clear hcz32_3
            try clear hcz32_4
            try clear hcz32_5
            try clear hcz33_0
            try clear hcz33_1
            try clear hcz33_10
            try clear hcz33_11
            try clear hcz33_2
            try clear hcz33_3
            try clear hcz33_4
            try clear hcz33_5
            try clear hcz33_6
            try clear hcz33_7
            try clear hcz33_8
            try clear hcz33_9
            try clear hcz36_0
            try clear hcz36_1
            try clear hcz36_2
            try clear hcz36_3
            try clear hcz36_4
            try clear hcz36_5
            try clear hcz39_0
            try clear hcz39_1
            try clear hcz39_2
            try clear hcz39_3
            try clear hcz39_4
            try clear hcz39_5
            try clear hcz41_0
            try clear hcz41_1
            try clear hcz41_2
            try clear hcz41_3
            try clear hcz41_4
            try clear hcz41_5
            try clear hcz7_0
            try clear hcz7_1
            try clear hcz7_2
            try clear hcz7_3
            try clear hcz7_4
            try clear hcz7_5
            try clear hfz11_0
            try clear hfz11_1
            try clear hfz11_2
            try clear hfz11_3
            try clear hfz11_4
            try clear hfz11_5
            try clear hfz13_0
            try clear hfz13_1
            try clear hfz13_2
            try clear hfz13_3
            try clear hfz13_4
            try clear hfz13_5
            try clear hfz18_0
            try clear hfz18_1
            try clear hfz18_10
            try clear hfz18_11
            try clear hfz18_2
            try clear hfz18_3
            try clear hfz18_4
            try clear hfz18_5
            try clear hfz18_6
            try clear hfz18_7
            try clear hfz18_8
            try clear hfz18_9
            try clear hfz19_0
            try clear hfz19_1
            try clear hfz19_2
            try clear hfz19_3
            try clear hfz19_4
            try clear hfz19_5
            try clear hfz21_0
            try clear hfz21_1
            try clear hfz21_10
            try clear hfz21_11
            try clear hfz21_2
            try clear hfz21_3
            try clear hfz21_4
            try clear hfz21_5
            try clear hfz21_6
            try clear hfz21_7
            try clear hfz21_8
            try clear hfz21_9
            try clear hfz22_0
            try clear hfz22_1
            try clear hfz22_2
            try clear hfz22_3
            try clear hfz22_4
            try clear hfz22_5
            try clear hfz24_0
            try clear hfz24_1
            try clear hfz24_10
            try clear hfz24_11
            try clear hfz24_2
            try clear hfz24_3
            try clear hfz24_4
            try clear hfz24_5
            try clear hfz24_6
            try clear hfz24_7
            try clear hfz24_8
            try clear hfz24_9
            try clear hfz30_0
            try clear hfz30_1
            try clear hfz30_2
            try clear hfz30_3
            try clear hfz30_4
            try clear hfz30_5
            try clear hfz32_0
            try clear hfz32_1
            try clear hfz32_2
            try clear hfz32_3
            try clear hfz32_4
            try clear hfz32_5
            try clear hfz33_0
            try clear hfz33_1
            try clear hfz33_10
            try clear hfz33_11
            try clear hfz33_2
            try clear hfz33_3
            try clear hfz33_4
            try clear hfz33_5
            try clear hfz33_6
            try clear hfz33_7
            try clear hfz33_8
            try clear hfz33_9
            try clear hfz36_0
            try clear hfz36_1
            try clear hfz36_2
            try clear hfz36_3
            try clear hfz36_4
            try clear hfz36_5
            try clear hfz39_0
            try clear hfz39_1
            try clear hfz39_2
            try clear hfz39_3
            try clear hfz39_4
            try clear hfz39_5
            try clear hfz41_0
            try clear hfz41_1
            try clear hfz41_2
            try clear hfz41_3
            try clear hfz41_4
            try clear hfz41_5
            try clear hfz7_0
            try clear hfz7_1
            try clear hfz7_2
            try clear hfz7_3
            try clear hfz7_4
            try clear hfz7_5
            try clear p2
            obtain ⟨kq, x49_27, rfl, HA, HJ27, BK109, BK110, HB⟩ := hcut
            cases kq with
            | zero => exact absurd HA.out (by simp [trend_Check.j1])
            | succ kj27 =>
              have H := HA.out
              clear HA
              simp only [trend_Check.j1] at H
              by_cases c42 : x49_27 = true
              · subst c42
                have H1 : (some 1) = some r := by rw [if_pos rfl] at H; exact H
                clear H
                have H := H1
                clear H1
                obtain rfl := Option.some.inj H
                go_wp2
                repeat (go_quiet (fail); try go_wp2)
                go_ret
                exact ⟨by first | rfl | (simp [errW_none, errW_some] <;> rfl) | (simp [*, errW_none, errW_some] <;> rfl), by repeat (first | (with_reducible first | exact HB.out | apply below_alloc | apply pw_below_drewN | apply below_drew1 | refine below_set ?_ GE109.out | refine below_set ?_ GE110.out) | exact HB.out)⟩
              · replace c42 := Bool.eq_false_iff.mpr c42
                subst c42
                have H1 : (if a0_5 < 1 then (some 6) else (if a0_5 > 1024 then (some 6) else (if x5_2 = true then (if x6_2 = true then (some 0) else (some 6)) else (some 6)))) = some r := by rw [if_neg (show ¬ (false = true) by decide)] at H; exact H
                clear H
                have H := H1
                clear H1
                by_cases c43 : a0_5 < 1
                · rw [if_pos c43] at H
                  have c43b0 : decide (a0_5 < 1) = true := decide_eq_true c43
                  clear c43
                  obtain rfl := Option.some.inj H
                  have hnb44 := NB109_110.out
                  have hnc44 := NB110_109.out
                  have hcz45_0 : wc.cell? ⟨gb109, 0, none⟩ = some (.string a0_0) := (blk_cell BK109.out 0).trans rfl
                  have hcz45_1 : wc.cell? ⟨gb109, 1, none⟩ = some (.string a0_1) := (blk_cell BK109.out 1).trans rfl
                  have hcz45_2 : wc.cell? ⟨gb109, 2, none⟩ = some (.int .i64 a0_2) := (blk_cell BK109.out 2).trans rfl
                  have hcz45_3 : wc.cell? ⟨gb109, 3, none⟩ = some (.int .i64 a0_3) := (blk_cell BK109.out 3).trans rfl
                  have hcz45_4 : wc.cell? ⟨gb109, 4, none⟩ = some (.int .i64 a0_4) := (blk_cell BK109.out 4).trans rfl
                  have hcz45_5 : wc.cell? ⟨gb109, 5, none⟩ = some (.int .i64 a0_5) := (blk_cell BK109.out 5).trans rfl
                  have hfz45_0 := blk_frozen BK109.out 0
                  have hfz45_1 := blk_frozen BK109.out 1
                  have hfz45_2 := blk_frozen BK109.out 2
                  have hfz45_3 := blk_frozen BK109.out 3
                  have hfz45_4 := blk_frozen BK109.out 4
                  have hfz45_5 := blk_frozen BK109.out 5
                  go_wp2
                  repeat (go_quiet (fail); try go_wp2)
                  go_ret
                  exact ⟨by first | rfl | (simp [errW_none, errW_some] <;> rfl) | (simp [*, errW_none, errW_some] <;> rfl), by repeat (first | (with_reducible first | exact HB.out | apply below_alloc | apply pw_below_drewN | apply below_drew1 | refine below_set ?_ GE109.out | refine below_set ?_ GE110.out) | exact HB.out)⟩
                · rw [if_neg c43] at H
                  have c43b0 : decide (a0_5 < 1) = false := decide_eq_false c43
                  clear c43
                  by_cases c46 : a0_5 > 1024
                  · rw [if_pos c46] at H
                    have c46b0 : decide (1024 < a0_5) = true := decide_eq_true c46
                    clear c46
                    obtain rfl := Option.some.inj H
                    have hnb47 := NB109_110.out
                    have hnc47 := NB110_109.out
                    have hcz48_0 : wc.cell? ⟨gb109, 0, none⟩ = some (.string a0_0) := (blk_cell BK109.out 0).trans rfl
                    have hcz48_1 : wc.cell? ⟨gb109, 1, none⟩ = some (.string a0_1) := (blk_cell BK109.out 1).trans rfl
                    have hcz48_2 : wc.cell? ⟨gb109, 2, none⟩ = some (.int .i64 a0_2) := (blk_cell BK109.out 2).trans rfl
                    have hcz48_3 : wc.cell? ⟨gb109, 3, none⟩ = some (.int .i64 a0_3) := (blk_cell BK109.out 3).trans rfl
                    have hcz48_4 : wc.cell? ⟨gb109, 4, none⟩ = some (.int .i64 a0_4) := (blk_cell BK109.out 4).trans rfl
                    have hcz48_5 : wc.cell? ⟨gb109, 5, none⟩ = some (.int .i64 a0_5) := (blk_cell BK109.out 5).trans rfl
                    have hfz48_0 := blk_frozen BK109.out 0
                    have hfz48_1 := blk_frozen BK109.out 1
                    have hfz48_2 := blk_frozen BK109.out 2
                    have hfz48_3 := blk_frozen BK109.out 3
                    have hfz48_4 := blk_frozen BK109.out 4
                    have hfz48_5 := blk_frozen BK109.out 5
                    go_wp2
                    repeat (go_quiet (fail); try go_wp2)
                    go_ret
                    exact ⟨by first | rfl | (simp [errW_none, errW_some] <;> rfl) | (simp [*, errW_none, errW_some] <;> rfl), by repeat (first | (with_reducible first | exact HB.out | apply below_alloc | apply pw_below_drewN | apply below_drew1 | refine below_set ?_ GE109.out | refine below_set ?_ GE110.out) | exact HB.out)⟩
                  · rw [if_neg c46] at H
                    have c46b0 : decide (1024 < a0_5) = false := decide_eq_false c46
                    clear c46
                    by_cases c49 : x5_2 = true
                    · subst c49
                      have H1 : (if x6_2 = true then (some 0) else (some 6)) = some r := by rw [if_pos rfl] at H; exact H
                      clear H
                      have H := H1
                      clear H1
                      by_cases c50 : x6_2 = true
                      · subst c50
                        have H1 : (some 0) = some r := by rw [if_pos rfl] at H; exact H
                        clear H
                        have H := H1
                        clear H1
                        obtain rfl := Option.some.inj H
                        have hnb51 := NB109_110.out
                        have hnc51 := NB110_109.out
                        have hcz52_0 : wc.cell? ⟨gb109, 0, none⟩ = some (.string a0_0) := (blk_cell BK109.out 0).trans rfl
                        have hcz52_1 : wc.cell? ⟨gb109, 1, none⟩ = some (.string a0_1) := (blk_cell BK109.out 1).trans rfl
                        have hcz52_2 : wc.cell? ⟨gb109, 2, none⟩ = some (.int .i64 a0_2) := (blk_cell BK109.out 2).trans rfl
                        have hcz52_3 : wc.cell? ⟨gb109, 3, none⟩ = some (.int .i64 a0_3) := (blk_cell BK109.out 3).trans rfl
                        have hcz52_4 : wc.cell? ⟨gb109, 4, none⟩ = some (.int .i64 a0_4) := (blk_cell BK109.out 4).trans rfl
                        have hcz52_5 : wc.cell? ⟨gb109, 5, none⟩ = some (.int .i64 a0_5) := (blk_cell BK109.out 5).trans rfl
                        have hfz52_0 := blk_frozen BK109.out 0
                        have hfz52_1 := blk_frozen BK109.out 1
                        have hfz52_2 := blk_frozen BK109.out 2
                        have hfz52_3 := blk_frozen BK109.out 3
                        have hfz52_4 := blk_frozen BK109.out 4
                        have hfz52_5 := blk_frozen BK109.out 5
                        go_wp2
                        repeat (go_quiet (fail); try go_wp2)
                        go_ret
                        exact ⟨by first | rfl | (simp [errW_none, errW_some] <;> rfl) | (simp [*, errW_none, errW_some] <;> rfl), by repeat (first | (with_reducible first | exact HB.out | apply below_alloc | apply pw_below_drewN | apply below_drew1 | refine below_set ?_ GE109.out | refine below_set ?_ GE110.out) | exact HB.out)⟩
                      · replace c50 := Bool.eq_false_iff.mpr c50
                        subst c50
                        have H1 : (some 6) = some r := by rw [if_neg (show ¬ (false = true) by decide)] at H; exact H
                        clear H
                        have H := H1
                        clear H1
                        obtain rfl := Option.some.inj H
                        have hnb53 := NB109_110.out
                        have hnc53 := NB110_109.out
                        have hcz54_0 : wc.cell? ⟨gb109, 0, none⟩ = some (.string a0_0) := (blk_cell BK109.out 0).trans rfl
                        have hcz54_1 : wc.cell? ⟨gb109, 1, none⟩ = some (.string a0_1) := (blk_cell BK109.out 1).trans rfl
                        have hcz54_2 : wc.cell? ⟨gb109, 2, none⟩ = some (.int .i64 a0_2) := (blk_cell BK109.out 2).trans rfl
                        have hcz54_3 : wc.cell? ⟨gb109, 3, none⟩ = some (.int .i64 a0_3) := (blk_cell BK109.out 3).trans rfl
                        have hcz54_4 : wc.cell? ⟨gb109, 4, none⟩ = some (.int .i64 a0_4) := (blk_cell BK109.out 4).trans rfl
                        have hcz54_5 : wc.cell? ⟨gb109, 5, none⟩ = some (.int .i64 a0_5) := (blk_cell BK109.out 5).trans rfl
                        have hfz54_0 := blk_frozen BK109.out 0
                        have hfz54_1 := blk_frozen BK109.out 1
                        have hfz54_2 := blk_frozen BK109.out 2
                        have hfz54_3 := blk_frozen BK109.out 3
                        have hfz54_4 := blk_frozen BK109.out 4
                        have hfz54_5 := blk_frozen BK109.out 5
                        go_wp2
                        repeat (go_quiet (fail); try go_wp2)
                        go_ret
                        exact ⟨by first | rfl | (simp [errW_none, errW_some] <;> rfl) | (simp [*, errW_none, errW_some] <;> rfl), by repeat (first | (with_reducible first | exact HB.out | apply below_alloc | apply pw_below_drewN | apply below_drew1 | refine below_set ?_ GE109.out | refine below_set ?_ GE110.out) | exact HB.out)⟩
                    · replace c49 := Bool.eq_false_iff.mpr c49
                      subst c49
                      have H1 : (some 6) = some r := by rw [if_neg (show ¬ (false = true) by decide)] at H; exact H
                      clear H
                      have H := H1
                      clear H1
                      obtain rfl := Option.some.inj H
                      have hnb55 := NB109_110.out
                      have hnc55 := NB110_109.out
                      have hcz56_0 : wc.cell? ⟨gb109, 0, none⟩ = some (.string a0_0) := (blk_cell BK109.out 0).trans rfl
                      have hcz56_1 : wc.cell? ⟨gb109, 1, none⟩ = some (.string a0_1) := (blk_cell BK109.out 1).trans rfl
                      have hcz56_2 : wc.cell? ⟨gb109, 2, none⟩ = some (.int .i64 a0_2) := (blk_cell BK109.out 2).trans rfl
                      have hcz56_3 : wc.cell? ⟨gb109, 3, none⟩ = some (.int .i64 a0_3) := (blk_cell BK109.out 3).trans rfl
                      have hcz56_4 : wc.cell? ⟨gb109, 4, none⟩ = some (.int .i64 a0_4) := (blk_cell BK109.out 4).trans rfl
                      have hcz56_5 : wc.cell? ⟨gb109, 5, none⟩ = some (.int .i64 a0_5) := (blk_cell BK109.out 5).trans rfl
                      have hfz56_0 := blk_frozen BK109.out 0
                      have hfz56_1 := blk_frozen BK109.out 1
                      have hfz56_2 := blk_frozen BK109.out 2
                      have hfz56_3 := blk_frozen BK109.out 3
                      have hfz56_4 := blk_frozen BK109.out 4
                      have hfz56_5 := blk_frozen BK109.out 5
                      go_wp2
                      repeat (go_quiet (fail); try go_wp2)
                      go_ret
                      exact ⟨by first | rfl | (simp [errW_none, errW_some] <;> rfl) | (simp [*, errW_none, errW_some] <;> rfl), by repeat (first | (with_reducible first | exact HB.out | apply below_alloc | apply pw_below_drewN | apply below_drew1 | refine below_set ?_ GE109.out | refine below_set ?_ GE110.out) | exact HB.out)⟩
        · rw [if_neg c27] at H
          have c27b0 : (a0_1.toList == a1_0.toList) = false := beq_eq_false_iff_ne.mpr c27
          have c27b1 : (a0_1.toList != a1_0.toList) = true := bne_iff_ne.mpr c27
          obtain rfl := Option.some.inj H
          have hnb57 := NB109_110.out
          have hnc57 := NB110_109.out
          have hcz58_0 : wc.cell? ⟨gb109, 0, none⟩ = some (.string a0_0) := (blk_cell BK109.out 0).trans rfl
          have hcz58_1 : wc.cell? ⟨gb109, 1, none⟩ = some (.string a0_1) := (blk_cell BK109.out 1).trans rfl
          have hcz58_2 : wc.cell? ⟨gb109, 2, none⟩ = some (.int .i64 a0_2) := (blk_cell BK109.out 2).trans rfl
          have hcz58_3 : wc.cell? ⟨gb109, 3, none⟩ = some (.int .i64 a0_3) := (blk_cell BK109.out 3).trans rfl
          have hcz58_4 : wc.cell? ⟨gb109, 4, none⟩ = some (.int .i64 a0_4) := (blk_cell BK109.out 4).trans rfl
          have hcz58_5 : wc.cell? ⟨gb109, 5, none⟩ = some (.int .i64 a0_5) := (blk_cell BK109.out 5).trans rfl
          have hfz58_0 := blk_frozen BK109.out 0
          have hfz58_1 := blk_frozen BK109.out 1
          have hfz58_2 := blk_frozen BK109.out 2
          have hfz58_3 := blk_frozen BK109.out 3
          have hfz58_4 := blk_frozen BK109.out 4
          have hfz58_5 := blk_frozen BK109.out 5
          go_wp2_with (first | (go_at_call 29; (with_reducible refine (lexer_Name.calls a0_0 true _ ?side99  A25.out).mono ?_); (case side99 => first | exact HG.out | exact Glob.below HG.out (by repeat (first | (with_reducible first | exact HB.out | apply below_alloc | apply pw_below_drewN | apply below_drew1 | refine below_set ?_ GE109.out | refine below_set ?_ GE110.out) | exact HB.out))); rintro e w59 ⟨rfl, hb⟩; have n0_ := Aside0.mk (blk_below (g := gb109) (o := .cells #[.string a0_0, .string a0_1, .int .i64 a0_2, .int .i64 a0_3, .int .i64 a0_4, .int .i64 a0_5] 23 (0, 0)) (by (with_reducible repeat (first | refine blk_drewN ?_ _ | refine blk_drew ?_ | refine blk_alloc ?_ _)); exact BK109.out) hb); have n1_ := Aside0.mk (blk_below (g := gb110) (o := .cells #[.string a1_0, .int .i64 a1_1, .int .i64 a1_2, .string a1_3, .int .i64 a1_4, .int .i64 a1_5, .int .i64 a1_6, .slice A1_7 l1_7.length c1_7, .int .i64 a1_8, .int .i64 a1_9, .int .i64 a1_10, .int .i64 a1_11] 51 (0, 0)) (by (with_reducible repeat (first | refine blk_drewN ?_ _ | refine blk_drew ?_ | refine blk_alloc ?_ _)); exact BK110.out) hb); have n2_ := Aside0.mk (below_step (by repeat (first | (with_reducible first | exact HB.out | apply below_alloc | apply pw_below_drewN | apply below_drew1 | refine below_set ?_ GE109.out | refine below_set ?_ GE110.out) | exact HB.out)) hb); clear BK109; clear BK110; clear HB; have BK109 := n0_; have BK110 := n1_; have HB := n2_; clear n0_ n1_ n2_; (try clear hb); (try clear hb2); (try clear hk); (try clear hi); have hcz60_0 : w59.cell? ⟨gb109, 0, none⟩ = some (.string a0_0) := (blk_cell BK109.out 0).trans rfl; have hcz60_1 : w59.cell? ⟨gb109, 1, none⟩ = some (.string a0_1) := (blk_cell BK109.out 1).trans rfl; have hcz60_2 : w59.cell? ⟨gb109, 2, none⟩ = some (.int .i64 a0_2) := (blk_cell BK109.out 2).trans rfl; have hcz60_3 : w59.cell? ⟨gb109, 3, none⟩ = some (.int .i64 a0_3) := (blk_cell BK109.out 3).trans rfl; have hcz60_4 : w59.cell? ⟨gb109, 4, none⟩ = some (.int .i64 a0_4) := (blk_cell BK109.out 4).trans rfl; have hcz60_5 : w59.cell? ⟨gb109, 5, none⟩ = some (.int .i64 a0_5) := (blk_cell BK109.out 5).trans rfl; have hfz60_0 := blk_frozen BK109.out 0; have hfz60_1 := blk_frozen BK109.out 1; have hfz60_2 := blk_frozen BK109.out 2; have hfz60_3 := blk_frozen BK109.out 3; have hfz60_4 := blk_frozen BK109.out 4; have hfz60_5 := blk_frozen BK109.out 5; have hcz61_0 : w59.cell? ⟨gb110, 0, none⟩ = some (.string a1_0) := (blk_cell BK110.out 0).trans rfl; have hcz61_1 : w59.cell? ⟨gb110, 1, none⟩ = some (.int .i64 a1_1) := (blk_cell BK110.out 1).trans rfl; have hcz61_2 : w59.cell? ⟨gb110, 2, none⟩ = some (.int .i64 a1_2) := (blk_cell BK110.out 2).trans rfl; have hcz61_3 : w59.cell? ⟨gb110, 3, none⟩ = some (.string a1_3) := (blk_cell BK110.out 3).trans rfl; have hcz61_4 : w59.cell? ⟨gb110, 4, none⟩ = some (.int .i64 a1_4) := (blk_cell BK110.out 4).trans rfl; have hcz61_5 : w59.cell? ⟨gb110, 5, none⟩ = some (.int .i64 a1_5) := (blk_cell BK110.out 5).trans rfl; have hcz61_6 : w59.cell? ⟨gb110, 6, none⟩ = some (.int .i64 a1_6) := (blk_cell BK110.out 6).trans rfl; have hcz61_7 : w59.cell? ⟨gb110, 7, none⟩ = some (.slice A1_7 l1_7.length c1_7) := (blk_cell BK110.out 7).trans rfl; have hcz61_8 : w59.cell? ⟨gb110, 8, none⟩ = some (.int .i64 a1_8) := (blk_cell BK110.out 8).trans rfl; have hcz61_9 : w59.cell? ⟨gb110, 9, none⟩ = some (.int .i64 a1_9) := (blk_cell BK110.out 9).trans rfl; have hcz61_10 : w59.cell? ⟨gb110, 10, none⟩ = some (.int .i64 a1_10) := (blk_cell BK110.out 10).trans rfl; have hcz61_11 : w59.cell? ⟨gb110, 11, none⟩ = some (.int .i64 a1_11) := (blk_cell BK110.out 11).trans rfl; have hfz61_0 := blk_frozen BK110.out 0; have hfz61_1 := blk_frozen BK110.out 1; have hfz61_2 := blk_frozen BK110.out 2; have hfz61_3 := blk_frozen BK110.out 3; have hfz61_4 := blk_frozen BK110.out 4; have hfz61_5 := blk_frozen BK110.out 5; have hfz61_6 := blk_frozen BK110.out 6; have hfz61_7 := blk_frozen BK110.out 7; have hfz61_8 := blk_frozen BK110.out 8; have hfz61_9 := blk_frozen BK110.out 9; have hfz61_10 := blk_frozen BK110.out 10; have hfz61_11 := blk_frozen BK110.out 11))
          repeat (go_quiet (first | (go_at_call 29; (with_reducible refine (lexer_Name.calls a0_0 true _ ?side99  A25.out).mono ?_); (case side99 => first | exact HG.out | exact Glob.below HG.out (by repeat (first | (with_reducible first | exact HB.out | apply below_alloc | apply pw_below_drewN | apply below_drew1 | refine below_set ?_ GE109.out | refine below_set ?_ GE110.out) | exact HB.out))); rintro e w59 ⟨rfl, hb⟩; have n0_ := Aside0.mk (blk_below (g := gb109) (o := .cells #[.string a0_0, .string a0_1, .int .i64 a0_2, .int .i64 a0_3, .int .i64 a0_4, .int .i64 a0_5] 23 (0, 0)) (by (with_reducible repeat (first | refine blk_drewN ?_ _ | refine blk_drew ?_ | refine blk_alloc ?_ _)); exact BK109.out) hb); have n1_ := Aside0.mk (blk_below (g := gb110) (o := .cells #[.string a1_0, .int .i64 a1_1, .int .i64 a1_2, .string a1_3, .int .i64 a1_4, .int .i64 a1_5, .int .i64 a1_6, .slice A1_7 l1_7.length c1_7, .int .i64 a1_8, .int .i64 a1_9, .int .i64 a1_10, .int .i64 a1_11] 51 (0, 0)) (by (with_reducible repeat (first | refine blk_drewN ?_ _ | refine blk_drew ?_ | refine blk_alloc ?_ _)); exact BK110.out) hb); have n2_ := Aside0.mk (below_step (by repeat (first | (with_reducible first | exact HB.out | apply below_alloc | apply pw_below_drewN | apply below_drew1 | refine below_set ?_ GE109.out | refine below_set ?_ GE110.out) | exact HB.out)) hb); clear BK109; clear BK110; clear HB; have BK109 := n0_; have BK110 := n1_; have HB := n2_; clear n0_ n1_ n2_; (try clear hb); (try clear hb2); (try clear hk); (try clear hi); have hcz60_0 : w59.cell? ⟨gb109, 0, none⟩ = some (.string a0_0) := (blk_cell BK109.out 0).trans rfl; have hcz60_1 : w59.cell? ⟨gb109, 1, none⟩ = some (.string a0_1) := (blk_cell BK109.out 1).trans rfl; have hcz60_2 : w59.cell? ⟨gb109, 2, none⟩ = some (.int .i64 a0_2) := (blk_cell BK109.out 2).trans rfl; have hcz60_3 : w59.cell? ⟨gb109, 3, none⟩ = some (.int .i64 a0_3) := (blk_cell BK109.out 3).trans rfl; have hcz60_4 : w59.cell? ⟨gb109, 4, none⟩ = some (.int .i64 a0_4) := (blk_cell BK109.out 4).trans rfl; have hcz60_5 : w59.cell? ⟨gb109, 5, none⟩ = some (.int .i64 a0_5) := (blk_cell BK109.out 5).trans rfl; have hfz60_0 := blk_frozen BK109.out 0; have hfz60_1 := blk_frozen BK109.out 1; have hfz60_2 := blk_frozen BK109.out 2; have hfz60_3 := blk_frozen BK109.out 3; have hfz60_4 := blk_frozen BK109.out 4; have hfz60_5 := blk_frozen BK109.out 5; have hcz61_0 : w59.cell? ⟨gb110, 0, none⟩ = some (.string a1_0) := (blk_cell BK110.out 0).trans rfl; have hcz61_1 : w59.cell? ⟨gb110, 1, none⟩ = some (.int .i64 a1_1) := (blk_cell BK110.out 1).trans rfl; have hcz61_2 : w59.cell? ⟨gb110, 2, none⟩ = some (.int .i64 a1_2) := (blk_cell BK110.out 2).trans rfl; have hcz61_3 : w59.cell? ⟨gb110, 3, none⟩ = some (.string a1_3) := (blk_cell BK110.out 3).trans rfl; have hcz61_4 : w59.cell? ⟨gb110, 4, none⟩ = some (.int .i64 a1_4) := (blk_cell BK110.out 4).trans rfl; have hcz61_5 : w59.cell? ⟨gb110, 5, none⟩ = some (.int .i64 a1_5) := (blk_cell BK110.out 5).trans rfl; have hcz61_6 : w59.cell? ⟨gb110, 6, none⟩ = some (.int .i64 a1_6) := (blk_cell BK110.out 6).trans rfl; have hcz61_7 : w59.cell? ⟨gb110, 7, none⟩ = some (.slice A1_7 l1_7.length c1_7) := (blk_cell BK110.out 7).trans rfl; have hcz61_8 : w59.cell? ⟨gb110, 8, none⟩ = some (.int .i64 a1_8) := (blk_cell BK110.out 8).trans rfl; have hcz61_9 : w59.cell? ⟨gb110, 9, none⟩ = some (.int .i64 a1_9) := (blk_cell BK110.out 9).trans rfl; have hcz61_10 : w59.cell? ⟨gb110, 10, none⟩ = some (.int .i64 a1_10) := (blk_cell BK110.out 10).trans rfl; have hcz61_11 : w59.cell? ⟨gb110, 11, none⟩ = some (.int .i64 a1_11) := (blk_cell BK110.out 11).trans rfl; have hfz61_0 := blk_frozen BK110.out 0; have hfz61_1 := blk_frozen BK110.out 1; have hfz61_2 := blk_frozen BK110.out 2; have hfz61_3 := blk_frozen BK110.out 3; have hfz61_4 := blk_frozen BK110.out 4; have hfz61_5 := blk_frozen BK110.out 5; have hfz61_6 := blk_frozen BK110.out 6; have hfz61_7 := blk_frozen BK110.out 7; have hfz61_8 := blk_frozen BK110.out 8; have hfz61_9 := blk_frozen BK110.out 9; have hfz61_10 := blk_frozen BK110.out 10; have hfz61_11 := blk_frozen BK110.out 11)); try go_wp2_with (first | (go_at_call 29; (with_reducible refine (lexer_Name.calls a0_0 true _ ?side99  A25.out).mono ?_); (case side99 => first | exact HG.out | exact Glob.below HG.out (by repeat (first | (with_reducible first | exact HB.out | apply below_alloc | apply pw_below_drewN | apply below_drew1 | refine below_set ?_ GE109.out | refine below_set ?_ GE110.out) | exact HB.out))); rintro e w59 ⟨rfl, hb⟩; have n0_ := Aside0.mk (blk_below (g := gb109) (o := .cells #[.string a0_0, .string a0_1, .int .i64 a0_2, .int .i64 a0_3, .int .i64 a0_4, .int .i64 a0_5] 23 (0, 0)) (by (with_reducible repeat (first | refine blk_drewN ?_ _ | refine blk_drew ?_ | refine blk_alloc ?_ _)); exact BK109.out) hb); have n1_ := Aside0.mk (blk_below (g := gb110) (o := .cells #[.string a1_0, .int .i64 a1_1, .int .i64 a1_2, .string a1_3, .int .i64 a1_4, .int .i64 a1_5, .int .i64 a1_6, .slice A1_7 l1_7.length c1_7, .int .i64 a1_8, .int .i64 a1_9, .int .i64 a1_10, .int .i64 a1_11] 51 (0, 0)) (by (with_reducible repeat (first | refine blk_drewN ?_ _ | refine blk_drew ?_ | refine blk_alloc ?_ _)); exact BK110.out) hb); have n2_ := Aside0.mk (below_step (by repeat (first | (with_reducible first | exact HB.out | apply below_alloc | apply pw_below_drewN | apply below_drew1 | refine below_set ?_ GE109.out | refine below_set ?_ GE110.out) | exact HB.out)) hb); clear BK109; clear BK110; clear HB; have BK109 := n0_; have BK110 := n1_; have HB := n2_; clear n0_ n1_ n2_; (try clear hb); (try clear hb2); (try clear hk); (try clear hi); have hcz60_0 : w59.cell? ⟨gb109, 0, none⟩ = some (.string a0_0) := (blk_cell BK109.out 0).trans rfl; have hcz60_1 : w59.cell? ⟨gb109, 1, none⟩ = some (.string a0_1) := (blk_cell BK109.out 1).trans rfl; have hcz60_2 : w59.cell? ⟨gb109, 2, none⟩ = some (.int .i64 a0_2) := (blk_cell BK109.out 2).trans rfl; have hcz60_3 : w59.cell? ⟨gb109, 3, none⟩ = some (.int .i64 a0_3) := (blk_cell BK109.out 3).trans rfl; have hcz60_4 : w59.cell? ⟨gb109, 4, none⟩ = some (.int .i64 a0_4) := (blk_cell BK109.out 4).trans rfl; have hcz60_5 : w59.cell? ⟨gb109, 5, none⟩ = some (.int .i64 a0_5) := (blk_cell BK109.out 5).trans rfl; have hfz60_0 := blk_frozen BK109.out 0; have hfz60_1 := blk_frozen BK109.out 1; have hfz60_2 := blk_frozen BK109.out 2; have hfz60_3 := blk_frozen BK109.out 3; have hfz60_4 := blk_frozen BK109.out 4; have hfz60_5 := blk_frozen BK109.out 5; have hcz61_0 : w59.cell? ⟨gb110, 0, none⟩ = some (.string a1_0) := (blk_cell BK110.out 0).trans rfl; have hcz61_1 : w59.cell? ⟨gb110, 1, none⟩ = some (.int .i64 a1_1) := (blk_cell BK110.out 1).trans rfl; have hcz61_2 : w59.cell? ⟨gb110, 2, none⟩ = some (.int .i64 a1_2) := (blk_cell BK110.out 2).trans rfl; have hcz61_3 : w59.cell? ⟨gb110, 3, none⟩ = some (.string a1_3) := (blk_cell BK110.out 3).trans rfl; have hcz61_4 : w59.cell? ⟨gb110, 4, none⟩ = some (.int .i64 a1_4) := (blk_cell BK110.out 4).trans rfl; have hcz61_5 : w59.cell? ⟨gb110, 5, none⟩ = some (.int .i64 a1_5) := (blk_cell BK110.out 5).trans rfl; have hcz61_6 : w59.cell? ⟨gb110, 6, none⟩ = some (.int .i64 a1_6) := (blk_cell BK110.out 6).trans rfl; have hcz61_7 : w59.cell? ⟨gb110, 7, none⟩ = some (.slice A1_7 l1_7.length c1_7) := (blk_cell BK110.out 7).trans rfl; have hcz61_8 : w59.cell? ⟨gb110, 8, none⟩ = some (.int .i64 a1_8) := (blk_cell BK110.out 8).trans rfl; have hcz61_9 : w59.cell? ⟨gb110, 9, none⟩ = some (.int .i64 a1_9) := (blk_cell BK110.out 9).trans rfl; have hcz61_10 : w59.cell? ⟨gb110, 10, none⟩ = some (.int .i64 a1_10) := (blk_cell BK110.out 10).trans rfl; have hcz61_11 : w59.cell? ⟨gb110, 11, none⟩ = some (.int .i64 a1_11) := (blk_cell BK110.out 11).trans rfl; have hfz61_0 := blk_frozen BK110.out 0; have hfz61_1 := blk_frozen BK110.out 1; have hfz61_2 := blk_frozen BK110.out 2; have hfz61_3 := blk_frozen BK110.out 3; have hfz61_4 := blk_frozen BK110.out 4; have hfz61_5 := blk_frozen BK110.out 5; have hfz61_6 := blk_frozen BK110.out 6; have hfz61_7 := blk_frozen BK110.out 7; have hfz61_8 := blk_frozen BK110.out 8; have hfz61_9 := blk_frozen BK110.out 9; have hfz61_10 := blk_frozen BK110.out 10; have hfz61_11 := blk_frozen BK110.out 11)))
          go_ret
          exact ⟨by first | rfl | (simp [errW_none, errW_some] <;> rfl) | (simp [*, errW_none, errW_some] <;> rfl), by repeat (first | (with_reducible first | exact HB.out | apply below_alloc | apply pw_below_drewN | apply below_drew1 | refine below_set ?_ GE109.out | refine below_set ?_ GE110.out) | exact HB.out)⟩
      · replace c26 := Bool.eq_false_iff.mpr c26
        subst c26
        have H1 : (some 4) = some r := by rw [if_neg (show ¬ (false = true) by decide)] at H; exact H
        clear H
        have H := H1
        clear H1
        obtain rfl := Option.some.inj H
        have hnb62 := NB109_110.out
        have hnc62 := NB110_109.out
        have hcz63_0 : wc.cell? ⟨gb109, 0, none⟩ = some (.string a0_0) := (blk_cell BK109.out 0).trans rfl
        have hcz63_1 : wc.cell? ⟨gb109, 1, none⟩ = some (.string a0_1) := (blk_cell BK109.out 1).trans rfl
        have hcz63_2 : wc.cell? ⟨gb109, 2, none⟩ = some (.int .i64 a0_2) := (blk_cell BK109.out 2).trans rfl
        have hcz63_3 : wc.cell? ⟨gb109, 3, none⟩ = some (.int .i64 a0_3) := (blk_cell BK109.out 3).trans rfl
        have hcz63_4 : wc.cell? ⟨gb109, 4, none⟩ = some (.int .i64 a0_4) := (blk_cell BK109.out 4).trans rfl
        have hcz63_5 : wc.cell? ⟨gb109, 5, none⟩ = some (.int .i64 a0_5) := (blk_cell BK109.out 5).trans rfl
        have hfz63_0 := blk_frozen BK109.out 0
        have hfz63_1 := blk_frozen BK109.out 1
        have hfz63_2 := blk_frozen BK109.out 2
        have hfz63_3 := blk_frozen BK109.out 3
        have hfz63_4 := blk_frozen BK109.out 4
        have hfz63_5 := blk_frozen BK109.out 5
        go_wp2_with (first | (go_at_call 29; (with_reducible refine (lexer_Name.calls a0_0 false _ ?side99  A25.out).mono ?_); (case side99 => first | exact HG.out | exact Glob.below HG.out (by repeat (first | (with_reducible first | exact HB.out | apply below_alloc | apply pw_below_drewN | apply below_drew1 | refine below_set ?_ GE109.out | refine below_set ?_ GE110.out) | exact HB.out))); rintro e w64 ⟨rfl, hb⟩; have n0_ := Aside0.mk (blk_below (g := gb109) (o := .cells #[.string a0_0, .string a0_1, .int .i64 a0_2, .int .i64 a0_3, .int .i64 a0_4, .int .i64 a0_5] 23 (0, 0)) (by (with_reducible repeat (first | refine blk_drewN ?_ _ | refine blk_drew ?_ | refine blk_alloc ?_ _)); exact BK109.out) hb); have n1_ := Aside0.mk (blk_below (g := gb110) (o := .cells #[.string a1_0, .int .i64 a1_1, .int .i64 a1_2, .string a1_3, .int .i64 a1_4, .int .i64 a1_5, .int .i64 a1_6, .slice A1_7 l1_7.length c1_7, .int .i64 a1_8, .int .i64 a1_9, .int .i64 a1_10, .int .i64 a1_11] 51 (0, 0)) (by (with_reducible repeat (first | refine blk_drewN ?_ _ | refine blk_drew ?_ | refine blk_alloc ?_ _)); exact BK110.out) hb); have n2_ := Aside0.mk (below_step (by repeat (first | (with_reducible first | exact HB.out | apply below_alloc | apply pw_below_drewN | apply below_drew1 | refine below_set ?_ GE109.out | refine below_set ?_ GE110.out) | exact HB.out)) hb); clear BK109; clear BK110; clear HB; have BK109 := n0_; have BK110 := n1_; have HB := n2_; clear n0_ n1_ n2_; (try clear hb); (try clear hb2); (try clear hk); (try clear hi)))
        repeat (go_quiet (first | (go_at_call 29; (with_reducible refine (lexer_Name.calls a0_0 false _ ?side99  A25.out).mono ?_); (case side99 => first | exact HG.out | exact Glob.below HG.out (by repeat (first | (with_reducible first | exact HB.out | apply below_alloc | apply pw_below_drewN | apply below_drew1 | refine below_set ?_ GE109.out | refine below_set ?_ GE110.out) | exact HB.out))); rintro e w64 ⟨rfl, hb⟩; have n0_ := Aside0.mk (blk_below (g := gb109) (o := .cells #[.string a0_0, .string a0_1, .int .i64 a0_2, .int .i64 a0_3, .int .i64 a0_4, .int .i64 a0_5] 23 (0, 0)) (by (with_reducible repeat (first | refine blk_drewN ?_ _ | refine blk_drew ?_ | refine blk_alloc ?_ _)); exact BK109.out) hb); have n1_ := Aside0.mk (blk_below (g := gb110) (o := .cells #[.string a1_0, .int .i64 a1_1, .int .i64 a1_2, .string a1_3, .int .i64 a1_4, .int .i64 a1_5, .int .i64 a1_6, .slice A1_7 l1_7.length c1_7, .int .i64 a1_8, .int .i64 a1_9, .int .i64 a1_10, .int .i64 a1_11] 51 (0, 0)) (by (with_reducible repeat (first | refine blk_drewN ?_ _ | refine blk_drew ?_ | refine blk_alloc ?_ _)); exact BK110.out) hb); have n2_ := Aside0.mk (below_step (by repeat (first | (with_reducible first | exact HB.out | apply below_alloc | apply pw_below_drewN | apply below_drew1 | refine below_set ?_ GE109.out | refine below_set ?_ GE110.out) | exact HB.out)) hb); clear BK109; clear BK110; clear HB; have BK109 := n0_; have BK110 := n1_; have HB := n2_; clear n0_ n1_ n2_; (try clear hb); (try clear hb2); (try clear hk); (try clear hi))); try go_wp2_with (first | (go_at_call 29; (with_reducible refine (lexer_Name.calls a0_0 false _ ?side99  A25.out).mono ?_); (case side99 => first | exact HG.out | exact Glob.below HG.out (by repeat (first | (with_reducible first | exact HB.out | apply below_alloc | apply pw_below_drewN | apply below_drew1 | refine below_set ?_ GE109.out | refine below_set ?_ GE110.out) | exact HB.out))); rintro e w64 ⟨rfl, hb⟩; have n0_ := Aside0.mk (blk_below (g := gb109) (o := .cells #[.string a0_0, .string a0_1, .int .i64 a0_2, .int .i64 a0_3, .int .i64 a0_4, .int .i64 a0_5] 23 (0, 0)) (by (with_reducible repeat (first | refine blk_drewN ?_ _ | refine blk_drew ?_ | refine blk_alloc ?_ _)); exact BK109.out) hb); have n1_ := Aside0.mk (blk_below (g := gb110) (o := .cells #[.string a1_0, .int .i64 a1_1, .int .i64 a1_2, .string a1_3, .int .i64 a1_4, .int .i64 a1_5, .int .i64 a1_6, .slice A1_7 l1_7.length c1_7, .int .i64 a1_8, .int .i64 a1_9, .int .i64 a1_10, .int .i64 a1_11] 51 (0, 0)) (by (with_reducible repeat (first | refine blk_drewN ?_ _ | refine blk_drew ?_ | refine blk_alloc ?_ _)); exact BK110.out) hb); have n2_ := Aside0.mk (below_step (by repeat (first | (with_reducible first | exact HB.out | apply below_alloc | apply pw_below_drewN | apply below_drew1 | refine below_set ?_ GE109.out | refine below_set ?_ GE110.out) | exact HB.out)) hb); clear BK109; clear BK110; clear HB; have BK109 := n0_; have BK110 := n1_; have HB := n2_; clear n0_ n1_ n2_; (try clear hb); (try clear hb2); (try clear hk); (try clear hi))))
        go_ret
        exact ⟨by first | rfl | (simp [errW_none, errW_some] <;> rfl) | (simp [*, errW_none, errW_some] <;> rfl), by repeat (first | (with_reducible first | exact HB.out | apply below_alloc | apply pw_below_drewN | apply below_drew1 | refine below_set ?_ GE109.out | refine below_set ?_ GE110.out) | exact HB.out)⟩
end Go.Proofs.YtbccjcdmpiolpaaDoor.T
end
section
namespace Go.Proofs.YtbccjcdmpiolpaaDoor.T
open Go.RowKit Go.Proofs.YtbccjcdmpiolpaaDoorW.PrintWords Go.Proofs.YtbccjcdmpiolpaaDoorW.PrintLast Go.Proofs.YtbccjcdmpiolpaaDoorW.PrintMore
attribute [local go_sem] max2_int min2_int max_two min_two max_three min_three max_four min_four
set_option linter.unusedVariables false
set_option linter.unusedSimpArgs false
def plenumref07_Lower.f (a0 : Int) : Option (Bool) := if a0 ≥ 97 then (some (decide (a0 ≤ 122))) else (some false)
set_option maxHeartbeats 8000000 in
set_option maxRecDepth 100000 in
theorem plenumref07_Lower.calls (a0 : Int) (r : Bool) (w : World) (hG : Glob w) (h : plenumref07_Lower.f a0 = some r) :
    Calls Tryd.prog 55 #[.int .u8 a0] w fun e w' => e = .returned (.bool r) ∧ Drawn0 w w' := by
  have HG := Aside0.mk hG
  clear hG
  have H : (if a0 ≥ 97 then (some (decide (a0 ≤ 122))) else (some false)) = some r := h
  clear h
  by_cases c2 : a0 ≥ 97
  · rw [if_pos c2] at H
    have c2b0 : decide (97 ≤ a0) = true := decide_eq_true c2
    clear c2
    obtain rfl := Option.some.inj H
    go_enter Tryd.func55, Tryd.ntmps55
    go_wp2
    go_ret
    exact ⟨by first | rfl | (simp; done) | (simp [*]; done), by repeat (first | exact Drawn0.refl _ | apply Drawn0.step)⟩
  · rw [if_neg c2] at H
    have c2b0 : decide (97 ≤ a0) = false := decide_eq_false c2
    clear c2
    obtain rfl := Option.some.inj H
    go_enter Tryd.func55, Tryd.ntmps55
    go_wp2
    go_ret
    exact ⟨by first | rfl | (simp; done) | (simp [*]; done), by repeat (first | exact Drawn0.refl _ | apply Drawn0.step)⟩
end Go.Proofs.YtbccjcdmpiolpaaDoor.T
end
section
namespace Go.Proofs.YtbccjcdmpiolpaaDoor.T
open Go.RowKit Go.Proofs.YtbccjcdmpiolpaaDoorW.PrintWords Go.Proofs.YtbccjcdmpiolpaaDoorW.PrintLast Go.Proofs.YtbccjcdmpiolpaaDoorW.PrintMore
attribute [local go_sem] max2_int min2_int max_two min_two max_three min_three max_four min_four
set_option linter.unusedVariables false
set_option linter.unusedSimpArgs false
def plenumref07_Digit.f (a0 : Int) : Option (Bool) := if a0 ≥ 48 then (some (decide (a0 ≤ 57))) else (some false)
set_option maxHeartbeats 8000000 in
set_option maxRecDepth 100000 in
theorem plenumref07_Digit.calls (a0 : Int) (r : Bool) (w : World) (hG : Glob w) (h : plenumref07_Digit.f a0 = some r) :
    Calls Tryd.prog 56 #[.int .u8 a0] w fun e w' => e = .returned (.bool r) ∧ Drawn0 w w' := by
  have HG := Aside0.mk hG
  clear hG
  have H : (if a0 ≥ 48 then (some (decide (a0 ≤ 57))) else (some false)) = some r := h
  clear h
  by_cases c2 : a0 ≥ 48
  · rw [if_pos c2] at H
    have c2b0 : decide (48 ≤ a0) = true := decide_eq_true c2
    clear c2
    obtain rfl := Option.some.inj H
    go_enter Tryd.func56, Tryd.ntmps56
    go_wp2
    go_ret
    exact ⟨by first | rfl | (simp; done) | (simp [*]; done), by repeat (first | exact Drawn0.refl _ | apply Drawn0.step)⟩
  · rw [if_neg c2] at H
    have c2b0 : decide (48 ≤ a0) = false := decide_eq_false c2
    clear c2
    obtain rfl := Option.some.inj H
    go_enter Tryd.func56, Tryd.ntmps56
    go_wp2
    go_ret
    exact ⟨by first | rfl | (simp; done) | (simp [*]; done), by repeat (first | exact Drawn0.refl _ | apply Drawn0.step)⟩
end Go.Proofs.YtbccjcdmpiolpaaDoor.T
end
section
namespace Go.Proofs.YtbccjcdmpiolpaaDoor.T
open Go.RowKit Go.Proofs.YtbccjcdmpiolpaaDoorW.PrintWords Go.Proofs.YtbccjcdmpiolpaaDoorW.PrintLast Go.Proofs.YtbccjcdmpiolpaaDoorW.PrintMore
attribute [local go_sem] max2_int min2_int max_two min_two max_three min_three max_four min_four
set_option linter.unusedVariables false
set_option linter.unusedSimpArgs false
mutual
def plenumref07_Name.j0 : Nat → ByteArray → Bool → Option (Bool)
  | 0, _, _ => none
  | k + 1, x0, x17 => if x17 = true then (some false) else (plenumref07_Name.l0 k x0 1)
def plenumref07_Name.l0 : Nat → ByteArray → Int → Option (Bool)
  | 0, _, _ => none
  | k + 1, x0, x3 => if x3 < (x0.size : Int) then (if 0 ≤ x3 then ((plenumref07_Lower.f (bt x0 x3)).bind fun t164 => (if t164 = true then (plenumref07_Name.l0 k x0 (wrap64 (x3 + 1))) else ((plenumref07_Digit.f (bt x0 x3)).bind fun t165 => (if t165 = true then (plenumref07_Name.l0 k x0 (wrap64 (x3 + 1))) else (if (bt x0 x3) = 95 then (plenumref07_Name.l0 k x0 (wrap64 (x3 + 1))) else (some false)))))) else (none)) else (some true)
end
def plenumref07_Name.f (k : Nat) (a0 : ByteArray) : Option (Bool) := if (a0.size : Int) < 1 then (plenumref07_Name.j0 k a0 true) else (if (a0.size : Int) > 24 then (plenumref07_Name.j0 k a0 true) else (if 0 < (a0.size : Int) then ((plenumref07_Lower.f (bt a0 0)).bind fun t163 => (plenumref07_Name.j0 k a0 (!t163))) else (none)))
set_option maxHeartbeats 8000000 in
set_option maxRecDepth 100000 in
theorem plenumref07_Name.calls (k : Nat) (a0 : ByteArray) (r : Bool) (w : World) (hG : Glob w) (h : plenumref07_Name.f k a0 = some r) :
    Calls Tryd.prog 30 #[.string a0] w fun e w' => e = .returned (.bool r) ∧ Drawn0 w w' := by
  have HG := Aside0.mk hG
  clear hG
  have H : (if (a0.size : Int) < 1 then (plenumref07_Name.j0 k a0 true) else (if (a0.size : Int) > 24 then (plenumref07_Name.j0 k a0 true) else (if 0 < (a0.size : Int) then ((plenumref07_Lower.f (bt a0 0)).bind fun t163 => (plenumref07_Name.j0 k a0 (!t163))) else (none)))) = some r := h
  clear h
  have HC2 := Aside0.mk H
  clear H
  go_enter Tryd.func30, Tryd.ntmps30
  go_upto_region 1 with (fail)
  go_cut [17] (fun v17 wc => ∃ (kq : Nat) (x17_1 : Bool), v17 = .bool x17_1 ∧ Aside0 (plenumref07_Name.j0 kq a0 x17_1 = some r) ∧ Aside0 (kq ≤ k) ∧ Drawn0 w wc)
  case first =>
    have H := HC2.out
    clear HC2
    by_cases c3 : (a0.size : Int) < 1
    · rw [if_pos c3] at H
      have c3b0 : decide ((a0.size : Int) < 1) = true := decide_eq_true c3
      have c3b1 : decide (a0.size < 1) = true := decide_eq_true (by omega)
      clear c3
      (first | rw [c3b0] | (simp only [i64_w, i32_w]; rw [c3b0]) | skip)
      have H' := Aside0.mk H
      clear H
      go_wp2
      go_meet
      case rel => exact ⟨_, (true), (by first | rfl | (simp; done) | (simp [*]; done)), H', ⟨by first | omega | exact Nat.le_refl _⟩, by repeat (first | exact Drawn0.refl _ | apply Drawn0.step)⟩
    · rw [if_neg c3] at H
      have c3b0 : decide ((a0.size : Int) < 1) = false := decide_eq_false c3
      have c3b1 : decide (a0.size < 1) = false := decide_eq_false (by omega)
      clear c3
      (first | rw [c3b0] | (simp only [i64_w, i32_w]; rw [c3b0]) | skip)
      by_cases c4 : (a0.size : Int) > 24
      · rw [if_pos c4] at H
        have c4b0 : decide (24 < (a0.size : Int)) = true := decide_eq_true c4
        have c4b1 : decide (24 < a0.size) = true := decide_eq_true (by omega)
        clear c4
        have H' := Aside0.mk H
        clear H
        go_wp2
        go_meet
        case rel => exact ⟨_, (true), (by first | rfl | (simp; done) | (simp [*]; done)), H', ⟨by first | omega | exact Nat.le_refl _⟩, by repeat (first | exact Drawn0.refl _ | apply Drawn0.step)⟩
      · rw [if_neg c4] at H
        have c4b0 : decide (24 < (a0.size : Int)) = false := decide_eq_false c4
        have c4b1 : decide (24 < a0.size) = false := decide_eq_false (by omega)
        clear c4
        by_cases c5 : 0 < (a0.size : Int)
        · rw [if_pos c5] at H
          have c5b0 : decide (0 < (a0.size : Int)) = true := decide_eq_true c5
          have c5b1 : decide (0 < a0.size) = true := decide_eq_true (by omega)
          clear c5
          replace H := Option.bind_eq_some_iff.mp H
          obtain ⟨t163, A70, H⟩ := H
          replace H : (plenumref07_Name.j0 k a0 (!t163)) = some r := H
          have A7 := Aside0.mk A70
          clear A70
          have H' := Aside0.mk H
          clear H
          have p6 : 0 ≤ (0 : Int) := (by omega)
          have q6 : 0 < a0.size := (by have : (0 : Int) < (a0.size : Int) := of_decide_eq_true (by first | (with_reducible assumption) | assumption); omega)
          have hx6 : ∀ h : 0 < a0.size, ((a0[0]'h).toNat : Int) = bt a0 0 := bt_at a0 0
          clear p6
          have qi6 : (0 < (a0.size : Int)) = True := eq_true (of_decide_eq_true (by first | (with_reducible assumption) | assumption))
          replace q6 := eq_true q6
          go_wp2_with (first | (go_at_call 55; (with_reducible refine (plenumref07_Lower.calls (bt a0 0) t163 _ ?side99  A7.out).mono ?_); (case side99 => first | exact HG.out | exact Glob.below HG.out (by repeat (first | (with_reducible first | exact HB.out | apply below_alloc | apply pw_below_drewN | apply below_drew1) | exact HB.out))); rintro e w' ⟨rfl, ⟨nd, rfl⟩⟩))
          go_meet
          case rel => exact ⟨_, (!t163), (by first | rfl | (simp; done) | (simp [*]; done)), H', ⟨by first | omega | exact Nat.le_refl _⟩, by repeat (first | exact Drawn0.refl _ | apply Drawn0.step)⟩
        · rw [if_neg c5] at H
          exact absurd H (by simp)
  case rest =>
    clear HC2
    try clear p2
    try clear c3
    try clear c3b0
    try clear c3b1
    try clear c4
    try clear c4b0
    try clear c4b1
    try clear c5
    try clear c5b0
    try clear c5b1
    try clear p6
    try clear q6
    try clear hx6
    try clear qi6
    try clear p6
    try clear q6
    obtain ⟨kq, x17_1, rfl, HA, HJ1, ⟨mc1, rfl⟩⟩ := hcut
    cases kq with
    | zero => exact absurd HA.out (by simp [plenumref07_Name.j0])
    | succ kj1 =>
      have H := HA.out
      clear HA
      simp only [plenumref07_Name.j0] at H
      by_cases c8 : x17_1 = true
      · subst c8
        have H1 : (some false) = some r := by rw [if_pos rfl] at H; exact H
        clear H
        have H := H1
        clear H1
        obtain rfl := Option.some.inj H
        go_wp2
        go_ret
        exact ⟨by first | rfl | (simp; done) | (simp [*]; done), by repeat (first | exact Drawn0.refl _ | apply Drawn0.step)⟩
      · replace c8 := Bool.eq_false_iff.mpr c8
        subst c8
        have H1 : (plenumref07_Name.l0 kj1 a0 1) = some r := by rw [if_neg (show ¬ (false = true) by decide)] at H; exact H
        clear H
        have H := H1
        clear H1
        have H' := Aside0.mk H
        clear H
        go_wp2
        go_loopg [3] kj1 (fun kq v3 w' => ∃ (x3_2 : Int), v3 = .int .i64 x3_2 ∧ Aside0 (plenumref07_Name.l0 kq a0 x3_2 = some r) ∧ Aside0 (kq ≤ kj1) ∧ Drawn0 w w')
        case atStart => exact ⟨(1), (by first | rfl | (simp; done) | (simp [*]; done)), H', ⟨Nat.le_refl _⟩, by repeat (first | exact Drawn0.refl _ | apply Drawn0.step)⟩
        case round =>
          clear H'
          try clear c1
          try clear p2
          try clear c3
          try clear c3b0
          try clear c3b1
          try clear c4
          try clear c4b0
          try clear c4b1
          try clear c5
          try clear c5b0
          try clear c5b1
          try clear p6
          try clear q6
          try clear hx6
          try clear qi6
          try clear c8
          try clear p2
          try clear p6
          try clear q6
          obtain ⟨x3_2, rfl, HA, HK2, ⟨m2, rfl⟩⟩ := hrel
          cases gk with
          | zero => exact absurd HA.out (by simp [plenumref07_Name.l0])
          | succ k2 =>
            have H := HA.out
            clear HA
            simp only [plenumref07_Name.l0] at H
            by_cases c9 : x3_2 < (a0.size : Int)
            · rw [if_pos c9] at H
              have c9b0 : decide (x3_2 < (a0.size : Int)) = true := decide_eq_true c9
              clear c9
              by_cases c10 : 0 ≤ x3_2
              · rw [if_pos c10] at H
                have c10b0 : decide (0 ≤ x3_2) = true := decide_eq_true c10
                clear c10
                replace H := Option.bind_eq_some_iff.mp H
                obtain ⟨t164, A120, H⟩ := H
                replace H : (if t164 = true then (plenumref07_Name.l0 k2 a0 (wrap64 (x3_2 + 1))) else ((plenumref07_Digit.f (bt a0 x3_2)).bind fun t165 => (if t165 = true then (plenumref07_Name.l0 k2 a0 (wrap64 (x3_2 + 1))) else (if (bt a0 x3_2) = 95 then (plenumref07_Name.l0 k2 a0 (wrap64 (x3_2 + 1))) else (some false))))) = some r := H
                have A12 := Aside0.mk A120
                clear A120
                by_cases c13 : t164 = true
                · subst c13
                  have H1 : (plenumref07_Name.l0 k2 a0 (wrap64 (x3_2 + 1))) = some r := by rw [if_pos rfl] at H; exact H
                  clear H
                  have H := H1
                  clear H1
                  have H' := Aside0.mk H
                  clear H
                  have p11 : 0 ≤ (x3_2 : Int) := of_decide_eq_true (by first | (with_reducible assumption) | assumption)
                  have q11 : x3_2 < (a0.size : Int) := of_decide_eq_true (by first | (with_reducible assumption) | assumption)
                  have hx11 := bt_at a0 x3_2
                  replace p11 := eq_true p11
                  replace q11 := eq_true q11
                  go_wp2_with (first | ((with_reducible refine gate_callee (f := 55) rfl ?_); refine goesL_ (some 27) rfl rfl Tryd.func55 (by kernel_rfl) rfl #[.int .u8 (bt a0 x3_2)] rfl (by (try simp only [List.map_toArray, List.map_cons, List.map_nil]); first | done | rfl | (simp only [List.length_drop, List.length_take]; rfl)) ?_; (with_reducible refine (plenumref07_Lower.calls (bt a0 x3_2) true _ ?side99  A12.out).mono ?_); (case side99 => first | exact HG.out | exact Glob.below HG.out (by repeat (first | (with_reducible first | exact HB.out | apply below_alloc | apply pw_below_drewN | apply below_drew1) | exact HB.out))); rintro e w' ⟨rfl, ⟨nd, rfl⟩⟩; refine ⟨_, rfl, ?_⟩))
                  go_roundg k2
                  case measure => have := HJ1.out; have := HK2.out; omega
                  case rel => exact ⟨(wrap64 (x3_2 + 1)), (by first | rfl | (simp; done) | (simp [*]; done)), H', ⟨by have := HJ1.out; have := HK2.out; omega⟩, by repeat (first | exact Drawn0.refl _ | apply Drawn0.step)⟩
                · replace c13 := Bool.eq_false_iff.mpr c13
                  subst c13
                  have H1 : ((plenumref07_Digit.f (bt a0 x3_2)).bind fun t165 => (if t165 = true then (plenumref07_Name.l0 k2 a0 (wrap64 (x3_2 + 1))) else (if (bt a0 x3_2) = 95 then (plenumref07_Name.l0 k2 a0 (wrap64 (x3_2 + 1))) else (some false)))) = some r := by rw [if_neg (show ¬ (false = true) by decide)] at H; exact H
                  clear H
                  have H := H1
                  clear H1
                  replace H := Option.bind_eq_some_iff.mp H
                  obtain ⟨t165, A150, H⟩ := H
                  replace H : (if t165 = true then (plenumref07_Name.l0 k2 a0 (wrap64 (x3_2 + 1))) else (if (bt a0 x3_2) = 95 then (plenumref07_Name.l0 k2 a0 (wrap64 (x3_2 + 1))) else (some false))) = some r := H
                  have A15 := Aside0.mk A150
                  clear A150
                  by_cases c16 : t165 = true
                  · subst c16
                    have H1 : (plenumref07_Name.l0 k2 a0 (wrap64 (x3_2 + 1))) = some r := by rw [if_pos rfl] at H; exact H
                    clear H
                    have H := H1
                    clear H1
                    have H' := Aside0.mk H
                    clear H
                    have p11 : 0 ≤ (x3_2 : Int) := of_decide_eq_true (by first | (with_reducible assumption) | assumption)
                    have q11 : x3_2 < (a0.size : Int) := of_decide_eq_true (by first | (with_reducible assumption) | assumption)
                    have hx11 := bt_at a0 x3_2
                    replace p11 := eq_true p11
                    replace q11 := eq_true q11
                    go_wp2_with (first | ((with_reducible refine gate_callee (f := 55) rfl ?_); refine goesL_ (some 27) rfl rfl Tryd.func55 (by kernel_rfl) rfl #[.int .u8 (bt a0 x3_2)] rfl (by (try simp only [List.map_toArray, List.map_cons, List.map_nil]); first | done | rfl | (simp only [List.length_drop, List.length_take]; rfl)) ?_; (with_reducible refine (plenumref07_Lower.calls (bt a0 x3_2) false _ ?side99  A12.out).mono ?_); (case side99 => first | exact HG.out | exact Glob.below HG.out (by repeat (first | (with_reducible first | exact HB.out | apply below_alloc | apply pw_below_drewN | apply below_drew1) | exact HB.out))); rintro e w' ⟨rfl, ⟨nd, rfl⟩⟩; refine ⟨_, rfl, ?_⟩; have p14 : 0 ≤ (x3_2 : Int) := of_decide_eq_true (by first | (with_reducible assumption) | assumption); have q14 : x3_2 < (a0.size : Int) := of_decide_eq_true (by first | (with_reducible assumption) | assumption); have hx14 := bt_at a0 x3_2; replace p14 := eq_true p14; replace q14 := eq_true q14) | (go_at_call 56; (with_reducible refine (plenumref07_Digit.calls (bt a0 x3_2) true _ ?side99  A15.out).mono ?_); (case side99 => first | exact HG.out | exact Glob.below HG.out (by repeat (first | (with_reducible first | exact HB.out | apply below_alloc | apply pw_below_drewN | apply below_drew1) | exact HB.out))); rintro e w' ⟨rfl, ⟨nd, rfl⟩⟩))
                    go_roundg k2
                    case measure => have := HJ1.out; have := HK2.out; omega
                    case rel => exact ⟨(wrap64 (x3_2 + 1)), (by first | rfl | (simp; done) | (simp [*]; done)), H', ⟨by have := HJ1.out; have := HK2.out; omega⟩, by repeat (first | exact Drawn0.refl _ | apply Drawn0.step)⟩
                  · replace c16 := Bool.eq_false_iff.mpr c16
                    subst c16
                    have H1 : (if (bt a0 x3_2) = 95 then (plenumref07_Name.l0 k2 a0 (wrap64 (x3_2 + 1))) else (some false)) = some r := by rw [if_neg (show ¬ (false = true) by decide)] at H; exact H
                    clear H
                    have H := H1
                    clear H1
                    by_cases c18 : (bt a0 x3_2) = 95
                    · rw [if_pos c18] at H
                      have c18b0 : ((bt a0 x3_2) == 95) = true := beq_iff_eq.mpr c18
                      have c18b1 : ((bt a0 x3_2) != 95) = false := bne_eq_false_iff_eq.mpr c18
                      clear c18
                      have H' := Aside0.mk H
                      clear H
                      have p11 : 0 ≤ (x3_2 : Int) := of_decide_eq_true (by first | (with_reducible assumption) | assumption)
                      have q11 : x3_2 < (a0.size : Int) := of_decide_eq_true (by first | (with_reducible assumption) | assumption)
                      have hx11 := bt_at a0 x3_2
                      replace p11 := eq_true p11
                      replace q11 := eq_true q11
                      go_wp2_with (first | ((with_reducible refine gate_callee (f := 55) rfl ?_); refine goesL_ (some 27) rfl rfl Tryd.func55 (by kernel_rfl) rfl #[.int .u8 (bt a0 x3_2)] rfl (by (try simp only [List.map_toArray, List.map_cons, List.map_nil]); first | done | rfl | (simp only [List.length_drop, List.length_take]; rfl)) ?_; (with_reducible refine (plenumref07_Lower.calls (bt a0 x3_2) false _ ?side99  A12.out).mono ?_); (case side99 => first | exact HG.out | exact Glob.below HG.out (by repeat (first | (with_reducible first | exact HB.out | apply below_alloc | apply pw_below_drewN | apply below_drew1) | exact HB.out))); rintro e w' ⟨rfl, ⟨nd, rfl⟩⟩; refine ⟨_, rfl, ?_⟩; have p14 : 0 ≤ (x3_2 : Int) := of_decide_eq_true (by first | (with_reducible assumption) | assumption); have q14 : x3_2 < (a0.size : Int) := of_decide_eq_true (by first | (with_reducible assumption) | assumption); have hx14 := bt_at a0 x3_2; replace p14 := eq_true p14; replace q14 := eq_true q14) | (go_at_call 56; (with_reducible refine (plenumref07_Digit.calls (bt a0 x3_2) false _ ?side99  A15.out).mono ?_); (case side99 => first | exact HG.out | exact Glob.below HG.out (by repeat (first | (with_reducible first | exact HB.out | apply below_alloc | apply pw_below_drewN | apply below_drew1) | exact HB.out))); rintro e w' ⟨rfl, ⟨nd, rfl⟩⟩; have p17 : 0 ≤ (x3_2 : Int) := of_decide_eq_true (by first | (with_reducible assumption) | assumption); have q17 : x3_2 < (a0.size : Int) := of_decide_eq_true (by first | (with_reducible assumption) | assumption); have hx17 := bt_at a0 x3_2; replace p17 := eq_true p17; replace q17 := eq_true q17))
                      go_roundg k2
                      case measure => have := HJ1.out; have := HK2.out; omega
                      case rel => exact ⟨(wrap64 (x3_2 + 1)), (by first | rfl | (simp; done) | (simp [*]; done)), H', ⟨by have := HJ1.out; have := HK2.out; omega⟩, by repeat (first | exact Drawn0.refl _ | apply Drawn0.step)⟩
                    · rw [if_neg c18] at H
                      have c18b0 : ((bt a0 x3_2) == 95) = false := beq_eq_false_iff_ne.mpr c18
                      have c18b1 : ((bt a0 x3_2) != 95) = true := bne_iff_ne.mpr c18
                      obtain rfl := Option.some.inj H
                      have p11 : 0 ≤ (x3_2 : Int) := of_decide_eq_true (by first | (with_reducible assumption) | assumption)
                      have q11 : x3_2 < (a0.size : Int) := of_decide_eq_true (by first | (with_reducible assumption) | assumption)
                      have hx11 := bt_at a0 x3_2
                      replace p11 := eq_true p11
                      replace q11 := eq_true q11
                      go_wp2_with (first | ((with_reducible refine gate_callee (f := 55) rfl ?_); refine goesL_ (some 27) rfl rfl Tryd.func55 (by kernel_rfl) rfl #[.int .u8 (bt a0 x3_2)] rfl (by (try simp only [List.map_toArray, List.map_cons, List.map_nil]); first | done | rfl | (simp only [List.length_drop, List.length_take]; rfl)) ?_; (with_reducible refine (plenumref07_Lower.calls (bt a0 x3_2) false _ ?side99  A12.out).mono ?_); (case side99 => first | exact HG.out | exact Glob.below HG.out (by repeat (first | (with_reducible first | exact HB.out | apply below_alloc | apply pw_below_drewN | apply below_drew1) | exact HB.out))); rintro e w' ⟨rfl, ⟨nd, rfl⟩⟩; refine ⟨_, rfl, ?_⟩; have p14 : 0 ≤ (x3_2 : Int) := of_decide_eq_true (by first | (with_reducible assumption) | assumption); have q14 : x3_2 < (a0.size : Int) := of_decide_eq_true (by first | (with_reducible assumption) | assumption); have hx14 := bt_at a0 x3_2; replace p14 := eq_true p14; replace q14 := eq_true q14) | (go_at_call 56; (with_reducible refine (plenumref07_Digit.calls (bt a0 x3_2) false _ ?side99  A15.out).mono ?_); (case side99 => first | exact HG.out | exact Glob.below HG.out (by repeat (first | (with_reducible first | exact HB.out | apply below_alloc | apply pw_below_drewN | apply below_drew1) | exact HB.out))); rintro e w' ⟨rfl, ⟨nd, rfl⟩⟩; have p17 : 0 ≤ (x3_2 : Int) := of_decide_eq_true (by first | (with_reducible assumption) | assumption); have q17 : x3_2 < (a0.size : Int) := of_decide_eq_true (by first | (with_reducible assumption) | assumption); have hx17 := bt_at a0 x3_2; replace p17 := eq_true p17; replace q17 := eq_true q17))
                      go_ret
                      exact ⟨by first | rfl | (simp; done) | (simp [*]; done), by repeat (first | exact Drawn0.refl _ | apply Drawn0.step)⟩
              · rw [if_neg c10] at H
                exact absurd H (by simp)
            · rw [if_neg c9] at H
              have c9b0 : decide (x3_2 < (a0.size : Int)) = false := decide_eq_false c9
              clear c9
              obtain rfl := Option.some.inj H
              go_wp2
              go_ret
              exact ⟨by first | rfl | (simp; done) | (simp [*]; done), by repeat (first | exact Drawn0.refl _ | apply Drawn0.step)⟩
end Go.Proofs.YtbccjcdmpiolpaaDoor.T
end
section
namespace Go.Proofs.YtbccjcdmpiolpaaDoor.T
open Go.RowKit Go.Proofs.YtbccjcdmpiolpaaDoorW.PrintWords Go.Proofs.YtbccjcdmpiolpaaDoorW.PrintLast Go.Proofs.YtbccjcdmpiolpaaDoorW.PrintMore
attribute [local go_sem] max2_int min2_int max_two min_two max_three min_three max_four min_four
set_option linter.unusedVariables false
set_option linter.unusedSimpArgs false
mutual
def plenumref41_Check.j0 : Nat → Bool → ByteArray → ByteArray → Int → Int → Int → Int → ByteArray → Int → Int → ByteArray → Int → Int → Int → List ByteArray → Int → Int → Int → Int → Option (Int)
  | 0, _, _, _, _, _, _, _, _, _, _, _, _, _, _, _, _, _, _, _ => none
  | k + 1, x5, x167000, x167001, x167002, x167003, x167004, x167005, x168000, x168001, x168002, x168003, x168004, x168005, x168006, x168007, x168008, x168009, x168010, x168011 => if x167002 = 1 then (if x5 = true then (if x167003 ≥ 1 then (if x167003 ≤ 86400 then (if x167004 = 0 then (some 0) else (some 6)) else (some 6)) else (some 6)) else (some 6)) else (if x167002 = 2 then (if x5 = true then (plenumref41_Check.j1 k (x167003 == 0) x167000 x167001 x167002 x167003 x167004 x167005 x168000 x168001 x168002 x168003 x168004 x168005 x168006 x168007 x168008 x168009 x168010 x168011) else (plenumref41_Check.j1 k false x167000 x167001 x167002 x167003 x167004 x167005 x168000 x168001 x168002 x168003 x168004 x168005 x168006 x168007 x168008 x168009 x168010 x168011)) else (if x167002 = 3 then (if x5 = true then (if x167003 = 0 then (if x167004 = 0 then (some 0) else (some 6)) else (some 6)) else (some 6)) else (some 1)))
def plenumref41_Check.j1 : Nat → Bool → ByteArray → ByteArray → Int → Int → Int → Int → ByteArray → Int → Int → ByteArray → Int → Int → Int → List ByteArray → Int → Int → Int → Int → Option (Int)
  | 0, _, _, _, _, _, _, _, _, _, _, _, _, _, _, _, _, _, _, _ => none
  | k + 1, x5, x167000, x167001, x167002, x167003, x167004, x167005, x168000, x168001, x168002, x168003, x168004, x168005, x168006, x168007, x168008, x168009, x168010, x168011 => if x168001 = 1 then (if x5 = true then (if x167004 ≥ 1 then (if x167004 ≤ 1000000000000 then (some 0) else (some 6)) else (some 6)) else (some 6)) else (if x5 = true then (if x167004 = 0 then (some 0) else (some 6)) else (some 6))
end
def plenumref41_Check.f (k : Nat) (a0_0 : ByteArray) (a0_1 : ByteArray) (a0_2 : Int) (a0_3 : Int) (a0_4 : Int) (a0_5 : Int) (a1_0 : ByteArray) (a1_1 : Int) (a1_2 : Int) (a1_3 : ByteArray) (a1_4 : Int) (a1_5 : Int) (a1_6 : Int) (l1_7 : List ByteArray) (a1_8 : Int) (a1_9 : Int) (a1_10 : Int) (a1_11 : Int) : Option (Int) := (plenumref07_Name.f k a0_0).bind fun t168 => (if t168 = true then (if a0_1.toList = a1_0.toList then (if a0_5 ≥ 1 then (plenumref41_Check.j0 k (decide (a0_5 ≤ 1024)) a0_0 a0_1 a0_2 a0_3 a0_4 a0_5 a1_0 a1_1 a1_2 a1_3 a1_4 a1_5 a1_6 l1_7 a1_8 a1_9 a1_10 a1_11) else (plenumref41_Check.j0 k false a0_0 a0_1 a0_2 a0_3 a0_4 a0_5 a1_0 a1_1 a1_2 a1_3 a1_4 a1_5 a1_6 l1_7 a1_8 a1_9 a1_10 a1_11)) else (some 3)) else (some 4))
set_option maxHeartbeats 8000000 in
set_option maxRecDepth 100000 in
theorem plenumref41_Check.calls (k : Nat) (a0_0 : ByteArray) (a0_1 : ByteArray) (a0_2 : Int) (a0_3 : Int) (a0_4 : Int) (a0_5 : Int) (a1_0 : ByteArray) (a1_1 : Int) (a1_2 : Int) (a1_3 : ByteArray) (a1_4 : Int) (a1_5 : Int) (a1_6 : Int) (A1_7 : Option Addr) (c1_7 : Nat) (l1_7 : List ByteArray) (a1_8 : Int) (a1_9 : Int) (a1_10 : Int) (a1_11 : Int) (r : Int) (w : World) (hG : Glob w) (hr1_7 : Kd.C Kd.string w A1_7 l1_7.length l1_7) (hc1_7 : l1_7.length ≤ c1_7) (h : plenumref41_Check.f k a0_0 a0_1 a0_2 a0_3 a0_4 a0_5 a1_0 a1_1 a1_2 a1_3 a1_4 a1_5 a1_6 l1_7 a1_8 a1_9 a1_10 a1_11 = some r) :
    Calls Tryd.prog 18 #[.agg #[.string a0_0, .string a0_1, .int .i64 a0_2, .int .i64 a0_3, .int .i64 a0_4, .int .i64 a0_5], .agg #[.string a1_0, .int .i64 a1_1, .int .i64 a1_2, .string a1_3, .int .i64 a1_4, .int .i64 a1_5, .int .i64 a1_6, .slice A1_7 l1_7.length c1_7, .int .i64 a1_8, .int .i64 a1_9, .int .i64 a1_10, .int .i64 a1_11]] w fun e w' => e = .returned (.int .i64 r) ∧ Below w.heap.size w w' := by
  have hu23 := Tryd.underlying23
  have hu51 := Tryd.underlying51
  have HG := Aside0.mk hG
  clear hG
  have HR1_7 := Aside0.mk hr1_7
  have HC1_7 := Aside0.mk hc1_7
  clear hr1_7 hc1_7
  have HB := Aside0.mk (Below.refl w.heap.size w)
  have H : ((plenumref07_Name.f k a0_0).bind fun t168 => (if t168 = true then (if a0_1.toList = a1_0.toList then (if a0_5 ≥ 1 then (plenumref41_Check.j0 k (decide (a0_5 ≤ 1024)) a0_0 a0_1 a0_2 a0_3 a0_4 a0_5 a1_0 a1_1 a1_2 a1_3 a1_4 a1_5 a1_6 l1_7 a1_8 a1_9 a1_10 a1_11) else (plenumref41_Check.j0 k false a0_0 a0_1 a0_2 a0_3 a0_4 a0_5 a1_0 a1_1 a1_2 a1_3 a1_4 a1_5 a1_6 l1_7 a1_8 a1_9 a1_10 a1_11)) else (some 3)) else (some 4))) = some r := h
  clear h
  replace H := Option.bind_eq_some_iff.mp H
  obtain ⟨t168, A30, H⟩ := H
  replace H : (if t168 = true then (if a0_1.toList = a1_0.toList then (if a0_5 ≥ 1 then (plenumref41_Check.j0 k (decide (a0_5 ≤ 1024)) a0_0 a0_1 a0_2 a0_3 a0_4 a0_5 a1_0 a1_1 a1_2 a1_3 a1_4 a1_5 a1_6 l1_7 a1_8 a1_9 a1_10 a1_11) else (plenumref41_Check.j0 k false a0_0 a0_1 a0_2 a0_3 a0_4 a0_5 a1_0 a1_1 a1_2 a1_3 a1_4 a1_5 a1_6 l1_7 a1_8 a1_9 a1_10 a1_11)) else (some 3)) else (some 4)) = some r := H
  have A3 := Aside0.mk A30
  clear A30
  by_cases c4 : t168 = true
  · subst c4
    have H1 : (if a0_1.toList = a1_0.toList then (if a0_5 ≥ 1 then (plenumref41_Check.j0 k (decide (a0_5 ≤ 1024)) a0_0 a0_1 a0_2 a0_3 a0_4 a0_5 a1_0 a1_1 a1_2 a1_3 a1_4 a1_5 a1_6 l1_7 a1_8 a1_9 a1_10 a1_11) else (plenumref41_Check.j0 k false a0_0 a0_1 a0_2 a0_3 a0_4 a0_5 a1_0 a1_1 a1_2 a1_3 a1_4 a1_5 a1_6 l1_7 a1_8 a1_9 a1_10 a1_11)) else (some 3)) = some r := by rw [if_pos rfl] at H; exact H
    clear H
    have H := H1
    clear H1
    by_cases c5 : a0_1.toList = a1_0.toList
    · rw [if_pos c5] at H
      have c5b0 : (a0_1.toList == a1_0.toList) = true := beq_iff_eq.mpr c5
      have c5b1 : (a0_1.toList != a1_0.toList) = false := bne_eq_false_iff_eq.mpr c5
      clear c5
      have HC6 := Aside0.mk H
      clear H
      go_enter Tryd.func18, Tryd.ntmps18
      go_upto_region 5 with (first | ((with_reducible refine gate_dst (N := 2) rfl ?_); refine box_event ?hg (N := 2) ?hd (cs := #[.string a0_0, .string a0_1, .int .i64 a0_2, .int .i64 a0_3, .int .i64 a0_4, .int .i64 a0_5]) (t := 23) ?hr ?_; (case hd => rfl); (case hg => rfl); (case hr => first | (go_simp; done) | (go_simp; rfl)); intro gb166 hg w7 hbox hb; have n0_ := Aside0.mk (below_step (by repeat (first | (with_reducible first | exact HB.out | apply below_alloc | apply pw_below_drewN | apply below_drew1) | exact HB.out)) hb); have n1_ := Aside0.mk (hbox); have n2_ := Aside0.mk ((by rw [hg]; exact (below_size (by repeat (first | (with_reducible first | exact HB.out | apply below_alloc | apply pw_below_drewN | apply below_drew1) | exact HB.out))) : w.heap.size ≤ gb166)); have n3_ := Aside0.mk ((by rw [hg]; exact (below_size (by repeat (first | (with_reducible first | exact HB.out | apply below_alloc | apply pw_below_drewN | apply below_drew1) | exact HB.out))) : w.heap.size ≤ gb166)); clear HB; have HB := n0_; have BK166 := n1_; have GW166 := n2_; have GE166 := n3_; clear n0_ n1_ n2_ n3_; clear hb hbox hg) | ((with_reducible refine gate_dst (N := 3) rfl ?_); refine box_event ?hg (N := 3) ?hd (cs := #[.string a1_0, .int .i64 a1_1, .int .i64 a1_2, .string a1_3, .int .i64 a1_4, .int .i64 a1_5, .int .i64 a1_6, .slice A1_7 l1_7.length c1_7, .int .i64 a1_8, .int .i64 a1_9, .int .i64 a1_10, .int .i64 a1_11]) (t := 51) ?hr ?_; (case hd => rfl); (case hg => rfl); (case hr => first | (go_simp; done) | (go_simp; rfl)); intro gb167 hg w8 hbox hb; have n0_ := Aside0.mk (blk_below (g := gb166) (o := .cells #[.string a0_0, .string a0_1, .int .i64 a0_2, .int .i64 a0_3, .int .i64 a0_4, .int .i64 a0_5] 23 (0, 0)) (by (with_reducible repeat (first | refine blk_drewN ?_ _ | refine blk_drew ?_ | refine blk_alloc ?_ _)); exact BK166.out) hb); have n1_ := Aside0.mk (below_step (by repeat (first | (with_reducible first | exact HB.out | apply below_alloc | apply pw_below_drewN | apply below_drew1 | refine below_set ?_ GE166.out) | exact HB.out)) hb); have n2_ := Aside0.mk (hbox); have n3_ := Aside0.mk ((by rw [hg]; exact (below_size (by repeat (first | (with_reducible first | exact HB.out | apply below_alloc | apply pw_below_drewN | apply below_drew1 | refine below_set ?_ GE166.out) | exact HB.out))) : w.heap.size ≤ gb167)); have n4_ := Aside0.mk ((by rw [hg]; exact (below_size (by repeat (first | (with_reducible first | exact HB.out | apply below_alloc | apply pw_below_drewN | apply below_drew1 | refine below_set ?_ GE166.out) | exact HB.out))) : w.heap.size ≤ gb167)); have n5_ := Aside0.mk ((by rw [hg]; exact Nat.ne_of_lt (blk_lt (g := gb166) (o := .cells #[.string a0_0, .string a0_1, .int .i64 a0_2, .int .i64 a0_3, .int .i64 a0_4, .int .i64 a0_5] 23 (0, 0)) (by (with_reducible repeat (first | refine blk_drewN ?_ _ | refine blk_drew ?_ | refine blk_alloc ?_ _)); exact BK166.out)) : gb166 ≠ gb167)); have n6_ := Aside0.mk ((by rw [hg]; exact Nat.ne_of_gt (blk_lt (g := gb166) (o := .cells #[.string a0_0, .string a0_1, .int .i64 a0_2, .int .i64 a0_3, .int .i64 a0_4, .int .i64 a0_5] 23 (0, 0)) (by (with_reducible repeat (first | refine blk_drewN ?_ _ | refine blk_drew ?_ | refine blk_alloc ?_ _)); exact BK166.out)) : gb167 ≠ gb166)); clear BK166; clear HB; have BK166 := n0_; have HB := n1_; have BK167 := n2_; have GW167 := n3_; have GE167 := n4_; have NB166_167 := n5_; have NB167_166 := n6_; clear n0_ n1_ n2_ n3_ n4_ n5_ n6_; clear hb hbox hg; have hnb9 := NB166_167.out; have hnc9 := NB167_166.out; have hcz10_0 : w8.cell? ⟨gb166, 0, none⟩ = some (.string a0_0) := (blk_cell BK166.out 0).trans rfl; have hcz10_1 : w8.cell? ⟨gb166, 1, none⟩ = some (.string a0_1) := (blk_cell BK166.out 1).trans rfl; have hcz10_2 : w8.cell? ⟨gb166, 2, none⟩ = some (.int .i64 a0_2) := (blk_cell BK166.out 2).trans rfl; have hcz10_3 : w8.cell? ⟨gb166, 3, none⟩ = some (.int .i64 a0_3) := (blk_cell BK166.out 3).trans rfl; have hcz10_4 : w8.cell? ⟨gb166, 4, none⟩ = some (.int .i64 a0_4) := (blk_cell BK166.out 4).trans rfl; have hcz10_5 : w8.cell? ⟨gb166, 5, none⟩ = some (.int .i64 a0_5) := (blk_cell BK166.out 5).trans rfl; have hfz10_0 := blk_frozen BK166.out 0; have hfz10_1 := blk_frozen BK166.out 1; have hfz10_2 := blk_frozen BK166.out 2; have hfz10_3 := blk_frozen BK166.out 3; have hfz10_4 := blk_frozen BK166.out 4; have hfz10_5 := blk_frozen BK166.out 5) | ((with_reducible refine gate_callee (f := 30) rfl ?_); refine goesL_ (some 8) rfl rfl Tryd.func30 (by kernel_rfl) rfl #[.string a0_0] rfl (by (try simp only [List.map_toArray, List.map_cons, List.map_nil]); first | done | rfl | (simp only [List.length_drop, List.length_take]; rfl)) ?_; (with_reducible refine (plenumref07_Name.calls k a0_0 true _ ?side99  A3.out).mono ?_); (case side99 => first | exact HG.out | exact Glob.below HG.out (by repeat (first | (with_reducible first | exact HB.out | apply below_alloc | apply pw_below_drewN | apply below_drew1 | refine below_set ?_ GE166.out | refine below_set ?_ GE167.out) | exact HB.out))); rintro e w' ⟨rfl, ⟨nd, rfl⟩⟩; refine ⟨_, rfl, ?_⟩; have hcz11_0 : w8.cell? ⟨gb167, 0, none⟩ = some (.string a1_0) := (blk_cell BK167.out 0).trans rfl; have hcz11_1 : w8.cell? ⟨gb167, 1, none⟩ = some (.int .i64 a1_1) := (blk_cell BK167.out 1).trans rfl; have hcz11_2 : w8.cell? ⟨gb167, 2, none⟩ = some (.int .i64 a1_2) := (blk_cell BK167.out 2).trans rfl; have hcz11_3 : w8.cell? ⟨gb167, 3, none⟩ = some (.string a1_3) := (blk_cell BK167.out 3).trans rfl; have hcz11_4 : w8.cell? ⟨gb167, 4, none⟩ = some (.int .i64 a1_4) := (blk_cell BK167.out 4).trans rfl; have hcz11_5 : w8.cell? ⟨gb167, 5, none⟩ = some (.int .i64 a1_5) := (blk_cell BK167.out 5).trans rfl; have hcz11_6 : w8.cell? ⟨gb167, 6, none⟩ = some (.int .i64 a1_6) := (blk_cell BK167.out 6).trans rfl; have hcz11_7 : w8.cell? ⟨gb167, 7, none⟩ = some (.slice A1_7 l1_7.length c1_7) := (blk_cell BK167.out 7).trans rfl; have hcz11_8 : w8.cell? ⟨gb167, 8, none⟩ = some (.int .i64 a1_8) := (blk_cell BK167.out 8).trans rfl; have hcz11_9 : w8.cell? ⟨gb167, 9, none⟩ = some (.int .i64 a1_9) := (blk_cell BK167.out 9).trans rfl; have hcz11_10 : w8.cell? ⟨gb167, 10, none⟩ = some (.int .i64 a1_10) := (blk_cell BK167.out 10).trans rfl; have hcz11_11 : w8.cell? ⟨gb167, 11, none⟩ = some (.int .i64 a1_11) := (blk_cell BK167.out 11).trans rfl; have hfz11_0 := blk_frozen BK167.out 0; have hfz11_1 := blk_frozen BK167.out 1; have hfz11_2 := blk_frozen BK167.out 2; have hfz11_3 := blk_frozen BK167.out 3; have hfz11_4 := blk_frozen BK167.out 4; have hfz11_5 := blk_frozen BK167.out 5; have hfz11_6 := blk_frozen BK167.out 6; have hfz11_7 := blk_frozen BK167.out 7; have hfz11_8 := blk_frozen BK167.out 8; have hfz11_9 := blk_frozen BK167.out 9; have hfz11_10 := blk_frozen BK167.out 10; have hfz11_11 := blk_frozen BK167.out 11))
      (try simp only [Act.put, List.setIfInBounds_toArray, List.set_cons_zero, List.set_cons_succ])
      go_cut [5] (fun v5 wc => ∃ (kq : Nat) (x5_5 : Bool), v5 = .bool x5_5 ∧ Aside0 (plenumref41_Check.j0 kq x5_5 a0_0 a0_1 a0_2 a0_3 a0_4 a0_5 a1_0 a1_1 a1_2 a1_3 a1_4 a1_5 a1_6 l1_7 a1_8 a1_9 a1_10 a1_11 = some r) ∧ Aside0 (kq ≤ k) ∧ Aside0 (wc.heap[gb166]? = some (.cells #[.string a0_0, .string a0_1, .int .i64 a0_2, .int .i64 a0_3, .int .i64 a0_4, .int .i64 a0_5] 23 (0, 0))) ∧ Aside0 (wc.heap[gb167]? = some (.cells #[.string a1_0, .int .i64 a1_1, .int .i64 a1_2, .string a1_3, .int .i64 a1_4, .int .i64 a1_5, .int .i64 a1_6, (.slice A1_7 l1_7.length c1_7), .int .i64 a1_8, .int .i64 a1_9, .int .i64 a1_10, .int .i64 a1_11] 51 (0, 0))) ∧ Aside0 (Below w.heap.size w wc))
      case first =>
        have H := HC6.out
        clear HC6
        by_cases c12 : a0_5 ≥ 1
        · rw [if_pos c12] at H
          have c12b0 : decide (1 ≤ a0_5) = true := decide_eq_true c12
          clear c12
          (first | rw [c12b0] | (simp only [i64_w, i32_w]; rw [c12b0]) | skip)
          have H' := Aside0.mk H
          clear H
          have hnb13 := NB166_167.out
          have hnc13 := NB167_166.out
          have hcz14_0 : w8.cell? ⟨gb166, 0, none⟩ = some (.string a0_0) := (blk_cell BK166.out 0).trans rfl
          have hcz14_1 : w8.cell? ⟨gb166, 1, none⟩ = some (.string a0_1) := (blk_cell BK166.out 1).trans rfl
          have hcz14_2 : w8.cell? ⟨gb166, 2, none⟩ = some (.int .i64 a0_2) := (blk_cell BK166.out 2).trans rfl
          have hcz14_3 : w8.cell? ⟨gb166, 3, none⟩ = some (.int .i64 a0_3) := (blk_cell BK166.out 3).trans rfl
          have hcz14_4 : w8.cell? ⟨gb166, 4, none⟩ = some (.int .i64 a0_4) := (blk_cell BK166.out 4).trans rfl
          have hcz14_5 : w8.cell? ⟨gb166, 5, none⟩ = some (.int .i64 a0_5) := (blk_cell BK166.out 5).trans rfl
          have hfz14_0 := blk_frozen BK166.out 0
          have hfz14_1 := blk_frozen BK166.out 1
          have hfz14_2 := blk_frozen BK166.out 2
          have hfz14_3 := blk_frozen BK166.out 3
          have hfz14_4 := blk_frozen BK166.out 4
          have hfz14_5 := blk_frozen BK166.out 5
          go_wp2
          go_meet
          case rel => exact ⟨_, (decide (a0_5 ≤ 1024)), (by first | rfl | (simp; done) | (simp [*]; done)), H', ⟨by first | omega | exact Nat.le_refl _⟩, ⟨by (with_reducible repeat (first | refine blk_drewN ?_ _ | refine blk_drew ?_ | refine blk_alloc ?_ _)); exact BK166.out⟩, ⟨by (with_reducible repeat (first | refine blk_drewN ?_ _ | refine blk_drew ?_ | refine blk_alloc ?_ _)); exact BK167.out⟩, ⟨by repeat (first | (with_reducible first | exact HB.out | apply below_alloc | apply pw_below_drewN | apply below_drew1 | refine below_set ?_ GE166.out | refine below_set ?_ GE167.out) | exact HB.out)⟩⟩
        · rw [if_neg c12] at H
          have c12b0 : decide (1 ≤ a0_5) = false := decide_eq_false c12
          clear c12
          (first | rw [c12b0] | (simp only [i64_w, i32_w]; rw [c12b0]) | skip)
          have H' := Aside0.mk H
          clear H
          have hnb15 := NB166_167.out
          have hnc15 := NB167_166.out
          have hcz16_0 : w8.cell? ⟨gb166, 0, none⟩ = some (.string a0_0) := (blk_cell BK166.out 0).trans rfl
          have hcz16_1 : w8.cell? ⟨gb166, 1, none⟩ = some (.string a0_1) := (blk_cell BK166.out 1).trans rfl
          have hcz16_2 : w8.cell? ⟨gb166, 2, none⟩ = some (.int .i64 a0_2) := (blk_cell BK166.out 2).trans rfl
          have hcz16_3 : w8.cell? ⟨gb166, 3, none⟩ = some (.int .i64 a0_3) := (blk_cell BK166.out 3).trans rfl
          have hcz16_4 : w8.cell? ⟨gb166, 4, none⟩ = some (.int .i64 a0_4) := (blk_cell BK166.out 4).trans rfl
          have hcz16_5 : w8.cell? ⟨gb166, 5, none⟩ = some (.int .i64 a0_5) := (blk_cell BK166.out 5).trans rfl
          have hfz16_0 := blk_frozen BK166.out 0
          have hfz16_1 := blk_frozen BK166.out 1
          have hfz16_2 := blk_frozen BK166.out 2
          have hfz16_3 := blk_frozen BK166.out 3
          have hfz16_4 := blk_frozen BK166.out 4
          have hfz16_5 := blk_frozen BK166.out 5
          go_wp2
          go_meet
          case rel => exact ⟨_, (false), (by first | rfl | (simp; done) | (simp [*]; done)), H', ⟨by first | omega | exact Nat.le_refl _⟩, ⟨by (with_reducible repeat (first | refine blk_drewN ?_ _ | refine blk_drew ?_ | refine blk_alloc ?_ _)); exact BK166.out⟩, ⟨by (with_reducible repeat (first | refine blk_drewN ?_ _ | refine blk_drew ?_ | refine blk_alloc ?_ _)); exact BK167.out⟩, ⟨by repeat (first | (with_reducible first | exact HB.out | apply below_alloc | apply pw_below_drewN | apply below_drew1 | refine below_set ?_ GE166.out | refine below_set ?_ GE167.out) | exact HB.out)⟩⟩
      case rest =>
        clear HC6
        try clear c1
        try clear p2
        try clear c3
        try clear c4
        try clear c5
        try clear c5b0
        try clear c5b1
        try clear c9
        try clear c12
        try clear c12b0
        try clear c13
        try clear c15
        try clear hcz10_0
        try clear hcz10_1
        try clear hcz10_2
        try clear hcz10_3
        try clear hcz10_4
        try clear hcz10_5
        try clear hcz11_0
        try clear hcz11_1
        try clear hcz11_10
        try clear hcz11_11
        try clear hcz11_2
        try clear hcz11_3
        try clear hcz11_4
        try clear hcz11_5
        try clear hcz11_6
        try clear hcz11_7
        try clear hcz11_8
        try clear hcz11_9
        try clear hcz14_0
        try clear hcz14_1
        try clear hcz14_2
        try clear hcz14_3
        try clear hcz14_4
        try clear hcz14_5
        try clear hcz16_0
        try clear hcz16_1
        try clear hcz16_2
        try clear hcz16_3
        try clear hcz16_4
        try clear hcz16_5
        try clear hfz10_0
        try clear hfz10_1
        try clear hfz10_2
        try clear hfz10_3
        try clear hfz10_4
        try clear hfz10_5
        try clear hfz11_0
        try clear hfz11_1
        try clear hfz11_10
        try clear hfz11_11
        try clear hfz11_2
        try clear hfz11_3
        try clear hfz11_4
        try clear hfz11_5
        try clear hfz11_6
        try clear hfz11_7
        try clear hfz11_8
        try clear hfz11_9
        try clear hfz14_0
        try clear hfz14_1
        try clear hfz14_2
        try clear hfz14_3
        try clear hfz14_4
        try clear hfz14_5
        try clear hfz16_0
        try clear hfz16_1
        try clear hfz16_2
        try clear hfz16_3
        try clear hfz16_4
        try clear hfz16_5
        obtain ⟨kq, x5_5, rfl, HA, HJ5, BK166, BK167, HB⟩ := hcut
        cases kq with
        | zero => exact absurd HA.out (by simp [plenumref41_Check.j0])
        | succ kj5 =>
          have H := HA.out
          clear HA
          simp only [plenumref41_Check.j0] at H
          by_cases c17 : a0_2 = 1
          · rw [if_pos c17] at H
            have c17b0 : (a0_2 == 1) = true := beq_iff_eq.mpr c17
            have c17b1 : (a0_2 != 1) = false := bne_eq_false_iff_eq.mpr c17
            clear c17
            by_cases c18 : x5_5 = true
            · subst c18
              have H1 : (if a0_3 ≥ 1 then (if a0_3 ≤ 86400 then (if a0_4 = 0 then (some 0) else (some 6)) else (some 6)) else (some 6)) = some r := by rw [if_pos rfl] at H; exact H
              clear H
              have H := H1
              clear H1
              by_cases c19 : a0_3 ≥ 1
              · rw [if_pos c19] at H
                have c19b0 : decide (1 ≤ a0_3) = true := decide_eq_true c19
                clear c19
                by_cases c20 : a0_3 ≤ 86400
                · rw [if_pos c20] at H
                  have c20b0 : decide (a0_3 ≤ 86400) = true := decide_eq_true c20
                  clear c20
                  by_cases c21 : a0_4 = 0
                  · rw [if_pos c21] at H
                    have c21b0 : (a0_4 == 0) = true := beq_iff_eq.mpr c21
                    have c21b1 : (a0_4 != 0) = false := bne_eq_false_iff_eq.mpr c21
                    clear c21
                    obtain rfl := Option.some.inj H
                    have hnb22 := NB166_167.out
                    have hnc22 := NB167_166.out
                    have hcz23_0 : wc.cell? ⟨gb166, 0, none⟩ = some (.string a0_0) := (blk_cell BK166.out 0).trans rfl
                    have hcz23_1 : wc.cell? ⟨gb166, 1, none⟩ = some (.string a0_1) := (blk_cell BK166.out 1).trans rfl
                    have hcz23_2 : wc.cell? ⟨gb166, 2, none⟩ = some (.int .i64 a0_2) := (blk_cell BK166.out 2).trans rfl
                    have hcz23_3 : wc.cell? ⟨gb166, 3, none⟩ = some (.int .i64 a0_3) := (blk_cell BK166.out 3).trans rfl
                    have hcz23_4 : wc.cell? ⟨gb166, 4, none⟩ = some (.int .i64 a0_4) := (blk_cell BK166.out 4).trans rfl
                    have hcz23_5 : wc.cell? ⟨gb166, 5, none⟩ = some (.int .i64 a0_5) := (blk_cell BK166.out 5).trans rfl
                    have hfz23_0 := blk_frozen BK166.out 0
                    have hfz23_1 := blk_frozen BK166.out 1
                    have hfz23_2 := blk_frozen BK166.out 2
                    have hfz23_3 := blk_frozen BK166.out 3
                    have hfz23_4 := blk_frozen BK166.out 4
                    have hfz23_5 := blk_frozen BK166.out 5
                    go_wp2
                    go_ret
                    exact ⟨by first | rfl | (simp [errW_none, errW_some] <;> rfl) | (simp [*, errW_none, errW_some] <;> rfl), by repeat (first | (with_reducible first | exact HB.out | apply below_alloc | apply pw_below_drewN | apply below_drew1 | refine below_set ?_ GE166.out | refine below_set ?_ GE167.out) | exact HB.out)⟩
                  · rw [if_neg c21] at H
                    have c21b0 : (a0_4 == 0) = false := beq_eq_false_iff_ne.mpr c21
                    have c21b1 : (a0_4 != 0) = true := bne_iff_ne.mpr c21
                    obtain rfl := Option.some.inj H
                    have hnb24 := NB166_167.out
                    have hnc24 := NB167_166.out
                    have hcz25_0 : wc.cell? ⟨gb166, 0, none⟩ = some (.string a0_0) := (blk_cell BK166.out 0).trans rfl
                    have hcz25_1 : wc.cell? ⟨gb166, 1, none⟩ = some (.string a0_1) := (blk_cell BK166.out 1).trans rfl
                    have hcz25_2 : wc.cell? ⟨gb166, 2, none⟩ = some (.int .i64 a0_2) := (blk_cell BK166.out 2).trans rfl
                    have hcz25_3 : wc.cell? ⟨gb166, 3, none⟩ = some (.int .i64 a0_3) := (blk_cell BK166.out 3).trans rfl
                    have hcz25_4 : wc.cell? ⟨gb166, 4, none⟩ = some (.int .i64 a0_4) := (blk_cell BK166.out 4).trans rfl
                    have hcz25_5 : wc.cell? ⟨gb166, 5, none⟩ = some (.int .i64 a0_5) := (blk_cell BK166.out 5).trans rfl
                    have hfz25_0 := blk_frozen BK166.out 0
                    have hfz25_1 := blk_frozen BK166.out 1
                    have hfz25_2 := blk_frozen BK166.out 2
                    have hfz25_3 := blk_frozen BK166.out 3
                    have hfz25_4 := blk_frozen BK166.out 4
                    have hfz25_5 := blk_frozen BK166.out 5
                    go_wp2
                    go_ret
                    exact ⟨by first | rfl | (simp [errW_none, errW_some] <;> rfl) | (simp [*, errW_none, errW_some] <;> rfl), by repeat (first | (with_reducible first | exact HB.out | apply below_alloc | apply pw_below_drewN | apply below_drew1 | refine below_set ?_ GE166.out | refine below_set ?_ GE167.out) | exact HB.out)⟩
                · rw [if_neg c20] at H
                  have c20b0 : decide (a0_3 ≤ 86400) = false := decide_eq_false c20
                  clear c20
                  obtain rfl := Option.some.inj H
                  have hnb26 := NB166_167.out
                  have hnc26 := NB167_166.out
                  have hcz27_0 : wc.cell? ⟨gb166, 0, none⟩ = some (.string a0_0) := (blk_cell BK166.out 0).trans rfl
                  have hcz27_1 : wc.cell? ⟨gb166, 1, none⟩ = some (.string a0_1) := (blk_cell BK166.out 1).trans rfl
                  have hcz27_2 : wc.cell? ⟨gb166, 2, none⟩ = some (.int .i64 a0_2) := (blk_cell BK166.out 2).trans rfl
                  have hcz27_3 : wc.cell? ⟨gb166, 3, none⟩ = some (.int .i64 a0_3) := (blk_cell BK166.out 3).trans rfl
                  have hcz27_4 : wc.cell? ⟨gb166, 4, none⟩ = some (.int .i64 a0_4) := (blk_cell BK166.out 4).trans rfl
                  have hcz27_5 : wc.cell? ⟨gb166, 5, none⟩ = some (.int .i64 a0_5) := (blk_cell BK166.out 5).trans rfl
                  have hfz27_0 := blk_frozen BK166.out 0
                  have hfz27_1 := blk_frozen BK166.out 1
                  have hfz27_2 := blk_frozen BK166.out 2
                  have hfz27_3 := blk_frozen BK166.out 3
                  have hfz27_4 := blk_frozen BK166.out 4
                  have hfz27_5 := blk_frozen BK166.out 5
                  go_wp2
                  go_ret
                  exact ⟨by first | rfl | (simp [errW_none, errW_some] <;> rfl) | (simp [*, errW_none, errW_some] <;> rfl), by repeat (first | (with_reducible first | exact HB.out | apply below_alloc | apply pw_below_drewN | apply below_drew1 | refine below_set ?_ GE166.out | refine below_set ?_ GE167.out) | exact HB.out)⟩
              · rw [if_neg c19] at H
                have c19b0 : decide (1 ≤ a0_3) = false := decide_eq_false c19
                clear c19
                obtain rfl := Option.some.inj H
                have hnb28 := NB166_167.out
                have hnc28 := NB167_166.out
                have hcz29_0 : wc.cell? ⟨gb166, 0, none⟩ = some (.string a0_0) := (blk_cell BK166.out 0).trans rfl
                have hcz29_1 : wc.cell? ⟨gb166, 1, none⟩ = some (.string a0_1) := (blk_cell BK166.out 1).trans rfl
                have hcz29_2 : wc.cell? ⟨gb166, 2, none⟩ = some (.int .i64 a0_2) := (blk_cell BK166.out 2).trans rfl
                have hcz29_3 : wc.cell? ⟨gb166, 3, none⟩ = some (.int .i64 a0_3) := (blk_cell BK166.out 3).trans rfl
                have hcz29_4 : wc.cell? ⟨gb166, 4, none⟩ = some (.int .i64 a0_4) := (blk_cell BK166.out 4).trans rfl
                have hcz29_5 : wc.cell? ⟨gb166, 5, none⟩ = some (.int .i64 a0_5) := (blk_cell BK166.out 5).trans rfl
                have hfz29_0 := blk_frozen BK166.out 0
                have hfz29_1 := blk_frozen BK166.out 1
                have hfz29_2 := blk_frozen BK166.out 2
                have hfz29_3 := blk_frozen BK166.out 3
                have hfz29_4 := blk_frozen BK166.out 4
                have hfz29_5 := blk_frozen BK166.out 5
                go_wp2
                go_ret
                exact ⟨by first | rfl | (simp [errW_none, errW_some] <;> rfl) | (simp [*, errW_none, errW_some] <;> rfl), by repeat (first | (with_reducible first | exact HB.out | apply below_alloc | apply pw_below_drewN | apply below_drew1 | refine below_set ?_ GE166.out | refine below_set ?_ GE167.out) | exact HB.out)⟩
            · replace c18 := Bool.eq_false_iff.mpr c18
              subst c18
              have H1 : (some 6) = some r := by rw [if_neg (show ¬ (false = true) by decide)] at H; exact H
              clear H
              have H := H1
              clear H1
              obtain rfl := Option.some.inj H
              have hnb30 := NB166_167.out
              have hnc30 := NB167_166.out
              have hcz31_0 : wc.cell? ⟨gb166, 0, none⟩ = some (.string a0_0) := (blk_cell BK166.out 0).trans rfl
              have hcz31_1 : wc.cell? ⟨gb166, 1, none⟩ = some (.string a0_1) := (blk_cell BK166.out 1).trans rfl
              have hcz31_2 : wc.cell? ⟨gb166, 2, none⟩ = some (.int .i64 a0_2) := (blk_cell BK166.out 2).trans rfl
              have hcz31_3 : wc.cell? ⟨gb166, 3, none⟩ = some (.int .i64 a0_3) := (blk_cell BK166.out 3).trans rfl
              have hcz31_4 : wc.cell? ⟨gb166, 4, none⟩ = some (.int .i64 a0_4) := (blk_cell BK166.out 4).trans rfl
              have hcz31_5 : wc.cell? ⟨gb166, 5, none⟩ = some (.int .i64 a0_5) := (blk_cell BK166.out 5).trans rfl
              have hfz31_0 := blk_frozen BK166.out 0
              have hfz31_1 := blk_frozen BK166.out 1
              have hfz31_2 := blk_frozen BK166.out 2
              have hfz31_3 := blk_frozen BK166.out 3
              have hfz31_4 := blk_frozen BK166.out 4
              have hfz31_5 := blk_frozen BK166.out 5
              go_wp2
              go_ret
              exact ⟨by first | rfl | (simp [errW_none, errW_some] <;> rfl) | (simp [*, errW_none, errW_some] <;> rfl), by repeat (first | (with_reducible first | exact HB.out | apply below_alloc | apply pw_below_drewN | apply below_drew1 | refine below_set ?_ GE166.out | refine below_set ?_ GE167.out) | exact HB.out)⟩
          · rw [if_neg c17] at H
            have c17b0 : (a0_2 == 1) = false := beq_eq_false_iff_ne.mpr c17
            have c17b1 : (a0_2 != 1) = true := bne_iff_ne.mpr c17
            by_cases c32 : a0_2 = 2
            · rw [if_pos c32] at H
              have c32b0 : (a0_2 == 2) = true := beq_iff_eq.mpr c32
              have c32b1 : (a0_2 != 2) = false := bne_eq_false_iff_eq.mpr c32
              clear c32
              have HC33 := Aside0.mk H
              clear H
              have hnb34 := NB166_167.out
              have hnc34 := NB167_166.out
              have hcz35_0 : wc.cell? ⟨gb166, 0, none⟩ = some (.string a0_0) := (blk_cell BK166.out 0).trans rfl
              have hcz35_1 : wc.cell? ⟨gb166, 1, none⟩ = some (.string a0_1) := (blk_cell BK166.out 1).trans rfl
              have hcz35_2 : wc.cell? ⟨gb166, 2, none⟩ = some (.int .i64 a0_2) := (blk_cell BK166.out 2).trans rfl
              have hcz35_3 : wc.cell? ⟨gb166, 3, none⟩ = some (.int .i64 a0_3) := (blk_cell BK166.out 3).trans rfl
              have hcz35_4 : wc.cell? ⟨gb166, 4, none⟩ = some (.int .i64 a0_4) := (blk_cell BK166.out 4).trans rfl
              have hcz35_5 : wc.cell? ⟨gb166, 5, none⟩ = some (.int .i64 a0_5) := (blk_cell BK166.out 5).trans rfl
              have hfz35_0 := blk_frozen BK166.out 0
              have hfz35_1 := blk_frozen BK166.out 1
              have hfz35_2 := blk_frozen BK166.out 2
              have hfz35_3 := blk_frozen BK166.out 3
              have hfz35_4 := blk_frozen BK166.out 4
              have hfz35_5 := blk_frozen BK166.out 5
              go_upto_region 11 with (fail)
              go_cut [5] (fun v5 wc => ∃ (kq : Nat) (x5_32 : Bool), v5 = .bool x5_32 ∧ Aside0 (plenumref41_Check.j1 kq x5_32 a0_0 a0_1 a0_2 a0_3 a0_4 a0_5 a1_0 a1_1 a1_2 a1_3 a1_4 a1_5 a1_6 l1_7 a1_8 a1_9 a1_10 a1_11 = some r) ∧ Aside0 (kq ≤ kj5) ∧ Aside0 (wc.heap[gb166]? = some (.cells #[.string a0_0, .string a0_1, .int .i64 a0_2, .int .i64 a0_3, .int .i64 a0_4, .int .i64 a0_5] 23 (0, 0))) ∧ Aside0 (wc.heap[gb167]? = some (.cells #[.string a1_0, .int .i64 a1_1, .int .i64 a1_2, .string a1_3, .int .i64 a1_4, .int .i64 a1_5, .int .i64 a1_6, (.slice A1_7 l1_7.length c1_7), .int .i64 a1_8, .int .i64 a1_9, .int .i64 a1_10, .int .i64 a1_11] 51 (0, 0))) ∧ Aside0 (Below w.heap.size w wc))
              case first =>
                have H := HC33.out
                clear HC33
                by_cases c36 : x5_5 = true
                · subst c36
                  have H1 : (plenumref41_Check.j1 kj5 (a0_3 == 0) a0_0 a0_1 a0_2 a0_3 a0_4 a0_5 a1_0 a1_1 a1_2 a1_3 a1_4 a1_5 a1_6 l1_7 a1_8 a1_9 a1_10 a1_11) = some r := by rw [if_pos rfl] at H; exact H
                  clear H
                  have H := H1
                  clear H1
                  have H' := Aside0.mk H
                  clear H
                  have hnb37 := NB166_167.out
                  have hnc37 := NB167_166.out
                  have hcz38_0 : wc.cell? ⟨gb166, 0, none⟩ = some (.string a0_0) := (blk_cell BK166.out 0).trans rfl
                  have hcz38_1 : wc.cell? ⟨gb166, 1, none⟩ = some (.string a0_1) := (blk_cell BK166.out 1).trans rfl
                  have hcz38_2 : wc.cell? ⟨gb166, 2, none⟩ = some (.int .i64 a0_2) := (blk_cell BK166.out 2).trans rfl
                  have hcz38_3 : wc.cell? ⟨gb166, 3, none⟩ = some (.int .i64 a0_3) := (blk_cell BK166.out 3).trans rfl
                  have hcz38_4 : wc.cell? ⟨gb166, 4, none⟩ = some (.int .i64 a0_4) := (blk_cell BK166.out 4).trans rfl
                  have hcz38_5 : wc.cell? ⟨gb166, 5, none⟩ = some (.int .i64 a0_5) := (blk_cell BK166.out 5).trans rfl
                  have hfz38_0 := blk_frozen BK166.out 0
                  have hfz38_1 := blk_frozen BK166.out 1
                  have hfz38_2 := blk_frozen BK166.out 2
                  have hfz38_3 := blk_frozen BK166.out 3
                  have hfz38_4 := blk_frozen BK166.out 4
                  have hfz38_5 := blk_frozen BK166.out 5
                  go_wp2
                  go_meet
                  case rel => exact ⟨_, ((a0_3 == 0)), (by first | rfl | (simp; done) | (simp [*]; done)), H', ⟨by have := HJ5.out; first | omega | exact Nat.le_refl _⟩, ⟨by (with_reducible repeat (first | refine blk_drewN ?_ _ | refine blk_drew ?_ | refine blk_alloc ?_ _)); exact BK166.out⟩, ⟨by (with_reducible repeat (first | refine blk_drewN ?_ _ | refine blk_drew ?_ | refine blk_alloc ?_ _)); exact BK167.out⟩, ⟨by repeat (first | (with_reducible first | exact HB.out | apply below_alloc | apply pw_below_drewN | apply below_drew1 | refine below_set ?_ GE166.out | refine below_set ?_ GE167.out) | exact HB.out)⟩⟩
                · replace c36 := Bool.eq_false_iff.mpr c36
                  subst c36
                  have H1 : (plenumref41_Check.j1 kj5 false a0_0 a0_1 a0_2 a0_3 a0_4 a0_5 a1_0 a1_1 a1_2 a1_3 a1_4 a1_5 a1_6 l1_7 a1_8 a1_9 a1_10 a1_11) = some r := by rw [if_neg (show ¬ (false = true) by decide)] at H; exact H
                  clear H
                  have H := H1
                  clear H1
                  have H' := Aside0.mk H
                  clear H
                  go_wp2
                  go_meet
                  case rel => exact ⟨_, (false), (by first | rfl | (simp; done) | (simp [*]; done)), H', ⟨by have := HJ5.out; first | omega | exact Nat.le_refl _⟩, ⟨by (with_reducible repeat (first | refine blk_drewN ?_ _ | refine blk_drew ?_ | refine blk_alloc ?_ _)); exact BK166.out⟩, ⟨by (with_reducible repeat (first | refine blk_drewN ?_ _ | refine blk_drew ?_ | refine blk_alloc ?_ _)); exact BK167.out⟩, ⟨by repeat (first | (with_reducible first | exact HB.out | apply below_alloc | apply pw_below_drewN | apply below_drew1 | refine below_set ?_ GE166.out | refine below_set ?_ GE167.out) | exact HB.out)⟩⟩
              case rest =>
                clear HC33
                try clear c1
                try clear c2
                try clear p2
                try clear c3
                try clear c4
                try clear c5
                try clear c5b0
                try clear c5b1
                try clear c9
                try clear c12
                try clear c12b0
                try clear c13
                try clear c15
                try clear c17
                try clear c17b0
                try clear c17b1
                try clear c18
                try clear c19
                try clear c19b0
                try clear c20
                try clear c20b0
                try clear c21
                try clear c21b0
                try clear c21b1
                try clear c22
                try clear c24
                try clear c26
                try clear c28
                try clear c30
                try clear c32
                try clear c32b0
                try clear c32b1
                try clear c34
                try clear c36
                try clear c37
                try clear hcz10_0
                try clear hcz10_1
                try clear hcz10_2
                try clear hcz10_3
                try clear hcz10_4
                try clear hcz10_5
                try clear hcz11_0
                try clear hcz11_1
                try clear hcz11_10
                try clear hcz11_11
                try clear hcz11_2
                try clear hcz11_3
                try clear hcz11_4
                try clear hcz11_5
                try clear hcz11_6
                try clear hcz11_7
                try clear hcz11_8
                try clear hcz11_9
                try clear hcz14_0
                try clear hcz14_1
                try clear hcz14_2
                try clear hcz14_3
                try clear hcz14_4
                try clear hcz14_5
                try clear hcz16_0
                try clear hcz16_1
                try clear hcz16_2
                try clear hcz16_3
                try clear hcz16_4
                try clear hcz16_5
                try clear hcz23_0
                try clear hcz23_1
                try clear hcz23_2
                try clear hcz23_3
                try clear hcz23_4
                try clear hcz23_5
                try clear hcz25_0
                try clear hcz25_1
                try clear hcz25_2
                try clear hcz25_3
                try clear hcz25_4
                try clear hcz25_5
                try clear hcz27_0
                try clear hcz27_1
                try clear hcz27_2
                try clear hcz27_3
                try clear hcz27_4
                try clear hcz27_5
                try clear hcz29_0
                try clear hcz29_1
                try clear hcz29_2
                try clear hcz29_3
                try clear hcz29_4
                try clear hcz29_5
                try clear hcz31_0
                try clear hcz31_1
                try clear hcz31_2
                try clear hcz31_3
                try clear hcz31_4
                try clear hcz31_5
                try clear hcz35_0
                try clear hcz35_1
                try clear hcz35_2
                try clear hcz35_3
                try clear hcz35_4
                try clear hcz35_5
                try clear hcz38_0
                try clear hcz38_1
                try clear hcz38_2
                try clear hcz38_3
                try clear hcz38_4
                try clear hcz38_5
                try clear hfz10_0
                try clear hfz10_1
                try clear hfz10_2
                try clear hfz10_3
                try clear hfz10_4
                try clear hfz10_5
                try clear hfz11_0
                try clear hfz11_1
                try clear hfz11_10
                try clear hfz11_11
                try clear hfz11_2
                try clear hfz11_3
                try clear hfz11_4
                try clear hfz11_5
                try clear hfz11_6
                try clear hfz11_7
                try clear hfz11_8
                try clear hfz11_9
                try clear hfz14_0
                try clear hfz14_1
                try clear hfz14_2
                try clear hfz14_3
                try clear hfz14_4
                try clear hfz14_5
                try clear hfz16_0
                try clear hfz16_1
                try clear hfz16_2
                try clear hfz16_3
                try clear hfz16_4
                try clear hfz16_5
                try clear hfz23_0
                try clear hfz23_1
                try clear hfz23_2
                try clear hfz23_3
                try clear hfz23_4
                try clear hfz23_5
                try clear hfz25_0
                try clear hfz25_1
                try clear hfz25_2
                try clear hfz25_3
                try clear hfz25_4
                try clear hfz25_5
                try clear hfz27_0
                try clear hfz27_1
                try clear hfz27_2
                try clear hfz27_3
                try clear hfz27_4
                try clear hfz27_5
                try clear hfz29_0
                try clear hfz29_1
                try clear hfz29_2
                try clear hfz29_3
                try clear hfz29_4
                try clear hfz29_5
                try clear hfz31_0
                try clear hfz31_1
                try clear hfz31_2
                try clear hfz31_3
                try clear hfz31_4
                try clear hfz31_5
                try clear hfz35_0
                try clear hfz35_1
                try clear hfz35_2
                try clear hfz35_3
                try clear hfz35_4
                try clear hfz35_5
                try clear hfz38_0
                try clear hfz38_1
                try clear hfz38_2
                try clear hfz38_3
                try clear hfz38_4
                try clear hfz38_5
                try clear p2
                obtain ⟨kq, x5_32, rfl, HA, HJ32, BK166, BK167, HB⟩ := hcut
                cases kq with
                | zero => exact absurd HA.out (by simp [plenumref41_Check.j1])
                | succ kj32 =>
                  have H := HA.out
                  clear HA
                  simp only [plenumref41_Check.j1] at H
                  by_cases c39 : a1_1 = 1
                  · rw [if_pos c39] at H
                    have c39b0 : (a1_1 == 1) = true := beq_iff_eq.mpr c39
                    have c39b1 : (a1_1 != 1) = false := bne_eq_false_iff_eq.mpr c39
                    clear c39
                    by_cases c40 : x5_32 = true
                    · subst c40
                      have H1 : (if a0_4 ≥ 1 then (if a0_4 ≤ 1000000000000 then (some 0) else (some 6)) else (some 6)) = some r := by rw [if_pos rfl] at H; exact H
                      clear H
                      have H := H1
                      clear H1
                      by_cases c41 : a0_4 ≥ 1
                      · rw [if_pos c41] at H
                        have c41b0 : decide (1 ≤ a0_4) = true := decide_eq_true c41
                        clear c41
                        by_cases c42 : a0_4 ≤ 1000000000000
                        · rw [if_pos c42] at H
                          have c42b0 : decide (a0_4 ≤ 1000000000000) = true := decide_eq_true c42
                          clear c42
                          obtain rfl := Option.some.inj H
                          have hnb43 := NB167_166.out
                          have hnc43 := NB166_167.out
                          have hcz44_0 : wc.cell? ⟨gb167, 0, none⟩ = some (.string a1_0) := (blk_cell BK167.out 0).trans rfl
                          have hcz44_1 : wc.cell? ⟨gb167, 1, none⟩ = some (.int .i64 a1_1) := (blk_cell BK167.out 1).trans rfl
                          have hcz44_2 : wc.cell? ⟨gb167, 2, none⟩ = some (.int .i64 a1_2) := (blk_cell BK167.out 2).trans rfl
                          have hcz44_3 : wc.cell? ⟨gb167, 3, none⟩ = some (.string a1_3) := (blk_cell BK167.out 3).trans rfl
                          have hcz44_4 : wc.cell? ⟨gb167, 4, none⟩ = some (.int .i64 a1_4) := (blk_cell BK167.out 4).trans rfl
                          have hcz44_5 : wc.cell? ⟨gb167, 5, none⟩ = some (.int .i64 a1_5) := (blk_cell BK167.out 5).trans rfl
                          have hcz44_6 : wc.cell? ⟨gb167, 6, none⟩ = some (.int .i64 a1_6) := (blk_cell BK167.out 6).trans rfl
                          have hcz44_7 : wc.cell? ⟨gb167, 7, none⟩ = some (.slice A1_7 l1_7.length c1_7) := (blk_cell BK167.out 7).trans rfl
                          have hcz44_8 : wc.cell? ⟨gb167, 8, none⟩ = some (.int .i64 a1_8) := (blk_cell BK167.out 8).trans rfl
                          have hcz44_9 : wc.cell? ⟨gb167, 9, none⟩ = some (.int .i64 a1_9) := (blk_cell BK167.out 9).trans rfl
                          have hcz44_10 : wc.cell? ⟨gb167, 10, none⟩ = some (.int .i64 a1_10) := (blk_cell BK167.out 10).trans rfl
                          have hcz44_11 : wc.cell? ⟨gb167, 11, none⟩ = some (.int .i64 a1_11) := (blk_cell BK167.out 11).trans rfl
                          have hfz44_0 := blk_frozen BK167.out 0
                          have hfz44_1 := blk_frozen BK167.out 1
                          have hfz44_2 := blk_frozen BK167.out 2
                          have hfz44_3 := blk_frozen BK167.out 3
                          have hfz44_4 := blk_frozen BK167.out 4
                          have hfz44_5 := blk_frozen BK167.out 5
                          have hfz44_6 := blk_frozen BK167.out 6
                          have hfz44_7 := blk_frozen BK167.out 7
                          have hfz44_8 := blk_frozen BK167.out 8
                          have hfz44_9 := blk_frozen BK167.out 9
                          have hfz44_10 := blk_frozen BK167.out 10
                          have hfz44_11 := blk_frozen BK167.out 11
                          have hcz45_0 : wc.cell? ⟨gb166, 0, none⟩ = some (.string a0_0) := (blk_cell BK166.out 0).trans rfl
                          have hcz45_1 : wc.cell? ⟨gb166, 1, none⟩ = some (.string a0_1) := (blk_cell BK166.out 1).trans rfl
                          have hcz45_2 : wc.cell? ⟨gb166, 2, none⟩ = some (.int .i64 a0_2) := (blk_cell BK166.out 2).trans rfl
                          have hcz45_3 : wc.cell? ⟨gb166, 3, none⟩ = some (.int .i64 a0_3) := (blk_cell BK166.out 3).trans rfl
                          have hcz45_4 : wc.cell? ⟨gb166, 4, none⟩ = some (.int .i64 a0_4) := (blk_cell BK166.out 4).trans rfl
                          have hcz45_5 : wc.cell? ⟨gb166, 5, none⟩ = some (.int .i64 a0_5) := (blk_cell BK166.out 5).trans rfl
                          have hfz45_0 := blk_frozen BK166.out 0
                          have hfz45_1 := blk_frozen BK166.out 1
                          have hfz45_2 := blk_frozen BK166.out 2
                          have hfz45_3 := blk_frozen BK166.out 3
                          have hfz45_4 := blk_frozen BK166.out 4
                          have hfz45_5 := blk_frozen BK166.out 5
                          go_wp2
                          go_ret
                          exact ⟨by first | rfl | (simp [errW_none, errW_some] <;> rfl) | (simp [*, errW_none, errW_some] <;> rfl), by repeat (first | (with_reducible first | exact HB.out | apply below_alloc | apply pw_below_drewN | apply below_drew1 | refine below_set ?_ GE166.out | refine below_set ?_ GE167.out) | exact HB.out)⟩
                        · rw [if_neg c42] at H
                          have c42b0 : decide (a0_4 ≤ 1000000000000) = false := decide_eq_false c42
                          clear c42
                          obtain rfl := Option.some.inj H
                          have hnb46 := NB167_166.out
                          have hnc46 := NB166_167.out
                          have hcz47_0 : wc.cell? ⟨gb167, 0, none⟩ = some (.string a1_0) := (blk_cell BK167.out 0).trans rfl
                          have hcz47_1 : wc.cell? ⟨gb167, 1, none⟩ = some (.int .i64 a1_1) := (blk_cell BK167.out 1).trans rfl
                          have hcz47_2 : wc.cell? ⟨gb167, 2, none⟩ = some (.int .i64 a1_2) := (blk_cell BK167.out 2).trans rfl
                          have hcz47_3 : wc.cell? ⟨gb167, 3, none⟩ = some (.string a1_3) := (blk_cell BK167.out 3).trans rfl
                          have hcz47_4 : wc.cell? ⟨gb167, 4, none⟩ = some (.int .i64 a1_4) := (blk_cell BK167.out 4).trans rfl
                          have hcz47_5 : wc.cell? ⟨gb167, 5, none⟩ = some (.int .i64 a1_5) := (blk_cell BK167.out 5).trans rfl
                          have hcz47_6 : wc.cell? ⟨gb167, 6, none⟩ = some (.int .i64 a1_6) := (blk_cell BK167.out 6).trans rfl
                          have hcz47_7 : wc.cell? ⟨gb167, 7, none⟩ = some (.slice A1_7 l1_7.length c1_7) := (blk_cell BK167.out 7).trans rfl
                          have hcz47_8 : wc.cell? ⟨gb167, 8, none⟩ = some (.int .i64 a1_8) := (blk_cell BK167.out 8).trans rfl
                          have hcz47_9 : wc.cell? ⟨gb167, 9, none⟩ = some (.int .i64 a1_9) := (blk_cell BK167.out 9).trans rfl
                          have hcz47_10 : wc.cell? ⟨gb167, 10, none⟩ = some (.int .i64 a1_10) := (blk_cell BK167.out 10).trans rfl
                          have hcz47_11 : wc.cell? ⟨gb167, 11, none⟩ = some (.int .i64 a1_11) := (blk_cell BK167.out 11).trans rfl
                          have hfz47_0 := blk_frozen BK167.out 0
                          have hfz47_1 := blk_frozen BK167.out 1
                          have hfz47_2 := blk_frozen BK167.out 2
                          have hfz47_3 := blk_frozen BK167.out 3
                          have hfz47_4 := blk_frozen BK167.out 4
                          have hfz47_5 := blk_frozen BK167.out 5
                          have hfz47_6 := blk_frozen BK167.out 6
                          have hfz47_7 := blk_frozen BK167.out 7
                          have hfz47_8 := blk_frozen BK167.out 8
                          have hfz47_9 := blk_frozen BK167.out 9
                          have hfz47_10 := blk_frozen BK167.out 10
                          have hfz47_11 := blk_frozen BK167.out 11
                          have hcz48_0 : wc.cell? ⟨gb166, 0, none⟩ = some (.string a0_0) := (blk_cell BK166.out 0).trans rfl
                          have hcz48_1 : wc.cell? ⟨gb166, 1, none⟩ = some (.string a0_1) := (blk_cell BK166.out 1).trans rfl
                          have hcz48_2 : wc.cell? ⟨gb166, 2, none⟩ = some (.int .i64 a0_2) := (blk_cell BK166.out 2).trans rfl
                          have hcz48_3 : wc.cell? ⟨gb166, 3, none⟩ = some (.int .i64 a0_3) := (blk_cell BK166.out 3).trans rfl
                          have hcz48_4 : wc.cell? ⟨gb166, 4, none⟩ = some (.int .i64 a0_4) := (blk_cell BK166.out 4).trans rfl
                          have hcz48_5 : wc.cell? ⟨gb166, 5, none⟩ = some (.int .i64 a0_5) := (blk_cell BK166.out 5).trans rfl
                          have hfz48_0 := blk_frozen BK166.out 0
                          have hfz48_1 := blk_frozen BK166.out 1
                          have hfz48_2 := blk_frozen BK166.out 2
                          have hfz48_3 := blk_frozen BK166.out 3
                          have hfz48_4 := blk_frozen BK166.out 4
                          have hfz48_5 := blk_frozen BK166.out 5
                          go_wp2
                          go_ret
                          exact ⟨by first | rfl | (simp [errW_none, errW_some] <;> rfl) | (simp [*, errW_none, errW_some] <;> rfl), by repeat (first | (with_reducible first | exact HB.out | apply below_alloc | apply pw_below_drewN | apply below_drew1 | refine below_set ?_ GE166.out | refine below_set ?_ GE167.out) | exact HB.out)⟩
                      · rw [if_neg c41] at H
                        have c41b0 : decide (1 ≤ a0_4) = false := decide_eq_false c41
                        clear c41
                        obtain rfl := Option.some.inj H
                        have hnb49 := NB167_166.out
                        have hnc49 := NB166_167.out
                        have hcz50_0 : wc.cell? ⟨gb167, 0, none⟩ = some (.string a1_0) := (blk_cell BK167.out 0).trans rfl
                        have hcz50_1 : wc.cell? ⟨gb167, 1, none⟩ = some (.int .i64 a1_1) := (blk_cell BK167.out 1).trans rfl
                        have hcz50_2 : wc.cell? ⟨gb167, 2, none⟩ = some (.int .i64 a1_2) := (blk_cell BK167.out 2).trans rfl
                        have hcz50_3 : wc.cell? ⟨gb167, 3, none⟩ = some (.string a1_3) := (blk_cell BK167.out 3).trans rfl
                        have hcz50_4 : wc.cell? ⟨gb167, 4, none⟩ = some (.int .i64 a1_4) := (blk_cell BK167.out 4).trans rfl
                        have hcz50_5 : wc.cell? ⟨gb167, 5, none⟩ = some (.int .i64 a1_5) := (blk_cell BK167.out 5).trans rfl
                        have hcz50_6 : wc.cell? ⟨gb167, 6, none⟩ = some (.int .i64 a1_6) := (blk_cell BK167.out 6).trans rfl
                        have hcz50_7 : wc.cell? ⟨gb167, 7, none⟩ = some (.slice A1_7 l1_7.length c1_7) := (blk_cell BK167.out 7).trans rfl
                        have hcz50_8 : wc.cell? ⟨gb167, 8, none⟩ = some (.int .i64 a1_8) := (blk_cell BK167.out 8).trans rfl
                        have hcz50_9 : wc.cell? ⟨gb167, 9, none⟩ = some (.int .i64 a1_9) := (blk_cell BK167.out 9).trans rfl
                        have hcz50_10 : wc.cell? ⟨gb167, 10, none⟩ = some (.int .i64 a1_10) := (blk_cell BK167.out 10).trans rfl
                        have hcz50_11 : wc.cell? ⟨gb167, 11, none⟩ = some (.int .i64 a1_11) := (blk_cell BK167.out 11).trans rfl
                        have hfz50_0 := blk_frozen BK167.out 0
                        have hfz50_1 := blk_frozen BK167.out 1
                        have hfz50_2 := blk_frozen BK167.out 2
                        have hfz50_3 := blk_frozen BK167.out 3
                        have hfz50_4 := blk_frozen BK167.out 4
                        have hfz50_5 := blk_frozen BK167.out 5
                        have hfz50_6 := blk_frozen BK167.out 6
                        have hfz50_7 := blk_frozen BK167.out 7
                        have hfz50_8 := blk_frozen BK167.out 8
                        have hfz50_9 := blk_frozen BK167.out 9
                        have hfz50_10 := blk_frozen BK167.out 10
                        have hfz50_11 := blk_frozen BK167.out 11
                        have hcz51_0 : wc.cell? ⟨gb166, 0, none⟩ = some (.string a0_0) := (blk_cell BK166.out 0).trans rfl
                        have hcz51_1 : wc.cell? ⟨gb166, 1, none⟩ = some (.string a0_1) := (blk_cell BK166.out 1).trans rfl
                        have hcz51_2 : wc.cell? ⟨gb166, 2, none⟩ = some (.int .i64 a0_2) := (blk_cell BK166.out 2).trans rfl
                        have hcz51_3 : wc.cell? ⟨gb166, 3, none⟩ = some (.int .i64 a0_3) := (blk_cell BK166.out 3).trans rfl
                        have hcz51_4 : wc.cell? ⟨gb166, 4, none⟩ = some (.int .i64 a0_4) := (blk_cell BK166.out 4).trans rfl
                        have hcz51_5 : wc.cell? ⟨gb166, 5, none⟩ = some (.int .i64 a0_5) := (blk_cell BK166.out 5).trans rfl
                        have hfz51_0 := blk_frozen BK166.out 0
                        have hfz51_1 := blk_frozen BK166.out 1
                        have hfz51_2 := blk_frozen BK166.out 2
                        have hfz51_3 := blk_frozen BK166.out 3
                        have hfz51_4 := blk_frozen BK166.out 4
                        have hfz51_5 := blk_frozen BK166.out 5
                        go_wp2
                        go_ret
                        exact ⟨by first | rfl | (simp [errW_none, errW_some] <;> rfl) | (simp [*, errW_none, errW_some] <;> rfl), by repeat (first | (with_reducible first | exact HB.out | apply below_alloc | apply pw_below_drewN | apply below_drew1 | refine below_set ?_ GE166.out | refine below_set ?_ GE167.out) | exact HB.out)⟩
                    · replace c40 := Bool.eq_false_iff.mpr c40
                      subst c40
                      have H1 : (some 6) = some r := by rw [if_neg (show ¬ (false = true) by decide)] at H; exact H
                      clear H
                      have H := H1
                      clear H1
                      obtain rfl := Option.some.inj H
                      have hnb52 := NB167_166.out
                      have hnc52 := NB166_167.out
                      have hcz53_0 : wc.cell? ⟨gb167, 0, none⟩ = some (.string a1_0) := (blk_cell BK167.out 0).trans rfl
                      have hcz53_1 : wc.cell? ⟨gb167, 1, none⟩ = some (.int .i64 a1_1) := (blk_cell BK167.out 1).trans rfl
                      have hcz53_2 : wc.cell? ⟨gb167, 2, none⟩ = some (.int .i64 a1_2) := (blk_cell BK167.out 2).trans rfl
                      have hcz53_3 : wc.cell? ⟨gb167, 3, none⟩ = some (.string a1_3) := (blk_cell BK167.out 3).trans rfl
                      have hcz53_4 : wc.cell? ⟨gb167, 4, none⟩ = some (.int .i64 a1_4) := (blk_cell BK167.out 4).trans rfl
                      have hcz53_5 : wc.cell? ⟨gb167, 5, none⟩ = some (.int .i64 a1_5) := (blk_cell BK167.out 5).trans rfl
                      have hcz53_6 : wc.cell? ⟨gb167, 6, none⟩ = some (.int .i64 a1_6) := (blk_cell BK167.out 6).trans rfl
                      have hcz53_7 : wc.cell? ⟨gb167, 7, none⟩ = some (.slice A1_7 l1_7.length c1_7) := (blk_cell BK167.out 7).trans rfl
                      have hcz53_8 : wc.cell? ⟨gb167, 8, none⟩ = some (.int .i64 a1_8) := (blk_cell BK167.out 8).trans rfl
                      have hcz53_9 : wc.cell? ⟨gb167, 9, none⟩ = some (.int .i64 a1_9) := (blk_cell BK167.out 9).trans rfl
                      have hcz53_10 : wc.cell? ⟨gb167, 10, none⟩ = some (.int .i64 a1_10) := (blk_cell BK167.out 10).trans rfl
                      have hcz53_11 : wc.cell? ⟨gb167, 11, none⟩ = some (.int .i64 a1_11) := (blk_cell BK167.out 11).trans rfl
                      have hfz53_0 := blk_frozen BK167.out 0
                      have hfz53_1 := blk_frozen BK167.out 1
                      have hfz53_2 := blk_frozen BK167.out 2
                      have hfz53_3 := blk_frozen BK167.out 3
                      have hfz53_4 := blk_frozen BK167.out 4
                      have hfz53_5 := blk_frozen BK167.out 5
                      have hfz53_6 := blk_frozen BK167.out 6
                      have hfz53_7 := blk_frozen BK167.out 7
                      have hfz53_8 := blk_frozen BK167.out 8
                      have hfz53_9 := blk_frozen BK167.out 9
                      have hfz53_10 := blk_frozen BK167.out 10
                      have hfz53_11 := blk_frozen BK167.out 11
                      go_wp2
                      go_ret
                      exact ⟨by first | rfl | (simp [errW_none, errW_some] <;> rfl) | (simp [*, errW_none, errW_some] <;> rfl), by repeat (first | (with_reducible first | exact HB.out | apply below_alloc | apply pw_below_drewN | apply below_drew1 | refine below_set ?_ GE166.out | refine below_set ?_ GE167.out) | exact HB.out)⟩
                  · rw [if_neg c39] at H
                    have c39b0 : (a1_1 == 1) = false := beq_eq_false_iff_ne.mpr c39
                    have c39b1 : (a1_1 != 1) = true := bne_iff_ne.mpr c39
                    by_cases c54 : x5_32 = true
                    · subst c54
                      have H1 : (if a0_4 = 0 then (some 0) else (some 6)) = some r := by rw [if_pos rfl] at H; exact H
                      clear H
                      have H := H1
                      clear H1
                      by_cases c55 : a0_4 = 0
                      · rw [if_pos c55] at H
                        have c55b0 : (a0_4 == 0) = true := beq_iff_eq.mpr c55
                        have c55b1 : (a0_4 != 0) = false := bne_eq_false_iff_eq.mpr c55
                        clear c55
                        obtain rfl := Option.some.inj H
                        have hnb56 := NB167_166.out
                        have hnc56 := NB166_167.out
                        have hcz57_0 : wc.cell? ⟨gb167, 0, none⟩ = some (.string a1_0) := (blk_cell BK167.out 0).trans rfl
                        have hcz57_1 : wc.cell? ⟨gb167, 1, none⟩ = some (.int .i64 a1_1) := (blk_cell BK167.out 1).trans rfl
                        have hcz57_2 : wc.cell? ⟨gb167, 2, none⟩ = some (.int .i64 a1_2) := (blk_cell BK167.out 2).trans rfl
                        have hcz57_3 : wc.cell? ⟨gb167, 3, none⟩ = some (.string a1_3) := (blk_cell BK167.out 3).trans rfl
                        have hcz57_4 : wc.cell? ⟨gb167, 4, none⟩ = some (.int .i64 a1_4) := (blk_cell BK167.out 4).trans rfl
                        have hcz57_5 : wc.cell? ⟨gb167, 5, none⟩ = some (.int .i64 a1_5) := (blk_cell BK167.out 5).trans rfl
                        have hcz57_6 : wc.cell? ⟨gb167, 6, none⟩ = some (.int .i64 a1_6) := (blk_cell BK167.out 6).trans rfl
                        have hcz57_7 : wc.cell? ⟨gb167, 7, none⟩ = some (.slice A1_7 l1_7.length c1_7) := (blk_cell BK167.out 7).trans rfl
                        have hcz57_8 : wc.cell? ⟨gb167, 8, none⟩ = some (.int .i64 a1_8) := (blk_cell BK167.out 8).trans rfl
                        have hcz57_9 : wc.cell? ⟨gb167, 9, none⟩ = some (.int .i64 a1_9) := (blk_cell BK167.out 9).trans rfl
                        have hcz57_10 : wc.cell? ⟨gb167, 10, none⟩ = some (.int .i64 a1_10) := (blk_cell BK167.out 10).trans rfl
                        have hcz57_11 : wc.cell? ⟨gb167, 11, none⟩ = some (.int .i64 a1_11) := (blk_cell BK167.out 11).trans rfl
                        have hfz57_0 := blk_frozen BK167.out 0
                        have hfz57_1 := blk_frozen BK167.out 1
                        have hfz57_2 := blk_frozen BK167.out 2
                        have hfz57_3 := blk_frozen BK167.out 3
                        have hfz57_4 := blk_frozen BK167.out 4
                        have hfz57_5 := blk_frozen BK167.out 5
                        have hfz57_6 := blk_frozen BK167.out 6
                        have hfz57_7 := blk_frozen BK167.out 7
                        have hfz57_8 := blk_frozen BK167.out 8
                        have hfz57_9 := blk_frozen BK167.out 9
                        have hfz57_10 := blk_frozen BK167.out 10
                        have hfz57_11 := blk_frozen BK167.out 11
                        have hcz58_0 : wc.cell? ⟨gb166, 0, none⟩ = some (.string a0_0) := (blk_cell BK166.out 0).trans rfl
                        have hcz58_1 : wc.cell? ⟨gb166, 1, none⟩ = some (.string a0_1) := (blk_cell BK166.out 1).trans rfl
                        have hcz58_2 : wc.cell? ⟨gb166, 2, none⟩ = some (.int .i64 a0_2) := (blk_cell BK166.out 2).trans rfl
                        have hcz58_3 : wc.cell? ⟨gb166, 3, none⟩ = some (.int .i64 a0_3) := (blk_cell BK166.out 3).trans rfl
                        have hcz58_4 : wc.cell? ⟨gb166, 4, none⟩ = some (.int .i64 a0_4) := (blk_cell BK166.out 4).trans rfl
                        have hcz58_5 : wc.cell? ⟨gb166, 5, none⟩ = some (.int .i64 a0_5) := (blk_cell BK166.out 5).trans rfl
                        have hfz58_0 := blk_frozen BK166.out 0
                        have hfz58_1 := blk_frozen BK166.out 1
                        have hfz58_2 := blk_frozen BK166.out 2
                        have hfz58_3 := blk_frozen BK166.out 3
                        have hfz58_4 := blk_frozen BK166.out 4
                        have hfz58_5 := blk_frozen BK166.out 5
                        go_wp2
                        go_ret
                        exact ⟨by first | rfl | (simp [errW_none, errW_some] <;> rfl) | (simp [*, errW_none, errW_some] <;> rfl), by repeat (first | (with_reducible first | exact HB.out | apply below_alloc | apply pw_below_drewN | apply below_drew1 | refine below_set ?_ GE166.out | refine below_set ?_ GE167.out) | exact HB.out)⟩
                      · rw [if_neg c55] at H
                        have c55b0 : (a0_4 == 0) = false := beq_eq_false_iff_ne.mpr c55
                        have c55b1 : (a0_4 != 0) = true := bne_iff_ne.mpr c55
                        obtain rfl := Option.some.inj H
                        have hnb59 := NB167_166.out
                        have hnc59 := NB166_167.out
                        have hcz60_0 : wc.cell? ⟨gb167, 0, none⟩ = some (.string a1_0) := (blk_cell BK167.out 0).trans rfl
                        have hcz60_1 : wc.cell? ⟨gb167, 1, none⟩ = some (.int .i64 a1_1) := (blk_cell BK167.out 1).trans rfl
                        have hcz60_2 : wc.cell? ⟨gb167, 2, none⟩ = some (.int .i64 a1_2) := (blk_cell BK167.out 2).trans rfl
                        have hcz60_3 : wc.cell? ⟨gb167, 3, none⟩ = some (.string a1_3) := (blk_cell BK167.out 3).trans rfl
                        have hcz60_4 : wc.cell? ⟨gb167, 4, none⟩ = some (.int .i64 a1_4) := (blk_cell BK167.out 4).trans rfl
                        have hcz60_5 : wc.cell? ⟨gb167, 5, none⟩ = some (.int .i64 a1_5) := (blk_cell BK167.out 5).trans rfl
                        have hcz60_6 : wc.cell? ⟨gb167, 6, none⟩ = some (.int .i64 a1_6) := (blk_cell BK167.out 6).trans rfl
                        have hcz60_7 : wc.cell? ⟨gb167, 7, none⟩ = some (.slice A1_7 l1_7.length c1_7) := (blk_cell BK167.out 7).trans rfl
                        have hcz60_8 : wc.cell? ⟨gb167, 8, none⟩ = some (.int .i64 a1_8) := (blk_cell BK167.out 8).trans rfl
                        have hcz60_9 : wc.cell? ⟨gb167, 9, none⟩ = some (.int .i64 a1_9) := (blk_cell BK167.out 9).trans rfl
                        have hcz60_10 : wc.cell? ⟨gb167, 10, none⟩ = some (.int .i64 a1_10) := (blk_cell BK167.out 10).trans rfl
                        have hcz60_11 : wc.cell? ⟨gb167, 11, none⟩ = some (.int .i64 a1_11) := (blk_cell BK167.out 11).trans rfl
                        have hfz60_0 := blk_frozen BK167.out 0
                        have hfz60_1 := blk_frozen BK167.out 1
                        have hfz60_2 := blk_frozen BK167.out 2
                        have hfz60_3 := blk_frozen BK167.out 3
                        have hfz60_4 := blk_frozen BK167.out 4
                        have hfz60_5 := blk_frozen BK167.out 5
                        have hfz60_6 := blk_frozen BK167.out 6
                        have hfz60_7 := blk_frozen BK167.out 7
                        have hfz60_8 := blk_frozen BK167.out 8
                        have hfz60_9 := blk_frozen BK167.out 9
                        have hfz60_10 := blk_frozen BK167.out 10
                        have hfz60_11 := blk_frozen BK167.out 11
                        have hcz61_0 : wc.cell? ⟨gb166, 0, none⟩ = some (.string a0_0) := (blk_cell BK166.out 0).trans rfl
                        have hcz61_1 : wc.cell? ⟨gb166, 1, none⟩ = some (.string a0_1) := (blk_cell BK166.out 1).trans rfl
                        have hcz61_2 : wc.cell? ⟨gb166, 2, none⟩ = some (.int .i64 a0_2) := (blk_cell BK166.out 2).trans rfl
                        have hcz61_3 : wc.cell? ⟨gb166, 3, none⟩ = some (.int .i64 a0_3) := (blk_cell BK166.out 3).trans rfl
                        have hcz61_4 : wc.cell? ⟨gb166, 4, none⟩ = some (.int .i64 a0_4) := (blk_cell BK166.out 4).trans rfl
                        have hcz61_5 : wc.cell? ⟨gb166, 5, none⟩ = some (.int .i64 a0_5) := (blk_cell BK166.out 5).trans rfl
                        have hfz61_0 := blk_frozen BK166.out 0
                        have hfz61_1 := blk_frozen BK166.out 1
                        have hfz61_2 := blk_frozen BK166.out 2
                        have hfz61_3 := blk_frozen BK166.out 3
                        have hfz61_4 := blk_frozen BK166.out 4
                        have hfz61_5 := blk_frozen BK166.out 5
                        go_wp2
                        go_ret
                        exact ⟨by first | rfl | (simp [errW_none, errW_some] <;> rfl) | (simp [*, errW_none, errW_some] <;> rfl), by repeat (first | (with_reducible first | exact HB.out | apply below_alloc | apply pw_below_drewN | apply below_drew1 | refine below_set ?_ GE166.out | refine below_set ?_ GE167.out) | exact HB.out)⟩
                    · replace c54 := Bool.eq_false_iff.mpr c54
                      subst c54
                      have H1 : (some 6) = some r := by rw [if_neg (show ¬ (false = true) by decide)] at H; exact H
                      clear H
                      have H := H1
                      clear H1
                      obtain rfl := Option.some.inj H
                      have hnb62 := NB167_166.out
                      have hnc62 := NB166_167.out
                      have hcz63_0 : wc.cell? ⟨gb167, 0, none⟩ = some (.string a1_0) := (blk_cell BK167.out 0).trans rfl
                      have hcz63_1 : wc.cell? ⟨gb167, 1, none⟩ = some (.int .i64 a1_1) := (blk_cell BK167.out 1).trans rfl
                      have hcz63_2 : wc.cell? ⟨gb167, 2, none⟩ = some (.int .i64 a1_2) := (blk_cell BK167.out 2).trans rfl
                      have hcz63_3 : wc.cell? ⟨gb167, 3, none⟩ = some (.string a1_3) := (blk_cell BK167.out 3).trans rfl
                      have hcz63_4 : wc.cell? ⟨gb167, 4, none⟩ = some (.int .i64 a1_4) := (blk_cell BK167.out 4).trans rfl
                      have hcz63_5 : wc.cell? ⟨gb167, 5, none⟩ = some (.int .i64 a1_5) := (blk_cell BK167.out 5).trans rfl
                      have hcz63_6 : wc.cell? ⟨gb167, 6, none⟩ = some (.int .i64 a1_6) := (blk_cell BK167.out 6).trans rfl
                      have hcz63_7 : wc.cell? ⟨gb167, 7, none⟩ = some (.slice A1_7 l1_7.length c1_7) := (blk_cell BK167.out 7).trans rfl
                      have hcz63_8 : wc.cell? ⟨gb167, 8, none⟩ = some (.int .i64 a1_8) := (blk_cell BK167.out 8).trans rfl
                      have hcz63_9 : wc.cell? ⟨gb167, 9, none⟩ = some (.int .i64 a1_9) := (blk_cell BK167.out 9).trans rfl
                      have hcz63_10 : wc.cell? ⟨gb167, 10, none⟩ = some (.int .i64 a1_10) := (blk_cell BK167.out 10).trans rfl
                      have hcz63_11 : wc.cell? ⟨gb167, 11, none⟩ = some (.int .i64 a1_11) := (blk_cell BK167.out 11).trans rfl
                      have hfz63_0 := blk_frozen BK167.out 0
                      have hfz63_1 := blk_frozen BK167.out 1
                      have hfz63_2 := blk_frozen BK167.out 2
                      have hfz63_3 := blk_frozen BK167.out 3
                      have hfz63_4 := blk_frozen BK167.out 4
                      have hfz63_5 := blk_frozen BK167.out 5
                      have hfz63_6 := blk_frozen BK167.out 6
                      have hfz63_7 := blk_frozen BK167.out 7
                      have hfz63_8 := blk_frozen BK167.out 8
                      have hfz63_9 := blk_frozen BK167.out 9
                      have hfz63_10 := blk_frozen BK167.out 10
                      have hfz63_11 := blk_frozen BK167.out 11
                      go_wp2
                      go_ret
                      exact ⟨by first | rfl | (simp [errW_none, errW_some] <;> rfl) | (simp [*, errW_none, errW_some] <;> rfl), by repeat (first | (with_reducible first | exact HB.out | apply below_alloc | apply pw_below_drewN | apply below_drew1 | refine below_set ?_ GE166.out | refine below_set ?_ GE167.out) | exact HB.out)⟩
            · rw [if_neg c32] at H
              have c32b0 : (a0_2 == 2) = false := beq_eq_false_iff_ne.mpr c32
              have c32b1 : (a0_2 != 2) = true := bne_iff_ne.mpr c32
              by_cases c64 : a0_2 = 3
              · rw [if_pos c64] at H
                have c64b0 : (a0_2 == 3) = true := beq_iff_eq.mpr c64
                have c64b1 : (a0_2 != 3) = false := bne_eq_false_iff_eq.mpr c64
                clear c64
                by_cases c65 : x5_5 = true
                · subst c65
                  have H1 : (if a0_3 = 0 then (if a0_4 = 0 then (some 0) else (some 6)) else (some 6)) = some r := by rw [if_pos rfl] at H; exact H
                  clear H
                  have H := H1
                  clear H1
                  by_cases c66 : a0_3 = 0
                  · rw [if_pos c66] at H
                    have c66b0 : (a0_3 == 0) = true := beq_iff_eq.mpr c66
                    have c66b1 : (a0_3 != 0) = false := bne_eq_false_iff_eq.mpr c66
                    clear c66
                    by_cases c67 : a0_4 = 0
                    · rw [if_pos c67] at H
                      have c67b0 : (a0_4 == 0) = true := beq_iff_eq.mpr c67
                      have c67b1 : (a0_4 != 0) = false := bne_eq_false_iff_eq.mpr c67
                      clear c67
                      obtain rfl := Option.some.inj H
                      have hnb68 := NB166_167.out
                      have hnc68 := NB167_166.out
                      have hcz69_0 : wc.cell? ⟨gb166, 0, none⟩ = some (.string a0_0) := (blk_cell BK166.out 0).trans rfl
                      have hcz69_1 : wc.cell? ⟨gb166, 1, none⟩ = some (.string a0_1) := (blk_cell BK166.out 1).trans rfl
                      have hcz69_2 : wc.cell? ⟨gb166, 2, none⟩ = some (.int .i64 a0_2) := (blk_cell BK166.out 2).trans rfl
                      have hcz69_3 : wc.cell? ⟨gb166, 3, none⟩ = some (.int .i64 a0_3) := (blk_cell BK166.out 3).trans rfl
                      have hcz69_4 : wc.cell? ⟨gb166, 4, none⟩ = some (.int .i64 a0_4) := (blk_cell BK166.out 4).trans rfl
                      have hcz69_5 : wc.cell? ⟨gb166, 5, none⟩ = some (.int .i64 a0_5) := (blk_cell BK166.out 5).trans rfl
                      have hfz69_0 := blk_frozen BK166.out 0
                      have hfz69_1 := blk_frozen BK166.out 1
                      have hfz69_2 := blk_frozen BK166.out 2
                      have hfz69_3 := blk_frozen BK166.out 3
                      have hfz69_4 := blk_frozen BK166.out 4
                      have hfz69_5 := blk_frozen BK166.out 5
                      go_wp2
                      go_ret
                      exact ⟨by first | rfl | (simp [errW_none, errW_some] <;> rfl) | (simp [*, errW_none, errW_some] <;> rfl), by repeat (first | (with_reducible first | exact HB.out | apply below_alloc | apply pw_below_drewN | apply below_drew1 | refine below_set ?_ GE166.out | refine below_set ?_ GE167.out) | exact HB.out)⟩
                    · rw [if_neg c67] at H
                      have c67b0 : (a0_4 == 0) = false := beq_eq_false_iff_ne.mpr c67
                      have c67b1 : (a0_4 != 0) = true := bne_iff_ne.mpr c67
                      obtain rfl := Option.some.inj H
                      have hnb70 := NB166_167.out
                      have hnc70 := NB167_166.out
                      have hcz71_0 : wc.cell? ⟨gb166, 0, none⟩ = some (.string a0_0) := (blk_cell BK166.out 0).trans rfl
                      have hcz71_1 : wc.cell? ⟨gb166, 1, none⟩ = some (.string a0_1) := (blk_cell BK166.out 1).trans rfl
                      have hcz71_2 : wc.cell? ⟨gb166, 2, none⟩ = some (.int .i64 a0_2) := (blk_cell BK166.out 2).trans rfl
                      have hcz71_3 : wc.cell? ⟨gb166, 3, none⟩ = some (.int .i64 a0_3) := (blk_cell BK166.out 3).trans rfl
                      have hcz71_4 : wc.cell? ⟨gb166, 4, none⟩ = some (.int .i64 a0_4) := (blk_cell BK166.out 4).trans rfl
                      have hcz71_5 : wc.cell? ⟨gb166, 5, none⟩ = some (.int .i64 a0_5) := (blk_cell BK166.out 5).trans rfl
                      have hfz71_0 := blk_frozen BK166.out 0
                      have hfz71_1 := blk_frozen BK166.out 1
                      have hfz71_2 := blk_frozen BK166.out 2
                      have hfz71_3 := blk_frozen BK166.out 3
                      have hfz71_4 := blk_frozen BK166.out 4
                      have hfz71_5 := blk_frozen BK166.out 5
                      go_wp2
                      go_ret
                      exact ⟨by first | rfl | (simp [errW_none, errW_some] <;> rfl) | (simp [*, errW_none, errW_some] <;> rfl), by repeat (first | (with_reducible first | exact HB.out | apply below_alloc | apply pw_below_drewN | apply below_drew1 | refine below_set ?_ GE166.out | refine below_set ?_ GE167.out) | exact HB.out)⟩
                  · rw [if_neg c66] at H
                    have c66b0 : (a0_3 == 0) = false := beq_eq_false_iff_ne.mpr c66
                    have c66b1 : (a0_3 != 0) = true := bne_iff_ne.mpr c66
                    obtain rfl := Option.some.inj H
                    have hnb72 := NB166_167.out
                    have hnc72 := NB167_166.out
                    have hcz73_0 : wc.cell? ⟨gb166, 0, none⟩ = some (.string a0_0) := (blk_cell BK166.out 0).trans rfl
                    have hcz73_1 : wc.cell? ⟨gb166, 1, none⟩ = some (.string a0_1) := (blk_cell BK166.out 1).trans rfl
                    have hcz73_2 : wc.cell? ⟨gb166, 2, none⟩ = some (.int .i64 a0_2) := (blk_cell BK166.out 2).trans rfl
                    have hcz73_3 : wc.cell? ⟨gb166, 3, none⟩ = some (.int .i64 a0_3) := (blk_cell BK166.out 3).trans rfl
                    have hcz73_4 : wc.cell? ⟨gb166, 4, none⟩ = some (.int .i64 a0_4) := (blk_cell BK166.out 4).trans rfl
                    have hcz73_5 : wc.cell? ⟨gb166, 5, none⟩ = some (.int .i64 a0_5) := (blk_cell BK166.out 5).trans rfl
                    have hfz73_0 := blk_frozen BK166.out 0
                    have hfz73_1 := blk_frozen BK166.out 1
                    have hfz73_2 := blk_frozen BK166.out 2
                    have hfz73_3 := blk_frozen BK166.out 3
                    have hfz73_4 := blk_frozen BK166.out 4
                    have hfz73_5 := blk_frozen BK166.out 5
                    go_wp2
                    go_ret
                    exact ⟨by first | rfl | (simp [errW_none, errW_some] <;> rfl) | (simp [*, errW_none, errW_some] <;> rfl), by repeat (first | (with_reducible first | exact HB.out | apply below_alloc | apply pw_below_drewN | apply below_drew1 | refine below_set ?_ GE166.out | refine below_set ?_ GE167.out) | exact HB.out)⟩
                · replace c65 := Bool.eq_false_iff.mpr c65
                  subst c65
                  have H1 : (some 6) = some r := by rw [if_neg (show ¬ (false = true) by decide)] at H; exact H
                  clear H
                  have H := H1
                  clear H1
                  obtain rfl := Option.some.inj H
                  have hnb74 := NB166_167.out
                  have hnc74 := NB167_166.out
                  have hcz75_0 : wc.cell? ⟨gb166, 0, none⟩ = some (.string a0_0) := (blk_cell BK166.out 0).trans rfl
                  have hcz75_1 : wc.cell? ⟨gb166, 1, none⟩ = some (.string a0_1) := (blk_cell BK166.out 1).trans rfl
                  have hcz75_2 : wc.cell? ⟨gb166, 2, none⟩ = some (.int .i64 a0_2) := (blk_cell BK166.out 2).trans rfl
                  have hcz75_3 : wc.cell? ⟨gb166, 3, none⟩ = some (.int .i64 a0_3) := (blk_cell BK166.out 3).trans rfl
                  have hcz75_4 : wc.cell? ⟨gb166, 4, none⟩ = some (.int .i64 a0_4) := (blk_cell BK166.out 4).trans rfl
                  have hcz75_5 : wc.cell? ⟨gb166, 5, none⟩ = some (.int .i64 a0_5) := (blk_cell BK166.out 5).trans rfl
                  have hfz75_0 := blk_frozen BK166.out 0
                  have hfz75_1 := blk_frozen BK166.out 1
                  have hfz75_2 := blk_frozen BK166.out 2
                  have hfz75_3 := blk_frozen BK166.out 3
                  have hfz75_4 := blk_frozen BK166.out 4
                  have hfz75_5 := blk_frozen BK166.out 5
                  go_wp2
                  go_ret
                  exact ⟨by first | rfl | (simp [errW_none, errW_some] <;> rfl) | (simp [*, errW_none, errW_some] <;> rfl), by repeat (first | (with_reducible first | exact HB.out | apply below_alloc | apply pw_below_drewN | apply below_drew1 | refine below_set ?_ GE166.out | refine below_set ?_ GE167.out) | exact HB.out)⟩
              · rw [if_neg c64] at H
                have c64b0 : (a0_2 == 3) = false := beq_eq_false_iff_ne.mpr c64
                have c64b1 : (a0_2 != 3) = true := bne_iff_ne.mpr c64
                obtain rfl := Option.some.inj H
                have hnb76 := NB166_167.out
                have hnc76 := NB167_166.out
                have hcz77_0 : wc.cell? ⟨gb166, 0, none⟩ = some (.string a0_0) := (blk_cell BK166.out 0).trans rfl
                have hcz77_1 : wc.cell? ⟨gb166, 1, none⟩ = some (.string a0_1) := (blk_cell BK166.out 1).trans rfl
                have hcz77_2 : wc.cell? ⟨gb166, 2, none⟩ = some (.int .i64 a0_2) := (blk_cell BK166.out 2).trans rfl
                have hcz77_3 : wc.cell? ⟨gb166, 3, none⟩ = some (.int .i64 a0_3) := (blk_cell BK166.out 3).trans rfl
                have hcz77_4 : wc.cell? ⟨gb166, 4, none⟩ = some (.int .i64 a0_4) := (blk_cell BK166.out 4).trans rfl
                have hcz77_5 : wc.cell? ⟨gb166, 5, none⟩ = some (.int .i64 a0_5) := (blk_cell BK166.out 5).trans rfl
                have hfz77_0 := blk_frozen BK166.out 0
                have hfz77_1 := blk_frozen BK166.out 1
                have hfz77_2 := blk_frozen BK166.out 2
                have hfz77_3 := blk_frozen BK166.out 3
                have hfz77_4 := blk_frozen BK166.out 4
                have hfz77_5 := blk_frozen BK166.out 5
                go_wp2
                go_ret
                exact ⟨by first | rfl | (simp [errW_none, errW_some] <;> rfl) | (simp [*, errW_none, errW_some] <;> rfl), by repeat (first | (with_reducible first | exact HB.out | apply below_alloc | apply pw_below_drewN | apply below_drew1 | refine below_set ?_ GE166.out | refine below_set ?_ GE167.out) | exact HB.out)⟩
    · rw [if_neg c5] at H
      have c5b0 : (a0_1.toList == a1_0.toList) = false := beq_eq_false_iff_ne.mpr c5
      have c5b1 : (a0_1.toList != a1_0.toList) = true := bne_iff_ne.mpr c5
      obtain rfl := Option.some.inj H
      go_enter Tryd.func18, Tryd.ntmps18
      go_wp2_with (first | ((with_reducible refine gate_dst (N := 2) rfl ?_); refine box_event ?hg (N := 2) ?hd (cs := #[.string a0_0, .string a0_1, .int .i64 a0_2, .int .i64 a0_3, .int .i64 a0_4, .int .i64 a0_5]) (t := 23) ?hr ?_; (case hd => rfl); (case hg => rfl); (case hr => first | (go_simp; done) | (go_simp; rfl)); intro gb166 hg w78 hbox hb; have n0_ := Aside0.mk (below_step (by repeat (first | (with_reducible first | exact HB.out | apply below_alloc | apply pw_below_drewN | apply below_drew1) | exact HB.out)) hb); have n1_ := Aside0.mk (hbox); have n2_ := Aside0.mk ((by rw [hg]; exact (below_size (by repeat (first | (with_reducible first | exact HB.out | apply below_alloc | apply pw_below_drewN | apply below_drew1) | exact HB.out))) : w.heap.size ≤ gb166)); have n3_ := Aside0.mk ((by rw [hg]; exact (below_size (by repeat (first | (with_reducible first | exact HB.out | apply below_alloc | apply pw_below_drewN | apply below_drew1) | exact HB.out))) : w.heap.size ≤ gb166)); clear HB; have HB := n0_; have BK166 := n1_; have GW166 := n2_; have GE166 := n3_; clear n0_ n1_ n2_ n3_; clear hb hbox hg) | ((with_reducible refine gate_dst (N := 3) rfl ?_); refine box_event ?hg (N := 3) ?hd (cs := #[.string a1_0, .int .i64 a1_1, .int .i64 a1_2, .string a1_3, .int .i64 a1_4, .int .i64 a1_5, .int .i64 a1_6, .slice A1_7 l1_7.length c1_7, .int .i64 a1_8, .int .i64 a1_9, .int .i64 a1_10, .int .i64 a1_11]) (t := 51) ?hr ?_; (case hd => rfl); (case hg => rfl); (case hr => first | (go_simp; done) | (go_simp; rfl)); intro gb167 hg w79 hbox hb; have n0_ := Aside0.mk (blk_below (g := gb166) (o := .cells #[.string a0_0, .string a0_1, .int .i64 a0_2, .int .i64 a0_3, .int .i64 a0_4, .int .i64 a0_5] 23 (0, 0)) (by (with_reducible repeat (first | refine blk_drewN ?_ _ | refine blk_drew ?_ | refine blk_alloc ?_ _)); exact BK166.out) hb); have n1_ := Aside0.mk (below_step (by repeat (first | (with_reducible first | exact HB.out | apply below_alloc | apply pw_below_drewN | apply below_drew1 | refine below_set ?_ GE166.out) | exact HB.out)) hb); have n2_ := Aside0.mk (hbox); have n3_ := Aside0.mk ((by rw [hg]; exact (below_size (by repeat (first | (with_reducible first | exact HB.out | apply below_alloc | apply pw_below_drewN | apply below_drew1 | refine below_set ?_ GE166.out) | exact HB.out))) : w.heap.size ≤ gb167)); have n4_ := Aside0.mk ((by rw [hg]; exact (below_size (by repeat (first | (with_reducible first | exact HB.out | apply below_alloc | apply pw_below_drewN | apply below_drew1 | refine below_set ?_ GE166.out) | exact HB.out))) : w.heap.size ≤ gb167)); have n5_ := Aside0.mk ((by rw [hg]; exact Nat.ne_of_lt (blk_lt (g := gb166) (o := .cells #[.string a0_0, .string a0_1, .int .i64 a0_2, .int .i64 a0_3, .int .i64 a0_4, .int .i64 a0_5] 23 (0, 0)) (by (with_reducible repeat (first | refine blk_drewN ?_ _ | refine blk_drew ?_ | refine blk_alloc ?_ _)); exact BK166.out)) : gb166 ≠ gb167)); have n6_ := Aside0.mk ((by rw [hg]; exact Nat.ne_of_gt (blk_lt (g := gb166) (o := .cells #[.string a0_0, .string a0_1, .int .i64 a0_2, .int .i64 a0_3, .int .i64 a0_4, .int .i64 a0_5] 23 (0, 0)) (by (with_reducible repeat (first | refine blk_drewN ?_ _ | refine blk_drew ?_ | refine blk_alloc ?_ _)); exact BK166.out)) : gb167 ≠ gb166)); clear BK166; clear HB; have BK166 := n0_; have HB := n1_; have BK167 := n2_; have GW167 := n3_; have GE167 := n4_; have NB166_167 := n5_; have NB167_166 := n6_; clear n0_ n1_ n2_ n3_ n4_ n5_ n6_; clear hb hbox hg; have hnb80 := NB166_167.out; have hnc80 := NB167_166.out; have hcz81_0 : w79.cell? ⟨gb166, 0, none⟩ = some (.string a0_0) := (blk_cell BK166.out 0).trans rfl; have hcz81_1 : w79.cell? ⟨gb166, 1, none⟩ = some (.string a0_1) := (blk_cell BK166.out 1).trans rfl; have hcz81_2 : w79.cell? ⟨gb166, 2, none⟩ = some (.int .i64 a0_2) := (blk_cell BK166.out 2).trans rfl; have hcz81_3 : w79.cell? ⟨gb166, 3, none⟩ = some (.int .i64 a0_3) := (blk_cell BK166.out 3).trans rfl; have hcz81_4 : w79.cell? ⟨gb166, 4, none⟩ = some (.int .i64 a0_4) := (blk_cell BK166.out 4).trans rfl; have hcz81_5 : w79.cell? ⟨gb166, 5, none⟩ = some (.int .i64 a0_5) := (blk_cell BK166.out 5).trans rfl; have hfz81_0 := blk_frozen BK166.out 0; have hfz81_1 := blk_frozen BK166.out 1; have hfz81_2 := blk_frozen BK166.out 2; have hfz81_3 := blk_frozen BK166.out 3; have hfz81_4 := blk_frozen BK166.out 4; have hfz81_5 := blk_frozen BK166.out 5) | ((with_reducible refine gate_callee (f := 30) rfl ?_); refine goesL_ (some 8) rfl rfl Tryd.func30 (by kernel_rfl) rfl #[.string a0_0] rfl (by (try simp only [List.map_toArray, List.map_cons, List.map_nil]); first | done | rfl | (simp only [List.length_drop, List.length_take]; rfl)) ?_; (with_reducible refine (plenumref07_Name.calls k a0_0 true _ ?side99  A3.out).mono ?_); (case side99 => first | exact HG.out | exact Glob.below HG.out (by repeat (first | (with_reducible first | exact HB.out | apply below_alloc | apply pw_below_drewN | apply below_drew1 | refine below_set ?_ GE166.out | refine below_set ?_ GE167.out) | exact HB.out))); rintro e w' ⟨rfl, ⟨nd, rfl⟩⟩; refine ⟨_, rfl, ?_⟩; have hcz82_0 : w79.cell? ⟨gb167, 0, none⟩ = some (.string a1_0) := (blk_cell BK167.out 0).trans rfl; have hcz82_1 : w79.cell? ⟨gb167, 1, none⟩ = some (.int .i64 a1_1) := (blk_cell BK167.out 1).trans rfl; have hcz82_2 : w79.cell? ⟨gb167, 2, none⟩ = some (.int .i64 a1_2) := (blk_cell BK167.out 2).trans rfl; have hcz82_3 : w79.cell? ⟨gb167, 3, none⟩ = some (.string a1_3) := (blk_cell BK167.out 3).trans rfl; have hcz82_4 : w79.cell? ⟨gb167, 4, none⟩ = some (.int .i64 a1_4) := (blk_cell BK167.out 4).trans rfl; have hcz82_5 : w79.cell? ⟨gb167, 5, none⟩ = some (.int .i64 a1_5) := (blk_cell BK167.out 5).trans rfl; have hcz82_6 : w79.cell? ⟨gb167, 6, none⟩ = some (.int .i64 a1_6) := (blk_cell BK167.out 6).trans rfl; have hcz82_7 : w79.cell? ⟨gb167, 7, none⟩ = some (.slice A1_7 l1_7.length c1_7) := (blk_cell BK167.out 7).trans rfl; have hcz82_8 : w79.cell? ⟨gb167, 8, none⟩ = some (.int .i64 a1_8) := (blk_cell BK167.out 8).trans rfl; have hcz82_9 : w79.cell? ⟨gb167, 9, none⟩ = some (.int .i64 a1_9) := (blk_cell BK167.out 9).trans rfl; have hcz82_10 : w79.cell? ⟨gb167, 10, none⟩ = some (.int .i64 a1_10) := (blk_cell BK167.out 10).trans rfl; have hcz82_11 : w79.cell? ⟨gb167, 11, none⟩ = some (.int .i64 a1_11) := (blk_cell BK167.out 11).trans rfl; have hfz82_0 := blk_frozen BK167.out 0; have hfz82_1 := blk_frozen BK167.out 1; have hfz82_2 := blk_frozen BK167.out 2; have hfz82_3 := blk_frozen BK167.out 3; have hfz82_4 := blk_frozen BK167.out 4; have hfz82_5 := blk_frozen BK167.out 5; have hfz82_6 := blk_frozen BK167.out 6; have hfz82_7 := blk_frozen BK167.out 7; have hfz82_8 := blk_frozen BK167.out 8; have hfz82_9 := blk_frozen BK167.out 9; have hfz82_10 := blk_frozen BK167.out 10; have hfz82_11 := blk_frozen BK167.out 11))
      go_ret
      exact ⟨by first | rfl | (simp [errW_none, errW_some] <;> rfl) | (simp [*, errW_none, errW_some] <;> rfl), by repeat (first | (with_reducible first | exact HB.out | apply below_alloc | apply pw_below_drewN | apply below_drew1 | refine below_set ?_ GE166.out | refine below_set ?_ GE167.out) | exact HB.out)⟩
  · replace c4 := Bool.eq_false_iff.mpr c4
    subst c4
    have H1 : (some 4) = some r := by rw [if_neg (show ¬ (false = true) by decide)] at H; exact H
    clear H
    have H := H1
    clear H1
    obtain rfl := Option.some.inj H
    go_enter Tryd.func18, Tryd.ntmps18
    go_wp2_with (first | ((with_reducible refine gate_dst (N := 2) rfl ?_); refine box_event ?hg (N := 2) ?hd (cs := #[.string a0_0, .string a0_1, .int .i64 a0_2, .int .i64 a0_3, .int .i64 a0_4, .int .i64 a0_5]) (t := 23) ?hr ?_; (case hd => rfl); (case hg => rfl); (case hr => first | (go_simp; done) | (go_simp; rfl)); intro gb166 hg w83 hbox hb; have n0_ := Aside0.mk (below_step (by repeat (first | (with_reducible first | exact HB.out | apply below_alloc | apply pw_below_drewN | apply below_drew1) | exact HB.out)) hb); have n1_ := Aside0.mk (hbox); have n2_ := Aside0.mk ((by rw [hg]; exact (below_size (by repeat (first | (with_reducible first | exact HB.out | apply below_alloc | apply pw_below_drewN | apply below_drew1) | exact HB.out))) : w.heap.size ≤ gb166)); have n3_ := Aside0.mk ((by rw [hg]; exact (below_size (by repeat (first | (with_reducible first | exact HB.out | apply below_alloc | apply pw_below_drewN | apply below_drew1) | exact HB.out))) : w.heap.size ≤ gb166)); clear HB; have HB := n0_; have BK166 := n1_; have GW166 := n2_; have GE166 := n3_; clear n0_ n1_ n2_ n3_; clear hb hbox hg) | ((with_reducible refine gate_dst (N := 3) rfl ?_); refine box_event ?hg (N := 3) ?hd (cs := #[.string a1_0, .int .i64 a1_1, .int .i64 a1_2, .string a1_3, .int .i64 a1_4, .int .i64 a1_5, .int .i64 a1_6, .slice A1_7 l1_7.length c1_7, .int .i64 a1_8, .int .i64 a1_9, .int .i64 a1_10, .int .i64 a1_11]) (t := 51) ?hr ?_; (case hd => rfl); (case hg => rfl); (case hr => first | (go_simp; done) | (go_simp; rfl)); intro gb167 hg w84 hbox hb; have n0_ := Aside0.mk (blk_below (g := gb166) (o := .cells #[.string a0_0, .string a0_1, .int .i64 a0_2, .int .i64 a0_3, .int .i64 a0_4, .int .i64 a0_5] 23 (0, 0)) (by (with_reducible repeat (first | refine blk_drewN ?_ _ | refine blk_drew ?_ | refine blk_alloc ?_ _)); exact BK166.out) hb); have n1_ := Aside0.mk (below_step (by repeat (first | (with_reducible first | exact HB.out | apply below_alloc | apply pw_below_drewN | apply below_drew1 | refine below_set ?_ GE166.out) | exact HB.out)) hb); have n2_ := Aside0.mk (hbox); have n3_ := Aside0.mk ((by rw [hg]; exact (below_size (by repeat (first | (with_reducible first | exact HB.out | apply below_alloc | apply pw_below_drewN | apply below_drew1 | refine below_set ?_ GE166.out) | exact HB.out))) : w.heap.size ≤ gb167)); have n4_ := Aside0.mk ((by rw [hg]; exact (below_size (by repeat (first | (with_reducible first | exact HB.out | apply below_alloc | apply pw_below_drewN | apply below_drew1 | refine below_set ?_ GE166.out) | exact HB.out))) : w.heap.size ≤ gb167)); have n5_ := Aside0.mk ((by rw [hg]; exact Nat.ne_of_lt (blk_lt (g := gb166) (o := .cells #[.string a0_0, .string a0_1, .int .i64 a0_2, .int .i64 a0_3, .int .i64 a0_4, .int .i64 a0_5] 23 (0, 0)) (by (with_reducible repeat (first | refine blk_drewN ?_ _ | refine blk_drew ?_ | refine blk_alloc ?_ _)); exact BK166.out)) : gb166 ≠ gb167)); have n6_ := Aside0.mk ((by rw [hg]; exact Nat.ne_of_gt (blk_lt (g := gb166) (o := .cells #[.string a0_0, .string a0_1, .int .i64 a0_2, .int .i64 a0_3, .int .i64 a0_4, .int .i64 a0_5] 23 (0, 0)) (by (with_reducible repeat (first | refine blk_drewN ?_ _ | refine blk_drew ?_ | refine blk_alloc ?_ _)); exact BK166.out)) : gb167 ≠ gb166)); clear BK166; clear HB; have BK166 := n0_; have HB := n1_; have BK167 := n2_; have GW167 := n3_; have GE167 := n4_; have NB166_167 := n5_; have NB167_166 := n6_; clear n0_ n1_ n2_ n3_ n4_ n5_ n6_; clear hb hbox hg; have hnb85 := NB166_167.out; have hnc85 := NB167_166.out; have hcz86_0 : w84.cell? ⟨gb166, 0, none⟩ = some (.string a0_0) := (blk_cell BK166.out 0).trans rfl; have hcz86_1 : w84.cell? ⟨gb166, 1, none⟩ = some (.string a0_1) := (blk_cell BK166.out 1).trans rfl; have hcz86_2 : w84.cell? ⟨gb166, 2, none⟩ = some (.int .i64 a0_2) := (blk_cell BK166.out 2).trans rfl; have hcz86_3 : w84.cell? ⟨gb166, 3, none⟩ = some (.int .i64 a0_3) := (blk_cell BK166.out 3).trans rfl; have hcz86_4 : w84.cell? ⟨gb166, 4, none⟩ = some (.int .i64 a0_4) := (blk_cell BK166.out 4).trans rfl; have hcz86_5 : w84.cell? ⟨gb166, 5, none⟩ = some (.int .i64 a0_5) := (blk_cell BK166.out 5).trans rfl; have hfz86_0 := blk_frozen BK166.out 0; have hfz86_1 := blk_frozen BK166.out 1; have hfz86_2 := blk_frozen BK166.out 2; have hfz86_3 := blk_frozen BK166.out 3; have hfz86_4 := blk_frozen BK166.out 4; have hfz86_5 := blk_frozen BK166.out 5) | ((with_reducible refine gate_callee (f := 30) rfl ?_); refine goesL_ (some 8) rfl rfl Tryd.func30 (by kernel_rfl) rfl #[.string a0_0] rfl (by (try simp only [List.map_toArray, List.map_cons, List.map_nil]); first | done | rfl | (simp only [List.length_drop, List.length_take]; rfl)) ?_; (with_reducible refine (plenumref07_Name.calls k a0_0 false _ ?side99  A3.out).mono ?_); (case side99 => first | exact HG.out | exact Glob.below HG.out (by repeat (first | (with_reducible first | exact HB.out | apply below_alloc | apply pw_below_drewN | apply below_drew1 | refine below_set ?_ GE166.out | refine below_set ?_ GE167.out) | exact HB.out))); rintro e w' ⟨rfl, ⟨nd, rfl⟩⟩; refine ⟨_, rfl, ?_⟩))
    go_ret
    exact ⟨by first | rfl | (simp [errW_none, errW_some] <;> rfl) | (simp [*, errW_none, errW_some] <;> rfl), by repeat (first | (with_reducible first | exact HB.out | apply below_alloc | apply pw_below_drewN | apply below_drew1 | refine below_set ?_ GE166.out | refine below_set ?_ GE167.out) | exact HB.out)⟩
end Go.Proofs.YtbccjcdmpiolpaaDoor.T
end
section
namespace Go.Proofs.YtbccjcdmpiolpaaDoor.T
open Go.RowKit Go.Proofs.YtbccjcdmpiolpaaDoorW.PrintWords Go.Proofs.YtbccjcdmpiolpaaDoorW.PrintLast Go.Proofs.YtbccjcdmpiolpaaDoorW.PrintMore
attribute [local go_sem] max2_int min2_int max_two min_two max_three min_three max_four min_four
set_option linter.unusedVariables false
set_option linter.unusedSimpArgs false
theorem eqA30 (d : Nat) (w : World) (x0 y0 : Int) (x1 y1 : Int) :
    (Op.equalIn (d + 2) 30 (.agg #[.int .i64 x0, .int .i64 x1]) (.agg #[.int .i64 y0, .int .i64 y1])).run Tryd.prog w = .ok (x0 == y0 && (x1 == y1)) w := by
  refine eqA_of Tryd.underlying30 (by kernel_rfl) ?_
  refine eqf_cons (by rfl) (by go_simp; rfl) (by go_simp; rfl) (by go_simp) ?_
  exact eqf_last (by rfl) (by go_simp; rfl) (by go_simp; rfl) (by go_simp)
theorem eqA44 (d : Nat) (w : World) (x0 y0 : Int) (x1 y1 : Int) (x2 y2 : Int) (x3 y3 : Int) (x4 y4 : Int) (x5 y5 : Int) :
    (Op.equalIn (d + 3) 44 (.agg #[.int .i64 x0, .int .i64 x1, .int .i64 x2, .int .i64 x3, .int .i64 x4, .int .i64 x5]) (.agg #[.int .i64 y0, .int .i64 y1, .int .i64 y2, .int .i64 y3, .int .i64 y4, .int .i64 y5])).run Tryd.prog w = .ok (x0 == y0 && (x1 == y1 && ((x2 == y2 && (x3 == y3)) && (x4 == y4 && (x5 == y5))))) w := by
  refine eqA_of Tryd.underlying44 (by kernel_rfl) ?_
  refine eqf_cons (by rfl) (by go_simp; rfl) (by go_simp; rfl) (by go_simp) ?_
  refine eqf_cons (by rfl) (by go_simp; rfl) (by go_simp; rfl) (by go_simp) ?_
  refine eqf_cons (by rfl) (by go_simp) (by go_simp) (eqA30 (d + 0) w _ _ _ _) ?_
  refine eqf_cons (by rfl) (by go_simp; rfl) (by go_simp; rfl) (by go_simp) ?_
  exact eqf_last (by rfl) (by go_simp; rfl) (by go_simp; rfl) (by go_simp)
end Go.Proofs.YtbccjcdmpiolpaaDoor.T
end
section
namespace Go.Proofs.YtbccjcdmpiolpaaDoor.T
open Go.RowKit Go.Proofs.YtbccjcdmpiolpaaDoorW.PrintWords Go.Proofs.YtbccjcdmpiolpaaDoorW.PrintLast Go.Proofs.YtbccjcdmpiolpaaDoorW.PrintMore
attribute [local go_sem] max2_int min2_int max_two min_two max_three min_three max_four min_four
set_option linter.unusedVariables false
set_option linter.unusedSimpArgs false
attribute [local go_sem high] eqA44
def plenumref41_Same.l0 : Nat → List (S44) → List (S44) → Int → Option (Bool)
  | 0, _, _, _ => none
  | k + 1, x0, x1, x5 => if x5 < (x0.length : Int) then (if 0 ≤ x5 then (if x5 < (x1.length : Int) then (if (!(((rd_T44 x0 x5).f0) == ((rd_T44 x1 x5).f0)) || (!(((rd_T44 x0 x5).f1) == ((rd_T44 x1 x5).f1)) || ((!(((rd_T44 x0 x5).f2.f0) == ((rd_T44 x1 x5).f2.f0)) || (!(((rd_T44 x0 x5).f2.f1) == ((rd_T44 x1 x5).f2.f1)))) || (!(((rd_T44 x0 x5).f3) == ((rd_T44 x1 x5).f3)) || (!(((rd_T44 x0 x5).f4) == ((rd_T44 x1 x5).f4))))))) = true then (some false) else (plenumref41_Same.l0 k x0 x1 (wrap64 (x5 + 1)))) else (none)) else (none)) else (some true)
def plenumref41_Same.f (k : Nat) (l0 : List (S44)) (l1 : List (S44)) : Option (Bool) := if (l0.length : Int) = (l1.length : Int) then (plenumref41_Same.l0 k l0 l1 0) else (some false)
set_option maxHeartbeats 8000000 in
set_option maxRecDepth 100000 in
theorem plenumref41_Same.calls (k : Nat) (A0 : Option Addr) (c0 : Nat) (l0 : List (S44)) (A1 : Option Addr) (c1 : Nat) (l1 : List (S44)) (r : Bool) (w : World) (hG : Glob w) (hr0 : Kd.C k44 w A0 l0.length l0) (hc0 : l0.length ≤ c0) (hr1 : Kd.C k44 w A1 l1.length l1) (hc1 : l1.length ≤ c1) (h : plenumref41_Same.f k l0 l1 = some r) :
    Calls Tryd.prog 21 #[.slice A0 l0.length c0, .slice A1 l1.length c1] w fun e w' => e = .returned (.bool r) ∧ Drawn0 w w' := by
  have hu44 := Tryd.underlying44
  have HG := Aside0.mk hG
  clear hG
  have HR0 := Aside0.mk hr0
  have HC0 := Aside0.mk hc0
  clear hr0 hc0
  have HR1 := Aside0.mk hr1
  have HC1 := Aside0.mk hc1
  clear hr1 hc1
  have H : (if (l0.length : Int) = (l1.length : Int) then (plenumref41_Same.l0 k l0 l1 0) else (some false)) = some r := h
  clear h
  by_cases c3 : (l0.length : Int) = (l1.length : Int)
  · rw [if_pos c3] at H
    have c3b0 : ((l0.length : Int) == (l1.length : Int)) = true := beq_iff_eq.mpr c3
    have c3b1 : ((l0.length : Int) != (l1.length : Int)) = false := bne_eq_false_iff_eq.mpr c3
    have c3b2 : (l0.length == l1.length) = true := by first | simpa using c3 | (simp at c3 ⊢; omega)
    clear c3
    have H' := Aside0.mk H
    clear H
    go_enter Tryd.func21, Tryd.ntmps21
    go_wp2
    repeat (go_quiet (fail); try go_wp2)
    go_loopg [5] k (fun kq v5 w' => ∃ (x5_1 : Int), v5 = .int .i64 x5_1 ∧ Aside0 (plenumref41_Same.l0 kq l0 l1 x5_1 = some r) ∧ Aside0 (kq ≤ k) ∧ Drawn0 w w')
    case atStart => exact ⟨(0), (by first | rfl | (simp; done) | (simp [*]; done)), H', ⟨Nat.le_refl _⟩, by repeat (first | exact Drawn0.refl _ | apply Drawn0.step)⟩
    case round =>
      clear H'
      try clear c1
      try clear c2
      try clear p2
      try clear c3
      try clear c3b0
      try clear c3b1
      try clear c3b2
      obtain ⟨x5_1, rfl, HA, HK1, ⟨m1, rfl⟩⟩ := hrel
      cases gk with
      | zero => exact absurd HA.out (by simp [plenumref41_Same.l0])
      | succ k1 =>
        have H := HA.out
        clear HA
        simp only [plenumref41_Same.l0] at H
        by_cases c4 : x5_1 < (l0.length : Int)
        · rw [if_pos c4] at H
          have c4b0 : decide (x5_1 < (l0.length : Int)) = true := decide_eq_true c4
          clear c4
          by_cases c5 : 0 ≤ x5_1
          · rw [if_pos c5] at H
            have c5b0 : decide (0 ≤ x5_1) = true := decide_eq_true c5
            clear c5
            by_cases c6 : x5_1 < (l1.length : Int)
            · rw [if_pos c6] at H
              have c6b0 : decide (x5_1 < (l1.length : Int)) = true := decide_eq_true c6
              clear c6
              by_cases c7 : (!(((rd_T44 l0 x5_1).f0) == ((rd_T44 l1 x5_1).f0)) || (!(((rd_T44 l0 x5_1).f1) == ((rd_T44 l1 x5_1).f1)) || ((!(((rd_T44 l0 x5_1).f2.f0) == ((rd_T44 l1 x5_1).f2.f0)) || (!(((rd_T44 l0 x5_1).f2.f1) == ((rd_T44 l1 x5_1).f2.f1)))) || (!(((rd_T44 l0 x5_1).f3) == ((rd_T44 l1 x5_1).f3)) || (!(((rd_T44 l0 x5_1).f4) == ((rd_T44 l1 x5_1).f4))))))) = true
              · rw [if_pos c7] at H
                have c7b0 : (!(((rd_T44 l0 x5_1).f0) == ((rd_T44 l1 x5_1).f0)) || (!(((rd_T44 l0 x5_1).f1) == ((rd_T44 l1 x5_1).f1)) || ((!(((rd_T44 l0 x5_1).f2.f0) == ((rd_T44 l1 x5_1).f2.f0)) || (!(((rd_T44 l0 x5_1).f2.f1) == ((rd_T44 l1 x5_1).f2.f1)))) || (!(((rd_T44 l0 x5_1).f3) == ((rd_T44 l1 x5_1).f3)) || (!(((rd_T44 l0 x5_1).f4) == ((rd_T44 l1 x5_1).f4))))))) = true := c7
                clear c7
                obtain rfl := Option.some.inj H
                have p145 : 0 ≤ (x5_1 : Int) := of_decide_eq_true (by first | (with_reducible assumption) | assumption)
                have q145 : x5_1 < (l0.length : Int) := of_decide_eq_true (by first | (with_reducible assumption) | assumption)
                obtain ⟨ad145, e145, hx145_0, hx145_1, hx145_2, hx145_3, hx145_4, hx145_5⟩ := at_T44 HR0.out x5_1 p145 q145
                cases e145
                replace p145 := eq_true p145
                replace q145 := eq_true q145
                have p146 : 0 ≤ (x5_1 : Int) := of_decide_eq_true (by first | (with_reducible assumption) | assumption)
                have q146 : x5_1 < (l1.length : Int) := of_decide_eq_true (by first | (with_reducible assumption) | assumption)
                obtain ⟨ad146, e146, hx146_0, hx146_1, hx146_2, hx146_3, hx146_4, hx146_5⟩ := at_T44 HR1.out x5_1 p146 q146
                cases e146
                replace p146 := eq_true p146
                replace q146 := eq_true q146
                go_wp2
                repeat (go_quiet (fail); try go_wp2)
                go_ret
                exact ⟨by first | rfl | (simp; done) | (simp [*]; done), by repeat (first | exact Drawn0.refl _ | apply Drawn0.step)⟩
              · rw [if_neg c7] at H
                have c7b0 : (!(((rd_T44 l0 x5_1).f0) == ((rd_T44 l1 x5_1).f0)) || (!(((rd_T44 l0 x5_1).f1) == ((rd_T44 l1 x5_1).f1)) || ((!(((rd_T44 l0 x5_1).f2.f0) == ((rd_T44 l1 x5_1).f2.f0)) || (!(((rd_T44 l0 x5_1).f2.f1) == ((rd_T44 l1 x5_1).f2.f1)))) || (!(((rd_T44 l0 x5_1).f3) == ((rd_T44 l1 x5_1).f3)) || (!(((rd_T44 l0 x5_1).f4) == ((rd_T44 l1 x5_1).f4))))))) = false := by simpa using c7
                clear c7
                have H' := Aside0.mk H
                clear H
                have p145 : 0 ≤ (x5_1 : Int) := of_decide_eq_true (by first | (with_reducible assumption) | assumption)
                have q145 : x5_1 < (l0.length : Int) := of_decide_eq_true (by first | (with_reducible assumption) | assumption)
                obtain ⟨ad145, e145, hx145_0, hx145_1, hx145_2, hx145_3, hx145_4, hx145_5⟩ := at_T44 HR0.out x5_1 p145 q145
                cases e145
                replace p145 := eq_true p145
                replace q145 := eq_true q145
                have p146 : 0 ≤ (x5_1 : Int) := of_decide_eq_true (by first | (with_reducible assumption) | assumption)
                have q146 : x5_1 < (l1.length : Int) := of_decide_eq_true (by first | (with_reducible assumption) | assumption)
                obtain ⟨ad146, e146, hx146_0, hx146_1, hx146_2, hx146_3, hx146_4, hx146_5⟩ := at_T44 HR1.out x5_1 p146 q146
                cases e146
                replace p146 := eq_true p146
                replace q146 := eq_true q146
                go_wp2
                repeat (go_quiet (fail); try go_wp2)
                go_roundg k1
                case measure => have := HK1.out; omega
                case rel => exact ⟨(wrap64 (x5_1 + 1)), (by first | rfl | (simp; done) | (simp [*]; done)), H', ⟨by have := HK1.out; omega⟩, by repeat (first | exact Drawn0.refl _ | apply Drawn0.step)⟩
            · rw [if_neg c6] at H
              exact absurd H (by simp)
          · rw [if_neg c5] at H
            exact absurd H (by simp)
        · rw [if_neg c4] at H
          have c4b0 : decide (x5_1 < (l0.length : Int)) = false := decide_eq_false c4
          clear c4
          obtain rfl := Option.some.inj H
          go_wp2
          repeat (go_quiet (fail); try go_wp2)
          go_ret
          exact ⟨by first | rfl | (simp; done) | (simp [*]; done), by repeat (first | exact Drawn0.refl _ | apply Drawn0.step)⟩
  · rw [if_neg c3] at H
    have c3b0 : ((l0.length : Int) == (l1.length : Int)) = false := beq_eq_false_iff_ne.mpr c3
    have c3b1 : ((l0.length : Int) != (l1.length : Int)) = true := bne_iff_ne.mpr c3
    have c3b2 : (l0.length == l1.length) = false := by first | simpa using c3 | (simp at c3 ⊢; omega)
    obtain rfl := Option.some.inj H
    go_enter Tryd.func21, Tryd.ntmps21
    go_wp2
    repeat (go_quiet (fail); try go_wp2)
    go_ret
    exact ⟨by first | rfl | (simp; done) | (simp [*]; done), by repeat (first | exact Drawn0.refl _ | apply Drawn0.step)⟩
end Go.Proofs.YtbccjcdmpiolpaaDoor.T
end
