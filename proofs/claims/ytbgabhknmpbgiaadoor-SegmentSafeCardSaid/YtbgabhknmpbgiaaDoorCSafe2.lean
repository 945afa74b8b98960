/- SegmentSafeCard: one part of the proof that the law answers true for every input, and that its arguments read afterwards as before. No condition. -/
import Derived.Test.YtbgabhknmpbgiaaDoorCSafe1
import Derived.Outline
import Derived.Deep.OwnRows
import Derived.LoopTactic
section
namespace Go.Proofs.YtbgabhknmpbgiaaDoor.S
open Go.RowKit Go.Proofs.YtbgabhknmpbgiaaDoorW.PrintWords Go.Proofs.YtbgabhknmpbgiaaDoorW.PrintLast Go.Proofs.YtbgabhknmpbgiaaDoorW.PrintMore
set_option linter.unusedVariables false
set_option linter.unusedSimpArgs false
attribute [local go_sem] max2_int min2_int max_two min_two
structure Rn where
  id : Int
  timeout : Int
  state : Int
  count : Int
  msg : List Int
  deadline : Int
def RcvAt (B g : Nat) (r : Rn) (w : World) : Prop := ∃ v, w.heap[g]? = some (.cells #[.int .i64 r.id, .int .i64 r.timeout, .int .i64 r.state, .int .i64 r.count, v, .int .i64 r.deadline] 113 (0, 0)) ∧ B ≤ g ∧ Kd.R (Kd.int .u8) 5 w B (fun _ => True) v r.msg
structure KeepR (w w' : World) (g : Nat) : Prop where
  size : w.heap.size ≤ w'.heap.size
  keep : ∀ (k : Nat) cs t, w.heap[k]? = some (.cells cs t (0, 0)) → t ≠ 5 → k ≠ g → w'.heap[k]? = some (.cells cs t (0, 0))
theorem KeepR.refl (w : World) (g : Nat) : KeepR w w g := ⟨Nat.le_refl _, fun _ _ _ h _ _ => h⟩
theorem KeepR.trans {w w1 w2 : World} {g : Nat} (h : KeepR w w1 g) (k : KeepR w1 w2 g) : KeepR w w2 g := ⟨Nat.le_trans h.size k.size, fun j cs t hj h1 h2 => k.keep j cs t (h.keep j cs t hj h1 h2) h1 h2⟩
theorem KeepR.of_below {w w1 : World} (h : Below w.heap.size w w1) (g : Nat) : KeepR w w1 g := ⟨h.size, fun j cs t hj _ _ => blk_below hj h⟩
theorem KeepR.set {w w1 : World} {g : Nat} (h : KeepR w w1 g) (j : Nat) (u : Value) : KeepR w (w1.setCell ⟨g, j, none⟩ u) g := ⟨by simpa [World.setCell] using h.size, fun k cs t hk h1 h2 => blk_far (h.keep k cs t hk h1 h2) (p := ⟨g, j, none⟩) h2 u⟩
theorem KeepR.drew {w w1 : World} {g : Nat} (h : KeepR w w1 g) : KeepR w w1.drew g := ⟨h.size, h.keep⟩
theorem KeepR.alloc {w w1 : World} {g : Nat} (h : KeepR w w1 g) (o : Obj) : KeepR w (w1.alloc o) g := h.trans (KeepR.of_below (below_alloc (Below.refl _ _) o) g)
theorem RcvAt.below {B g : Nat} {r : Rn} {w w1 : World} (h : RcvAt B g r w) (hb : Below w.heap.size w w1) : RcvAt B g r w1 := by
  obtain ⟨v, hv, hg, ho⟩ := h
  exact ⟨v, blk_below hv hb, hg, Kd.R_below ho hb⟩
theorem RcvAt.drew {B g : Nat} {r : Rn} {w : World} (h : RcvAt B g r w) : RcvAt B g r w.drew := by
  obtain ⟨v, hv, hg, ho⟩ := h
  exact ⟨v, blk_drew hv, hg, Kd.R_drew ho⟩
theorem RcvAt.alloc {B g : Nat} {r : Rn} {w : World} (h : RcvAt B g r w) (o : Obj) : RcvAt B g r (w.alloc o) := h.below (below_alloc (Below.refl _ _) o)
theorem RcvAt.keepBut {B g g' : Nat} {r : Rn} {w w1 : World} (h : RcvAt B g r w) (hk : KeepBut w w1 g' none) (hne : g ≠ g') {cs : Array Value} {t : TypeId} (hg' : w.heap[g']? = some (.cells cs t (0, 0))) (ht : t ≠ 5) : RcvAt B g r w1 := by
  obtain ⟨v, hv, hg, ho⟩ := h
  refine ⟨v, (hk.2 g (blk_lt hv) hne (by simp)).trans hv, hg, ?_⟩
  exact Kd.R_mono (Kd.R_step (Kd.R_bound ho) (fun k hk' hlt => by
    obtain ⟨_, _, _, q, hq, cells, hc⟩ := hk'
    rcases List.mem_cons.1 hq with rfl | hq
    · exact hk.2 k hlt (fun e => by subst e; rw [hc] at hg'; injection hg' with hg'; injection hg' with _ hg' _; exact ht hg'.symm) (by simp)
    · cases hq)) (fun _ _ => trivial)
theorem R_setg {B g : Nat} {w : World} {cs : Array Value} {v : Value} {msg : List Int} (hv : w.heap[g]? = some (.cells cs 113 (0, 0))) (ho : Kd.R (Kd.int .u8) 5 w B (fun _ => True) v msg) (j : Nat) (u : Value) : Kd.R (Kd.int .u8) 5 (w.setCell ⟨g, j, none⟩ u) B (fun _ => True) v msg :=
  Kd.R_mono (Kd.R_far (p := ⟨g, j, none⟩) (Kd.R_types ho hv (fun q hq => by
    rcases List.mem_cons.1 hq with rfl | hq
    · decide
    · cases hq)) (fun _ h => h.2) _) (fun _ _ => trivial)
theorem RcvAt.set_state {B g : Nat} {id timeout state count deadline : Int} {msg : List Int} {w : World} (h : RcvAt B g ⟨id, timeout, state, count, msg, deadline⟩ w) (x : Int) : RcvAt B g ⟨id, timeout, x, count, msg, deadline⟩ (w.setCell ⟨g, 2, none⟩ (.int .i64 x)) := by
  obtain ⟨v, hv, hg, ho⟩ := h
  exact ⟨v, blk_put hv 2 _ rfl, hg, R_setg hv ho 2 _⟩
theorem RcvAt.set_count {B g : Nat} {id timeout state count deadline : Int} {msg : List Int} {w : World} (h : RcvAt B g ⟨id, timeout, state, count, msg, deadline⟩ w) (x : Int) : RcvAt B g ⟨id, timeout, state, x, msg, deadline⟩ (w.setCell ⟨g, 3, none⟩ (.int .i64 x)) := by
  obtain ⟨v, hv, hg, ho⟩ := h
  exact ⟨v, blk_put hv 3 _ rfl, hg, R_setg hv ho 3 _⟩
theorem RcvAt.set_deadline {B g : Nat} {id timeout state count deadline : Int} {msg : List Int} {w : World} (h : RcvAt B g ⟨id, timeout, state, count, msg, deadline⟩ w) (x : Int) : RcvAt B g ⟨id, timeout, state, count, msg, x⟩ (w.setCell ⟨g, 5, none⟩ (.int .i64 x)) := by
  obtain ⟨v, hv, hg, ho⟩ := h
  exact ⟨v, blk_put hv 5 _ rfl, hg, R_setg hv ho 5 _⟩
structure RcvStep (B g : Nat) (id timeout state count : Int) (msg' : List Int) (deadline : Int) (w w1 : World) (v v1 : Value) : Prop where
  blk : w1.heap[g]? = some (.cells #[.int .i64 id, .int .i64 timeout, .int .i64 state, .int .i64 count, v, .int .i64 deadline] 113 (0, 0))
  keep1 : KeepR w w1 g
  bel1 : Below B w w1
  at_ : RcvAt B g ⟨id, timeout, state, count, msg', deadline⟩ (w1.setCell ⟨g, 4, none⟩ v1)
theorem rcv_step {B g : Nat} {id timeout state count : Int} {msg msg' : List Int} {deadline : Int} {w w1 : World} {v v1 : Value} (hv : w.heap[g]? = some (.cells #[.int .i64 id, .int .i64 timeout, .int .i64 state, .int .i64 count, v, .int .i64 deadline] 113 (0, 0))) (hg : B ≤ g) (ho : Kd.R (Kd.int .u8) 5 w B (fun _ => True) v msg)
    (ho1 : Kd.R (Kd.int .u8) 5 w1 B (fun _ => True) v1 msg') (hbel : Below B w w1) (hgr : w.grownBy w1 v.ownBlock) : RcvStep B g id timeout state count msg' deadline w w1 v v1 := by
  have h1 := blk_grown hv hgr (Kd.R_ne ho hv (by decide))
  exact ⟨h1, ⟨hgr.size, fun k cs t hk ht _ => blk_grown hk hgr (Kd.R_ne ho hk (Ne.symm ht))⟩, hbel, ⟨v1, blk_put h1 4 v1 rfl, hg, R_setg h1 ho1 4 _⟩⟩
theorem step_append_str {P : Program} {ops : Array Oper} {o : Oper} {a : Act} {Q : Exit → Act → World → Prop} {K : Act → World → Prop} {w0 W : World} (base : Nat) (hw : Region.wanted o (yielded ops a.tmps) = true) (s x : Operand) (t u e : TypeId)
    (ho : o.op = .call { callee := .builtin .append, args := #[s, x], argTypes := #[t, u] })
    (ht : P.underlying t = some (.slice e)) (hu : P.underlying u = some .string) (hinfo : (P.info? e).map (fun i => (i.zero, i.size, i.bytes)) = some (some (.int .u8 0), 1, 1))
    (v : Value) (xs : List Int) (y : ByteArray) (hs : a.eval s = v) (hx : a.eval x = .string y)
    (HO : Kd.R (Kd.int .u8) e W base (fun _ => True) v xs) (HB : Below base w0 W) (hbase : base ≤ W.heap.size) (hl : xs.length + y.size ≤ 140737488355328)
    (h : ∀ v1 w1, Kd.R (Kd.int .u8) e w1 base (fun _ => True) v1 (xs ++ bytesOf y) → Below base w0 w1 → W.grownBy w1 v.ownBlock → K (a.put o.dst v1) w1) :
    if Region.wanted o (yielded ops a.tmps) = true then Oper.wp P o a W K Q else K (a.put o.dst undef) W := by
  obtain ⟨i0, hi, hzz⟩ := Option.map_eq_some_iff.1 hinfo
  simp only [Prod.mk.injEq] at hzz
  obtain ⟨hz0, hz1, hz2⟩ := hzz
  have HO' := Kd.own_of_R HO
  rw [if_pos hw]
  obtain ⟨v1, w1, hr, hown, hg, _⟩ := Lib.run_append_own_string (P := P) (w := W) base t u o.type e i0 ht hu hi hz0 hz1 hz2 v xs.length _ HO' y (by simp only [maxLen]; omega) hl hbase
  have hl2 : (xs ++ bytesOf y).length = xs.length + y.size := by rw [List.length_append, bytesOf_length]
  have hc : nums .u8 (xs ++ bytesOf y) = nums .u8 xs ++ Lib.strCells y := by
    rw [nums_append]
    congr 1
    simp [nums, bytesOf, Lib.strCells]
  unfold Oper.wp execOp
  simp only [ho, resolve, invoke, builtin, Sem.run_bind, Sem.run_pure, Result.andThen_ok, List.map_toArray, List.map_cons, List.map_nil, hs, hx, hr]
  refine h v1 w1 (Kd.R_of_own ?_ (fun _ _ => trivial)) (HB.grown hg hbase (own_base HO')) hg
  rw [hl2]
  show w1.ownsRow base e 1 v1 (xs.length + y.size) (nums .u8 (xs ++ bytesOf y))
  rw [hc]
  exact hown
def Rn.tick (r : Rn) (now : Int) : List S23 × Rn := if r.state = 0 then (if now < r.deadline then ([], r) else ([abort23 r.id], { r with state := 2 })) else ([], r)
def RcvPost (B : Nat) (w : World) (g : Nat) (x : List S23 × Rn) (e : Ending) (w' : World) : Prop := ∃ v : Value, e = .returned v ∧ FV k23 23 w.heap.size w' v x.1 ∧ RcvAt B g x.2 w' ∧ Below B w w' ∧ KeepR w w' g
set_option maxHeartbeats 16000000 in
set_option maxRecDepth 100000 in
theorem rtick_calls (B g : Nat) (r : Rn) (now : Int) (w : World) (h : RcvAt B g r w) :
    Calls Tryd.prog 32 #[.pointer (some ⟨g, 0, none⟩), .int .i64 now] w fun e w' => RcvPost B w g (r.tick now) e w' := by
  obtain ⟨id, timeout, state, count, msg, deadline⟩ := r
  have HR := Aside0.mk h
  obtain ⟨v0, hG, hge, hO⟩ := h
  have HG := Aside0.mk hG
  have HGE := Aside0.mk hge
  have c2 := (blk_cell hG 2).trans rfl
  have c5 := (blk_cell hG 5).trans rfl
  have c0 := (blk_cell hG 0).trans rfl
  have f2 := blk_frozen hG 2
  clear hG hge hO
  by_cases k1 : state = 0
  · have k1b : (state != 0) = false := by rw [k1]; rfl
    by_cases k2 : now < deadline
    · have k2b : decide (now < deadline) = true := decide_eq_true k2
      have HT := Aside0.mk (show Rn.tick ⟨id, timeout, state, count, msg, deadline⟩ now = ([], ⟨id, timeout, state, count, msg, deadline⟩) by unfold Rn.tick; rw [if_pos k1, if_pos k2])
      rw [HT.out]
      clear k1 k2
      go_enter Tryd.func32, Tryd.ntmps32
      go_wp2
      go_ret
      exact ⟨_, rfl, FV.nil k23 23 _ _, HR.out, Below.refl _ _, KeepR.refl _ _⟩
    · have k2b : decide (now < deadline) = false := decide_eq_false k2
      have HT := Aside0.mk (show Rn.tick ⟨id, timeout, state, count, msg, deadline⟩ now = ([abort23 id], ⟨id, timeout, 2, count, msg, deadline⟩) by unfold Rn.tick; rw [if_pos k1, if_neg k2])
      rw [HT.out]
      clear k1 k2
      go_enter Tryd.func32, Tryd.ntmps32
      go_wp2
      go_ret
      exact ⟨_, rfl, V_one23 (abort23 id) _ (by simp [World.setCell]) (by simp [World.setCell]), (HR.out.set_state 2).alloc _, ((Below.refl B w).setCell (p := ⟨g, 2, none⟩) HGE.out _).alloc (by have := blk_lt HG.out; have := HGE.out; simp [World.setCell]; omega) _, ((KeepR.refl w g).set 2 _).alloc _⟩
  · have k1b : (state != 0) = true := bne_iff_ne.mpr k1
    have HT := Aside0.mk (show Rn.tick ⟨id, timeout, state, count, msg, deadline⟩ now = ([], ⟨id, timeout, state, count, msg, deadline⟩) by unfold Rn.tick; rw [if_neg k1])
    rw [HT.out]
    clear k1
    go_enter Tryd.func32, Tryd.ntmps32
    go_wp2
    go_ret
    exact ⟨_, rfl, FV.nil k23 23 _ _, HR.out, Below.refl _ _, KeepR.refl _ _⟩
set_option maxHeartbeats 16000000 in
set_option maxRecDepth 100000 in
theorem rstate_calls (B g : Nat) (r : Rn) (w : World) (h : RcvAt B g r w) :
    Calls Tryd.prog 38 #[.pointer (some ⟨g, 0, none⟩)] w fun e w' => e = .returned (.int .i64 r.state) ∧ w' = w := by
  obtain ⟨id, timeout, state, count, msg, deadline⟩ := r
  obtain ⟨v0, hG, hge, hO⟩ := h
  have c2 := (blk_cell hG 2).trans rfl
  clear hG hge hO
  go_enter Tryd.func38, Tryd.ntmps38
  go_wp2
  go_ret
  exact ⟨rfl, rfl⟩
set_option maxHeartbeats 16000000 in
set_option maxRecDepth 100000 in
theorem rmessage_calls (B g : Nat) (r : Rn) (w : World) (h : RcvAt B g r w) :
    Calls Tryd.prog 36 #[.pointer (some ⟨g, 0, none⟩)] w fun e w' => e = .returned (.tuple #[.string (if r.state = 1 then strOfNums r.msg else ⟨#[]⟩), .bool (r.state == 1)]) ∧ w' = w := by
  obtain ⟨id, timeout, state, count, msg, deadline⟩ := r
  obtain ⟨v0, hG, hge, hO⟩ := h
  obtain ⟨A1, c1, e1⟩ := Kd.R_slice hO
  subst e1
  have c2 := (blk_cell hG 2).trans rfl
  have c4 := (blk_cell hG 4).trans rfl
  have hcv := own_string (w := w) (P := Tryd.prog) Tryd.underlying80 Tryd.underlying5 Tryd.underlying9 (Kd.own_of_R hO)
  clear hG hge hO
  show Calls Tryd.prog 36 #[.pointer (some ⟨g, 0, none⟩)] w fun e w' => e = .returned (.tuple #[.string (if state = 1 then strOfNums msg else ⟨#[]⟩), .bool (state == 1)]) ∧ w' = w
  by_cases k1 : state = 1
  · have k1b : (state != 1) = false := by rw [k1]; rfl
    have k1c : (state == 1) = true := by rw [k1]; rfl
    rw [if_pos k1, k1c]
    clear k1 k1c
    go_enter Tryd.func36, Tryd.ntmps36
    go_wp2
    go_ret2
    exact ⟨rfl, rfl⟩
  · have k1b : (state != 1) = true := bne_iff_ne.mpr k1
    have k1c : (state == 1) = false := beq_false_of_ne k1
    rw [if_neg k1, k1c]
    clear k1 k1c
    go_enter Tryd.func36, Tryd.ntmps36
    go_wp2
    go_ret2
    exact ⟨rfl, rfl⟩
set_option maxHeartbeats 16000000 in
set_option maxRecDepth 100000 in
theorem rnew_calls (id timeout now : Int) (w : World) (hG : Glob w) :
    Calls Tryd.prog 30 #[.int .i64 id, .int .i64 timeout, .int .i64 now] w fun e w' => (begE id timeout ≠ 0 → e = .returned (.tuple #[.pointer none, .int .i64 (begE id timeout)]) ∧ Below w.heap.size w w') ∧ (begE id timeout = 0 → ∃ g, e = .returned (.tuple #[.pointer (some ⟨g, 0, none⟩), .int .i64 0]) ∧ RcvAt w.heap.size g ⟨id, timeout, 0, 0, [], wrap64 (now + timeout)⟩ w' ∧ Below w.heap.size w w') := by
  have HG := Aside0.mk hG
  clear hG
  obtain ⟨eb, HEB⟩ : ∃ eb, Aside0 (begE id timeout = eb) := ⟨_, ⟨rfl⟩⟩
  have HBG := Aside0.mk (show segment_begin.f id timeout = some eb by rw [begin_eq, HEB.out])
  rw [HEB.out]
  by_cases k0 : eb = 0
  · have k0b : (eb != 0) = false := by rw [k0]; rfl
    have K0 := Aside0.mk k0
    clear k0
    go_enter Tryd.func30, Tryd.ntmps30
    go_wp2_with (first | (go_at_call 63; (with_reducible refine (segment_begin.calls id timeout eb _ HG.out HBG.out).mono ?_); rintro e Wx ⟨rfl, ⟨nd, rfl⟩⟩; have HBa := Aside0.mk (pw_below_drewN (Below.refl w.heap.size w) nd); generalize w.drewN nd = wa at HBa ⊢) | ((with_reducible refine gate_dst (N := 21) rfl ?_); refine box_event ?hg (N := 21) ?hd (cs := #[.int .i64 id, .int .i64 timeout, .int .i64 0, .int .i64 0, .slice none 0 0, .int .i64 (wrap64 (now + timeout))]) (t := 113) ?hr ?_; (case hd => rfl); (case hg => rfl); (case hr => first | (go_simp; done) | (go_simp; rfl)); intro g hg w5 hbox hb; have HI5 := Aside0.mk (show RcvAt w.heap.size g ⟨id, timeout, 0, 0, [], wrap64 (now + timeout)⟩ w5 from ⟨_, hbox, by rw [hg]; exact HBa.out.size, Kd.R_nil _ _ _ _ _⟩); have HB5 := Aside0.mk (below_step HBa.out hb); clear hb hbox hg))
    go_ret2
    exact ⟨fun h => absurd K0.out h, fun _ => ⟨g, rfl, HI5.out, HB5.out⟩⟩
  · have k0b : (eb != 0) = true := bne_iff_ne.mpr k0
    have K0 := Aside0.mk k0
    clear k0
    go_enter Tryd.func30, Tryd.ntmps30
    go_wp2_with (go_at_call 63; (with_reducible refine (segment_begin.calls id timeout eb _ HG.out HBG.out).mono ?_); rintro e Wx ⟨rfl, ⟨nd, rfl⟩⟩; have HBa := Aside0.mk (pw_below_drewN (Below.refl w.heap.size w) nd); generalize w.drewN nd = wa at HBa ⊢)
    go_ret2
    exact ⟨fun _ => ⟨rfl, HBa.out⟩, fun h => absurd h K0.out⟩
end Go.Proofs.YtbgabhknmpbgiaaDoor.S
end
section
namespace Go.Proofs.YtbgabhknmpbgiaaDoor.S
open Go.RowKit Go.Proofs.YtbgabhknmpbgiaaDoorW.PrintWords Go.Proofs.YtbgabhknmpbgiaaDoorW.PrintLast Go.Proofs.YtbgabhknmpbgiaaDoorW.PrintMore
set_option linter.unusedVariables false
set_option linter.unusedSimpArgs false
attribute [local go_sem] max2_int min2_int max_two min_two
def Rn.ack (r : Rn) : S23 := ⟨2, r.id, wrap64 (r.count - 1), false, 0, ⟨#[]⟩⟩
def Rn.take (r : Rn) (p2 : Int) (p3 : Bool) (p5 : ByteArray) : Rn := if p2 = r.count then { r with count := wrap64 (r.count + 1), msg := r.msg ++ bytesOf p5, state := if p3 = true then r.state else 1 } else r
def Rn.late (r : Rn) (now : Int) : Rn := { r with deadline := wrap64 (now + r.timeout) }
def Rn.handle (r : Rn) (p0 p1 p2 : Int) (p3 : Bool) (p5 : ByteArray) (now : Int) : List S23 × Rn :=
  if p1 = r.id then (if p0 = 1 then (if r.state = 1 then ([r.ack], r) else if r.state = 0 then ([((r.take p2 p3 p5).late now).ack], (r.take p2 p3 p5).late now) else ([], r)) else if p0 = 3 then (if r.state = 0 then ([], { r with state := 2 }) else ([], r)) else ([], r)) else ([], r)
set_option maxHeartbeats 16000000 in
set_option maxRecDepth 100000 in
theorem rhandle_calls (B g : Nat) (r : Rn) (p0 p1 p2 : Int) (p3 : Bool) (p4 : Int) (p5 : ByteArray) (now : Int) (w : World) (h : RcvAt B g r w) (hBS : B ≤ w.heap.size) (hlen : r.msg.length + p5.size ≤ 140737488355328) :
    Calls Tryd.prog 34 #[.pointer (some ⟨g, 0, none⟩), .agg #[.int .i64 p0, .int .i64 p1, .int .i64 p2, .bool p3, .int .i64 p4, .string p5], .int .i64 now] w fun e w' => RcvPost B w g (r.handle p0 p1 p2 p3 p5 now) e w' := by
  have hmf_ : ∀ (fn : Fn) (first cap : Array Value) (w : World), (Instr.makeFunc fn first cap).run Tryd.prog w = .ok (.func fn first cap) w := fun _ _ _ _ => rfl
  obtain ⟨id, timeout, state, count, msg, deadline⟩ := r
  have HI := Aside0.mk h
  have HBS := Aside0.mk hBS
  have HLEN := Aside0.mk (show msg.length + p5.size ≤ 140737488355328 from hlen)
  obtain ⟨v0, hG, hge, hO⟩ := h
  have HG := Aside0.mk (show w.heap[g]? = some (.cells #[.int .i64 id, .int .i64 timeout, .int .i64 state, .int .i64 count, v0, .int .i64 deadline] 113 (0, 0)) from hG)
  have HGE := Aside0.mk hge
  clear hG hge hO hBS hlen
  by_cases k1 : p1 = id
  · have k1b : (p1 != id) = false := by rw [k1]; exact bne_self_eq_false _
    by_cases k2 : p0 = 1
    · have k2b : (p0 == 1) = true := by rw [k2]; rfl
      have k2c : (p0 == 3) = false := by rw [k2]; rfl
      by_cases k3 : state = 1
      · have k3b : (state == 1) = true := by rw [k3]; rfl
        have HT := Aside0.mk (show Rn.handle ⟨id, timeout, state, count, msg, deadline⟩ p0 p1 p2 p3 p5 now = ([Rn.ack ⟨id, timeout, state, count, msg, deadline⟩], ⟨id, timeout, state, count, msg, deadline⟩) by unfold Rn.handle; rw [if_pos k1, if_pos k2, if_pos k3]; try rfl)
        rw [HT.out]
        clear k1 k2 k3
        go_enter Tryd.func34, Tryd.ntmps34
        go_wp2_with (first | ((with_reducible refine gate_dst (N := 3) rfl ?_); refine box_event ?hg (N := 3) ?hd (cs := #[.pointer (some ⟨g, 0, none⟩)]) (t := 64) ?hr ?_; (case hd => rfl); (case hg => rfl); (case hr => first | (go_simp; done) | (go_simp; rfl)); intro gr hgr w1 hbox hb; have BRa := Aside0.mk hbox; have HIa := Aside0.mk (HI.out.below hb); have HGa := Aside0.mk (blk_below HG.out hb); have HBa := Aside0.mk (hb.mono HBS.out); have HKa := Aside0.mk (KeepR.of_below hb g); clear hb hbox hgr) | ((with_reducible refine gate_dst (N := 4) rfl ?_); refine box_event ?hg (N := 4) ?hd (cs := #[.int .i64 p0, .int .i64 p1, .int .i64 p2, .bool p3, .int .i64 p4, .string p5]) (t := 23) ?hr ?_; (case hd => rfl); (case hg => rfl); (case hr => first | (go_simp; done) | (go_simp; rfl)); intro gp hgp w2 hbox hb; have BP2 := Aside0.mk hbox; have BR2 := Aside0.mk (blk_below BRa.out hb); have HI2 := Aside0.mk (HIa.out.below hb); have HG2 := Aside0.mk (blk_below HGa.out hb); have HB2 := Aside0.mk (HBa.out.trans (hb.mono (Nat.le_trans HBS.out HKa.out.size))); have HK2 := Aside0.mk (HKa.out.trans (KeepR.of_below hb g)); have HNR := Aside0.mk (blk_ne BR2.out HG2.out (by decide)); have HNP := Aside0.mk (blk_ne BP2.out HG2.out (by decide)); have cr := (blk_cell BR2.out 0).trans rfl; have c0 := (blk_cell HG2.out 0).trans rfl; have y1 := (blk_cell BP2.out 1).trans rfl; clear hb hbox hgp BRa HIa HGa HBa HKa))
        have HI3 := Aside0.mk HI2.out.drew
        have HG3 := Aside0.mk (blk_drew HG2.out)
        have BR3 := Aside0.mk (blk_drew BR2.out)
        have BP3 := Aside0.mk (blk_drew BP2.out)
        have HB3 := Aside0.mk HB2.out.drew
        have HK3 := Aside0.mk HK2.out.drew
        refine start_ (n := 7) (S := fun w' => w'.cell? ⟨gp, 1, none⟩ = some (.int .i64 p1) ∧ w'.cell? ⟨gr, 0, none⟩ = some (.pointer (some ⟨g, 0, none⟩)) ∧ w'.cell? ⟨g, 0, none⟩ = some (.int .i64 id)) (ds := []) #[Yn, Yn, Yn, Yn, Yn, Yn, Yn] (by kernel_rfl) rfl rfl ⟨y1, cr, c0⟩ (fun hHeld => ?_)
        generalize w2.drew = w3 at HI3 HG3 BR3 BP3 HB3 HK3 hHeld ⊢
        refine pure_ (i := 0) (N := some 8) (v := ?_) (a' := ?_) #[Y, Yn, Yn, Yn, Yn, Yn, Yn] rfl rfl (by kernel_rfl) (fun _ _ _ h => h) (Or.inl ⟨by rfl, ?_⟩) ?_ ?_
        rotate_left
        · intro w'
          go_simp
          with_reducible rfl
        rotate_left
        · simp only [Act.put, List.setIfInBounds_toArray, List.set_cons_zero, List.set_cons_succ, i64_w, i32_w]
          rfl
        refine take_ (i := 1) (N := some 9) (v := ?_) (a' := ?_) #[Y, Y, Yn, Yn, Yn, Yn, Yn] rfl rfl (by kernel_rfl) (fun _ _ _ h => h) (Or.inl ⟨by rfl, ?_⟩) hHeld ?_ ?_
        rotate_left
        · rintro w' ⟨s0, s1, s2⟩
          go_simp
          with_reducible rfl
        rotate_left
        · simp only [Act.put, List.setIfInBounds_toArray, List.set_cons_zero, List.set_cons_succ, i64_w, i32_w]
          rfl
        refine take_ (i := 2) (N := some 10) (v := ?_) (a' := ?_) #[Y, Y, Y, Yn, Yn, Yn, Yn] rfl rfl (by kernel_rfl) (fun _ _ _ h => h) (Or.inl ⟨by rfl, ?_⟩) hHeld ?_ ?_
        rotate_left
        · rintro w' ⟨s0, s1, s2⟩
          go_simp
          with_reducible rfl
        rotate_left
        · simp only [Act.put, List.setIfInBounds_toArray, List.set_cons_zero, List.set_cons_succ, i64_w, i32_w]
          rfl
        refine pure_ (i := 3) (N := some 11) (v := ?_) (a' := ?_) #[Y, Y, Y, Y, Yn, Yn, Yn] rfl rfl (by kernel_rfl) (fun _ _ _ h => h) (Or.inl ⟨by rfl, ?_⟩) ?_ ?_
        rotate_left
        · intro w'
          go_simp
          with_reducible rfl
        rotate_left
        · simp only [Act.put, List.setIfInBounds_toArray, List.set_cons_zero, List.set_cons_succ, i64_w, i32_w]
          rfl
        refine pure_ (i := 4) (N := some 12) (v := ?_) (a' := ?_) #[Y, Y, Y, Y, Y, Yn, Yn] rfl rfl (by kernel_rfl) (fun _ _ _ h => h) (Or.inl ⟨by rfl, ?_⟩) ?_ ?_
        rotate_left
        · intro w'
          go_simp
          with_reducible rfl
        rotate_left
        · simp only [Act.put, List.setIfInBounds_toArray, List.set_cons_zero, List.set_cons_succ, i64_w, i32_w]
          rfl
        refine take_ (i := 5) (N := some 13) (v := ?_) (a' := ?_) #[Y, Y, Y, Y, Y, Y, Yn] rfl rfl (by kernel_rfl) (fun _ _ _ h => h) (Or.inl ⟨by rfl, ?_⟩) hHeld ?_ ?_
        rotate_left
        · rintro w' ⟨s0, s1, s2⟩
          go_simp
          with_reducible rfl
        rotate_left
        · simp only [Act.put, List.setIfInBounds_toArray, List.set_cons_zero, List.set_cons_succ, i64_w, i32_w]
          rfl
        refine pure_ (i := 6) (N := some 14) (v := ?_) (a' := ?_) #[Y, Y, Y, Y, Y, Y, Y] rfl rfl (by kernel_rfl) (fun _ _ _ h => h) (Or.inl ⟨by rfl, ?_⟩) ?_ ?_
        rotate_left
        · intro w'
          go_simp
          with_reducible rfl
        rotate_left
        · simp only [Act.put, List.setIfInBounds_toArray, List.set_cons_zero, List.set_cons_succ, i64_w, i32_w]
          rfl
        refine done_ (by kernel_rfl) ?_
        clear cr c0 y1 hHeld
        have cr := (blk_cell BR3.out 0).trans rfl
        have y0 := (blk_cell BP3.out 0).trans rfl
        have c2 := (blk_cell HG3.out 2).trans rfl
        have c0 := (blk_cell HG3.out 0).trans rfl
        have c3 := (blk_cell HG3.out 3).trans rfl
        go_wp2
        have HI4 := Aside0.mk HI3.out.drew
        have HG4 := Aside0.mk (blk_drew HG3.out)
        have BR4 := Aside0.mk (blk_drew BR3.out)
        have BP4 := Aside0.mk (blk_drew BP3.out)
        have HB4 := Aside0.mk HB3.out.drew
        have HK4 := Aside0.mk HK3.out.drew
        refine start_ (n := 12) (S := fun w' => w'.cell? ⟨gr, 0, none⟩ = some (.pointer (some ⟨g, 0, none⟩)) ∧ w'.cell? ⟨g, 0, none⟩ = some (.int .i64 id) ∧ w'.cell? ⟨g, 3, none⟩ = some (.int .i64 count)) (ds := []) #[Yn, Yn, Yn, Yn, Yn, Yn, Yn, Yn, Yn, Yn, Yn, Yn] (by kernel_rfl) rfl rfl ⟨cr, c0, c3⟩ (fun hHeld => ?_)
        generalize w3.drew = w4 at HI4 HG4 BR4 BP4 HB4 HK4 hHeld ⊢
        refine take_ (i := 0) (N := some 2) (v := ?_) (a' := ?_) #[Y, Yn, Yn, Yn, Yn, Yn, Yn, Yn, Yn, Yn, Yn, Yn] rfl rfl (by kernel_rfl) (fun _ _ _ h => h) (Or.inl ⟨by rfl, ?_⟩) hHeld ?_ ?_
        rotate_left
        · rintro w' ⟨s0, s1, s2⟩
          go_simp
          with_reducible rfl
        rotate_left
        · simp only [Act.put, List.setIfInBounds_toArray, List.set_cons_zero, List.set_cons_succ, i64_w, i32_w]
          rfl
        refine pure_ (i := 1) (N := some 3) (v := ?_) (a' := ?_) #[Y, Y, Yn, Yn, Yn, Yn, Yn, Yn, Yn, Yn, Yn, Yn] rfl rfl (by kernel_rfl) (fun _ _ _ h => h) (Or.inl ⟨by rfl, ?_⟩) ?_ ?_
        rotate_left
        · intro w'
          go_simp
          with_reducible rfl
        rotate_left
        · simp only [Act.put, List.setIfInBounds_toArray, List.set_cons_zero, List.set_cons_succ, i64_w, i32_w]
          rfl
        refine pure_ (i := 2) (N := some 4) (v := ?_) (a' := ?_) #[Y, Y, Y, Yn, Yn, Yn, Yn, Yn, Yn, Yn, Yn, Yn] rfl rfl (by kernel_rfl) (fun _ _ _ h => h) (Or.inl ⟨by rfl, ?_⟩) ?_ ?_
        rotate_left
        · intro w'
          go_simp
          with_reducible rfl
        rotate_left
        · simp only [Act.put, List.setIfInBounds_toArray, List.set_cons_zero, List.set_cons_succ, i64_w, i32_w]
          rfl
        refine take_ (i := 3) (N := some 5) (v := ?_) (a' := ?_) #[Y, Y, Y, Y, Yn, Yn, Yn, Yn, Yn, Yn, Yn, Yn] rfl rfl (by kernel_rfl) (fun _ _ _ h => h) (Or.inl ⟨by rfl, ?_⟩) hHeld ?_ ?_
        rotate_left
        · rintro w' ⟨s0, s1, s2⟩
          go_simp
          with_reducible rfl
        rotate_left
        · simp only [Act.put, List.setIfInBounds_toArray, List.set_cons_zero, List.set_cons_succ, i64_w, i32_w]
          rfl
        refine take_ (i := 4) (N := some 6) (v := ?_) (a' := ?_) #[Y, Y, Y, Y, Y, Yn, Yn, Yn, Yn, Yn, Yn, Yn] rfl rfl (by kernel_rfl) (fun _ _ _ h => h) (Or.inl ⟨by rfl, ?_⟩) hHeld ?_ ?_
        rotate_left
        · rintro w' ⟨s0, s1, s2⟩
          go_simp
          with_reducible rfl
        rotate_left
        · simp only [Act.put, List.setIfInBounds_toArray, List.set_cons_zero, List.set_cons_succ, i64_w, i32_w]
          rfl
        refine pure_ (i := 5) (N := some 7) (v := ?_) (a' := ?_) #[Y, Y, Y, Y, Y, Y, Yn, Yn, Yn, Yn, Yn, Yn] rfl rfl (by kernel_rfl) (fun _ _ _ h => h) (Or.inl ⟨by rfl, ?_⟩) ?_ ?_
        rotate_left
        · intro w'
          go_simp
          with_reducible rfl
        rotate_left
        · simp only [Act.put, List.setIfInBounds_toArray, List.set_cons_zero, List.set_cons_succ, i64_w, i32_w]
          rfl
        refine pure_ (i := 6) (N := some 8) (v := ?_) (a' := ?_) #[Y, Y, Y, Y, Y, Y, Y, Yn, Yn, Yn, Yn, Yn] rfl rfl (by kernel_rfl) (fun _ _ _ h => h) (Or.inl ⟨by rfl, ?_⟩) ?_ ?_
        rotate_left
        · intro w'
          go_simp
          with_reducible rfl
        rotate_left
        · simp only [Act.put, List.setIfInBounds_toArray, List.set_cons_zero, List.set_cons_succ, i64_w, i32_w]
          rfl
        refine take_ (i := 7) (N := some 9) (v := ?_) (a' := ?_) #[Y, Y, Y, Y, Y, Y, Y, Y, Yn, Yn, Yn, Yn] rfl rfl (by kernel_rfl) (fun _ _ _ h => h) (Or.inl ⟨by rfl, ?_⟩) hHeld ?_ ?_
        rotate_left
        · rintro w' ⟨s0, s1, s2⟩
          go_simp
          with_reducible rfl
        rotate_left
        · simp only [Act.put, List.setIfInBounds_toArray, List.set_cons_zero, List.set_cons_succ, i64_w, i32_w]
          rfl
        refine pure_ (i := 8) (N := some 10) (v := ?_) (a' := ?_) #[Y, Y, Y, Y, Y, Y, Y, Y, Y, Yn, Yn, Yn] rfl rfl (by kernel_rfl) (fun _ _ _ h => h) (Or.inl ⟨by rfl, ?_⟩) ?_ ?_
        rotate_left
        · intro w'
          go_simp
          with_reducible rfl
        rotate_left
        · simp only [Act.put, List.setIfInBounds_toArray, List.set_cons_zero, List.set_cons_succ, i64_w, i32_w]
          rfl
        refine pure_ (i := 9) (N := some 11) (v := ?_) (a' := ?_) #[Y, Y, Y, Y, Y, Y, Y, Y, Y, Y, Yn, Yn] rfl rfl (by kernel_rfl) (fun _ _ _ h => h) (Or.inl ⟨by rfl, ?_⟩) ?_ ?_
        rotate_left
        · intro w'
          go_simp
          with_reducible rfl
        rotate_left
        · simp only [Act.put, List.setIfInBounds_toArray, List.set_cons_zero, List.set_cons_succ, i64_w, i32_w]
          rfl
        refine one_ (i := 10) (N := some 12) #[Y, Y, Y, Y, Y, Y, Y, Y, Y, Y, Y, Yn] rfl rfl (by kernel_rfl) (by decide) (fun K hK => ?_)
        refine value_ (w1 := ?_) (v := ?_) (by rfl) rfl ?_ ?_
        rotate_left 2
        · go_simp
          constructor
          · rfl
          · rfl
        refine hK.out _ _ ⟨(blk_cell (by (with_reducible repeat (first | refine blk_drewN ?_ _ | refine blk_drew ?_ | refine blk_alloc ?_ _)); exact BR4.out) 0).trans rfl, (blk_cell (by (with_reducible repeat (first | refine blk_drewN ?_ _ | refine blk_drew ?_ | refine blk_alloc ?_ _)); exact HG4.out) 0).trans rfl, (blk_cell (by (with_reducible repeat (first | refine blk_drewN ?_ _ | refine blk_drew ?_ | refine blk_alloc ?_ _)); exact HG4.out) 3).trans rfl⟩ (fun hHeld => ?_)
        clear hK K
        refine norm_ (a' := ?_) ?_ ?_
        rotate_left
        · show Act.put _ (some 12) _ = _
          simp only [Act.put, List.setIfInBounds_toArray, List.set_cons_zero, List.set_cons_succ, i64_w, i32_w]
          rfl
        refine pure_ (i := 11) (N := some 1) (v := ?_) (a' := ?_) #[Y, Y, Y, Y, Y, Y, Y, Y, Y, Y, Y, Y] rfl rfl (by kernel_rfl) (fun _ _ _ h => h) (Or.inl ⟨by rfl, ?_⟩) ?_ ?_
        rotate_left
        · intro w'
          go_simp
          with_reducible rfl
        rotate_left
        · simp only [Act.put, List.setIfInBounds_toArray, List.set_cons_zero, List.set_cons_succ, i64_w, i32_w]
          rfl
        refine done_ (by kernel_rfl) ?_
        go_wp2
        go_ret
        exact ⟨_, rfl, V_one23 (Rn.ack ⟨id, timeout, state, count, msg, deadline⟩) _ rfl HK4.out.size, (by first | exact HI4.out.alloc _ | (rw [HMS.out]; exact HI4.out.alloc _)), HB4.out.alloc (Nat.le_trans HBS.out HK4.out.size) _, HK4.out.alloc _⟩
      · have k3b : (state == 1) = false := beq_false_of_ne k3
        by_cases k4 : state = 0
        · have k4b : (state == 0) = true := by rw [k4]; rfl
          by_cases k5 : p2 = count
          · have k5b : (p2 == count) = true := by rw [k5]; exact beq_self_eq_true _
            rcases Bool.eq_false_or_eq_true p3 with k6 | k6
            · have K6 := Aside0.mk k6
              have HT := Aside0.mk (show Rn.handle ⟨id, timeout, state, count, msg, deadline⟩ p0 p1 p2 p3 p5 now = ([Rn.ack ⟨id, timeout, state, wrap64 (count + 1), msg ++ bytesOf p5, wrap64 (now + timeout)⟩], ⟨id, timeout, state, wrap64 (count + 1), msg ++ bytesOf p5, wrap64 (now + timeout)⟩) by unfold Rn.handle; rw [if_pos k1, if_pos k2, if_neg k3, if_pos k4, show Rn.take ⟨id, timeout, state, count, msg, deadline⟩ p2 p3 p5 = ⟨id, timeout, state, wrap64 (count + 1), msg ++ bytesOf p5, deadline⟩ from by unfold Rn.take; rw [if_pos k5, k6]; rfl]; try rfl)
              rw [HT.out]
              clear k1 k2 k3 k4 k5
              go_enter Tryd.func34, Tryd.ntmps34
              go_wp2_with (first | ((with_reducible refine gate_dst (N := 3) rfl ?_); refine box_event ?hg (N := 3) ?hd (cs := #[.pointer (some ⟨g, 0, none⟩)]) (t := 64) ?hr ?_; (case hd => rfl); (case hg => rfl); (case hr => first | (go_simp; done) | (go_simp; rfl)); intro gr hgr w1 hbox hb; have BRa := Aside0.mk hbox; have HIa := Aside0.mk (HI.out.below hb); have HGa := Aside0.mk (blk_below HG.out hb); have HBa := Aside0.mk (hb.mono HBS.out); have HKa := Aside0.mk (KeepR.of_below hb g); clear hb hbox hgr) | ((with_reducible refine gate_dst (N := 4) rfl ?_); refine box_event ?hg (N := 4) ?hd (cs := #[.int .i64 p0, .int .i64 p1, .int .i64 p2, .bool p3, .int .i64 p4, .string p5]) (t := 23) ?hr ?_; (case hd => rfl); (case hg => rfl); (case hr => first | (go_simp; done) | (go_simp; rfl)); intro gp hgp w2 hbox hb; have BP2 := Aside0.mk hbox; have BR2 := Aside0.mk (blk_below BRa.out hb); have HI2 := Aside0.mk (HIa.out.below hb); have HG2 := Aside0.mk (blk_below HGa.out hb); have HB2 := Aside0.mk (HBa.out.trans (hb.mono (Nat.le_trans HBS.out HKa.out.size))); have HK2 := Aside0.mk (HKa.out.trans (KeepR.of_below hb g)); have HNR := Aside0.mk (blk_ne BR2.out HG2.out (by decide)); have HNP := Aside0.mk (blk_ne BP2.out HG2.out (by decide)); have cr := (blk_cell BR2.out 0).trans rfl; have c0 := (blk_cell HG2.out 0).trans rfl; have y1 := (blk_cell BP2.out 1).trans rfl; clear hb hbox hgp BRa HIa HGa HBa HKa))
              have HI3 := Aside0.mk HI2.out.drew
              have HG3 := Aside0.mk (blk_drew HG2.out)
              have BR3 := Aside0.mk (blk_drew BR2.out)
              have BP3 := Aside0.mk (blk_drew BP2.out)
              have HB3 := Aside0.mk HB2.out.drew
              have HK3 := Aside0.mk HK2.out.drew
              refine start_ (n := 7) (S := fun w' => w'.cell? ⟨gp, 1, none⟩ = some (.int .i64 p1) ∧ w'.cell? ⟨gr, 0, none⟩ = some (.pointer (some ⟨g, 0, none⟩)) ∧ w'.cell? ⟨g, 0, none⟩ = some (.int .i64 id)) (ds := []) #[Yn, Yn, Yn, Yn, Yn, Yn, Yn] (by kernel_rfl) rfl rfl ⟨y1, cr, c0⟩ (fun hHeld => ?_)
              generalize w2.drew = w3 at HI3 HG3 BR3 BP3 HB3 HK3 hHeld ⊢
              refine pure_ (i := 0) (N := some 8) (v := ?_) (a' := ?_) #[Y, Yn, Yn, Yn, Yn, Yn, Yn] rfl rfl (by kernel_rfl) (fun _ _ _ h => h) (Or.inl ⟨by rfl, ?_⟩) ?_ ?_
              rotate_left
              · intro w'
                go_simp
                with_reducible rfl
              rotate_left
              · simp only [Act.put, List.setIfInBounds_toArray, List.set_cons_zero, List.set_cons_succ, i64_w, i32_w]
                rfl
              refine take_ (i := 1) (N := some 9) (v := ?_) (a' := ?_) #[Y, Y, Yn, Yn, Yn, Yn, Yn] rfl rfl (by kernel_rfl) (fun _ _ _ h => h) (Or.inl ⟨by rfl, ?_⟩) hHeld ?_ ?_
              rotate_left
              · rintro w' ⟨s0, s1, s2⟩
                go_simp
                with_reducible rfl
              rotate_left
              · simp only [Act.put, List.setIfInBounds_toArray, List.set_cons_zero, List.set_cons_succ, i64_w, i32_w]
                rfl
              refine take_ (i := 2) (N := some 10) (v := ?_) (a' := ?_) #[Y, Y, Y, Yn, Yn, Yn, Yn] rfl rfl (by kernel_rfl) (fun _ _ _ h => h) (Or.inl ⟨by rfl, ?_⟩) hHeld ?_ ?_
              rotate_left
              · rintro w' ⟨s0, s1, s2⟩
                go_simp
                with_reducible rfl
              rotate_left
              · simp only [Act.put, List.setIfInBounds_toArray, List.set_cons_zero, List.set_cons_succ, i64_w, i32_w]
                rfl
              refine pure_ (i := 3) (N := some 11) (v := ?_) (a' := ?_) #[Y, Y, Y, Y, Yn, Yn, Yn] rfl rfl (by kernel_rfl) (fun _ _ _ h => h) (Or.inl ⟨by rfl, ?_⟩) ?_ ?_
              rotate_left
              · intro w'
                go_simp
                with_reducible rfl
              rotate_left
              · simp only [Act.put, List.setIfInBounds_toArray, List.set_cons_zero, List.set_cons_succ, i64_w, i32_w]
                rfl
              refine pure_ (i := 4) (N := some 12) (v := ?_) (a' := ?_) #[Y, Y, Y, Y, Y, Yn, Yn] rfl rfl (by kernel_rfl) (fun _ _ _ h => h) (Or.inl ⟨by rfl, ?_⟩) ?_ ?_
              rotate_left
              · intro w'
                go_simp
                with_reducible rfl
              rotate_left
              · simp only [Act.put, List.setIfInBounds_toArray, List.set_cons_zero, List.set_cons_succ, i64_w, i32_w]
                rfl
              refine take_ (i := 5) (N := some 13) (v := ?_) (a' := ?_) #[Y, Y, Y, Y, Y, Y, Yn] rfl rfl (by kernel_rfl) (fun _ _ _ h => h) (Or.inl ⟨by rfl, ?_⟩) hHeld ?_ ?_
              rotate_left
              · rintro w' ⟨s0, s1, s2⟩
                go_simp
                with_reducible rfl
              rotate_left
              · simp only [Act.put, List.setIfInBounds_toArray, List.set_cons_zero, List.set_cons_succ, i64_w, i32_w]
                rfl
              refine pure_ (i := 6) (N := some 14) (v := ?_) (a' := ?_) #[Y, Y, Y, Y, Y, Y, Y] rfl rfl (by kernel_rfl) (fun _ _ _ h => h) (Or.inl ⟨by rfl, ?_⟩) ?_ ?_
              rotate_left
              · intro w'
                go_simp
                with_reducible rfl
              rotate_left
              · simp only [Act.put, List.setIfInBounds_toArray, List.set_cons_zero, List.set_cons_succ, i64_w, i32_w]
                rfl
              refine done_ (by kernel_rfl) ?_
              clear cr c0 y1 hHeld
              have cr := (blk_cell BR3.out 0).trans rfl
              have y0 := (blk_cell BP3.out 0).trans rfl
              have c2 := (blk_cell HG3.out 2).trans rfl
              have y2 := (blk_cell BP3.out 2).trans rfl
              have c3 := (blk_cell HG3.out 3).trans rfl
              go_wp2
              have HI4 := Aside0.mk HI3.out.drew
              have HG4 := Aside0.mk (blk_drew HG3.out)
              have BR4 := Aside0.mk (blk_drew BR3.out)
              have BP4 := Aside0.mk (blk_drew BP3.out)
              have HB4 := Aside0.mk HB3.out.drew
              have HK4 := Aside0.mk HK3.out.drew
              refine start_ (n := 7) (S := fun w' => w'.cell? ⟨gp, 2, none⟩ = some (.int .i64 p2) ∧ w'.cell? ⟨gr, 0, none⟩ = some (.pointer (some ⟨g, 0, none⟩)) ∧ w'.cell? ⟨g, 3, none⟩ = some (.int .i64 count)) (ds := []) #[Yn, Yn, Yn, Yn, Yn, Yn, Yn] (by kernel_rfl) rfl rfl ⟨y2, cr, c3⟩ (fun hHeld => ?_)
              generalize w3.drew = w4 at HI4 HG4 BR4 BP4 HB4 HK4 hHeld ⊢
              refine pure_ (i := 0) (N := some 40) (v := ?_) (a' := ?_) #[Y, Yn, Yn, Yn, Yn, Yn, Yn] rfl rfl (by kernel_rfl) (fun _ _ _ h => h) (Or.inl ⟨by rfl, ?_⟩) ?_ ?_
              rotate_left
              · intro w'
                go_simp
                with_reducible rfl
              rotate_left
              · simp only [Act.put, List.setIfInBounds_toArray, List.set_cons_zero, List.set_cons_succ, i64_w, i32_w]
                rfl
              refine take_ (i := 1) (N := some 41) (v := ?_) (a' := ?_) #[Y, Y, Yn, Yn, Yn, Yn, Yn] rfl rfl (by kernel_rfl) (fun _ _ _ h => h) (Or.inl ⟨by rfl, ?_⟩) hHeld ?_ ?_
              rotate_left
              · rintro w' ⟨s0, s1, s2⟩
                go_simp
                with_reducible rfl
              rotate_left
              · simp only [Act.put, List.setIfInBounds_toArray, List.set_cons_zero, List.set_cons_succ, i64_w, i32_w]
                rfl
              refine take_ (i := 2) (N := some 42) (v := ?_) (a' := ?_) #[Y, Y, Y, Yn, Yn, Yn, Yn] rfl rfl (by kernel_rfl) (fun _ _ _ h => h) (Or.inl ⟨by rfl, ?_⟩) hHeld ?_ ?_
              rotate_left
              · rintro w' ⟨s0, s1, s2⟩
                go_simp
                with_reducible rfl
              rotate_left
              · simp only [Act.put, List.setIfInBounds_toArray, List.set_cons_zero, List.set_cons_succ, i64_w, i32_w]
                rfl
              refine pure_ (i := 3) (N := some 43) (v := ?_) (a' := ?_) #[Y, Y, Y, Y, Yn, Yn, Yn] rfl rfl (by kernel_rfl) (fun _ _ _ h => h) (Or.inl ⟨by rfl, ?_⟩) ?_ ?_
              rotate_left
              · intro w'
                go_simp
                with_reducible rfl
              rotate_left
              · simp only [Act.put, List.setIfInBounds_toArray, List.set_cons_zero, List.set_cons_succ, i64_w, i32_w]
                rfl
              refine pure_ (i := 4) (N := some 44) (v := ?_) (a' := ?_) #[Y, Y, Y, Y, Y, Yn, Yn] rfl rfl (by kernel_rfl) (fun _ _ _ h => h) (Or.inl ⟨by rfl, ?_⟩) ?_ ?_
              rotate_left
              · intro w'
                go_simp
                with_reducible rfl
              rotate_left
              · simp only [Act.put, List.setIfInBounds_toArray, List.set_cons_zero, List.set_cons_succ, i64_w, i32_w]
                rfl
              refine take_ (i := 5) (N := some 45) (v := ?_) (a' := ?_) #[Y, Y, Y, Y, Y, Y, Yn] rfl rfl (by kernel_rfl) (fun _ _ _ h => h) (Or.inl ⟨by rfl, ?_⟩) hHeld ?_ ?_
              rotate_left
              · rintro w' ⟨s0, s1, s2⟩
                go_simp
                with_reducible rfl
              rotate_left
              · simp only [Act.put, List.setIfInBounds_toArray, List.set_cons_zero, List.set_cons_succ, i64_w, i32_w]
                rfl
              refine pure_ (i := 6) (N := some 46) (v := ?_) (a' := ?_) #[Y, Y, Y, Y, Y, Y, Y] rfl rfl (by kernel_rfl) (fun _ _ _ h => h) (Or.inl ⟨by rfl, ?_⟩) ?_ ?_
              rotate_left
              · intro w'
                go_simp
                with_reducible rfl
              rotate_left
              · simp only [Act.put, List.setIfInBounds_toArray, List.set_cons_zero, List.set_cons_succ, i64_w, i32_w]
                rfl
              refine done_ (by kernel_rfl) ?_
              clear cr y0 c2 y2 c3 hHeld
              have cr := (blk_cell BR4.out 0).trans rfl
              have c3 := (blk_cell HG4.out 3).trans rfl
              have f3 := blk_frozen HG4.out 3
              have HI5 := Aside0.mk (HI4.out.set_count (wrap64 (count + 1)))
              have HG5 := Aside0.mk (blk_put HG4.out 3 (.int .i64 (wrap64 (count + 1))) rfl)
              have BR5 := Aside0.mk (blk_far BR4.out (p := ⟨g, 3, none⟩) HNR.out (.int .i64 (wrap64 (count + 1))))
              have BP5 := Aside0.mk (blk_far BP4.out (p := ⟨g, 3, none⟩) HNP.out (.int .i64 (wrap64 (count + 1))))
              have HB5 := Aside0.mk (HB4.out.setCell (p := ⟨g, 3, none⟩) HGE.out (.int .i64 (wrap64 (count + 1))))
              have HK5 := Aside0.mk (HK4.out.set 3 (.int .i64 (wrap64 (count + 1))))
              go_wp2
              generalize w4.setCell ⟨g, 3, none⟩ (.int .i64 (wrap64 (count + 1))) = w5 at HI5 HG5 BR5 BP5 HB5 HK5 ⊢
              clear cr c3 f3
              have cr := (blk_cell BR5.out 0).trans rfl
              have y5 := (blk_cell BP5.out 5).trans rfl
              obtain ⟨v5, hG5, hge5, hO5⟩ := HI5.out
              have hO5' : Kd.R (Kd.int .u8) 5 w5 B (fun _ => True) v5 msg := hO5
              obtain ⟨A5, k5', e5⟩ := Kd.R_slice hO5'
              subst e5
              have HG5' := Aside0.mk hG5
              have HO5 := Aside0.mk hO5'
              clear hG5 hge5 hO5 hO5'
              clear HG5
              have HG5 := HG5'
              clear HG5'
              have c4 := (blk_cell HG5.out 4).trans rfl
              have HO6 := Aside0.mk (Kd.R_drew HO5.out)
              have HI6 := Aside0.mk HI5.out.drew
              have HG6 := Aside0.mk (blk_drew HG5.out)
              have BR6 := Aside0.mk (blk_drew BR5.out)
              have BP6 := Aside0.mk (blk_drew BP5.out)
              have HB6 := Aside0.mk HB5.out.drew
              have HK6 := Aside0.mk HK5.out.drew
              refine start_ (n := 11) (S := fun w' => w'.cell? ⟨gr, 0, none⟩ = some (.pointer (some ⟨g, 0, none⟩)) ∧ w'.cell? ⟨g, 4, none⟩ = some (.slice A5 msg.length k5') ∧ w'.cell? ⟨gp, 5, none⟩ = some (.string p5)) (ds := [10]) #[Yn, Yn, Yn, Yn, Yn, Yn, Yn, Yn, Yn, Yn, Yn] (by kernel_rfl) rfl rfl ⟨cr, c4, y5⟩ (fun hHeld => ?_)
              generalize w5.drew = w6 at HI6 HG6 BR6 BP6 HB6 HK6 HO6 hHeld ⊢
              refine pure_ (i := 5) (N := some 59) (v := ?_) (a' := ?_) #[Yn, Yn, Yn, Yn, Yn, Y, Yn, Yn, Yn, Yn, Yn] rfl rfl (by kernel_rfl) (fun _ _ _ h => h) (Or.inl ⟨by rfl, ?_⟩) ?_ ?_
              rotate_left
              · intro w'
                go_simp
                with_reducible rfl
              rotate_left
              · simp only [Act.put, List.setIfInBounds_toArray, List.set_cons_zero, List.set_cons_succ, i64_w, i32_w]
                rfl
              refine take_ (i := 0) (N := some 54) (v := ?_) (a' := ?_) #[Y, Yn, Yn, Yn, Yn, Y, Yn, Yn, Yn, Yn, Yn] rfl rfl (by kernel_rfl) (fun _ _ _ h => h) (Or.inl ⟨by rfl, ?_⟩) hHeld ?_ ?_
              rotate_left
              · rintro w' ⟨s0, s1, s2⟩
                go_simp
                with_reducible rfl
              rotate_left
              · simp only [Act.put, List.setIfInBounds_toArray, List.set_cons_zero, List.set_cons_succ, i64_w, i32_w]
                rfl
              refine take_ (i := 1) (N := some 55) (v := ?_) (a' := ?_) #[Y, Y, Yn, Yn, Yn, Y, Yn, Yn, Yn, Yn, Yn] rfl rfl (by kernel_rfl) (fun _ _ _ h => h) (Or.inl ⟨by rfl, ?_⟩) hHeld ?_ ?_
              rotate_left
              · rintro w' ⟨s0, s1, s2⟩
                go_simp
                with_reducible rfl
              rotate_left
              · simp only [Act.put, List.setIfInBounds_toArray, List.set_cons_zero, List.set_cons_succ, i64_w, i32_w]
                rfl
              refine pure_ (i := 2) (N := some 56) (v := ?_) (a' := ?_) #[Y, Y, Y, Yn, Yn, Y, Yn, Yn, Yn, Yn, Yn] rfl rfl (by kernel_rfl) (fun _ _ _ h => h) (Or.inl ⟨by rfl, ?_⟩) ?_ ?_
              rotate_left
              · intro w'
                go_simp
                with_reducible rfl
              rotate_left
              · simp only [Act.put, List.setIfInBounds_toArray, List.set_cons_zero, List.set_cons_succ, i64_w, i32_w]
                rfl
              refine pure_ (i := 3) (N := some 57) (v := ?_) (a' := ?_) #[Y, Y, Y, Y, Yn, Y, Yn, Yn, Yn, Yn, Yn] rfl rfl (by kernel_rfl) (fun _ _ _ h => h) (Or.inl ⟨by rfl, ?_⟩) ?_ ?_
              rotate_left
              · intro w'
                go_simp
                with_reducible rfl
              rotate_left
              · simp only [Act.put, List.setIfInBounds_toArray, List.set_cons_zero, List.set_cons_succ, i64_w, i32_w]
                rfl
              refine take_ (i := 4) (N := some 58) (v := ?_) (a' := ?_) #[Y, Y, Y, Y, Y, Y, Yn, Yn, Yn, Yn, Yn] rfl rfl (by kernel_rfl) (fun _ _ _ h => h) (Or.inl ⟨by rfl, ?_⟩) hHeld ?_ ?_
              rotate_left
              · rintro w' ⟨s0, s1, s2⟩
                go_simp
                with_reducible rfl
              rotate_left
              · simp only [Act.put, List.setIfInBounds_toArray, List.set_cons_zero, List.set_cons_succ, i64_w, i32_w]
                rfl
              refine take_ (i := 6) (N := some 60) (v := ?_) (a' := ?_) #[Y, Y, Y, Y, Y, Y, Y, Yn, Yn, Yn, Yn] rfl rfl (by kernel_rfl) (fun _ _ _ h => h) (Or.inl ⟨by rfl, ?_⟩) hHeld ?_ ?_
              rotate_left
              · rintro w' ⟨s0, s1, s2⟩
                go_simp
                with_reducible rfl
              rotate_left
              · simp only [Act.put, List.setIfInBounds_toArray, List.set_cons_zero, List.set_cons_succ, i64_w, i32_w]
                rfl
              refine one_ (i := 7) (N := some 61) #[Y, Y, Y, Y, Y, Y, Y, Y, Yn, Yn, Yn] rfl rfl (by kernel_rfl) (by decide) (fun K hK => ?_)
              refine step_append_str (w0 := w6) B (by rfl) (.tmp 58) (.tmp 60) 80 9 5 rfl Tryd.underlying80 Tryd.underlying9 info5 (.slice A5 msg.length k5') msg p5 rfl rfl HO6.out (Below.refl _ _) (Nat.le_trans HBS.out HK6.out.size) HLEN.out ?_
              intro v1 w7 ho hb hg
              obtain ⟨ms, HMS⟩ : ∃ ms, Aside0 (msg ++ bytesOf p5 = ms) := ⟨_, ⟨rfl⟩⟩
              rw [HMS.out] at ho
              obtain ⟨A7, k7, e7⟩ := Kd.R_slice ho
              subst e7
              have HS7 := Aside0.mk (rcv_step HG6.out HGE.out HO6.out ho hb hg)
              have BR7 := Aside0.mk (blk_grown BR6.out hg (Kd.R_ne HO6.out BR6.out (by decide)))
              have BP7 := Aside0.mk (blk_grown BP6.out hg (Kd.R_ne HO6.out BP6.out (by decide)))
              have HB7 := Aside0.mk (HB6.out.trans HS7.out.bel1)
              have HK7 := Aside0.mk (HK6.out.trans HS7.out.keep1)
              have f4 := blk_frozen HS7.out.blk 4
              have c4 := (blk_cell HS7.out.blk 4).trans rfl
              clear ho hb hg
              refine hK.out _ _ ⟨(blk_cell BR7.out 0).trans rfl, c4, (blk_cell BP7.out 5).trans rfl⟩ (fun hHeld => ?_)
              clear hK K
              refine norm_ (a' := ?_) ?_ ?_
              rotate_left
              · show Act.put _ (some 61) _ = _
                simp only [Act.put, List.setIfInBounds_toArray, List.set_cons_zero, List.set_cons_succ, i64_w, i32_w]
                rfl
              refine pure_ (i := 8) (N := some 62) (v := ?_) (a' := ?_) #[Y, Y, Y, Y, Y, Y, Y, Y, Y, Yn, Yn] rfl rfl (by kernel_rfl) (fun _ _ _ h => h) (Or.inl ⟨by rfl, ?_⟩) ?_ ?_
              rotate_left
              · intro w'
                go_simp
                with_reducible rfl
              rotate_left
              · simp only [Act.put, List.setIfInBounds_toArray, List.set_cons_zero, List.set_cons_succ, i64_w, i32_w]
                rfl
              refine pure_ (i := 9) (N := some 63) (v := ?_) (a' := ?_) #[Y, Y, Y, Y, Y, Y, Y, Y, Y, Y, Yn] rfl rfl (by kernel_rfl) (fun _ _ _ h => h) (Or.inl ⟨by rfl, ?_⟩) ?_ ?_
              rotate_left
              · intro w'
                go_simp
                with_reducible rfl
              rotate_left
              · simp only [Act.put, List.setIfInBounds_toArray, List.set_cons_zero, List.set_cons_succ, i64_w, i32_w]
                rfl
              refine last_ (i := 10) (N := none) #[Y, Y, Y, Y, Y, Y, Y, Y, Y, Y, Y] rfl rfl (by kernel_rfl) (by decide) (fun K hK => ?_)
              refine skip_ (w1 := ?_) (by rfl) rfl ?_ ?_
              rotate_left
              · go_simp
                rfl
              refine hK.out _ _ ?_
              clear hK K
              refine done_ (by kernel_rfl) ?_
              have HI8 := Aside0.mk HS7.out.at_
              have BR8 := Aside0.mk (blk_far BR7.out (p := ⟨g, 4, none⟩) HNR.out (.slice A7 ms.length k7))
              have BP8 := Aside0.mk (blk_far BP7.out (p := ⟨g, 4, none⟩) HNP.out (.slice A7 ms.length k7))
              have HB8 := Aside0.mk (HB7.out.setCell (p := ⟨g, 4, none⟩) HGE.out (.slice A7 ms.length k7))
              have HK8 := Aside0.mk (HK7.out.set 4 (.slice A7 ms.length k7))
              generalize w7.setCell ⟨g, 4, none⟩ (.slice A7 ms.length k7) = w8 at HI8 BR8 BP8 HB8 HK8 ⊢
              obtain ⟨v8, hG8, hge8, hO8⟩ := HI8.out
              have HG8 := Aside0.mk hG8
              clear hG8 hge8 hO8
              clear cr c4 y5 f4 hHeld
              have y3 := (blk_cell BP8.out 3).trans rfl
              have cr := (blk_cell BR8.out 0).trans rfl
              have c1 := (blk_cell HG8.out 1).trans rfl
              have y3b : p3 = true := K6.out
              go_wp2
              have HI9 := Aside0.mk HI8.out.drew
              have HG9 := Aside0.mk (blk_drew HG8.out)
              have BR9 := Aside0.mk (blk_drew BR8.out)
              have BP9 := Aside0.mk (blk_drew BP8.out)
              have HB9 := Aside0.mk HB8.out.drew
              have HK9 := Aside0.mk HK8.out.drew
              refine start_ (n := 10) (S := fun w' => w'.cell? ⟨gr, 0, none⟩ = some (.pointer (some ⟨g, 0, none⟩)) ∧ w'.cell? ⟨g, 1, none⟩ = some (.int .i64 timeout)) (ds := [9]) #[Yn, Yn, Yn, Yn, Yn, Yn, Yn, Yn, Yn, Yn] (by kernel_rfl) rfl rfl ⟨cr, c1⟩ (fun hHeld => ?_)
              generalize w8.drew = w9 at HI9 HG9 BR9 BP9 HB9 HK9 hHeld ⊢
              refine pure_ (i := 1) (N := some 71) (v := ?_) (a' := ?_) #[Yn, Y, Yn, Yn, Yn, Yn, Yn, Yn, Yn, Yn] rfl rfl (by kernel_rfl) (fun _ _ _ h => h) (Or.inl ⟨by rfl, ?_⟩) ?_ ?_
              rotate_left
              · intro w'
                go_simp
                with_reducible rfl
              rotate_left
              · simp only [Act.put, List.setIfInBounds_toArray, List.set_cons_zero, List.set_cons_succ, i64_w, i32_w]
                rfl
              refine take_ (i := 0) (N := some 70) (v := ?_) (a' := ?_) #[Y, Y, Yn, Yn, Yn, Yn, Yn, Yn, Yn, Yn] rfl rfl (by kernel_rfl) (fun _ _ _ h => h) (Or.inl ⟨by rfl, ?_⟩) hHeld ?_ ?_
              rotate_left
              · rintro w' ⟨s0, s1⟩
                go_simp
                with_reducible rfl
              rotate_left
              · simp only [Act.put, List.setIfInBounds_toArray, List.set_cons_zero, List.set_cons_succ, i64_w, i32_w]
                rfl
              refine take_ (i := 2) (N := some 72) (v := ?_) (a' := ?_) #[Y, Y, Y, Yn, Yn, Yn, Yn, Yn, Yn, Yn] rfl rfl (by kernel_rfl) (fun _ _ _ h => h) (Or.inl ⟨by rfl, ?_⟩) hHeld ?_ ?_
              rotate_left
              · rintro w' ⟨s0, s1⟩
                go_simp
                with_reducible rfl
              rotate_left
              · simp only [Act.put, List.setIfInBounds_toArray, List.set_cons_zero, List.set_cons_succ, i64_w, i32_w]
                rfl
              refine pure_ (i := 3) (N := some 73) (v := ?_) (a' := ?_) #[Y, Y, Y, Y, Yn, Yn, Yn, Yn, Yn, Yn] rfl rfl (by kernel_rfl) (fun _ _ _ h => h) (Or.inl ⟨by rfl, ?_⟩) ?_ ?_
              rotate_left
              · intro w'
                go_simp
                with_reducible rfl
              rotate_left
              · simp only [Act.put, List.setIfInBounds_toArray, List.set_cons_zero, List.set_cons_succ, i64_w, i32_w]
                rfl
              refine pure_ (i := 4) (N := some 74) (v := ?_) (a' := ?_) #[Y, Y, Y, Y, Y, Yn, Yn, Yn, Yn, Yn] rfl rfl (by kernel_rfl) (fun _ _ _ h => h) (Or.inl ⟨by rfl, ?_⟩) ?_ ?_
              rotate_left
              · intro w'
                go_simp
                with_reducible rfl
              rotate_left
              · simp only [Act.put, List.setIfInBounds_toArray, List.set_cons_zero, List.set_cons_succ, i64_w, i32_w]
                rfl
              refine take_ (i := 5) (N := some 75) (v := ?_) (a' := ?_) #[Y, Y, Y, Y, Y, Y, Yn, Yn, Yn, Yn] rfl rfl (by kernel_rfl) (fun _ _ _ h => h) (Or.inl ⟨by rfl, ?_⟩) hHeld ?_ ?_
              rotate_left
              · rintro w' ⟨s0, s1⟩
                go_simp
                with_reducible rfl
              rotate_left
              · simp only [Act.put, List.setIfInBounds_toArray, List.set_cons_zero, List.set_cons_succ, i64_w, i32_w]
                rfl
              refine pure_ (i := 6) (N := some 76) (v := ?_) (a' := ?_) #[Y, Y, Y, Y, Y, Y, Y, Yn, Yn, Yn] rfl rfl (by kernel_rfl) (fun _ _ _ h => h) (Or.inl ⟨by rfl, ?_⟩) ?_ ?_
              rotate_left
              · intro w'
                go_simp
                with_reducible rfl
              rotate_left
              · simp only [Act.put, List.setIfInBounds_toArray, List.set_cons_zero, List.set_cons_succ, i64_w, i32_w]
                rfl
              refine pure_ (i := 7) (N := some 77) (v := ?_) (a' := ?_) #[Y, Y, Y, Y, Y, Y, Y, Y, Yn, Yn] rfl rfl (by kernel_rfl) (fun _ _ _ h => h) (Or.inl ⟨by rfl, ?_⟩) ?_ ?_
              rotate_left
              · intro w'
                go_simp
                with_reducible rfl
              rotate_left
              · simp only [Act.put, List.setIfInBounds_toArray, List.set_cons_zero, List.set_cons_succ, i64_w, i32_w]
                rfl
              refine pure_ (i := 8) (N := some 78) (v := ?_) (a' := ?_) #[Y, Y, Y, Y, Y, Y, Y, Y, Y, Yn] rfl rfl (by kernel_rfl) (fun _ _ _ h => h) (Or.inl ⟨by rfl, ?_⟩) ?_ ?_
              rotate_left
              · intro w'
                go_simp
                with_reducible rfl
              rotate_left
              · simp only [Act.put, List.setIfInBounds_toArray, List.set_cons_zero, List.set_cons_succ, i64_w, i32_w]
                rfl
              refine last_ (i := 9) (N := none) #[Y, Y, Y, Y, Y, Y, Y, Y, Y, Y] rfl rfl (by kernel_rfl) (by decide) (fun K hK => ?_)
              have f5 := blk_frozen HG9.out 5
              have c5 := (blk_cell HG9.out 5).trans rfl
              refine skip_ (w1 := ?_) (by rfl) rfl ?_ ?_
              rotate_left
              · go_simp
                rfl
              refine hK.out _ _ ?_
              clear hK K
              refine done_ (by kernel_rfl) ?_
              have HI10 := Aside0.mk (HI9.out.set_deadline (wrap64 (now + timeout)))
              have HG10 := Aside0.mk (blk_put HG9.out 5 (.int .i64 (wrap64 (now + timeout))) rfl)
              have BR10 := Aside0.mk (blk_far BR9.out (p := ⟨g, 5, none⟩) HNR.out (.int .i64 (wrap64 (now + timeout))))
              have BP10 := Aside0.mk (blk_far BP9.out (p := ⟨g, 5, none⟩) HNP.out (.int .i64 (wrap64 (now + timeout))))
              have HB10 := Aside0.mk (HB9.out.setCell (p := ⟨g, 5, none⟩) HGE.out (.int .i64 (wrap64 (now + timeout))))
              have HK10 := Aside0.mk (HK9.out.set 5 (.int .i64 (wrap64 (now + timeout))))
              generalize w9.setCell ⟨g, 5, none⟩ (.int .i64 (wrap64 (now + timeout))) = w10 at HI10 HG10 BR10 BP10 HB10 HK10 ⊢
              clear cr c1 f5 c5 hHeld
              have cr := (blk_cell BR10.out 0).trans rfl
              have c0 := (blk_cell HG10.out 0).trans rfl
              have c3 := (blk_cell HG10.out 3).trans rfl
              go_wp2
              have HI11 := Aside0.mk HI10.out.drew
              have HG11 := Aside0.mk (blk_drew HG10.out)
              have BR11 := Aside0.mk (blk_drew BR10.out)
              have BP11 := Aside0.mk (blk_drew BP10.out)
              have HB11 := Aside0.mk HB10.out.drew
              have HK11 := Aside0.mk HK10.out.drew
              refine start_ (n := 12) (S := fun w' => w'.cell? ⟨gr, 0, none⟩ = some (.pointer (some ⟨g, 0, none⟩)) ∧ w'.cell? ⟨g, 0, none⟩ = some (.int .i64 id) ∧ w'.cell? ⟨g, 3, none⟩ = some (.int .i64 (wrap64 (count + 1)))) (ds := []) #[Yn, Yn, Yn, Yn, Yn, Yn, Yn, Yn, Yn, Yn, Yn, Yn] (by kernel_rfl) rfl rfl ⟨cr, c0, c3⟩ (fun hHeld => ?_)
              generalize w10.drew = w11 at HI11 HG11 BR11 BP11 HB11 HK11 hHeld ⊢
              refine take_ (i := 0) (N := some 2) (v := ?_) (a' := ?_) #[Y, Yn, Yn, Yn, Yn, Yn, Yn, Yn, Yn, Yn, Yn, Yn] rfl rfl (by kernel_rfl) (fun _ _ _ h => h) (Or.inl ⟨by rfl, ?_⟩) hHeld ?_ ?_
              rotate_left
              · rintro w' ⟨s0, s1, s2⟩
                go_simp
                with_reducible rfl
              rotate_left
              · simp only [Act.put, List.setIfInBounds_toArray, List.set_cons_zero, List.set_cons_succ, i64_w, i32_w]
                rfl
              refine pure_ (i := 1) (N := some 3) (v := ?_) (a' := ?_) #[Y, Y, Yn, Yn, Yn, Yn, Yn, Yn, Yn, Yn, Yn, Yn] rfl rfl (by kernel_rfl) (fun _ _ _ h => h) (Or.inl ⟨by rfl, ?_⟩) ?_ ?_
              rotate_left
              · intro w'
                go_simp
                with_reducible rfl
              rotate_left
              · simp only [Act.put, List.setIfInBounds_toArray, List.set_cons_zero, List.set_cons_succ, i64_w, i32_w]
                rfl
              refine pure_ (i := 2) (N := some 4) (v := ?_) (a' := ?_) #[Y, Y, Y, Yn, Yn, Yn, Yn, Yn, Yn, Yn, Yn, Yn] rfl rfl (by kernel_rfl) (fun _ _ _ h => h) (Or.inl ⟨by rfl, ?_⟩) ?_ ?_
              rotate_left
              · intro w'
                go_simp
                with_reducible rfl
              rotate_left
              · simp only [Act.put, List.setIfInBounds_toArray, List.set_cons_zero, List.set_cons_succ, i64_w, i32_w]
                rfl
              refine take_ (i := 3) (N := some 5) (v := ?_) (a' := ?_) #[Y, Y, Y, Y, Yn, Yn, Yn, Yn, Yn, Yn, Yn, Yn] rfl rfl (by kernel_rfl) (fun _ _ _ h => h) (Or.inl ⟨by rfl, ?_⟩) hHeld ?_ ?_
              rotate_left
              · rintro w' ⟨s0, s1, s2⟩
                go_simp
                with_reducible rfl
              rotate_left
              · simp only [Act.put, List.setIfInBounds_toArray, List.set_cons_zero, List.set_cons_succ, i64_w, i32_w]
                rfl
              refine take_ (i := 4) (N := some 6) (v := ?_) (a' := ?_) #[Y, Y, Y, Y, Y, Yn, Yn, Yn, Yn, Yn, Yn, Yn] rfl rfl (by kernel_rfl) (fun _ _ _ h => h) (Or.inl ⟨by rfl, ?_⟩) hHeld ?_ ?_
              rotate_left
              · rintro w' ⟨s0, s1, s2⟩
                go_simp
                with_reducible rfl
              rotate_left
              · simp only [Act.put, List.setIfInBounds_toArray, List.set_cons_zero, List.set_cons_succ, i64_w, i32_w]
                rfl
              refine pure_ (i := 5) (N := some 7) (v := ?_) (a' := ?_) #[Y, Y, Y, Y, Y, Y, Yn, Yn, Yn, Yn, Yn, Yn] rfl rfl (by kernel_rfl) (fun _ _ _ h => h) (Or.inl ⟨by rfl, ?_⟩) ?_ ?_
              rotate_left
              · intro w'
                go_simp
                with_reducible rfl
              rotate_left
              · simp only [Act.put, List.setIfInBounds_toArray, List.set_cons_zero, List.set_cons_succ, i64_w, i32_w]
                rfl
              refine pure_ (i := 6) (N := some 8) (v := ?_) (a' := ?_) #[Y, Y, Y, Y, Y, Y, Y, Yn, Yn, Yn, Yn, Yn] rfl rfl (by kernel_rfl) (fun _ _ _ h => h) (Or.inl ⟨by rfl, ?_⟩) ?_ ?_
              rotate_left
              · intro w'
                go_simp
                with_reducible rfl
              rotate_left
              · simp only [Act.put, List.setIfInBounds_toArray, List.set_cons_zero, List.set_cons_succ, i64_w, i32_w]
                rfl
              refine take_ (i := 7) (N := some 9) (v := ?_) (a' := ?_) #[Y, Y, Y, Y, Y, Y, Y, Y, Yn, Yn, Yn, Yn] rfl rfl (by kernel_rfl) (fun _ _ _ h => h) (Or.inl ⟨by rfl, ?_⟩) hHeld ?_ ?_
              rotate_left
              · rintro w' ⟨s0, s1, s2⟩
                go_simp
                with_reducible rfl
              rotate_left
              · simp only [Act.put, List.setIfInBounds_toArray, List.set_cons_zero, List.set_cons_succ, i64_w, i32_w]
                rfl
              refine pure_ (i := 8) (N := some 10) (v := ?_) (a' := ?_) #[Y, Y, Y, Y, Y, Y, Y, Y, Y, Yn, Yn, Yn] rfl rfl (by kernel_rfl) (fun _ _ _ h => h) (Or.inl ⟨by rfl, ?_⟩) ?_ ?_
              rotate_left
              · intro w'
                go_simp
                with_reducible rfl
              rotate_left
              · simp only [Act.put, List.setIfInBounds_toArray, List.set_cons_zero, List.set_cons_succ, i64_w, i32_w]
                rfl
              refine pure_ (i := 9) (N := some 11) (v := ?_) (a' := ?_) #[Y, Y, Y, Y, Y, Y, Y, Y, Y, Y, Yn, Yn] rfl rfl (by kernel_rfl) (fun _ _ _ h => h) (Or.inl ⟨by rfl, ?_⟩) ?_ ?_
              rotate_left
              · intro w'
                go_simp
                with_reducible rfl
              rotate_left
              · simp only [Act.put, List.setIfInBounds_toArray, List.set_cons_zero, List.set_cons_succ, i64_w, i32_w]
                rfl
              refine one_ (i := 10) (N := some 12) #[Y, Y, Y, Y, Y, Y, Y, Y, Y, Y, Y, Yn] rfl rfl (by kernel_rfl) (by decide) (fun K hK => ?_)
              refine value_ (w1 := ?_) (v := ?_) (by rfl) rfl ?_ ?_
              rotate_left 2
              · go_simp
                constructor
                · rfl
                · rfl
              refine hK.out _ _ ⟨(blk_cell (by (with_reducible repeat (first | refine blk_drewN ?_ _ | refine blk_drew ?_ | refine blk_alloc ?_ _)); exact BR11.out) 0).trans rfl, (blk_cell (by (with_reducible repeat (first | refine blk_drewN ?_ _ | refine blk_drew ?_ | refine blk_alloc ?_ _)); exact HG11.out) 0).trans rfl, (blk_cell (by (with_reducible repeat (first | refine blk_drewN ?_ _ | refine blk_drew ?_ | refine blk_alloc ?_ _)); exact HG11.out) 3).trans rfl⟩ (fun hHeld => ?_)
              clear hK K
              refine norm_ (a' := ?_) ?_ ?_
              rotate_left
              · show Act.put _ (some 12) _ = _
                simp only [Act.put, List.setIfInBounds_toArray, List.set_cons_zero, List.set_cons_succ, i64_w, i32_w]
                rfl
              refine pure_ (i := 11) (N := some 1) (v := ?_) (a' := ?_) #[Y, Y, Y, Y, Y, Y, Y, Y, Y, Y, Y, Y] rfl rfl (by kernel_rfl) (fun _ _ _ h => h) (Or.inl ⟨by rfl, ?_⟩) ?_ ?_
              rotate_left
              · intro w'
                go_simp
                with_reducible rfl
              rotate_left
              · simp only [Act.put, List.setIfInBounds_toArray, List.set_cons_zero, List.set_cons_succ, i64_w, i32_w]
                rfl
              refine done_ (by kernel_rfl) ?_
              go_wp2
              go_ret
              exact ⟨_, rfl, V_one23 (Rn.ack ⟨id, timeout, state, (wrap64 (count + 1)), ms, wrap64 (now + timeout)⟩) _ rfl HK11.out.size, (by first | exact HI11.out.alloc _ | (rw [HMS.out]; exact HI11.out.alloc _)), HB11.out.alloc (Nat.le_trans HBS.out HK11.out.size) _, HK11.out.alloc _⟩
            · have K6 := Aside0.mk k6
              have HT := Aside0.mk (show Rn.handle ⟨id, timeout, state, count, msg, deadline⟩ p0 p1 p2 p3 p5 now = ([Rn.ack ⟨id, timeout, 1, wrap64 (count + 1), msg ++ bytesOf p5, wrap64 (now + timeout)⟩], ⟨id, timeout, 1, wrap64 (count + 1), msg ++ bytesOf p5, wrap64 (now + timeout)⟩) by unfold Rn.handle; rw [if_pos k1, if_pos k2, if_neg k3, if_pos k4, show Rn.take ⟨id, timeout, state, count, msg, deadline⟩ p2 p3 p5 = ⟨id, timeout, 1, wrap64 (count + 1), msg ++ bytesOf p5, deadline⟩ from by unfold Rn.take; rw [if_pos k5, k6]; rfl]; try rfl)
              rw [HT.out]
              clear k1 k2 k3 k4 k5
              go_enter Tryd.func34, Tryd.ntmps34
              go_wp2_with (first | ((with_reducible refine gate_dst (N := 3) rfl ?_); refine box_event ?hg (N := 3) ?hd (cs := #[.pointer (some ⟨g, 0, none⟩)]) (t := 64) ?hr ?_; (case hd => rfl); (case hg => rfl); (case hr => first | (go_simp; done) | (go_simp; rfl)); intro gr hgr w1 hbox hb; have BRa := Aside0.mk hbox; have HIa := Aside0.mk (HI.out.below hb); have HGa := Aside0.mk (blk_below HG.out hb); have HBa := Aside0.mk (hb.mono HBS.out); have HKa := Aside0.mk (KeepR.of_below hb g); clear hb hbox hgr) | ((with_reducible refine gate_dst (N := 4) rfl ?_); refine box_event ?hg (N := 4) ?hd (cs := #[.int .i64 p0, .int .i64 p1, .int .i64 p2, .bool p3, .int .i64 p4, .string p5]) (t := 23) ?hr ?_; (case hd => rfl); (case hg => rfl); (case hr => first | (go_simp; done) | (go_simp; rfl)); intro gp hgp w2 hbox hb; have BP2 := Aside0.mk hbox; have BR2 := Aside0.mk (blk_below BRa.out hb); have HI2 := Aside0.mk (HIa.out.below hb); have HG2 := Aside0.mk (blk_below HGa.out hb); have HB2 := Aside0.mk (HBa.out.trans (hb.mono (Nat.le_trans HBS.out HKa.out.size))); have HK2 := Aside0.mk (HKa.out.trans (KeepR.of_below hb g)); have HNR := Aside0.mk (blk_ne BR2.out HG2.out (by decide)); have HNP := Aside0.mk (blk_ne BP2.out HG2.out (by decide)); have cr := (blk_cell BR2.out 0).trans rfl; have c0 := (blk_cell HG2.out 0).trans rfl; have y1 := (blk_cell BP2.out 1).trans rfl; clear hb hbox hgp BRa HIa HGa HBa HKa))
              have HI3 := Aside0.mk HI2.out.drew
              have HG3 := Aside0.mk (blk_drew HG2.out)
              have BR3 := Aside0.mk (blk_drew BR2.out)
              have BP3 := Aside0.mk (blk_drew BP2.out)
              have HB3 := Aside0.mk HB2.out.drew
              have HK3 := Aside0.mk HK2.out.drew
              refine start_ (n := 7) (S := fun w' => w'.cell? ⟨gp, 1, none⟩ = some (.int .i64 p1) ∧ w'.cell? ⟨gr, 0, none⟩ = some (.pointer (some ⟨g, 0, none⟩)) ∧ w'.cell? ⟨g, 0, none⟩ = some (.int .i64 id)) (ds := []) #[Yn, Yn, Yn, Yn, Yn, Yn, Yn] (by kernel_rfl) rfl rfl ⟨y1, cr, c0⟩ (fun hHeld => ?_)
              generalize w2.drew = w3 at HI3 HG3 BR3 BP3 HB3 HK3 hHeld ⊢
              refine pure_ (i := 0) (N := some 8) (v := ?_) (a' := ?_) #[Y, Yn, Yn, Yn, Yn, Yn, Yn] rfl rfl (by kernel_rfl) (fun _ _ _ h => h) (Or.inl ⟨by rfl, ?_⟩) ?_ ?_
              rotate_left
              · intro w'
                go_simp
                with_reducible rfl
              rotate_left
              · simp only [Act.put, List.setIfInBounds_toArray, List.set_cons_zero, List.set_cons_succ, i64_w, i32_w]
                rfl
              refine take_ (i := 1) (N := some 9) (v := ?_) (a' := ?_) #[Y, Y, Yn, Yn, Yn, Yn, Yn] rfl rfl (by kernel_rfl) (fun _ _ _ h => h) (Or.inl ⟨by rfl, ?_⟩) hHeld ?_ ?_
              rotate_left
              · rintro w' ⟨s0, s1, s2⟩
                go_simp
                with_reducible rfl
              rotate_left
              · simp only [Act.put, List.setIfInBounds_toArray, List.set_cons_zero, List.set_cons_succ, i64_w, i32_w]
                rfl
              refine take_ (i := 2) (N := some 10) (v := ?_) (a' := ?_) #[Y, Y, Y, Yn, Yn, Yn, Yn] rfl rfl (by kernel_rfl) (fun _ _ _ h => h) (Or.inl ⟨by rfl, ?_⟩) hHeld ?_ ?_
              rotate_left
              · rintro w' ⟨s0, s1, s2⟩
                go_simp
                with_reducible rfl
              rotate_left
              · simp only [Act.put, List.setIfInBounds_toArray, List.set_cons_zero, List.set_cons_succ, i64_w, i32_w]
                rfl
              refine pure_ (i := 3) (N := some 11) (v := ?_) (a' := ?_) #[Y, Y, Y, Y, Yn, Yn, Yn] rfl rfl (by kernel_rfl) (fun _ _ _ h => h) (Or.inl ⟨by rfl, ?_⟩) ?_ ?_
              rotate_left
              · intro w'
                go_simp
                with_reducible rfl
              rotate_left
              · simp only [Act.put, List.setIfInBounds_toArray, List.set_cons_zero, List.set_cons_succ, i64_w, i32_w]
                rfl
              refine pure_ (i := 4) (N := some 12) (v := ?_) (a' := ?_) #[Y, Y, Y, Y, Y, Yn, Yn] rfl rfl (by kernel_rfl) (fun _ _ _ h => h) (Or.inl ⟨by rfl, ?_⟩) ?_ ?_
              rotate_left
              · intro w'
                go_simp
                with_reducible rfl
              rotate_left
              · simp only [Act.put, List.setIfInBounds_toArray, List.set_cons_zero, List.set_cons_succ, i64_w, i32_w]
                rfl
              refine take_ (i := 5) (N := some 13) (v := ?_) (a' := ?_) #[Y, Y, Y, Y, Y, Y, Yn] rfl rfl (by kernel_rfl) (fun _ _ _ h => h) (Or.inl ⟨by rfl, ?_⟩) hHeld ?_ ?_
              rotate_left
              · rintro w' ⟨s0, s1, s2⟩
                go_simp
                with_reducible rfl
              rotate_left
              · simp only [Act.put, List.setIfInBounds_toArray, List.set_cons_zero, List.set_cons_succ, i64_w, i32_w]
                rfl
              refine pure_ (i := 6) (N := some 14) (v := ?_) (a' := ?_) #[Y, Y, Y, Y, Y, Y, Y] rfl rfl (by kernel_rfl) (fun _ _ _ h => h) (Or.inl ⟨by rfl, ?_⟩) ?_ ?_
              rotate_left
              · intro w'
                go_simp
                with_reducible rfl
              rotate_left
              · simp only [Act.put, List.setIfInBounds_toArray, List.set_cons_zero, List.set_cons_succ, i64_w, i32_w]
                rfl
              refine done_ (by kernel_rfl) ?_
              clear cr c0 y1 hHeld
              have cr := (blk_cell BR3.out 0).trans rfl
              have y0 := (blk_cell BP3.out 0).trans rfl
              have c2 := (blk_cell HG3.out 2).trans rfl
              have y2 := (blk_cell BP3.out 2).trans rfl
              have c3 := (blk_cell HG3.out 3).trans rfl
              go_wp2
              have HI4 := Aside0.mk HI3.out.drew
              have HG4 := Aside0.mk (blk_drew HG3.out)
              have BR4 := Aside0.mk (blk_drew BR3.out)
              have BP4 := Aside0.mk (blk_drew BP3.out)
              have HB4 := Aside0.mk HB3.out.drew
              have HK4 := Aside0.mk HK3.out.drew
              refine start_ (n := 7) (S := fun w' => w'.cell? ⟨gp, 2, none⟩ = some (.int .i64 p2) ∧ w'.cell? ⟨gr, 0, none⟩ = some (.pointer (some ⟨g, 0, none⟩)) ∧ w'.cell? ⟨g, 3, none⟩ = some (.int .i64 count)) (ds := []) #[Yn, Yn, Yn, Yn, Yn, Yn, Yn] (by kernel_rfl) rfl rfl ⟨y2, cr, c3⟩ (fun hHeld => ?_)
              generalize w3.drew = w4 at HI4 HG4 BR4 BP4 HB4 HK4 hHeld ⊢
              refine pure_ (i := 0) (N := some 40) (v := ?_) (a' := ?_) #[Y, Yn, Yn, Yn, Yn, Yn, Yn] rfl rfl (by kernel_rfl) (fun _ _ _ h => h) (Or.inl ⟨by rfl, ?_⟩) ?_ ?_
              rotate_left
              · intro w'
                go_simp
                with_reducible rfl
              rotate_left
              · simp only [Act.put, List.setIfInBounds_toArray, List.set_cons_zero, List.set_cons_succ, i64_w, i32_w]
                rfl
              refine take_ (i := 1) (N := some 41) (v := ?_) (a' := ?_) #[Y, Y, Yn, Yn, Yn, Yn, Yn] rfl rfl (by kernel_rfl) (fun _ _ _ h => h) (Or.inl ⟨by rfl, ?_⟩) hHeld ?_ ?_
              rotate_left
              · rintro w' ⟨s0, s1, s2⟩
                go_simp
                with_reducible rfl
              rotate_left
              · simp only [Act.put, List.setIfInBounds_toArray, List.set_cons_zero, List.set_cons_succ, i64_w, i32_w]
                rfl
              refine take_ (i := 2) (N := some 42) (v := ?_) (a' := ?_) #[Y, Y, Y, Yn, Yn, Yn, Yn] rfl rfl (by kernel_rfl) (fun _ _ _ h => h) (Or.inl ⟨by rfl, ?_⟩) hHeld ?_ ?_
              rotate_left
              · rintro w' ⟨s0, s1, s2⟩
                go_simp
                with_reducible rfl
              rotate_left
              · simp only [Act.put, List.setIfInBounds_toArray, List.set_cons_zero, List.set_cons_succ, i64_w, i32_w]
                rfl
              refine pure_ (i := 3) (N := some 43) (v := ?_) (a' := ?_) #[Y, Y, Y, Y, Yn, Yn, Yn] rfl rfl (by kernel_rfl) (fun _ _ _ h => h) (Or.inl ⟨by rfl, ?_⟩) ?_ ?_
              rotate_left
              · intro w'
                go_simp
                with_reducible rfl
              rotate_left
              · simp only [Act.put, List.setIfInBounds_toArray, List.set_cons_zero, List.set_cons_succ, i64_w, i32_w]
                rfl
              refine pure_ (i := 4) (N := some 44) (v := ?_) (a' := ?_) #[Y, Y, Y, Y, Y, Yn, Yn] rfl rfl (by kernel_rfl) (fun _ _ _ h => h) (Or.inl ⟨by rfl, ?_⟩) ?_ ?_
              rotate_left
              · intro w'
                go_simp
                with_reducible rfl
              rotate_left
              · simp only [Act.put, List.setIfInBounds_toArray, List.set_cons_zero, List.set_cons_succ, i64_w, i32_w]
                rfl
              refine take_ (i := 5) (N := some 45) (v := ?_) (a' := ?_) #[Y, Y, Y, Y, Y, Y, Yn] rfl rfl (by kernel_rfl) (fun _ _ _ h => h) (Or.inl ⟨by rfl, ?_⟩) hHeld ?_ ?_
              rotate_left
              · rintro w' ⟨s0, s1, s2⟩
                go_simp
                with_reducible rfl
              rotate_left
              · simp only [Act.put, List.setIfInBounds_toArray, List.set_cons_zero, List.set_cons_succ, i64_w, i32_w]
                rfl
              refine pure_ (i := 6) (N := some 46) (v := ?_) (a' := ?_) #[Y, Y, Y, Y, Y, Y, Y] rfl rfl (by kernel_rfl) (fun _ _ _ h => h) (Or.inl ⟨by rfl, ?_⟩) ?_ ?_
              rotate_left
              · intro w'
                go_simp
                with_reducible rfl
              rotate_left
              · simp only [Act.put, List.setIfInBounds_toArray, List.set_cons_zero, List.set_cons_succ, i64_w, i32_w]
                rfl
              refine done_ (by kernel_rfl) ?_
              clear cr y0 c2 y2 c3 hHeld
              have cr := (blk_cell BR4.out 0).trans rfl
              have c3 := (blk_cell HG4.out 3).trans rfl
              have f3 := blk_frozen HG4.out 3
              have HI5 := Aside0.mk (HI4.out.set_count (wrap64 (count + 1)))
              have HG5 := Aside0.mk (blk_put HG4.out 3 (.int .i64 (wrap64 (count + 1))) rfl)
              have BR5 := Aside0.mk (blk_far BR4.out (p := ⟨g, 3, none⟩) HNR.out (.int .i64 (wrap64 (count + 1))))
              have BP5 := Aside0.mk (blk_far BP4.out (p := ⟨g, 3, none⟩) HNP.out (.int .i64 (wrap64 (count + 1))))
              have HB5 := Aside0.mk (HB4.out.setCell (p := ⟨g, 3, none⟩) HGE.out (.int .i64 (wrap64 (count + 1))))
              have HK5 := Aside0.mk (HK4.out.set 3 (.int .i64 (wrap64 (count + 1))))
              go_wp2
              generalize w4.setCell ⟨g, 3, none⟩ (.int .i64 (wrap64 (count + 1))) = w5 at HI5 HG5 BR5 BP5 HB5 HK5 ⊢
              clear cr c3 f3
              have cr := (blk_cell BR5.out 0).trans rfl
              have y5 := (blk_cell BP5.out 5).trans rfl
              obtain ⟨v5, hG5, hge5, hO5⟩ := HI5.out
              have hO5' : Kd.R (Kd.int .u8) 5 w5 B (fun _ => True) v5 msg := hO5
              obtain ⟨A5, k5', e5⟩ := Kd.R_slice hO5'
              subst e5
              have HG5' := Aside0.mk hG5
              have HO5 := Aside0.mk hO5'
              clear hG5 hge5 hO5 hO5'
              clear HG5
              have HG5 := HG5'
              clear HG5'
              have c4 := (blk_cell HG5.out 4).trans rfl
              have HO6 := Aside0.mk (Kd.R_drew HO5.out)
              have HI6 := Aside0.mk HI5.out.drew
              have HG6 := Aside0.mk (blk_drew HG5.out)
              have BR6 := Aside0.mk (blk_drew BR5.out)
              have BP6 := Aside0.mk (blk_drew BP5.out)
              have HB6 := Aside0.mk HB5.out.drew
              have HK6 := Aside0.mk HK5.out.drew
              refine start_ (n := 11) (S := fun w' => w'.cell? ⟨gr, 0, none⟩ = some (.pointer (some ⟨g, 0, none⟩)) ∧ w'.cell? ⟨g, 4, none⟩ = some (.slice A5 msg.length k5') ∧ w'.cell? ⟨gp, 5, none⟩ = some (.string p5)) (ds := [10]) #[Yn, Yn, Yn, Yn, Yn, Yn, Yn, Yn, Yn, Yn, Yn] (by kernel_rfl) rfl rfl ⟨cr, c4, y5⟩ (fun hHeld => ?_)
              generalize w5.drew = w6 at HI6 HG6 BR6 BP6 HB6 HK6 HO6 hHeld ⊢
              refine pure_ (i := 5) (N := some 59) (v := ?_) (a' := ?_) #[Yn, Yn, Yn, Yn, Yn, Y, Yn, Yn, Yn, Yn, Yn] rfl rfl (by kernel_rfl) (fun _ _ _ h => h) (Or.inl ⟨by rfl, ?_⟩) ?_ ?_
              rotate_left
              · intro w'
                go_simp
                with_reducible rfl
              rotate_left
              · simp only [Act.put, List.setIfInBounds_toArray, List.set_cons_zero, List.set_cons_succ, i64_w, i32_w]
                rfl
              refine take_ (i := 0) (N := some 54) (v := ?_) (a' := ?_) #[Y, Yn, Yn, Yn, Yn, Y, Yn, Yn, Yn, Yn, Yn] rfl rfl (by kernel_rfl) (fun _ _ _ h => h) (Or.inl ⟨by rfl, ?_⟩) hHeld ?_ ?_
              rotate_left
              · rintro w' ⟨s0, s1, s2⟩
                go_simp
                with_reducible rfl
              rotate_left
              · simp only [Act.put, List.setIfInBounds_toArray, List.set_cons_zero, List.set_cons_succ, i64_w, i32_w]
                rfl
              refine take_ (i := 1) (N := some 55) (v := ?_) (a' := ?_) #[Y, Y, Yn, Yn, Yn, Y, Yn, Yn, Yn, Yn, Yn] rfl rfl (by kernel_rfl) (fun _ _ _ h => h) (Or.inl ⟨by rfl, ?_⟩) hHeld ?_ ?_
              rotate_left
              · rintro w' ⟨s0, s1, s2⟩
                go_simp
                with_reducible rfl
              rotate_left
              · simp only [Act.put, List.setIfInBounds_toArray, List.set_cons_zero, List.set_cons_succ, i64_w, i32_w]
                rfl
              refine pure_ (i := 2) (N := some 56) (v := ?_) (a' := ?_) #[Y, Y, Y, Yn, Yn, Y, Yn, Yn, Yn, Yn, Yn] rfl rfl (by kernel_rfl) (fun _ _ _ h => h) (Or.inl ⟨by rfl, ?_⟩) ?_ ?_
              rotate_left
              · intro w'
                go_simp
                with_reducible rfl
              rotate_left
              · simp only [Act.put, List.setIfInBounds_toArray, List.set_cons_zero, List.set_cons_succ, i64_w, i32_w]
                rfl
              refine pure_ (i := 3) (N := some 57) (v := ?_) (a' := ?_) #[Y, Y, Y, Y, Yn, Y, Yn, Yn, Yn, Yn, Yn] rfl rfl (by kernel_rfl) (fun _ _ _ h => h) (Or.inl ⟨by rfl, ?_⟩) ?_ ?_
              rotate_left
              · intro w'
                go_simp
                with_reducible rfl
              rotate_left
              · simp only [Act.put, List.setIfInBounds_toArray, List.set_cons_zero, List.set_cons_succ, i64_w, i32_w]
                rfl
              refine take_ (i := 4) (N := some 58) (v := ?_) (a' := ?_) #[Y, Y, Y, Y, Y, Y, Yn, Yn, Yn, Yn, Yn] rfl rfl (by kernel_rfl) (fun _ _ _ h => h) (Or.inl ⟨by rfl, ?_⟩) hHeld ?_ ?_
              rotate_left
              · rintro w' ⟨s0, s1, s2⟩
                go_simp
                with_reducible rfl
              rotate_left
              · simp only [Act.put, List.setIfInBounds_toArray, List.set_cons_zero, List.set_cons_succ, i64_w, i32_w]
                rfl
              refine take_ (i := 6) (N := some 60) (v := ?_) (a' := ?_) #[Y, Y, Y, Y, Y, Y, Y, Yn, Yn, Yn, Yn] rfl rfl (by kernel_rfl) (fun _ _ _ h => h) (Or.inl ⟨by rfl, ?_⟩) hHeld ?_ ?_
              rotate_left
              · rintro w' ⟨s0, s1, s2⟩
                go_simp
                with_reducible rfl
              rotate_left
              · simp only [Act.put, List.setIfInBounds_toArray, List.set_cons_zero, List.set_cons_succ, i64_w, i32_w]
                rfl
              refine one_ (i := 7) (N := some 61) #[Y, Y, Y, Y, Y, Y, Y, Y, Yn, Yn, Yn] rfl rfl (by kernel_rfl) (by decide) (fun K hK => ?_)
              refine step_append_str (w0 := w6) B (by rfl) (.tmp 58) (.tmp 60) 80 9 5 rfl Tryd.underlying80 Tryd.underlying9 info5 (.slice A5 msg.length k5') msg p5 rfl rfl HO6.out (Below.refl _ _) (Nat.le_trans HBS.out HK6.out.size) HLEN.out ?_
              intro v1 w7 ho hb hg
              obtain ⟨ms, HMS⟩ : ∃ ms, Aside0 (msg ++ bytesOf p5 = ms) := ⟨_, ⟨rfl⟩⟩
              rw [HMS.out] at ho
              obtain ⟨A7, k7, e7⟩ := Kd.R_slice ho
              subst e7
              have HS7 := Aside0.mk (rcv_step HG6.out HGE.out HO6.out ho hb hg)
              have BR7 := Aside0.mk (blk_grown BR6.out hg (Kd.R_ne HO6.out BR6.out (by decide)))
              have BP7 := Aside0.mk (blk_grown BP6.out hg (Kd.R_ne HO6.out BP6.out (by decide)))
              have HB7 := Aside0.mk (HB6.out.trans HS7.out.bel1)
              have HK7 := Aside0.mk (HK6.out.trans HS7.out.keep1)
              have f4 := blk_frozen HS7.out.blk 4
              have c4 := (blk_cell HS7.out.blk 4).trans rfl
              clear ho hb hg
              refine hK.out _ _ ⟨(blk_cell BR7.out 0).trans rfl, c4, (blk_cell BP7.out 5).trans rfl⟩ (fun hHeld => ?_)
              clear hK K
              refine norm_ (a' := ?_) ?_ ?_
              rotate_left
              · show Act.put _ (some 61) _ = _
                simp only [Act.put, List.setIfInBounds_toArray, List.set_cons_zero, List.set_cons_succ, i64_w, i32_w]
                rfl
              refine pure_ (i := 8) (N := some 62) (v := ?_) (a' := ?_) #[Y, Y, Y, Y, Y, Y, Y, Y, Y, Yn, Yn] rfl rfl (by kernel_rfl) (fun _ _ _ h => h) (Or.inl ⟨by rfl, ?_⟩) ?_ ?_
              rotate_left
              · intro w'
                go_simp
                with_reducible rfl
              rotate_left
              · simp only [Act.put, List.setIfInBounds_toArray, List.set_cons_zero, List.set_cons_succ, i64_w, i32_w]
                rfl
              refine pure_ (i := 9) (N := some 63) (v := ?_) (a' := ?_) #[Y, Y, Y, Y, Y, Y, Y, Y, Y, Y, Yn] rfl rfl (by kernel_rfl) (fun _ _ _ h => h) (Or.inl ⟨by rfl, ?_⟩) ?_ ?_
              rotate_left
              · intro w'
                go_simp
                with_reducible rfl
              rotate_left
              · simp only [Act.put, List.setIfInBounds_toArray, List.set_cons_zero, List.set_cons_succ, i64_w, i32_w]
                rfl
              refine last_ (i := 10) (N := none) #[Y, Y, Y, Y, Y, Y, Y, Y, Y, Y, Y] rfl rfl (by kernel_rfl) (by decide) (fun K hK => ?_)
              refine skip_ (w1 := ?_) (by rfl) rfl ?_ ?_
              rotate_left
              · go_simp
                rfl
              refine hK.out _ _ ?_
              clear hK K
              refine done_ (by kernel_rfl) ?_
              have HI8 := Aside0.mk HS7.out.at_
              have BR8 := Aside0.mk (blk_far BR7.out (p := ⟨g, 4, none⟩) HNR.out (.slice A7 ms.length k7))
              have BP8 := Aside0.mk (blk_far BP7.out (p := ⟨g, 4, none⟩) HNP.out (.slice A7 ms.length k7))
              have HB8 := Aside0.mk (HB7.out.setCell (p := ⟨g, 4, none⟩) HGE.out (.slice A7 ms.length k7))
              have HK8 := Aside0.mk (HK7.out.set 4 (.slice A7 ms.length k7))
              generalize w7.setCell ⟨g, 4, none⟩ (.slice A7 ms.length k7) = w8 at HI8 BR8 BP8 HB8 HK8 ⊢
              obtain ⟨v8, hG8, hge8, hO8⟩ := HI8.out
              have HG8 := Aside0.mk hG8
              clear hG8 hge8 hO8
              clear cr c4 y5 f4 hHeld
              have y3 := (blk_cell BP8.out 3).trans rfl
              have cr := (blk_cell BR8.out 0).trans rfl
              have c2 := (blk_cell HG8.out 2).trans rfl
              have f2 := blk_frozen HG8.out 2
              have y3b : p3 = false := K6.out
              have HI9 := Aside0.mk (HI8.out.set_state 1)
              have HG9 := Aside0.mk (blk_put HG8.out 2 (.int .i64 1) rfl)
              have BR9 := Aside0.mk (blk_far BR8.out (p := ⟨g, 2, none⟩) HNR.out (.int .i64 1))
              have BP9 := Aside0.mk (blk_far BP8.out (p := ⟨g, 2, none⟩) HNP.out (.int .i64 1))
              have HB9 := Aside0.mk (HB8.out.setCell (p := ⟨g, 2, none⟩) HGE.out (.int .i64 1))
              have HK9 := Aside0.mk (HK8.out.set 2 (.int .i64 1))
              go_wp2
              generalize w8.setCell ⟨g, 2, none⟩ (.int .i64 1) = w9 at HI9 HG9 BR9 BP9 HB9 HK9 ⊢
              clear y3 cr c2 f2
              have cr := (blk_cell BR9.out 0).trans rfl
              have c1 := (blk_cell HG9.out 1).trans rfl
              have HI10 := Aside0.mk HI9.out.drew
              have HG10 := Aside0.mk (blk_drew HG9.out)
              have BR10 := Aside0.mk (blk_drew BR9.out)
              have BP10 := Aside0.mk (blk_drew BP9.out)
              have HB10 := Aside0.mk HB9.out.drew
              have HK10 := Aside0.mk HK9.out.drew
              refine start_ (n := 10) (S := fun w' => w'.cell? ⟨gr, 0, none⟩ = some (.pointer (some ⟨g, 0, none⟩)) ∧ w'.cell? ⟨g, 1, none⟩ = some (.int .i64 timeout)) (ds := [9]) #[Yn, Yn, Yn, Yn, Yn, Yn, Yn, Yn, Yn, Yn] (by kernel_rfl) rfl rfl ⟨cr, c1⟩ (fun hHeld => ?_)
              generalize w9.drew = w10 at HI10 HG10 BR10 BP10 HB10 HK10 hHeld ⊢
              refine pure_ (i := 1) (N := some 71) (v := ?_) (a' := ?_) #[Yn, Y, Yn, Yn, Yn, Yn, Yn, Yn, Yn, Yn] rfl rfl (by kernel_rfl) (fun _ _ _ h => h) (Or.inl ⟨by rfl, ?_⟩) ?_ ?_
              rotate_left
              · intro w'
                go_simp
                with_reducible rfl
              rotate_left
              · simp only [Act.put, List.setIfInBounds_toArray, List.set_cons_zero, List.set_cons_succ, i64_w, i32_w]
                rfl
              refine take_ (i := 0) (N := some 70) (v := ?_) (a' := ?_) #[Y, Y, Yn, Yn, Yn, Yn, Yn, Yn, Yn, Yn] rfl rfl (by kernel_rfl) (fun _ _ _ h => h) (Or.inl ⟨by rfl, ?_⟩) hHeld ?_ ?_
              rotate_left
              · rintro w' ⟨s0, s1⟩
                go_simp
                with_reducible rfl
              rotate_left
              · simp only [Act.put, List.setIfInBounds_toArray, List.set_cons_zero, List.set_cons_succ, i64_w, i32_w]
                rfl
              refine take_ (i := 2) (N := some 72) (v := ?_) (a' := ?_) #[Y, Y, Y, Yn, Yn, Yn, Yn, Yn, Yn, Yn] rfl rfl (by kernel_rfl) (fun _ _ _ h => h) (Or.inl ⟨by rfl, ?_⟩) hHeld ?_ ?_
              rotate_left
              · rintro w' ⟨s0, s1⟩
                go_simp
                with_reducible rfl
              rotate_left
              · simp only [Act.put, List.setIfInBounds_toArray, List.set_cons_zero, List.set_cons_succ, i64_w, i32_w]
                rfl
              refine pure_ (i := 3) (N := some 73) (v := ?_) (a' := ?_) #[Y, Y, Y, Y, Yn, Yn, Yn, Yn, Yn, Yn] rfl rfl (by kernel_rfl) (fun _ _ _ h => h) (Or.inl ⟨by rfl, ?_⟩) ?_ ?_
              rotate_left
              · intro w'
                go_simp
                with_reducible rfl
              rotate_left
              · simp only [Act.put, List.setIfInBounds_toArray, List.set_cons_zero, List.set_cons_succ, i64_w, i32_w]
                rfl
              refine pure_ (i := 4) (N := some 74) (v := ?_) (a' := ?_) #[Y, Y, Y, Y, Y, Yn, Yn, Yn, Yn, Yn] rfl rfl (by kernel_rfl) (fun _ _ _ h => h) (Or.inl ⟨by rfl, ?_⟩) ?_ ?_
              rotate_left
              · intro w'
                go_simp
                with_reducible rfl
              rotate_left
              · simp only [Act.put, List.setIfInBounds_toArray, List.set_cons_zero, List.set_cons_succ, i64_w, i32_w]
                rfl
              refine take_ (i := 5) (N := some 75) (v := ?_) (a' := ?_) #[Y, Y, Y, Y, Y, Y, Yn, Yn, Yn, Yn] rfl rfl (by kernel_rfl) (fun _ _ _ h => h) (Or.inl ⟨by rfl, ?_⟩) hHeld ?_ ?_
              rotate_left
              · rintro w' ⟨s0, s1⟩
                go_simp
                with_reducible rfl
              rotate_left
              · simp only [Act.put, List.setIfInBounds_toArray, List.set_cons_zero, List.set_cons_succ, i64_w, i32_w]
                rfl
              refine pure_ (i := 6) (N := some 76) (v := ?_) (a' := ?_) #[Y, Y, Y, Y, Y, Y, Y, Yn, Yn, Yn] rfl rfl (by kernel_rfl) (fun _ _ _ h => h) (Or.inl ⟨by rfl, ?_⟩) ?_ ?_
              rotate_left
              · intro w'
                go_simp
                with_reducible rfl
              rotate_left
              · simp only [Act.put, List.setIfInBounds_toArray, List.set_cons_zero, List.set_cons_succ, i64_w, i32_w]
                rfl
              refine pure_ (i := 7) (N := some 77) (v := ?_) (a' := ?_) #[Y, Y, Y, Y, Y, Y, Y, Y, Yn, Yn] rfl rfl (by kernel_rfl) (fun _ _ _ h => h) (Or.inl ⟨by rfl, ?_⟩) ?_ ?_
              rotate_left
              · intro w'
                go_simp
                with_reducible rfl
              rotate_left
              · simp only [Act.put, List.setIfInBounds_toArray, List.set_cons_zero, List.set_cons_succ, i64_w, i32_w]
                rfl
              refine pure_ (i := 8) (N := some 78) (v := ?_) (a' := ?_) #[Y, Y, Y, Y, Y, Y, Y, Y, Y, Yn] rfl rfl (by kernel_rfl) (fun _ _ _ h => h) (Or.inl ⟨by rfl, ?_⟩) ?_ ?_
              rotate_left
              · intro w'
                go_simp
                with_reducible rfl
              rotate_left
              · simp only [Act.put, List.setIfInBounds_toArray, List.set_cons_zero, List.set_cons_succ, i64_w, i32_w]
                rfl
              refine last_ (i := 9) (N := none) #[Y, Y, Y, Y, Y, Y, Y, Y, Y, Y] rfl rfl (by kernel_rfl) (by decide) (fun K hK => ?_)
              have f5 := blk_frozen HG10.out 5
              have c5 := (blk_cell HG10.out 5).trans rfl
              refine skip_ (w1 := ?_) (by rfl) rfl ?_ ?_
              rotate_left
              · go_simp
                rfl
              refine hK.out _ _ ?_
              clear hK K
              refine done_ (by kernel_rfl) ?_
              have HI11 := Aside0.mk (HI10.out.set_deadline (wrap64 (now + timeout)))
              have HG11 := Aside0.mk (blk_put HG10.out 5 (.int .i64 (wrap64 (now + timeout))) rfl)
              have BR11 := Aside0.mk (blk_far BR10.out (p := ⟨g, 5, none⟩) HNR.out (.int .i64 (wrap64 (now + timeout))))
              have BP11 := Aside0.mk (blk_far BP10.out (p := ⟨g, 5, none⟩) HNP.out (.int .i64 (wrap64 (now + timeout))))
              have HB11 := Aside0.mk (HB10.out.setCell (p := ⟨g, 5, none⟩) HGE.out (.int .i64 (wrap64 (now + timeout))))
              have HK11 := Aside0.mk (HK10.out.set 5 (.int .i64 (wrap64 (now + timeout))))
              generalize w10.setCell ⟨g, 5, none⟩ (.int .i64 (wrap64 (now + timeout))) = w11 at HI11 HG11 BR11 BP11 HB11 HK11 ⊢
              clear cr c1 f5 c5 hHeld
              have cr := (blk_cell BR11.out 0).trans rfl
              have c0 := (blk_cell HG11.out 0).trans rfl
              have c3 := (blk_cell HG11.out 3).trans rfl
              go_wp2
              have HI12 := Aside0.mk HI11.out.drew
              have HG12 := Aside0.mk (blk_drew HG11.out)
              have BR12 := Aside0.mk (blk_drew BR11.out)
              have BP12 := Aside0.mk (blk_drew BP11.out)
              have HB12 := Aside0.mk HB11.out.drew
              have HK12 := Aside0.mk HK11.out.drew
              refine start_ (n := 12) (S := fun w' => w'.cell? ⟨gr, 0, none⟩ = some (.pointer (some ⟨g, 0, none⟩)) ∧ w'.cell? ⟨g, 0, none⟩ = some (.int .i64 id) ∧ w'.cell? ⟨g, 3, none⟩ = some (.int .i64 (wrap64 (count + 1)))) (ds := []) #[Yn, Yn, Yn, Yn, Yn, Yn, Yn, Yn, Yn, Yn, Yn, Yn] (by kernel_rfl) rfl rfl ⟨cr, c0, c3⟩ (fun hHeld => ?_)
              generalize w11.drew = w12 at HI12 HG12 BR12 BP12 HB12 HK12 hHeld ⊢
              refine take_ (i := 0) (N := some 2) (v := ?_) (a' := ?_) #[Y, Yn, Yn, Yn, Yn, Yn, Yn, Yn, Yn, Yn, Yn, Yn] rfl rfl (by kernel_rfl) (fun _ _ _ h => h) (Or.inl ⟨by rfl, ?_⟩) hHeld ?_ ?_
              rotate_left
              · rintro w' ⟨s0, s1, s2⟩
                go_simp
                with_reducible rfl
              rotate_left
              · simp only [Act.put, List.setIfInBounds_toArray, List.set_cons_zero, List.set_cons_succ, i64_w, i32_w]
                rfl
              refine pure_ (i := 1) (N := some 3) (v := ?_) (a' := ?_) #[Y, Y, Yn, Yn, Yn, Yn, Yn, Yn, Yn, Yn, Yn, Yn] rfl rfl (by kernel_rfl) (fun _ _ _ h => h) (Or.inl ⟨by rfl, ?_⟩) ?_ ?_
              rotate_left
              · intro w'
                go_simp
                with_reducible rfl
              rotate_left
              · simp only [Act.put, List.setIfInBounds_toArray, List.set_cons_zero, List.set_cons_succ, i64_w, i32_w]
                rfl
              refine pure_ (i := 2) (N := some 4) (v := ?_) (a' := ?_) #[Y, Y, Y, Yn, Yn, Yn, Yn, Yn, Yn, Yn, Yn, Yn] rfl rfl (by kernel_rfl) (fun _ _ _ h => h) (Or.inl ⟨by rfl, ?_⟩) ?_ ?_
              rotate_left
              · intro w'
                go_simp
                with_reducible rfl
              rotate_left
              · simp only [Act.put, List.setIfInBounds_toArray, List.set_cons_zero, List.set_cons_succ, i64_w, i32_w]
                rfl
              refine take_ (i := 3) (N := some 5) (v := ?_) (a' := ?_) #[Y, Y, Y, Y, Yn, Yn, Yn, Yn, Yn, Yn, Yn, Yn] rfl rfl (by kernel_rfl) (fun _ _ _ h => h) (Or.inl ⟨by rfl, ?_⟩) hHeld ?_ ?_
              rotate_left
              · rintro w' ⟨s0, s1, s2⟩
                go_simp
                with_reducible rfl
              rotate_left
              · simp only [Act.put, List.setIfInBounds_toArray, List.set_cons_zero, List.set_cons_succ, i64_w, i32_w]
                rfl
              refine take_ (i := 4) (N := some 6) (v := ?_) (a' := ?_) #[Y, Y, Y, Y, Y, Yn, Yn, Yn, Yn, Yn, Yn, Yn] rfl rfl (by kernel_rfl) (fun _ _ _ h => h) (Or.inl ⟨by rfl, ?_⟩) hHeld ?_ ?_
              rotate_left
              · rintro w' ⟨s0, s1, s2⟩
                go_simp
                with_reducible rfl
              rotate_left
              · simp only [Act.put, List.setIfInBounds_toArray, List.set_cons_zero, List.set_cons_succ, i64_w, i32_w]
                rfl
              refine pure_ (i := 5) (N := some 7) (v := ?_) (a' := ?_) #[Y, Y, Y, Y, Y, Y, Yn, Yn, Yn, Yn, Yn, Yn] rfl rfl (by kernel_rfl) (fun _ _ _ h => h) (Or.inl ⟨by rfl, ?_⟩) ?_ ?_
              rotate_left
              · intro w'
                go_simp
                with_reducible rfl
              rotate_left
              · simp only [Act.put, List.setIfInBounds_toArray, List.set_cons_zero, List.set_cons_succ, i64_w, i32_w]
                rfl
              refine pure_ (i := 6) (N := some 8) (v := ?_) (a' := ?_) #[Y, Y, Y, Y, Y, Y, Y, Yn, Yn, Yn, Yn, Yn] rfl rfl (by kernel_rfl) (fun _ _ _ h => h) (Or.inl ⟨by rfl, ?_⟩) ?_ ?_
              rotate_left
              · intro w'
                go_simp
                with_reducible rfl
              rotate_left
              · simp only [Act.put, List.setIfInBounds_toArray, List.set_cons_zero, List.set_cons_succ, i64_w, i32_w]
                rfl
              refine take_ (i := 7) (N := some 9) (v := ?_) (a' := ?_) #[Y, Y, Y, Y, Y, Y, Y, Y, Yn, Yn, Yn, Yn] rfl rfl (by kernel_rfl) (fun _ _ _ h => h) (Or.inl ⟨by rfl, ?_⟩) hHeld ?_ ?_
              rotate_left
              · rintro w' ⟨s0, s1, s2⟩
                go_simp
                with_reducible rfl
              rotate_left
              · simp only [Act.put, List.setIfInBounds_toArray, List.set_cons_zero, List.set_cons_succ, i64_w, i32_w]
                rfl
              refine pure_ (i := 8) (N := some 10) (v := ?_) (a' := ?_) #[Y, Y, Y, Y, Y, Y, Y, Y, Y, Yn, Yn, Yn] rfl rfl (by kernel_rfl) (fun _ _ _ h => h) (Or.inl ⟨by rfl, ?_⟩) ?_ ?_
              rotate_left
              · intro w'
                go_simp
                with_reducible rfl
              rotate_left
              · simp only [Act.put, List.setIfInBounds_toArray, List.set_cons_zero, List.set_cons_succ, i64_w, i32_w]
                rfl
              refine pure_ (i := 9) (N := some 11) (v := ?_) (a' := ?_) #[Y, Y, Y, Y, Y, Y, Y, Y, Y, Y, Yn, Yn] rfl rfl (by kernel_rfl) (fun _ _ _ h => h) (Or.inl ⟨by rfl, ?_⟩) ?_ ?_
              rotate_left
              · intro w'
                go_simp
                with_reducible rfl
              rotate_left
              · simp only [Act.put, List.setIfInBounds_toArray, List.set_cons_zero, List.set_cons_succ, i64_w, i32_w]
                rfl
              refine one_ (i := 10) (N := some 12) #[Y, Y, Y, Y, Y, Y, Y, Y, Y, Y, Y, Yn] rfl rfl (by kernel_rfl) (by decide) (fun K hK => ?_)
              refine value_ (w1 := ?_) (v := ?_) (by rfl) rfl ?_ ?_
              rotate_left 2
              · go_simp
                constructor
                · rfl
                · rfl
              refine hK.out _ _ ⟨(blk_cell (by (with_reducible repeat (first | refine blk_drewN ?_ _ | refine blk_drew ?_ | refine blk_alloc ?_ _)); exact BR12.out) 0).trans rfl, (blk_cell (by (with_reducible repeat (first | refine blk_drewN ?_ _ | refine blk_drew ?_ | refine blk_alloc ?_ _)); exact HG12.out) 0).trans rfl, (blk_cell (by (with_reducible repeat (first | refine blk_drewN ?_ _ | refine blk_drew ?_ | refine blk_alloc ?_ _)); exact HG12.out) 3).trans rfl⟩ (fun hHeld => ?_)
              clear hK K
              refine norm_ (a' := ?_) ?_ ?_
              rotate_left
              · show Act.put _ (some 12) _ = _
                simp only [Act.put, List.setIfInBounds_toArray, List.set_cons_zero, List.set_cons_succ, i64_w, i32_w]
                rfl
              refine pure_ (i := 11) (N := some 1) (v := ?_) (a' := ?_) #[Y, Y, Y, Y, Y, Y, Y, Y, Y, Y, Y, Y] rfl rfl (by kernel_rfl) (fun _ _ _ h => h) (Or.inl ⟨by rfl, ?_⟩) ?_ ?_
              rotate_left
              · intro w'
                go_simp
                with_reducible rfl
              rotate_left
              · simp only [Act.put, List.setIfInBounds_toArray, List.set_cons_zero, List.set_cons_succ, i64_w, i32_w]
                rfl
              refine done_ (by kernel_rfl) ?_
              go_wp2
              go_ret
              exact ⟨_, rfl, V_one23 (Rn.ack ⟨id, timeout, 1, (wrap64 (count + 1)), ms, wrap64 (now + timeout)⟩) _ rfl HK12.out.size, (by first | exact HI12.out.alloc _ | (rw [HMS.out]; exact HI12.out.alloc _)), HB12.out.alloc (Nat.le_trans HBS.out HK12.out.size) _, HK12.out.alloc _⟩
          · have k5b : (p2 == count) = false := beq_false_of_ne k5
            have HT := Aside0.mk (show Rn.handle ⟨id, timeout, state, count, msg, deadline⟩ p0 p1 p2 p3 p5 now = ([Rn.ack ⟨id, timeout, state, count, msg, wrap64 (now + timeout)⟩], ⟨id, timeout, state, count, msg, wrap64 (now + timeout)⟩) by unfold Rn.handle; rw [if_pos k1, if_pos k2, if_neg k3, if_pos k4, show Rn.take ⟨id, timeout, state, count, msg, deadline⟩ p2 p3 p5 = ⟨id, timeout, state, count, msg, deadline⟩ from by unfold Rn.take; exact if_neg k5]; try rfl)
            rw [HT.out]
            clear k1 k2 k3 k4 k5
            go_enter Tryd.func34, Tryd.ntmps34
            go_wp2_with (first | ((with_reducible refine gate_dst (N := 3) rfl ?_); refine box_event ?hg (N := 3) ?hd (cs := #[.pointer (some ⟨g, 0, none⟩)]) (t := 64) ?hr ?_; (case hd => rfl); (case hg => rfl); (case hr => first | (go_simp; done) | (go_simp; rfl)); intro gr hgr w1 hbox hb; have BRa := Aside0.mk hbox; have HIa := Aside0.mk (HI.out.below hb); have HGa := Aside0.mk (blk_below HG.out hb); have HBa := Aside0.mk (hb.mono HBS.out); have HKa := Aside0.mk (KeepR.of_below hb g); clear hb hbox hgr) | ((with_reducible refine gate_dst (N := 4) rfl ?_); refine box_event ?hg (N := 4) ?hd (cs := #[.int .i64 p0, .int .i64 p1, .int .i64 p2, .bool p3, .int .i64 p4, .string p5]) (t := 23) ?hr ?_; (case hd => rfl); (case hg => rfl); (case hr => first | (go_simp; done) | (go_simp; rfl)); intro gp hgp w2 hbox hb; have BP2 := Aside0.mk hbox; have BR2 := Aside0.mk (blk_below BRa.out hb); have HI2 := Aside0.mk (HIa.out.below hb); have HG2 := Aside0.mk (blk_below HGa.out hb); have HB2 := Aside0.mk (HBa.out.trans (hb.mono (Nat.le_trans HBS.out HKa.out.size))); have HK2 := Aside0.mk (HKa.out.trans (KeepR.of_below hb g)); have HNR := Aside0.mk (blk_ne BR2.out HG2.out (by decide)); have HNP := Aside0.mk (blk_ne BP2.out HG2.out (by decide)); have cr := (blk_cell BR2.out 0).trans rfl; have c0 := (blk_cell HG2.out 0).trans rfl; have y1 := (blk_cell BP2.out 1).trans rfl; clear hb hbox hgp BRa HIa HGa HBa HKa))
            have HI3 := Aside0.mk HI2.out.drew
            have HG3 := Aside0.mk (blk_drew HG2.out)
            have BR3 := Aside0.mk (blk_drew BR2.out)
            have BP3 := Aside0.mk (blk_drew BP2.out)
            have HB3 := Aside0.mk HB2.out.drew
            have HK3 := Aside0.mk HK2.out.drew
            refine start_ (n := 7) (S := fun w' => w'.cell? ⟨gp, 1, none⟩ = some (.int .i64 p1) ∧ w'.cell? ⟨gr, 0, none⟩ = some (.pointer (some ⟨g, 0, none⟩)) ∧ w'.cell? ⟨g, 0, none⟩ = some (.int .i64 id)) (ds := []) #[Yn, Yn, Yn, Yn, Yn, Yn, Yn] (by kernel_rfl) rfl rfl ⟨y1, cr, c0⟩ (fun hHeld => ?_)
            generalize w2.drew = w3 at HI3 HG3 BR3 BP3 HB3 HK3 hHeld ⊢
            refine pure_ (i := 0) (N := some 8) (v := ?_) (a' := ?_) #[Y, Yn, Yn, Yn, Yn, Yn, Yn] rfl rfl (by kernel_rfl) (fun _ _ _ h => h) (Or.inl ⟨by rfl, ?_⟩) ?_ ?_
            rotate_left
            · intro w'
              go_simp
              with_reducible rfl
            rotate_left
            · simp only [Act.put, List.setIfInBounds_toArray, List.set_cons_zero, List.set_cons_succ, i64_w, i32_w]
              rfl
            refine take_ (i := 1) (N := some 9) (v := ?_) (a' := ?_) #[Y, Y, Yn, Yn, Yn, Yn, Yn] rfl rfl (by kernel_rfl) (fun _ _ _ h => h) (Or.inl ⟨by rfl, ?_⟩) hHeld ?_ ?_
            rotate_left
            · rintro w' ⟨s0, s1, s2⟩
              go_simp
              with_reducible rfl
            rotate_left
            · simp only [Act.put, List.setIfInBounds_toArray, List.set_cons_zero, List.set_cons_succ, i64_w, i32_w]
              rfl
            refine take_ (i := 2) (N := some 10) (v := ?_) (a' := ?_) #[Y, Y, Y, Yn, Yn, Yn, Yn] rfl rfl (by kernel_rfl) (fun _ _ _ h => h) (Or.inl ⟨by rfl, ?_⟩) hHeld ?_ ?_
            rotate_left
            · rintro w' ⟨s0, s1, s2⟩
              go_simp
              with_reducible rfl
            rotate_left
            · simp only [Act.put, List.setIfInBounds_toArray, List.set_cons_zero, List.set_cons_succ, i64_w, i32_w]
              rfl
            refine pure_ (i := 3) (N := some 11) (v := ?_) (a' := ?_) #[Y, Y, Y, Y, Yn, Yn, Yn] rfl rfl (by kernel_rfl) (fun _ _ _ h => h) (Or.inl ⟨by rfl, ?_⟩) ?_ ?_
            rotate_left
            · intro w'
              go_simp
              with_reducible rfl
            rotate_left
            · simp only [Act.put, List.setIfInBounds_toArray, List.set_cons_zero, List.set_cons_succ, i64_w, i32_w]
              rfl
            refine pure_ (i := 4) (N := some 12) (v := ?_) (a' := ?_) #[Y, Y, Y, Y, Y, Yn, Yn] rfl rfl (by kernel_rfl) (fun _ _ _ h => h) (Or.inl ⟨by rfl, ?_⟩) ?_ ?_
            rotate_left
            · intro w'
              go_simp
              with_reducible rfl
            rotate_left
            · simp only [Act.put, List.setIfInBounds_toArray, List.set_cons_zero, List.set_cons_succ, i64_w, i32_w]
              rfl
            refine take_ (i := 5) (N := some 13) (v := ?_) (a' := ?_) #[Y, Y, Y, Y, Y, Y, Yn] rfl rfl (by kernel_rfl) (fun _ _ _ h => h) (Or.inl ⟨by rfl, ?_⟩) hHeld ?_ ?_
            rotate_left
            · rintro w' ⟨s0, s1, s2⟩
              go_simp
              with_reducible rfl
            rotate_left
            · simp only [Act.put, List.setIfInBounds_toArray, List.set_cons_zero, List.set_cons_succ, i64_w, i32_w]
              rfl
            refine pure_ (i := 6) (N := some 14) (v := ?_) (a' := ?_) #[Y, Y, Y, Y, Y, Y, Y] rfl rfl (by kernel_rfl) (fun _ _ _ h => h) (Or.inl ⟨by rfl, ?_⟩) ?_ ?_
            rotate_left
            · intro w'
              go_simp
              with_reducible rfl
            rotate_left
            · simp only [Act.put, List.setIfInBounds_toArray, List.set_cons_zero, List.set_cons_succ, i64_w, i32_w]
              rfl
            refine done_ (by kernel_rfl) ?_
            clear cr c0 y1 hHeld
            have cr := (blk_cell BR3.out 0).trans rfl
            have y0 := (blk_cell BP3.out 0).trans rfl
            have c2 := (blk_cell HG3.out 2).trans rfl
            have y2 := (blk_cell BP3.out 2).trans rfl
            have c3 := (blk_cell HG3.out 3).trans rfl
            go_wp2
            have HI4 := Aside0.mk HI3.out.drew
            have HG4 := Aside0.mk (blk_drew HG3.out)
            have BR4 := Aside0.mk (blk_drew BR3.out)
            have BP4 := Aside0.mk (blk_drew BP3.out)
            have HB4 := Aside0.mk HB3.out.drew
            have HK4 := Aside0.mk HK3.out.drew
            refine start_ (n := 7) (S := fun w' => w'.cell? ⟨gp, 2, none⟩ = some (.int .i64 p2) ∧ w'.cell? ⟨gr, 0, none⟩ = some (.pointer (some ⟨g, 0, none⟩)) ∧ w'.cell? ⟨g, 3, none⟩ = some (.int .i64 count)) (ds := []) #[Yn, Yn, Yn, Yn, Yn, Yn, Yn] (by kernel_rfl) rfl rfl ⟨y2, cr, c3⟩ (fun hHeld => ?_)
            generalize w3.drew = w4 at HI4 HG4 BR4 BP4 HB4 HK4 hHeld ⊢
            refine pure_ (i := 0) (N := some 40) (v := ?_) (a' := ?_) #[Y, Yn, Yn, Yn, Yn, Yn, Yn] rfl rfl (by kernel_rfl) (fun _ _ _ h => h) (Or.inl ⟨by rfl, ?_⟩) ?_ ?_
            rotate_left
            · intro w'
              go_simp
              with_reducible rfl
            rotate_left
            · simp only [Act.put, List.setIfInBounds_toArray, List.set_cons_zero, List.set_cons_succ, i64_w, i32_w]
              rfl
            refine take_ (i := 1) (N := some 41) (v := ?_) (a' := ?_) #[Y, Y, Yn, Yn, Yn, Yn, Yn] rfl rfl (by kernel_rfl) (fun _ _ _ h => h) (Or.inl ⟨by rfl, ?_⟩) hHeld ?_ ?_
            rotate_left
            · rintro w' ⟨s0, s1, s2⟩
              go_simp
              with_reducible rfl
            rotate_left
            · simp only [Act.put, List.setIfInBounds_toArray, List.set_cons_zero, List.set_cons_succ, i64_w, i32_w]
              rfl
            refine take_ (i := 2) (N := some 42) (v := ?_) (a' := ?_) #[Y, Y, Y, Yn, Yn, Yn, Yn] rfl rfl (by kernel_rfl) (fun _ _ _ h => h) (Or.inl ⟨by rfl, ?_⟩) hHeld ?_ ?_
            rotate_left
            · rintro w' ⟨s0, s1, s2⟩
              go_simp
              with_reducible rfl
            rotate_left
            · simp only [Act.put, List.setIfInBounds_toArray, List.set_cons_zero, List.set_cons_succ, i64_w, i32_w]
              rfl
            refine pure_ (i := 3) (N := some 43) (v := ?_) (a' := ?_) #[Y, Y, Y, Y, Yn, Yn, Yn] rfl rfl (by kernel_rfl) (fun _ _ _ h => h) (Or.inl ⟨by rfl, ?_⟩) ?_ ?_
            rotate_left
            · intro w'
              go_simp
              with_reducible rfl
            rotate_left
            · simp only [Act.put, List.setIfInBounds_toArray, List.set_cons_zero, List.set_cons_succ, i64_w, i32_w]
              rfl
            refine pure_ (i := 4) (N := some 44) (v := ?_) (a' := ?_) #[Y, Y, Y, Y, Y, Yn, Yn] rfl rfl (by kernel_rfl) (fun _ _ _ h => h) (Or.inl ⟨by rfl, ?_⟩) ?_ ?_
            rotate_left
            · intro w'
              go_simp
              with_reducible rfl
            rotate_left
            · simp only [Act.put, List.setIfInBounds_toArray, List.set_cons_zero, List.set_cons_succ, i64_w, i32_w]
              rfl
            refine take_ (i := 5) (N := some 45) (v := ?_) (a' := ?_) #[Y, Y, Y, Y, Y, Y, Yn] rfl rfl (by kernel_rfl) (fun _ _ _ h => h) (Or.inl ⟨by rfl, ?_⟩) hHeld ?_ ?_
            rotate_left
            · rintro w' ⟨s0, s1, s2⟩
              go_simp
              with_reducible rfl
            rotate_left
            · simp only [Act.put, List.setIfInBounds_toArray, List.set_cons_zero, List.set_cons_succ, i64_w, i32_w]
              rfl
            refine pure_ (i := 6) (N := some 46) (v := ?_) (a' := ?_) #[Y, Y, Y, Y, Y, Y, Y] rfl rfl (by kernel_rfl) (fun _ _ _ h => h) (Or.inl ⟨by rfl, ?_⟩) ?_ ?_
            rotate_left
            · intro w'
              go_simp
              with_reducible rfl
            rotate_left
            · simp only [Act.put, List.setIfInBounds_toArray, List.set_cons_zero, List.set_cons_succ, i64_w, i32_w]
              rfl
            refine done_ (by kernel_rfl) ?_
            clear cr y0 c2 y2 c3 hHeld
            have cr := (blk_cell BR4.out 0).trans rfl
            have c1 := (blk_cell HG4.out 1).trans rfl
            go_wp2
            have HI5 := Aside0.mk HI4.out.drew
            have HG5 := Aside0.mk (blk_drew HG4.out)
            have BR5 := Aside0.mk (blk_drew BR4.out)
            have BP5 := Aside0.mk (blk_drew BP4.out)
            have HB5 := Aside0.mk HB4.out.drew
            have HK5 := Aside0.mk HK4.out.drew
            refine start_ (n := 10) (S := fun w' => w'.cell? ⟨gr, 0, none⟩ = some (.pointer (some ⟨g, 0, none⟩)) ∧ w'.cell? ⟨g, 1, none⟩ = some (.int .i64 timeout)) (ds := [9]) #[Yn, Yn, Yn, Yn, Yn, Yn, Yn, Yn, Yn, Yn] (by kernel_rfl) rfl rfl ⟨cr, c1⟩ (fun hHeld => ?_)
            generalize w4.drew = w5 at HI5 HG5 BR5 BP5 HB5 HK5 hHeld ⊢
            refine pure_ (i := 1) (N := some 71) (v := ?_) (a' := ?_) #[Yn, Y, Yn, Yn, Yn, Yn, Yn, Yn, Yn, Yn] rfl rfl (by kernel_rfl) (fun _ _ _ h => h) (Or.inl ⟨by rfl, ?_⟩) ?_ ?_
            rotate_left
            · intro w'
              go_simp
              with_reducible rfl
            rotate_left
            · simp only [Act.put, List.setIfInBounds_toArray, List.set_cons_zero, List.set_cons_succ, i64_w, i32_w]
              rfl
            refine take_ (i := 0) (N := some 70) (v := ?_) (a' := ?_) #[Y, Y, Yn, Yn, Yn, Yn, Yn, Yn, Yn, Yn] rfl rfl (by kernel_rfl) (fun _ _ _ h => h) (Or.inl ⟨by rfl, ?_⟩) hHeld ?_ ?_
            rotate_left
            · rintro w' ⟨s0, s1⟩
              go_simp
              with_reducible rfl
            rotate_left
            · simp only [Act.put, List.setIfInBounds_toArray, List.set_cons_zero, List.set_cons_succ, i64_w, i32_w]
              rfl
            refine take_ (i := 2) (N := some 72) (v := ?_) (a' := ?_) #[Y, Y, Y, Yn, Yn, Yn, Yn, Yn, Yn, Yn] rfl rfl (by kernel_rfl) (fun _ _ _ h => h) (Or.inl ⟨by rfl, ?_⟩) hHeld ?_ ?_
            rotate_left
            · rintro w' ⟨s0, s1⟩
              go_simp
              with_reducible rfl
            rotate_left
            · simp only [Act.put, List.setIfInBounds_toArray, List.set_cons_zero, List.set_cons_succ, i64_w, i32_w]
              rfl
            refine pure_ (i := 3) (N := some 73) (v := ?_) (a' := ?_) #[Y, Y, Y, Y, Yn, Yn, Yn, Yn, Yn, Yn] rfl rfl (by kernel_rfl) (fun _ _ _ h => h) (Or.inl ⟨by rfl, ?_⟩) ?_ ?_
            rotate_left
            · intro w'
              go_simp
              with_reducible rfl
            rotate_left
            · simp only [Act.put, List.setIfInBounds_toArray, List.set_cons_zero, List.set_cons_succ, i64_w, i32_w]
              rfl
            refine pure_ (i := 4) (N := some 74) (v := ?_) (a' := ?_) #[Y, Y, Y, Y, Y, Yn, Yn, Yn, Yn, Yn] rfl rfl (by kernel_rfl) (fun _ _ _ h => h) (Or.inl ⟨by rfl, ?_⟩) ?_ ?_
            rotate_left
            · intro w'
              go_simp
              with_reducible rfl
            rotate_left
            · simp only [Act.put, List.setIfInBounds_toArray, List.set_cons_zero, List.set_cons_succ, i64_w, i32_w]
              rfl
            refine take_ (i := 5) (N := some 75) (v := ?_) (a' := ?_) #[Y, Y, Y, Y, Y, Y, Yn, Yn, Yn, Yn] rfl rfl (by kernel_rfl) (fun _ _ _ h => h) (Or.inl ⟨by rfl, ?_⟩) hHeld ?_ ?_
            rotate_left
            · rintro w' ⟨s0, s1⟩
              go_simp
              with_reducible rfl
            rotate_left
            · simp only [Act.put, List.setIfInBounds_toArray, List.set_cons_zero, List.set_cons_succ, i64_w, i32_w]
              rfl
            refine pure_ (i := 6) (N := some 76) (v := ?_) (a' := ?_) #[Y, Y, Y, Y, Y, Y, Y, Yn, Yn, Yn] rfl rfl (by kernel_rfl) (fun _ _ _ h => h) (Or.inl ⟨by rfl, ?_⟩) ?_ ?_
            rotate_left
            · intro w'
              go_simp
              with_reducible rfl
            rotate_left
            · simp only [Act.put, List.setIfInBounds_toArray, List.set_cons_zero, List.set_cons_succ, i64_w, i32_w]
              rfl
            refine pure_ (i := 7) (N := some 77) (v := ?_) (a' := ?_) #[Y, Y, Y, Y, Y, Y, Y, Y, Yn, Yn] rfl rfl (by kernel_rfl) (fun _ _ _ h => h) (Or.inl ⟨by rfl, ?_⟩) ?_ ?_
            rotate_left
            · intro w'
              go_simp
              with_reducible rfl
            rotate_left
            · simp only [Act.put, List.setIfInBounds_toArray, List.set_cons_zero, List.set_cons_succ, i64_w, i32_w]
              rfl
            refine pure_ (i := 8) (N := some 78) (v := ?_) (a' := ?_) #[Y, Y, Y, Y, Y, Y, Y, Y, Y, Yn] rfl rfl (by kernel_rfl) (fun _ _ _ h => h) (Or.inl ⟨by rfl, ?_⟩) ?_ ?_
            rotate_left
            · intro w'
              go_simp
              with_reducible rfl
            rotate_left
            · simp only [Act.put, List.setIfInBounds_toArray, List.set_cons_zero, List.set_cons_succ, i64_w, i32_w]
              rfl
            refine last_ (i := 9) (N := none) #[Y, Y, Y, Y, Y, Y, Y, Y, Y, Y] rfl rfl (by kernel_rfl) (by decide) (fun K hK => ?_)
            have f5 := blk_frozen HG5.out 5
            have c5 := (blk_cell HG5.out 5).trans rfl
            refine skip_ (w1 := ?_) (by rfl) rfl ?_ ?_
            rotate_left
            · go_simp
              rfl
            refine hK.out _ _ ?_
            clear hK K
            refine done_ (by kernel_rfl) ?_
            have HI6 := Aside0.mk (HI5.out.set_deadline (wrap64 (now + timeout)))
            have HG6 := Aside0.mk (blk_put HG5.out 5 (.int .i64 (wrap64 (now + timeout))) rfl)
            have BR6 := Aside0.mk (blk_far BR5.out (p := ⟨g, 5, none⟩) HNR.out (.int .i64 (wrap64 (now + timeout))))
            have BP6 := Aside0.mk (blk_far BP5.out (p := ⟨g, 5, none⟩) HNP.out (.int .i64 (wrap64 (now + timeout))))
            have HB6 := Aside0.mk (HB5.out.setCell (p := ⟨g, 5, none⟩) HGE.out (.int .i64 (wrap64 (now + timeout))))
            have HK6 := Aside0.mk (HK5.out.set 5 (.int .i64 (wrap64 (now + timeout))))
            generalize w5.setCell ⟨g, 5, none⟩ (.int .i64 (wrap64 (now + timeout))) = w6 at HI6 HG6 BR6 BP6 HB6 HK6 ⊢
            clear cr c1 f5 c5 hHeld
            have cr := (blk_cell BR6.out 0).trans rfl
            have c0 := (blk_cell HG6.out 0).trans rfl
            have c3 := (blk_cell HG6.out 3).trans rfl
            go_wp2
            have HI7 := Aside0.mk HI6.out.drew
            have HG7 := Aside0.mk (blk_drew HG6.out)
            have BR7 := Aside0.mk (blk_drew BR6.out)
            have BP7 := Aside0.mk (blk_drew BP6.out)
            have HB7 := Aside0.mk HB6.out.drew
            have HK7 := Aside0.mk HK6.out.drew
            refine start_ (n := 12) (S := fun w' => w'.cell? ⟨gr, 0, none⟩ = some (.pointer (some ⟨g, 0, none⟩)) ∧ w'.cell? ⟨g, 0, none⟩ = some (.int .i64 id) ∧ w'.cell? ⟨g, 3, none⟩ = some (.int .i64 count)) (ds := []) #[Yn, Yn, Yn, Yn, Yn, Yn, Yn, Yn, Yn, Yn, Yn, Yn] (by kernel_rfl) rfl rfl ⟨cr, c0, c3⟩ (fun hHeld => ?_)
            generalize w6.drew = w7 at HI7 HG7 BR7 BP7 HB7 HK7 hHeld ⊢
            refine take_ (i := 0) (N := some 2) (v := ?_) (a' := ?_) #[Y, Yn, Yn, Yn, Yn, Yn, Yn, Yn, Yn, Yn, Yn, Yn] rfl rfl (by kernel_rfl) (fun _ _ _ h => h) (Or.inl ⟨by rfl, ?_⟩) hHeld ?_ ?_
            rotate_left
            · rintro w' ⟨s0, s1, s2⟩
              go_simp
              with_reducible rfl
            rotate_left
            · simp only [Act.put, List.setIfInBounds_toArray, List.set_cons_zero, List.set_cons_succ, i64_w, i32_w]
              rfl
            refine pure_ (i := 1) (N := some 3) (v := ?_) (a' := ?_) #[Y, Y, Yn, Yn, Yn, Yn, Yn, Yn, Yn, Yn, Yn, Yn] rfl rfl (by kernel_rfl) (fun _ _ _ h => h) (Or.inl ⟨by rfl, ?_⟩) ?_ ?_
            rotate_left
            · intro w'
              go_simp
              with_reducible rfl
            rotate_left
            · simp only [Act.put, List.setIfInBounds_toArray, List.set_cons_zero, List.set_cons_succ, i64_w, i32_w]
              rfl
            refine pure_ (i := 2) (N := some 4) (v := ?_) (a' := ?_) #[Y, Y, Y, Yn, Yn, Yn, Yn, Yn, Yn, Yn, Yn, Yn] rfl rfl (by kernel_rfl) (fun _ _ _ h => h) (Or.inl ⟨by rfl, ?_⟩) ?_ ?_
            rotate_left
            · intro w'
              go_simp
              with_reducible rfl
            rotate_left
            · simp only [Act.put, List.setIfInBounds_toArray, List.set_cons_zero, List.set_cons_succ, i64_w, i32_w]
              rfl
            refine take_ (i := 3) (N := some 5) (v := ?_) (a' := ?_) #[Y, Y, Y, Y, Yn, Yn, Yn, Yn, Yn, Yn, Yn, Yn] rfl rfl (by kernel_rfl) (fun _ _ _ h => h) (Or.inl ⟨by rfl, ?_⟩) hHeld ?_ ?_
            rotate_left
            · rintro w' ⟨s0, s1, s2⟩
              go_simp
              with_reducible rfl
            rotate_left
            · simp only [Act.put, List.setIfInBounds_toArray, List.set_cons_zero, List.set_cons_succ, i64_w, i32_w]
              rfl
            refine take_ (i := 4) (N := some 6) (v := ?_) (a' := ?_) #[Y, Y, Y, Y, Y, Yn, Yn, Yn, Yn, Yn, Yn, Yn] rfl rfl (by kernel_rfl) (fun _ _ _ h => h) (Or.inl ⟨by rfl, ?_⟩) hHeld ?_ ?_
            rotate_left
            · rintro w' ⟨s0, s1, s2⟩
              go_simp
              with_reducible rfl
            rotate_left
            · simp only [Act.put, List.setIfInBounds_toArray, List.set_cons_zero, List.set_cons_succ, i64_w, i32_w]
              rfl
            refine pure_ (i := 5) (N := some 7) (v := ?_) (a' := ?_) #[Y, Y, Y, Y, Y, Y, Yn, Yn, Yn, Yn, Yn, Yn] rfl rfl (by kernel_rfl) (fun _ _ _ h => h) (Or.inl ⟨by rfl, ?_⟩) ?_ ?_
            rotate_left
            · intro w'
              go_simp
              with_reducible rfl
            rotate_left
            · simp only [Act.put, List.setIfInBounds_toArray, List.set_cons_zero, List.set_cons_succ, i64_w, i32_w]
              rfl
            refine pure_ (i := 6) (N := some 8) (v := ?_) (a' := ?_) #[Y, Y, Y, Y, Y, Y, Y, Yn, Yn, Yn, Yn, Yn] rfl rfl (by kernel_rfl) (fun _ _ _ h => h) (Or.inl ⟨by rfl, ?_⟩) ?_ ?_
            rotate_left
            · intro w'
              go_simp
              with_reducible rfl
            rotate_left
            · simp only [Act.put, List.setIfInBounds_toArray, List.set_cons_zero, List.set_cons_succ, i64_w, i32_w]
              rfl
            refine take_ (i := 7) (N := some 9) (v := ?_) (a' := ?_) #[Y, Y, Y, Y, Y, Y, Y, Y, Yn, Yn, Yn, Yn] rfl rfl (by kernel_rfl) (fun _ _ _ h => h) (Or.inl ⟨by rfl, ?_⟩) hHeld ?_ ?_
            rotate_left
            · rintro w' ⟨s0, s1, s2⟩
              go_simp
              with_reducible rfl
            rotate_left
            · simp only [Act.put, List.setIfInBounds_toArray, List.set_cons_zero, List.set_cons_succ, i64_w, i32_w]
              rfl
            refine pure_ (i := 8) (N := some 10) (v := ?_) (a' := ?_) #[Y, Y, Y, Y, Y, Y, Y, Y, Y, Yn, Yn, Yn] rfl rfl (by kernel_rfl) (fun _ _ _ h => h) (Or.inl ⟨by rfl, ?_⟩) ?_ ?_
            rotate_left
            · intro w'
              go_simp
              with_reducible rfl
            rotate_left
            · simp only [Act.put, List.setIfInBounds_toArray, List.set_cons_zero, List.set_cons_succ, i64_w, i32_w]
              rfl
            refine pure_ (i := 9) (N := some 11) (v := ?_) (a' := ?_) #[Y, Y, Y, Y, Y, Y, Y, Y, Y, Y, Yn, Yn] rfl rfl (by kernel_rfl) (fun _ _ _ h => h) (Or.inl ⟨by rfl, ?_⟩) ?_ ?_
            rotate_left
            · intro w'
              go_simp
              with_reducible rfl
            rotate_left
            · simp only [Act.put, List.setIfInBounds_toArray, List.set_cons_zero, List.set_cons_succ, i64_w, i32_w]
              rfl
            refine one_ (i := 10) (N := some 12) #[Y, Y, Y, Y, Y, Y, Y, Y, Y, Y, Y, Yn] rfl rfl (by kernel_rfl) (by decide) (fun K hK => ?_)
            refine value_ (w1 := ?_) (v := ?_) (by rfl) rfl ?_ ?_
            rotate_left 2
            · go_simp
              constructor
              · rfl
              · rfl
            refine hK.out _ _ ⟨(blk_cell (by (with_reducible repeat (first | refine blk_drewN ?_ _ | refine blk_drew ?_ | refine blk_alloc ?_ _)); exact BR7.out) 0).trans rfl, (blk_cell (by (with_reducible repeat (first | refine blk_drewN ?_ _ | refine blk_drew ?_ | refine blk_alloc ?_ _)); exact HG7.out) 0).trans rfl, (blk_cell (by (with_reducible repeat (first | refine blk_drewN ?_ _ | refine blk_drew ?_ | refine blk_alloc ?_ _)); exact HG7.out) 3).trans rfl⟩ (fun hHeld => ?_)
            clear hK K
            refine norm_ (a' := ?_) ?_ ?_
            rotate_left
            · show Act.put _ (some 12) _ = _
              simp only [Act.put, List.setIfInBounds_toArray, List.set_cons_zero, List.set_cons_succ, i64_w, i32_w]
              rfl
            refine pure_ (i := 11) (N := some 1) (v := ?_) (a' := ?_) #[Y, Y, Y, Y, Y, Y, Y, Y, Y, Y, Y, Y] rfl rfl (by kernel_rfl) (fun _ _ _ h => h) (Or.inl ⟨by rfl, ?_⟩) ?_ ?_
            rotate_left
            · intro w'
              go_simp
              with_reducible rfl
            rotate_left
            · simp only [Act.put, List.setIfInBounds_toArray, List.set_cons_zero, List.set_cons_succ, i64_w, i32_w]
              rfl
            refine done_ (by kernel_rfl) ?_
            go_wp2
            go_ret
            exact ⟨_, rfl, V_one23 (Rn.ack ⟨id, timeout, state, count, msg, wrap64 (now + timeout)⟩) _ rfl HK7.out.size, (by first | exact HI7.out.alloc _ | (rw [HMS.out]; exact HI7.out.alloc _)), HB7.out.alloc (Nat.le_trans HBS.out HK7.out.size) _, HK7.out.alloc _⟩
        · have k4b : (state == 0) = false := beq_false_of_ne k4
          have HT := Aside0.mk (show Rn.handle ⟨id, timeout, state, count, msg, deadline⟩ p0 p1 p2 p3 p5 now = ([], ⟨id, timeout, state, count, msg, deadline⟩) by unfold Rn.handle; rw [if_pos k1, if_pos k2, if_neg k3, if_neg k4]; try rfl)
          rw [HT.out]
          clear k1 k2 k3 k4
          go_enter Tryd.func34, Tryd.ntmps34
          go_wp2_with (first | ((with_reducible refine gate_dst (N := 3) rfl ?_); refine box_event ?hg (N := 3) ?hd (cs := #[.pointer (some ⟨g, 0, none⟩)]) (t := 64) ?hr ?_; (case hd => rfl); (case hg => rfl); (case hr => first | (go_simp; done) | (go_simp; rfl)); intro gr hgr w1 hbox hb; have BRa := Aside0.mk hbox; have HIa := Aside0.mk (HI.out.below hb); have HGa := Aside0.mk (blk_below HG.out hb); have HBa := Aside0.mk (hb.mono HBS.out); have HKa := Aside0.mk (KeepR.of_below hb g); clear hb hbox hgr) | ((with_reducible refine gate_dst (N := 4) rfl ?_); refine box_event ?hg (N := 4) ?hd (cs := #[.int .i64 p0, .int .i64 p1, .int .i64 p2, .bool p3, .int .i64 p4, .string p5]) (t := 23) ?hr ?_; (case hd => rfl); (case hg => rfl); (case hr => first | (go_simp; done) | (go_simp; rfl)); intro gp hgp w2 hbox hb; have BP2 := Aside0.mk hbox; have BR2 := Aside0.mk (blk_below BRa.out hb); have HI2 := Aside0.mk (HIa.out.below hb); have HG2 := Aside0.mk (blk_below HGa.out hb); have HB2 := Aside0.mk (HBa.out.trans (hb.mono (Nat.le_trans HBS.out HKa.out.size))); have HK2 := Aside0.mk (HKa.out.trans (KeepR.of_below hb g)); have HNR := Aside0.mk (blk_ne BR2.out HG2.out (by decide)); have HNP := Aside0.mk (blk_ne BP2.out HG2.out (by decide)); have cr := (blk_cell BR2.out 0).trans rfl; have c0 := (blk_cell HG2.out 0).trans rfl; have y1 := (blk_cell BP2.out 1).trans rfl; clear hb hbox hgp BRa HIa HGa HBa HKa))
          have HI3 := Aside0.mk HI2.out.drew
          have HG3 := Aside0.mk (blk_drew HG2.out)
          have BR3 := Aside0.mk (blk_drew BR2.out)
          have BP3 := Aside0.mk (blk_drew BP2.out)
          have HB3 := Aside0.mk HB2.out.drew
          have HK3 := Aside0.mk HK2.out.drew
          refine start_ (n := 7) (S := fun w' => w'.cell? ⟨gp, 1, none⟩ = some (.int .i64 p1) ∧ w'.cell? ⟨gr, 0, none⟩ = some (.pointer (some ⟨g, 0, none⟩)) ∧ w'.cell? ⟨g, 0, none⟩ = some (.int .i64 id)) (ds := []) #[Yn, Yn, Yn, Yn, Yn, Yn, Yn] (by kernel_rfl) rfl rfl ⟨y1, cr, c0⟩ (fun hHeld => ?_)
          generalize w2.drew = w3 at HI3 HG3 BR3 BP3 HB3 HK3 hHeld ⊢
          refine pure_ (i := 0) (N := some 8) (v := ?_) (a' := ?_) #[Y, Yn, Yn, Yn, Yn, Yn, Yn] rfl rfl (by kernel_rfl) (fun _ _ _ h => h) (Or.inl ⟨by rfl, ?_⟩) ?_ ?_
          rotate_left
          · intro w'
            go_simp
            with_reducible rfl
          rotate_left
          · simp only [Act.put, List.setIfInBounds_toArray, List.set_cons_zero, List.set_cons_succ, i64_w, i32_w]
            rfl
          refine take_ (i := 1) (N := some 9) (v := ?_) (a' := ?_) #[Y, Y, Yn, Yn, Yn, Yn, Yn] rfl rfl (by kernel_rfl) (fun _ _ _ h => h) (Or.inl ⟨by rfl, ?_⟩) hHeld ?_ ?_
          rotate_left
          · rintro w' ⟨s0, s1, s2⟩
            go_simp
            with_reducible rfl
          rotate_left
          · simp only [Act.put, List.setIfInBounds_toArray, List.set_cons_zero, List.set_cons_succ, i64_w, i32_w]
            rfl
          refine take_ (i := 2) (N := some 10) (v := ?_) (a' := ?_) #[Y, Y, Y, Yn, Yn, Yn, Yn] rfl rfl (by kernel_rfl) (fun _ _ _ h => h) (Or.inl ⟨by rfl, ?_⟩) hHeld ?_ ?_
          rotate_left
          · rintro w' ⟨s0, s1, s2⟩
            go_simp
            with_reducible rfl
          rotate_left
          · simp only [Act.put, List.setIfInBounds_toArray, List.set_cons_zero, List.set_cons_succ, i64_w, i32_w]
            rfl
          refine pure_ (i := 3) (N := some 11) (v := ?_) (a' := ?_) #[Y, Y, Y, Y, Yn, Yn, Yn] rfl rfl (by kernel_rfl) (fun _ _ _ h => h) (Or.inl ⟨by rfl, ?_⟩) ?_ ?_
          rotate_left
          · intro w'
            go_simp
            with_reducible rfl
          rotate_left
          · simp only [Act.put, List.setIfInBounds_toArray, List.set_cons_zero, List.set_cons_succ, i64_w, i32_w]
            rfl
          refine pure_ (i := 4) (N := some 12) (v := ?_) (a' := ?_) #[Y, Y, Y, Y, Y, Yn, Yn] rfl rfl (by kernel_rfl) (fun _ _ _ h => h) (Or.inl ⟨by rfl, ?_⟩) ?_ ?_
          rotate_left
          · intro w'
            go_simp
            with_reducible rfl
          rotate_left
          · simp only [Act.put, List.setIfInBounds_toArray, List.set_cons_zero, List.set_cons_succ, i64_w, i32_w]
            rfl
          refine take_ (i := 5) (N := some 13) (v := ?_) (a' := ?_) #[Y, Y, Y, Y, Y, Y, Yn] rfl rfl (by kernel_rfl) (fun _ _ _ h => h) (Or.inl ⟨by rfl, ?_⟩) hHeld ?_ ?_
          rotate_left
          · rintro w' ⟨s0, s1, s2⟩
            go_simp
            with_reducible rfl
          rotate_left
          · simp only [Act.put, List.setIfInBounds_toArray, List.set_cons_zero, List.set_cons_succ, i64_w, i32_w]
            rfl
          refine pure_ (i := 6) (N := some 14) (v := ?_) (a' := ?_) #[Y, Y, Y, Y, Y, Y, Y] rfl rfl (by kernel_rfl) (fun _ _ _ h => h) (Or.inl ⟨by rfl, ?_⟩) ?_ ?_
          rotate_left
          · intro w'
            go_simp
            with_reducible rfl
          rotate_left
          · simp only [Act.put, List.setIfInBounds_toArray, List.set_cons_zero, List.set_cons_succ, i64_w, i32_w]
            rfl
          refine done_ (by kernel_rfl) ?_
          clear cr c0 y1 hHeld
          have cr := (blk_cell BR3.out 0).trans rfl
          have y0 := (blk_cell BP3.out 0).trans rfl
          have c2 := (blk_cell HG3.out 2).trans rfl
          go_wp2
          go_ret
          exact ⟨_, rfl, FV.nil k23 23 _ _, HI3.out, HB3.out, HK3.out⟩
    · have k2b : (p0 == 1) = false := beq_false_of_ne k2
      by_cases k7 : p0 = 3
      · have k7b : (p0 == 3) = true := by rw [k7]; rfl
        by_cases k4 : state = 0
        · have k4b : (state == 0) = true := by rw [k4]; rfl
          have HT := Aside0.mk (show Rn.handle ⟨id, timeout, state, count, msg, deadline⟩ p0 p1 p2 p3 p5 now = ([], ⟨id, timeout, 2, count, msg, deadline⟩) by unfold Rn.handle; rw [if_pos k1, if_neg k2, if_pos k7, if_pos k4]; try rfl)
          rw [HT.out]
          clear k1 k2 k4 k7
          go_enter Tryd.func34, Tryd.ntmps34
          go_wp2_with (first | ((with_reducible refine gate_dst (N := 3) rfl ?_); refine box_event ?hg (N := 3) ?hd (cs := #[.pointer (some ⟨g, 0, none⟩)]) (t := 64) ?hr ?_; (case hd => rfl); (case hg => rfl); (case hr => first | (go_simp; done) | (go_simp; rfl)); intro gr hgr w1 hbox hb; have BRa := Aside0.mk hbox; have HIa := Aside0.mk (HI.out.below hb); have HGa := Aside0.mk (blk_below HG.out hb); have HBa := Aside0.mk (hb.mono HBS.out); have HKa := Aside0.mk (KeepR.of_below hb g); clear hb hbox hgr) | ((with_reducible refine gate_dst (N := 4) rfl ?_); refine box_event ?hg (N := 4) ?hd (cs := #[.int .i64 p0, .int .i64 p1, .int .i64 p2, .bool p3, .int .i64 p4, .string p5]) (t := 23) ?hr ?_; (case hd => rfl); (case hg => rfl); (case hr => first | (go_simp; done) | (go_simp; rfl)); intro gp hgp w2 hbox hb; have BP2 := Aside0.mk hbox; have BR2 := Aside0.mk (blk_below BRa.out hb); have HI2 := Aside0.mk (HIa.out.below hb); have HG2 := Aside0.mk (blk_below HGa.out hb); have HB2 := Aside0.mk (HBa.out.trans (hb.mono (Nat.le_trans HBS.out HKa.out.size))); have HK2 := Aside0.mk (HKa.out.trans (KeepR.of_below hb g)); have HNR := Aside0.mk (blk_ne BR2.out HG2.out (by decide)); have HNP := Aside0.mk (blk_ne BP2.out HG2.out (by decide)); have cr := (blk_cell BR2.out 0).trans rfl; have c0 := (blk_cell HG2.out 0).trans rfl; have y1 := (blk_cell BP2.out 1).trans rfl; clear hb hbox hgp BRa HIa HGa HBa HKa))
          have HI3 := Aside0.mk HI2.out.drew
          have HG3 := Aside0.mk (blk_drew HG2.out)
          have BR3 := Aside0.mk (blk_drew BR2.out)
          have BP3 := Aside0.mk (blk_drew BP2.out)
          have HB3 := Aside0.mk HB2.out.drew
          have HK3 := Aside0.mk HK2.out.drew
          refine start_ (n := 7) (S := fun w' => w'.cell? ⟨gp, 1, none⟩ = some (.int .i64 p1) ∧ w'.cell? ⟨gr, 0, none⟩ = some (.pointer (some ⟨g, 0, none⟩)) ∧ w'.cell? ⟨g, 0, none⟩ = some (.int .i64 id)) (ds := []) #[Yn, Yn, Yn, Yn, Yn, Yn, Yn] (by kernel_rfl) rfl rfl ⟨y1, cr, c0⟩ (fun hHeld => ?_)
          generalize w2.drew = w3 at HI3 HG3 BR3 BP3 HB3 HK3 hHeld ⊢
          refine pure_ (i := 0) (N := some 8) (v := ?_) (a' := ?_) #[Y, Yn, Yn, Yn, Yn, Yn, Yn] rfl rfl (by kernel_rfl) (fun _ _ _ h => h) (Or.inl ⟨by rfl, ?_⟩) ?_ ?_
          rotate_left
          · intro w'
            go_simp
            with_reducible rfl
          rotate_left
          · simp only [Act.put, List.setIfInBounds_toArray, List.set_cons_zero, List.set_cons_succ, i64_w, i32_w]
            rfl
          refine take_ (i := 1) (N := some 9) (v := ?_) (a' := ?_) #[Y, Y, Yn, Yn, Yn, Yn, Yn] rfl rfl (by kernel_rfl) (fun _ _ _ h => h) (Or.inl ⟨by rfl, ?_⟩) hHeld ?_ ?_
          rotate_left
          · rintro w' ⟨s0, s1, s2⟩
            go_simp
            with_reducible rfl
          rotate_left
          · simp only [Act.put, List.setIfInBounds_toArray, List.set_cons_zero, List.set_cons_succ, i64_w, i32_w]
            rfl
          refine take_ (i := 2) (N := some 10) (v := ?_) (a' := ?_) #[Y, Y, Y, Yn, Yn, Yn, Yn] rfl rfl (by kernel_rfl) (fun _ _ _ h => h) (Or.inl ⟨by rfl, ?_⟩) hHeld ?_ ?_
          rotate_left
          · rintro w' ⟨s0, s1, s2⟩
            go_simp
            with_reducible rfl
          rotate_left
          · simp only [Act.put, List.setIfInBounds_toArray, List.set_cons_zero, List.set_cons_succ, i64_w, i32_w]
            rfl
          refine pure_ (i := 3) (N := some 11) (v := ?_) (a' := ?_) #[Y, Y, Y, Y, Yn, Yn, Yn] rfl rfl (by kernel_rfl) (fun _ _ _ h => h) (Or.inl ⟨by rfl, ?_⟩) ?_ ?_
          rotate_left
          · intro w'
            go_simp
            with_reducible rfl
          rotate_left
          · simp only [Act.put, List.setIfInBounds_toArray, List.set_cons_zero, List.set_cons_succ, i64_w, i32_w]
            rfl
          refine pure_ (i := 4) (N := some 12) (v := ?_) (a' := ?_) #[Y, Y, Y, Y, Y, Yn, Yn] rfl rfl (by kernel_rfl) (fun _ _ _ h => h) (Or.inl ⟨by rfl, ?_⟩) ?_ ?_
          rotate_left
          · intro w'
            go_simp
            with_reducible rfl
          rotate_left
          · simp only [Act.put, List.setIfInBounds_toArray, List.set_cons_zero, List.set_cons_succ, i64_w, i32_w]
            rfl
          refine take_ (i := 5) (N := some 13) (v := ?_) (a' := ?_) #[Y, Y, Y, Y, Y, Y, Yn] rfl rfl (by kernel_rfl) (fun _ _ _ h => h) (Or.inl ⟨by rfl, ?_⟩) hHeld ?_ ?_
          rotate_left
          · rintro w' ⟨s0, s1, s2⟩
            go_simp
            with_reducible rfl
          rotate_left
          · simp only [Act.put, List.setIfInBounds_toArray, List.set_cons_zero, List.set_cons_succ, i64_w, i32_w]
            rfl
          refine pure_ (i := 6) (N := some 14) (v := ?_) (a' := ?_) #[Y, Y, Y, Y, Y, Y, Y] rfl rfl (by kernel_rfl) (fun _ _ _ h => h) (Or.inl ⟨by rfl, ?_⟩) ?_ ?_
          rotate_left
          · intro w'
            go_simp
            with_reducible rfl
          rotate_left
          · simp only [Act.put, List.setIfInBounds_toArray, List.set_cons_zero, List.set_cons_succ, i64_w, i32_w]
            rfl
          refine done_ (by kernel_rfl) ?_
          clear cr c0 y1 hHeld
          have cr := (blk_cell BR3.out 0).trans rfl
          have y0 := (blk_cell BP3.out 0).trans rfl
          have c2 := (blk_cell HG3.out 2).trans rfl
          have f2 := blk_frozen HG3.out 2
          have HI4 := Aside0.mk (HI3.out.set_state 2)
          have HG4 := Aside0.mk (blk_put HG3.out 2 (.int .i64 2) rfl)
          have BR4 := Aside0.mk (blk_far BR3.out (p := ⟨g, 2, none⟩) HNR.out (.int .i64 2))
          have BP4 := Aside0.mk (blk_far BP3.out (p := ⟨g, 2, none⟩) HNP.out (.int .i64 2))
          have HB4 := Aside0.mk (HB3.out.setCell (p := ⟨g, 2, none⟩) HGE.out (.int .i64 2))
          have HK4 := Aside0.mk (HK3.out.set 2 (.int .i64 2))
          go_wp2
          go_ret
          exact ⟨_, rfl, FV.nil k23 23 _ _, HI4.out, HB4.out, HK4.out⟩
        · have k4b : (state == 0) = false := beq_false_of_ne k4
          have HT := Aside0.mk (show Rn.handle ⟨id, timeout, state, count, msg, deadline⟩ p0 p1 p2 p3 p5 now = ([], ⟨id, timeout, state, count, msg, deadline⟩) by unfold Rn.handle; rw [if_pos k1, if_neg k2, if_pos k7, if_neg k4]; try rfl)
          rw [HT.out]
          clear k1 k2 k7 k4
          go_enter Tryd.func34, Tryd.ntmps34
          go_wp2_with (first | ((with_reducible refine gate_dst (N := 3) rfl ?_); refine box_event ?hg (N := 3) ?hd (cs := #[.pointer (some ⟨g, 0, none⟩)]) (t := 64) ?hr ?_; (case hd => rfl); (case hg => rfl); (case hr => first | (go_simp; done) | (go_simp; rfl)); intro gr hgr w1 hbox hb; have BRa := Aside0.mk hbox; have HIa := Aside0.mk (HI.out.below hb); have HGa := Aside0.mk (blk_below HG.out hb); have HBa := Aside0.mk (hb.mono HBS.out); have HKa := Aside0.mk (KeepR.of_below hb g); clear hb hbox hgr) | ((with_reducible refine gate_dst (N := 4) rfl ?_); refine box_event ?hg (N := 4) ?hd (cs := #[.int .i64 p0, .int .i64 p1, .int .i64 p2, .bool p3, .int .i64 p4, .string p5]) (t := 23) ?hr ?_; (case hd => rfl); (case hg => rfl); (case hr => first | (go_simp; done) | (go_simp; rfl)); intro gp hgp w2 hbox hb; have BP2 := Aside0.mk hbox; have BR2 := Aside0.mk (blk_below BRa.out hb); have HI2 := Aside0.mk (HIa.out.below hb); have HG2 := Aside0.mk (blk_below HGa.out hb); have HB2 := Aside0.mk (HBa.out.trans (hb.mono (Nat.le_trans HBS.out HKa.out.size))); have HK2 := Aside0.mk (HKa.out.trans (KeepR.of_below hb g)); have HNR := Aside0.mk (blk_ne BR2.out HG2.out (by decide)); have HNP := Aside0.mk (blk_ne BP2.out HG2.out (by decide)); have cr := (blk_cell BR2.out 0).trans rfl; have c0 := (blk_cell HG2.out 0).trans rfl; have y1 := (blk_cell BP2.out 1).trans rfl; clear hb hbox hgp BRa HIa HGa HBa HKa))
          have HI3 := Aside0.mk HI2.out.drew
          have HG3 := Aside0.mk (blk_drew HG2.out)
          have BR3 := Aside0.mk (blk_drew BR2.out)
          have BP3 := Aside0.mk (blk_drew BP2.out)
          have HB3 := Aside0.mk HB2.out.drew
          have HK3 := Aside0.mk HK2.out.drew
          refine start_ (n := 7) (S := fun w' => w'.cell? ⟨gp, 1, none⟩ = some (.int .i64 p1) ∧ w'.cell? ⟨gr, 0, none⟩ = some (.pointer (some ⟨g, 0, none⟩)) ∧ w'.cell? ⟨g, 0, none⟩ = some (.int .i64 id)) (ds := []) #[Yn, Yn, Yn, Yn, Yn, Yn, Yn] (by kernel_rfl) rfl rfl ⟨y1, cr, c0⟩ (fun hHeld => ?_)
          generalize w2.drew = w3 at HI3 HG3 BR3 BP3 HB3 HK3 hHeld ⊢
          refine pure_ (i := 0) (N := some 8) (v := ?_) (a' := ?_) #[Y, Yn, Yn, Yn, Yn, Yn, Yn] rfl rfl (by kernel_rfl) (fun _ _ _ h => h) (Or.inl ⟨by rfl, ?_⟩) ?_ ?_
          rotate_left
          · intro w'
            go_simp
            with_reducible rfl
          rotate_left
          · simp only [Act.put, List.setIfInBounds_toArray, List.set_cons_zero, List.set_cons_succ, i64_w, i32_w]
            rfl
          refine take_ (i := 1) (N := some 9) (v := ?_) (a' := ?_) #[Y, Y, Yn, Yn, Yn, Yn, Yn] rfl rfl (by kernel_rfl) (fun _ _ _ h => h) (Or.inl ⟨by rfl, ?_⟩) hHeld ?_ ?_
          rotate_left
          · rintro w' ⟨s0, s1, s2⟩
            go_simp
            with_reducible rfl
          rotate_left
          · simp only [Act.put, List.setIfInBounds_toArray, List.set_cons_zero, List.set_cons_succ, i64_w, i32_w]
            rfl
          refine take_ (i := 2) (N := some 10) (v := ?_) (a' := ?_) #[Y, Y, Y, Yn, Yn, Yn, Yn] rfl rfl (by kernel_rfl) (fun _ _ _ h => h) (Or.inl ⟨by rfl, ?_⟩) hHeld ?_ ?_
          rotate_left
          · rintro w' ⟨s0, s1, s2⟩
            go_simp
            with_reducible rfl
          rotate_left
          · simp only [Act.put, List.setIfInBounds_toArray, List.set_cons_zero, List.set_cons_succ, i64_w, i32_w]
            rfl
          refine pure_ (i := 3) (N := some 11) (v := ?_) (a' := ?_) #[Y, Y, Y, Y, Yn, Yn, Yn] rfl rfl (by kernel_rfl) (fun _ _ _ h => h) (Or.inl ⟨by rfl, ?_⟩) ?_ ?_
          rotate_left
          · intro w'
            go_simp
            with_reducible rfl
          rotate_left
          · simp only [Act.put, List.setIfInBounds_toArray, List.set_cons_zero, List.set_cons_succ, i64_w, i32_w]
            rfl
          refine pure_ (i := 4) (N := some 12) (v := ?_) (a' := ?_) #[Y, Y, Y, Y, Y, Yn, Yn] rfl rfl (by kernel_rfl) (fun _ _ _ h => h) (Or.inl ⟨by rfl, ?_⟩) ?_ ?_
          rotate_left
          · intro w'
            go_simp
            with_reducible rfl
          rotate_left
          · simp only [Act.put, List.setIfInBounds_toArray, List.set_cons_zero, List.set_cons_succ, i64_w, i32_w]
            rfl
          refine take_ (i := 5) (N := some 13) (v := ?_) (a' := ?_) #[Y, Y, Y, Y, Y, Y, Yn] rfl rfl (by kernel_rfl) (fun _ _ _ h => h) (Or.inl ⟨by rfl, ?_⟩) hHeld ?_ ?_
          rotate_left
          · rintro w' ⟨s0, s1, s2⟩
            go_simp
            with_reducible rfl
          rotate_left
          · simp only [Act.put, List.setIfInBounds_toArray, List.set_cons_zero, List.set_cons_succ, i64_w, i32_w]
            rfl
          refine pure_ (i := 6) (N := some 14) (v := ?_) (a' := ?_) #[Y, Y, Y, Y, Y, Y, Y] rfl rfl (by kernel_rfl) (fun _ _ _ h => h) (Or.inl ⟨by rfl, ?_⟩) ?_ ?_
          rotate_left
          · intro w'
            go_simp
            with_reducible rfl
          rotate_left
          · simp only [Act.put, List.setIfInBounds_toArray, List.set_cons_zero, List.set_cons_succ, i64_w, i32_w]
            rfl
          refine done_ (by kernel_rfl) ?_
          clear cr c0 y1 hHeld
          have cr := (blk_cell BR3.out 0).trans rfl
          have y0 := (blk_cell BP3.out 0).trans rfl
          have c2 := (blk_cell HG3.out 2).trans rfl
          go_wp2
          go_ret
          exact ⟨_, rfl, FV.nil k23 23 _ _, HI3.out, HB3.out, HK3.out⟩
      · have k7b : (p0 == 3) = false := beq_false_of_ne k7
        have HT := Aside0.mk (show Rn.handle ⟨id, timeout, state, count, msg, deadline⟩ p0 p1 p2 p3 p5 now = ([], ⟨id, timeout, state, count, msg, deadline⟩) by unfold Rn.handle; rw [if_pos k1, if_neg k2, if_neg k7]; try rfl)
        rw [HT.out]
        clear k1 k2 k7
        go_enter Tryd.func34, Tryd.ntmps34
        go_wp2_with (first | ((with_reducible refine gate_dst (N := 3) rfl ?_); refine box_event ?hg (N := 3) ?hd (cs := #[.pointer (some ⟨g, 0, none⟩)]) (t := 64) ?hr ?_; (case hd => rfl); (case hg => rfl); (case hr => first | (go_simp; done) | (go_simp; rfl)); intro gr hgr w1 hbox hb; have BRa := Aside0.mk hbox; have HIa := Aside0.mk (HI.out.below hb); have HGa := Aside0.mk (blk_below HG.out hb); have HBa := Aside0.mk (hb.mono HBS.out); have HKa := Aside0.mk (KeepR.of_below hb g); clear hb hbox hgr) | ((with_reducible refine gate_dst (N := 4) rfl ?_); refine box_event ?hg (N := 4) ?hd (cs := #[.int .i64 p0, .int .i64 p1, .int .i64 p2, .bool p3, .int .i64 p4, .string p5]) (t := 23) ?hr ?_; (case hd => rfl); (case hg => rfl); (case hr => first | (go_simp; done) | (go_simp; rfl)); intro gp hgp w2 hbox hb; have BP2 := Aside0.mk hbox; have BR2 := Aside0.mk (blk_below BRa.out hb); have HI2 := Aside0.mk (HIa.out.below hb); have HG2 := Aside0.mk (blk_below HGa.out hb); have HB2 := Aside0.mk (HBa.out.trans (hb.mono (Nat.le_trans HBS.out HKa.out.size))); have HK2 := Aside0.mk (HKa.out.trans (KeepR.of_below hb g)); have HNR := Aside0.mk (blk_ne BR2.out HG2.out (by decide)); have HNP := Aside0.mk (blk_ne BP2.out HG2.out (by decide)); have cr := (blk_cell BR2.out 0).trans rfl; have c0 := (blk_cell HG2.out 0).trans rfl; have y1 := (blk_cell BP2.out 1).trans rfl; clear hb hbox hgp BRa HIa HGa HBa HKa))
        have HI3 := Aside0.mk HI2.out.drew
        have HG3 := Aside0.mk (blk_drew HG2.out)
        have BR3 := Aside0.mk (blk_drew BR2.out)
        have BP3 := Aside0.mk (blk_drew BP2.out)
        have HB3 := Aside0.mk HB2.out.drew
        have HK3 := Aside0.mk HK2.out.drew
        refine start_ (n := 7) (S := fun w' => w'.cell? ⟨gp, 1, none⟩ = some (.int .i64 p1) ∧ w'.cell? ⟨gr, 0, none⟩ = some (.pointer (some ⟨g, 0, none⟩)) ∧ w'.cell? ⟨g, 0, none⟩ = some (.int .i64 id)) (ds := []) #[Yn, Yn, Yn, Yn, Yn, Yn, Yn] (by kernel_rfl) rfl rfl ⟨y1, cr, c0⟩ (fun hHeld => ?_)
        generalize w2.drew = w3 at HI3 HG3 BR3 BP3 HB3 HK3 hHeld ⊢
        refine pure_ (i := 0) (N := some 8) (v := ?_) (a' := ?_) #[Y, Yn, Yn, Yn, Yn, Yn, Yn] rfl rfl (by kernel_rfl) (fun _ _ _ h => h) (Or.inl ⟨by rfl, ?_⟩) ?_ ?_
        rotate_left
        · intro w'
          go_simp
          with_reducible rfl
        rotate_left
        · simp only [Act.put, List.setIfInBounds_toArray, List.set_cons_zero, List.set_cons_succ, i64_w, i32_w]
          rfl
        refine take_ (i := 1) (N := some 9) (v := ?_) (a' := ?_) #[Y, Y, Yn, Yn, Yn, Yn, Yn] rfl rfl (by kernel_rfl) (fun _ _ _ h => h) (Or.inl ⟨by rfl, ?_⟩) hHeld ?_ ?_
        rotate_left
        · rintro w' ⟨s0, s1, s2⟩
          go_simp
          with_reducible rfl
        rotate_left
        · simp only [Act.put, List.setIfInBounds_toArray, List.set_cons_zero, List.set_cons_succ, i64_w, i32_w]
          rfl
        refine take_ (i := 2) (N := some 10) (v := ?_) (a' := ?_) #[Y, Y, Y, Yn, Yn, Yn, Yn] rfl rfl (by kernel_rfl) (fun _ _ _ h => h) (Or.inl ⟨by rfl, ?_⟩) hHeld ?_ ?_
        rotate_left
        · rintro w' ⟨s0, s1, s2⟩
          go_simp
          with_reducible rfl
        rotate_left
        · simp only [Act.put, List.setIfInBounds_toArray, List.set_cons_zero, List.set_cons_succ, i64_w, i32_w]
          rfl
        refine pure_ (i := 3) (N := some 11) (v := ?_) (a' := ?_) #[Y, Y, Y, Y, Yn, Yn, Yn] rfl rfl (by kernel_rfl) (fun _ _ _ h => h) (Or.inl ⟨by rfl, ?_⟩) ?_ ?_
        rotate_left
        · intro w'
          go_simp
          with_reducible rfl
        rotate_left
        · simp only [Act.put, List.setIfInBounds_toArray, List.set_cons_zero, List.set_cons_succ, i64_w, i32_w]
          rfl
        refine pure_ (i := 4) (N := some 12) (v := ?_) (a' := ?_) #[Y, Y, Y, Y, Y, Yn, Yn] rfl rfl (by kernel_rfl) (fun _ _ _ h => h) (Or.inl ⟨by rfl, ?_⟩) ?_ ?_
        rotate_left
        · intro w'
          go_simp
          with_reducible rfl
        rotate_left
        · simp only [Act.put, List.setIfInBounds_toArray, List.set_cons_zero, List.set_cons_succ, i64_w, i32_w]
          rfl
        refine take_ (i := 5) (N := some 13) (v := ?_) (a' := ?_) #[Y, Y, Y, Y, Y, Y, Yn] rfl rfl (by kernel_rfl) (fun _ _ _ h => h) (Or.inl ⟨by rfl, ?_⟩) hHeld ?_ ?_
        rotate_left
        · rintro w' ⟨s0, s1, s2⟩
          go_simp
          with_reducible rfl
        rotate_left
        · simp only [Act.put, List.setIfInBounds_toArray, List.set_cons_zero, List.set_cons_succ, i64_w, i32_w]
          rfl
        refine pure_ (i := 6) (N := some 14) (v := ?_) (a' := ?_) #[Y, Y, Y, Y, Y, Y, Y] rfl rfl (by kernel_rfl) (fun _ _ _ h => h) (Or.inl ⟨by rfl, ?_⟩) ?_ ?_
        rotate_left
        · intro w'
          go_simp
          with_reducible rfl
        rotate_left
        · simp only [Act.put, List.setIfInBounds_toArray, List.set_cons_zero, List.set_cons_succ, i64_w, i32_w]
          rfl
        refine done_ (by kernel_rfl) ?_
        clear cr c0 y1 hHeld
        have cr := (blk_cell BR3.out 0).trans rfl
        have y0 := (blk_cell BP3.out 0).trans rfl
        have c2 := (blk_cell HG3.out 2).trans rfl
        go_wp2
        go_ret
        exact ⟨_, rfl, FV.nil k23 23 _ _, HI3.out, HB3.out, HK3.out⟩
  · have k1b : (p1 != id) = true := bne_iff_ne.mpr k1
    have HT := Aside0.mk (show Rn.handle ⟨id, timeout, state, count, msg, deadline⟩ p0 p1 p2 p3 p5 now = ([], ⟨id, timeout, state, count, msg, deadline⟩) by unfold Rn.handle; rw [if_neg k1]; try rfl)
    rw [HT.out]
    clear k1
    go_enter Tryd.func34, Tryd.ntmps34
    go_wp2_with (first | ((with_reducible refine gate_dst (N := 3) rfl ?_); refine box_event ?hg (N := 3) ?hd (cs := #[.pointer (some ⟨g, 0, none⟩)]) (t := 64) ?hr ?_; (case hd => rfl); (case hg => rfl); (case hr => first | (go_simp; done) | (go_simp; rfl)); intro gr hgr w1 hbox hb; have BRa := Aside0.mk hbox; have HIa := Aside0.mk (HI.out.below hb); have HGa := Aside0.mk (blk_below HG.out hb); have HBa := Aside0.mk (hb.mono HBS.out); have HKa := Aside0.mk (KeepR.of_below hb g); clear hb hbox hgr) | ((with_reducible refine gate_dst (N := 4) rfl ?_); refine box_event ?hg (N := 4) ?hd (cs := #[.int .i64 p0, .int .i64 p1, .int .i64 p2, .bool p3, .int .i64 p4, .string p5]) (t := 23) ?hr ?_; (case hd => rfl); (case hg => rfl); (case hr => first | (go_simp; done) | (go_simp; rfl)); intro gp hgp w2 hbox hb; have BP2 := Aside0.mk hbox; have BR2 := Aside0.mk (blk_below BRa.out hb); have HI2 := Aside0.mk (HIa.out.below hb); have HG2 := Aside0.mk (blk_below HGa.out hb); have HB2 := Aside0.mk (HBa.out.trans (hb.mono (Nat.le_trans HBS.out HKa.out.size))); have HK2 := Aside0.mk (HKa.out.trans (KeepR.of_below hb g)); have HNR := Aside0.mk (blk_ne BR2.out HG2.out (by decide)); have HNP := Aside0.mk (blk_ne BP2.out HG2.out (by decide)); have cr := (blk_cell BR2.out 0).trans rfl; have c0 := (blk_cell HG2.out 0).trans rfl; have y1 := (blk_cell BP2.out 1).trans rfl; clear hb hbox hgp BRa HIa HGa HBa HKa))
    have HI3 := Aside0.mk HI2.out.drew
    have HG3 := Aside0.mk (blk_drew HG2.out)
    have BR3 := Aside0.mk (blk_drew BR2.out)
    have BP3 := Aside0.mk (blk_drew BP2.out)
    have HB3 := Aside0.mk HB2.out.drew
    have HK3 := Aside0.mk HK2.out.drew
    refine start_ (n := 7) (S := fun w' => w'.cell? ⟨gp, 1, none⟩ = some (.int .i64 p1) ∧ w'.cell? ⟨gr, 0, none⟩ = some (.pointer (some ⟨g, 0, none⟩)) ∧ w'.cell? ⟨g, 0, none⟩ = some (.int .i64 id)) (ds := []) #[Yn, Yn, Yn, Yn, Yn, Yn, Yn] (by kernel_rfl) rfl rfl ⟨y1, cr, c0⟩ (fun hHeld => ?_)
    generalize w2.drew = w3 at HI3 HG3 BR3 BP3 HB3 HK3 hHeld ⊢
    refine pure_ (i := 0) (N := some 8) (v := ?_) (a' := ?_) #[Y, Yn, Yn, Yn, Yn, Yn, Yn] rfl rfl (by kernel_rfl) (fun _ _ _ h => h) (Or.inl ⟨by rfl, ?_⟩) ?_ ?_
    rotate_left
    · intro w'
      go_simp
      with_reducible rfl
    rotate_left
    · simp only [Act.put, List.setIfInBounds_toArray, List.set_cons_zero, List.set_cons_succ, i64_w, i32_w]
      rfl
    refine take_ (i := 1) (N := some 9) (v := ?_) (a' := ?_) #[Y, Y, Yn, Yn, Yn, Yn, Yn] rfl rfl (by kernel_rfl) (fun _ _ _ h => h) (Or.inl ⟨by rfl, ?_⟩) hHeld ?_ ?_
    rotate_left
    · rintro w' ⟨s0, s1, s2⟩
      go_simp
      with_reducible rfl
    rotate_left
    · simp only [Act.put, List.setIfInBounds_toArray, List.set_cons_zero, List.set_cons_succ, i64_w, i32_w]
      rfl
    refine take_ (i := 2) (N := some 10) (v := ?_) (a' := ?_) #[Y, Y, Y, Yn, Yn, Yn, Yn] rfl rfl (by kernel_rfl) (fun _ _ _ h => h) (Or.inl ⟨by rfl, ?_⟩) hHeld ?_ ?_
    rotate_left
    · rintro w' ⟨s0, s1, s2⟩
      go_simp
      with_reducible rfl
    rotate_left
    · simp only [Act.put, List.setIfInBounds_toArray, List.set_cons_zero, List.set_cons_succ, i64_w, i32_w]
      rfl
    refine pure_ (i := 3) (N := some 11) (v := ?_) (a' := ?_) #[Y, Y, Y, Y, Yn, Yn, Yn] rfl rfl (by kernel_rfl) (fun _ _ _ h => h) (Or.inl ⟨by rfl, ?_⟩) ?_ ?_
    rotate_left
    · intro w'
      go_simp
      with_reducible rfl
    rotate_left
    · simp only [Act.put, List.setIfInBounds_toArray, List.set_cons_zero, List.set_cons_succ, i64_w, i32_w]
      rfl
    refine pure_ (i := 4) (N := some 12) (v := ?_) (a' := ?_) #[Y, Y, Y, Y, Y, Yn, Yn] rfl rfl (by kernel_rfl) (fun _ _ _ h => h) (Or.inl ⟨by rfl, ?_⟩) ?_ ?_
    rotate_left
    · intro w'
      go_simp
      with_reducible rfl
    rotate_left
    · simp only [Act.put, List.setIfInBounds_toArray, List.set_cons_zero, List.set_cons_succ, i64_w, i32_w]
      rfl
    refine take_ (i := 5) (N := some 13) (v := ?_) (a' := ?_) #[Y, Y, Y, Y, Y, Y, Yn] rfl rfl (by kernel_rfl) (fun _ _ _ h => h) (Or.inl ⟨by rfl, ?_⟩) hHeld ?_ ?_
    rotate_left
    · rintro w' ⟨s0, s1, s2⟩
      go_simp
      with_reducible rfl
    rotate_left
    · simp only [Act.put, List.setIfInBounds_toArray, List.set_cons_zero, List.set_cons_succ, i64_w, i32_w]
      rfl
    refine pure_ (i := 6) (N := some 14) (v := ?_) (a' := ?_) #[Y, Y, Y, Y, Y, Y, Y] rfl rfl (by kernel_rfl) (fun _ _ _ h => h) (Or.inl ⟨by rfl, ?_⟩) ?_ ?_
    rotate_left
    · intro w'
      go_simp
      with_reducible rfl
    rotate_left
    · simp only [Act.put, List.setIfInBounds_toArray, List.set_cons_zero, List.set_cons_succ, i64_w, i32_w]
      rfl
    refine done_ (by kernel_rfl) ?_
    go_wp2
    go_ret
    exact ⟨_, rfl, FV.nil k23 23 _ _, HI3.out, HB3.out, HK3.out⟩
end Go.Proofs.YtbgabhknmpbgiaaDoor.S
end
section
namespace Go.Proofs.YtbgabhknmpbgiaaDoor.S
open Go.RowKit Go.Proofs.YtbgabhknmpbgiaaDoorW.PrintWords Go.Proofs.YtbgabhknmpbgiaaDoorW.PrintLast Go.Proofs.YtbgabhknmpbgiaaDoorW.PrintMore
set_option linter.unusedVariables false
set_option linter.unusedSimpArgs false
structure Keep23 (w w' : World) : Prop where
  size : w.heap.size ≤ w'.heap.size
  keep : ∀ (k : Nat) cs, w.heap[k]? = some (.cells cs 23 (0, 0)) → w'.heap[k]? = some (.cells cs 23 (0, 0))
theorem Keep23.of_below {w w1 : World} (h : Below w.heap.size w w1) : Keep23 w w1 := ⟨h.size, fun j cs hj => blk_below hj h⟩
theorem Keep23.of_keepBut {w w1 : World} {g : Nat} (h : KeepBut w w1 g none) {cs : Array Value} {t : TypeId} (hg : w.heap[g]? = some (.cells cs t (0, 0))) (ht : t ≠ 23) : Keep23 w w1 := ⟨h.1, fun j cs' hj => (h.2 j (blk_lt hj) (fun e => by subst e; rw [hj] at hg; injection hg with hg; injection hg with _ hg _; exact ht hg.symm) (by simp)).trans hj⟩
theorem Keep23.of_keepR {w w1 : World} {g : Nat} (h : KeepR w w1 g) {cs : Array Value} {t : TypeId} (hg : w.heap[g]? = some (.cells cs t (0, 0))) (ht : t ≠ 23) : Keep23 w w1 := ⟨h.size, fun j cs' hj => h.keep j cs' 23 hj (by decide) (fun e => by subst e; rw [hj] at hg; injection hg with hg; injection hg with _ hg _; exact ht hg.symm)⟩
def Pt (n : Nat) (w : World) (v : Value) (xs : List S23) : Prop := FV k23 23 n w v xs
theorem Pt.keep {n : Nat} {w w1 : World} {v : Value} {xs : List S23} (h : Pt n w v xs) (hk : Keep23 w w1) : Pt n w1 v xs := by
  refine ⟨Kd.V_mono (Kd.V_step h.1 (fun k ho hlt => ?_)) (fun k ho => ?_), h.2⟩
  · obtain ⟨_, cs, hc⟩ := ho
    rw [hc]
    exact hk.keep k cs hc
  · obtain ⟨h1, cs, hc⟩ := ho
    exact ⟨h1, cs, hk.keep k cs hc⟩
theorem Pt.low {n m : Nat} {w : World} {v : Value} {xs : List S23} (h : Pt n w v xs) (hm : m ≤ n) : Pt m w v xs := FV.low h hm
theorem Pt.slice {n : Nat} {w : World} {v : Value} {xs : List S23} (h : Pt n w v xs) : ∃ A, v = .slice A xs.length xs.length ∧ Kd.C k23 w A xs.length xs := by
  obtain ⟨hv, A, rfl⟩ := h
  have := Kd.V_reads' hv
  exact ⟨A, rfl, this.2.2⟩
structure Net (w0 ws : World) (B gs gr : Nat) (s : Sn) (r : Rn) (w : World) : Prop where
  snd : AtP ws w gs s
  sb : Below ws.heap.size ws w
  rcv : RcvAt B gr r w
  bb : ws.heap.size ≤ B
  bw : B ≤ w.heap.size
  b0 : w0.heap.size ≤ ws.heap.size
  base : Below w0.heap.size w0 w
theorem Net.ne {w0 ws : World} {B gs gr : Nat} {s : Sn} {r : Rn} {w : World} (h : Net w0 ws B gs gr s r w) : gs ≠ gr := by
  obtain ⟨A4, c4, h1, _⟩ := h.snd
  obtain ⟨v, h2, _⟩ := h.rcv
  exact blk_ne h1 h2 (by decide)
theorem Net.below {w0 ws : World} {B gs gr : Nat} {s : Sn} {r : Rn} {w w1 : World} (h : Net w0 ws B gs gr s r w) (hb : Below w.heap.size w w1) : Net w0 ws B gs gr s r w1 :=
  ⟨h.snd.below hb, h.sb.trans (hb.mono h.sb.size), h.rcv.below hb, h.bb, Nat.le_trans h.bw hb.size, h.b0, below_step h.base hb⟩
theorem Net.rcall {w0 ws : World} {B gs gr : Nat} {s : Sn} {r : Rn} {w w1 : World} {x : List S23 × Rn} {e : Ending} (h : Net w0 ws B gs gr s r w) (hp : RcvPost B w gr x e w1) : ∃ v : Value, e = .returned v ∧ Pt w.heap.size w1 v x.1 ∧ Net w0 ws B gs gr s x.2 w1 ∧ Keep23 w w1 := by
  obtain ⟨v, he, hv, hr, hb, hk⟩ := hp
  have hne := h.ne
  obtain ⟨A4, c4, h1, h2, h3⟩ := h.snd
  obtain ⟨u, h4, _⟩ := h.rcv
  exact ⟨v, he, hv, ⟨⟨A4, c4, hk.keep gs _ 110 h1 (by decide) hne, h2, h3⟩, h.sb.trans (hb.mono h.bb), hr, h.bb, Nat.le_trans h.bw hk.size, h.b0, h.base.trans (hb.mono (Nat.le_trans h.b0 h.bb))⟩, Keep23.of_keepR hk h4 (by decide)⟩
theorem Net.scall {w0 ws : World} {B gs gr : Nat} {s : Sn} {r : Rn} {w w1 : World} {x : List S23 × Sn} {e : Ending} (h : Net w0 ws B gs gr s r w) (hp : PPost ws w gs x e w1) : ∃ v : Value, e = .returned v ∧ Pt w.heap.size w1 v x.1 ∧ Net w0 ws B gs gr x.2 r w1 ∧ Keep23 w w1 := by
  obtain ⟨v, he, hv, hs, hb, hk⟩ := hp
  have hne := h.ne
  obtain ⟨A4, c4, h1, h2, h3⟩ := h.snd
  exact ⟨v, he, hv, ⟨hs, hb, h.rcv.keepBut hk (Ne.symm hne) h1 (by decide), h.bb, Nat.le_trans h.bw hk.1, h.b0, ⟨hb.os.trans (h.sb.os.symm.trans h.base.os), hb.tape.trans (h.sb.tape.symm.trans h.base.tape), hb.output.trans (h.sb.output.symm.trans h.base.output), Nat.le_trans h.base.size hk.1, fun k hk0 => (hb.block k (Nat.lt_of_lt_of_le hk0 h.b0)).trans ((h.sb.block k (Nat.lt_of_lt_of_le hk0 h.b0)).symm.trans (h.base.block k hk0))⟩⟩, Keep23.of_keepBut hk h1 (by decide)⟩
end Go.Proofs.YtbgabhknmpbgiaaDoor.S
end
section
namespace Go.Proofs.YtbgabhknmpbgiaaDoor.S
open Go.RowKit Go.Proofs.YtbgabhknmpbgiaaDoorW.PrintWords Go.Proofs.YtbgabhknmpbgiaaDoorW.PrintLast Go.Proofs.YtbgabhknmpbgiaaDoorW.PrintMore
attribute [local go_sem] max2_int min2_int max_two min_two max_three min_three max_four min_four
set_option linter.unusedVariables false
set_option linter.unusedSimpArgs false
def bits_Len64.j0 : Nat → Int → Int → Option (Int)
  | 0, _, _ => none
  | k + 1, x0, x2 => if x0 ≥ 65536 then (if (x0 / 65536) ≥ 256 then (if 0 ≤ (((x0 / 65536) / 256) % 256) then (if (((x0 / 65536) / 256) % 256) < 256 then (some (wrap64 ((wrap64 ((wrap64 (x2 + 16)) + 8)) + (wrap64 (bt (⟨#[0, 1, 2, 2, 3, 3, 3, 3, 4, 4, 4, 4, 4, 4, 4, 4, 5, 5, 5, 5, 5, 5, 5, 5, 5, 5, 5, 5, 5, 5, 5, 5, 6, 6, 6, 6, 6, 6, 6, 6, 6, 6, 6, 6, 6, 6, 6, 6, 6, 6, 6, 6, 6, 6, 6, 6, 6, 6, 6, 6, 6, 6, 6, 6, 7, 7, 7, 7, 7, 7, 7, 7, 7, 7, 7, 7, 7, 7, 7, 7, 7, 7, 7, 7, 7, 7, 7, 7, 7, 7, 7, 7, 7, 7, 7, 7, 7, 7, 7, 7, 7, 7, 7, 7, 7, 7, 7, 7, 7, 7, 7, 7, 7, 7, 7, 7, 7, 7, 7, 7, 7, 7, 7, 7, 7, 7, 7, 7, 8, 8, 8, 8, 8, 8, 8, 8, 8, 8, 8, 8, 8, 8, 8, 8, 8, 8, 8, 8, 8, 8, 8, 8, 8, 8, 8, 8, 8, 8, 8, 8, 8, 8, 8, 8, 8, 8, 8, 8, 8, 8, 8, 8, 8, 8, 8, 8, 8, 8, 8, 8, 8, 8, 8, 8, 8, 8, 8, 8, 8, 8, 8, 8, 8, 8, 8, 8, 8, 8, 8, 8, 8, 8, 8, 8, 8, 8, 8, 8, 8, 8, 8, 8, 8, 8, 8, 8, 8, 8, 8, 8, 8, 8, 8, 8, 8, 8, 8, 8, 8, 8, 8, 8, 8, 8, 8, 8, 8, 8, 8, 8, 8, 8, 8, 8, 8, 8, 8, 8, 8, 8, 8, 8, 8, 8, 8, 8]⟩ : ByteArray) (((x0 / 65536) / 256) % 256)))))) else (none)) else (none)) else (if 0 ≤ ((x0 / 65536) % 256) then (if ((x0 / 65536) % 256) < 256 then (some (wrap64 ((wrap64 (x2 + 16)) + (wrap64 (bt (⟨#[0, 1, 2, 2, 3, 3, 3, 3, 4, 4, 4, 4, 4, 4, 4, 4, 5, 5, 5, 5, 5, 5, 5, 5, 5, 5, 5, 5, 5, 5, 5, 5, 6, 6, 6, 6, 6, 6, 6, 6, 6, 6, 6, 6, 6, 6, 6, 6, 6, 6, 6, 6, 6, 6, 6, 6, 6, 6, 6, 6, 6, 6, 6, 6, 7, 7, 7, 7, 7, 7, 7, 7, 7, 7, 7, 7, 7, 7, 7, 7, 7, 7, 7, 7, 7, 7, 7, 7, 7, 7, 7, 7, 7, 7, 7, 7, 7, 7, 7, 7, 7, 7, 7, 7, 7, 7, 7, 7, 7, 7, 7, 7, 7, 7, 7, 7, 7, 7, 7, 7, 7, 7, 7, 7, 7, 7, 7, 7, 8, 8, 8, 8, 8, 8, 8, 8, 8, 8, 8, 8, 8, 8, 8, 8, 8, 8, 8, 8, 8, 8, 8, 8, 8, 8, 8, 8, 8, 8, 8, 8, 8, 8, 8, 8, 8, 8, 8, 8, 8, 8, 8, 8, 8, 8, 8, 8, 8, 8, 8, 8, 8, 8, 8, 8, 8, 8, 8, 8, 8, 8, 8, 8, 8, 8, 8, 8, 8, 8, 8, 8, 8, 8, 8, 8, 8, 8, 8, 8, 8, 8, 8, 8, 8, 8, 8, 8, 8, 8, 8, 8, 8, 8, 8, 8, 8, 8, 8, 8, 8, 8, 8, 8, 8, 8, 8, 8, 8, 8, 8, 8, 8, 8, 8, 8, 8, 8, 8, 8, 8, 8, 8, 8, 8, 8, 8, 8]⟩ : ByteArray) ((x0 / 65536) % 256)))))) else (none)) else (none))) else (if x0 ≥ 256 then (if 0 ≤ ((x0 / 256) % 256) then (if ((x0 / 256) % 256) < 256 then (some (wrap64 ((wrap64 (x2 + 8)) + (wrap64 (bt (⟨#[0, 1, 2, 2, 3, 3, 3, 3, 4, 4, 4, 4, 4, 4, 4, 4, 5, 5, 5, 5, 5, 5, 5, 5, 5, 5, 5, 5, 5, 5, 5, 5, 6, 6, 6, 6, 6, 6, 6, 6, 6, 6, 6, 6, 6, 6, 6, 6, 6, 6, 6, 6, 6, 6, 6, 6, 6, 6, 6, 6, 6, 6, 6, 6, 7, 7, 7, 7, 7, 7, 7, 7, 7, 7, 7, 7, 7, 7, 7, 7, 7, 7, 7, 7, 7, 7, 7, 7, 7, 7, 7, 7, 7, 7, 7, 7, 7, 7, 7, 7, 7, 7, 7, 7, 7, 7, 7, 7, 7, 7, 7, 7, 7, 7, 7, 7, 7, 7, 7, 7, 7, 7, 7, 7, 7, 7, 7, 7, 8, 8, 8, 8, 8, 8, 8, 8, 8, 8, 8, 8, 8, 8, 8, 8, 8, 8, 8, 8, 8, 8, 8, 8, 8, 8, 8, 8, 8, 8, 8, 8, 8, 8, 8, 8, 8, 8, 8, 8, 8, 8, 8, 8, 8, 8, 8, 8, 8, 8, 8, 8, 8, 8, 8, 8, 8, 8, 8, 8, 8, 8, 8, 8, 8, 8, 8, 8, 8, 8, 8, 8, 8, 8, 8, 8, 8, 8, 8, 8, 8, 8, 8, 8, 8, 8, 8, 8, 8, 8, 8, 8, 8, 8, 8, 8, 8, 8, 8, 8, 8, 8, 8, 8, 8, 8, 8, 8, 8, 8, 8, 8, 8, 8, 8, 8, 8, 8, 8, 8, 8, 8, 8, 8, 8, 8, 8, 8]⟩ : ByteArray) ((x0 / 256) % 256)))))) else (none)) else (none)) else (if 0 ≤ ((x0) % 256) then (if ((x0) % 256) < 256 then (some (wrap64 (x2 + (wrap64 (bt (⟨#[0, 1, 2, 2, 3, 3, 3, 3, 4, 4, 4, 4, 4, 4, 4, 4, 5, 5, 5, 5, 5, 5, 5, 5, 5, 5, 5, 5, 5, 5, 5, 5, 6, 6, 6, 6, 6, 6, 6, 6, 6, 6, 6, 6, 6, 6, 6, 6, 6, 6, 6, 6, 6, 6, 6, 6, 6, 6, 6, 6, 6, 6, 6, 6, 7, 7, 7, 7, 7, 7, 7, 7, 7, 7, 7, 7, 7, 7, 7, 7, 7, 7, 7, 7, 7, 7, 7, 7, 7, 7, 7, 7, 7, 7, 7, 7, 7, 7, 7, 7, 7, 7, 7, 7, 7, 7, 7, 7, 7, 7, 7, 7, 7, 7, 7, 7, 7, 7, 7, 7, 7, 7, 7, 7, 7, 7, 7, 7, 8, 8, 8, 8, 8, 8, 8, 8, 8, 8, 8, 8, 8, 8, 8, 8, 8, 8, 8, 8, 8, 8, 8, 8, 8, 8, 8, 8, 8, 8, 8, 8, 8, 8, 8, 8, 8, 8, 8, 8, 8, 8, 8, 8, 8, 8, 8, 8, 8, 8, 8, 8, 8, 8, 8, 8, 8, 8, 8, 8, 8, 8, 8, 8, 8, 8, 8, 8, 8, 8, 8, 8, 8, 8, 8, 8, 8, 8, 8, 8, 8, 8, 8, 8, 8, 8, 8, 8, 8, 8, 8, 8, 8, 8, 8, 8, 8, 8, 8, 8, 8, 8, 8, 8, 8, 8, 8, 8, 8, 8, 8, 8, 8, 8, 8, 8, 8, 8, 8, 8, 8, 8, 8, 8, 8, 8, 8, 8]⟩ : ByteArray) ((x0) % 256)))))) else (none)) else (none)))
def bits_Len64.f (k : Nat) (a0 : Int) : Option (Int) := if a0 ≥ 4294967296 then (bits_Len64.j0 k (a0 / 4294967296) 32) else (bits_Len64.j0 k a0 0)
set_option maxHeartbeats 8000000 in
set_option maxRecDepth 100000 in
theorem bits_Len64.calls (k : Nat) (a0 : Int) (r : Int) (w : World) (hG : Glob w) (h : bits_Len64.f k a0 = some r) :
    Calls Tryd.prog 86 #[.int .u64 a0] w fun e w' => e = .returned (.int .i64 r) ∧ Drawn0 w w' := by
  have HG := Aside0.mk hG
  clear hG
  have H : (if a0 ≥ 4294967296 then (bits_Len64.j0 k (a0 / 4294967296) 32) else (bits_Len64.j0 k a0 0)) = some r := h
  clear h
  have HC2 := Aside0.mk H
  clear H
  go_enter Tryd.func86, Tryd.ntmps86
  go_upto_if 4 with (fail)
  go_cut [0, 2] (fun v0 v2 wc => ∃ (kq : Nat) (x0_1 : Int) (x2_1 : Int), v0 = .int .u64 x0_1 ∧ v2 = .int .i64 x2_1 ∧ Aside0 (bits_Len64.j0 kq x0_1 x2_1 = some r) ∧ Aside0 (kq ≤ k) ∧ Drawn0 w wc)
  case first =>
    have H := HC2.out
    clear HC2
    by_cases c3 : a0 ≥ 4294967296
    · rw [if_pos c3] at H
      have c3b0 : decide (4294967296 ≤ a0) = true := decide_eq_true c3
      clear c3
      (first | rw [c3b0] | (simp only [i64_w, i32_w]; rw [c3b0]) | skip)
      have H' := Aside0.mk H
      clear H
      go_wp2
      go_meet
      case rel => exact ⟨_, (a0 / 4294967296), (32), (by first | rfl | (simp; done) | (simp [*]; done)), (by first | rfl | (simp; done) | (simp [*]; done)), H', ⟨by first | omega | exact Nat.le_refl _⟩, by repeat (first | exact Drawn0.refl _ | apply Drawn0.step)⟩
    · rw [if_neg c3] at H
      have c3b0 : decide (4294967296 ≤ a0) = false := decide_eq_false c3
      clear c3
      (first | rw [c3b0] | (simp only [i64_w, i32_w]; rw [c3b0]) | skip)
      have H' := Aside0.mk H
      clear H
      go_wp2
      go_meet
      case rel => exact ⟨_, (a0), (0), (by first | rfl | (simp; done) | (simp [*]; done)), (by first | rfl | (simp; done) | (simp [*]; done)), H', ⟨by first | omega | exact Nat.le_refl _⟩, by repeat (first | exact Drawn0.refl _ | apply Drawn0.step)⟩
  case rest =>
    clear HC2
    try clear p2
    try clear c3
    try clear c3b0
    obtain ⟨kq, x0_1, x2_1, rfl, rfl, HA, HJ1, ⟨mc1, rfl⟩⟩ := hcut
    cases kq with
    | zero => exact absurd HA.out (by simp [bits_Len64.j0])
    | succ kj1 =>
      have H := HA.out
      clear HA
      simp only [bits_Len64.j0] at H
      by_cases c4 : x0_1 ≥ 65536
      · rw [if_pos c4] at H
        have c4b0 : decide (65536 ≤ x0_1) = true := decide_eq_true c4
        clear c4
        by_cases c5 : (x0_1 / 65536) ≥ 256
        · rw [if_pos c5] at H
          have c5b0 : decide (256 ≤ (x0_1 / 65536)) = true := decide_eq_true c5
          clear c5
          obtain ⟨ji6, hji6⟩ : ∃ j_ : Int, (((x0_1 / 65536) / 256) % 256) = j_ := ⟨_, rfl⟩
          replace H : (if 0 ≤ (ji6) then (if (ji6) < 256 then (some (wrap64 ((wrap64 ((wrap64 (x2_1 + 16)) + 8)) + (wrap64 (bt (⟨#[0, 1, 2, 2, 3, 3, 3, 3, 4, 4, 4, 4, 4, 4, 4, 4, 5, 5, 5, 5, 5, 5, 5, 5, 5, 5, 5, 5, 5, 5, 5, 5, 6, 6, 6, 6, 6, 6, 6, 6, 6, 6, 6, 6, 6, 6, 6, 6, 6, 6, 6, 6, 6, 6, 6, 6, 6, 6, 6, 6, 6, 6, 6, 6, 7, 7, 7, 7, 7, 7, 7, 7, 7, 7, 7, 7, 7, 7, 7, 7, 7, 7, 7, 7, 7, 7, 7, 7, 7, 7, 7, 7, 7, 7, 7, 7, 7, 7, 7, 7, 7, 7, 7, 7, 7, 7, 7, 7, 7, 7, 7, 7, 7, 7, 7, 7, 7, 7, 7, 7, 7, 7, 7, 7, 7, 7, 7, 7, 8, 8, 8, 8, 8, 8, 8, 8, 8, 8, 8, 8, 8, 8, 8, 8, 8, 8, 8, 8, 8, 8, 8, 8, 8, 8, 8, 8, 8, 8, 8, 8, 8, 8, 8, 8, 8, 8, 8, 8, 8, 8, 8, 8, 8, 8, 8, 8, 8, 8, 8, 8, 8, 8, 8, 8, 8, 8, 8, 8, 8, 8, 8, 8, 8, 8, 8, 8, 8, 8, 8, 8, 8, 8, 8, 8, 8, 8, 8, 8, 8, 8, 8, 8, 8, 8, 8, 8, 8, 8, 8, 8, 8, 8, 8, 8, 8, 8, 8, 8, 8, 8, 8, 8, 8, 8, 8, 8, 8, 8, 8, 8, 8, 8, 8, 8, 8, 8, 8, 8, 8, 8, 8, 8, 8, 8, 8, 8]⟩ : ByteArray) (ji6)))))) else (none)) else (none)) = some r := by first | (rw [hji6] at H; exact H) | (simp only [hji6] at H ⊢; exact H)
          by_cases c7 : 0 ≤ (ji6)
          · rw [if_pos c7] at H
            have c7b0 : decide (0 ≤ (ji6)) = true := decide_eq_true c7
            clear c7
            by_cases c8 : (ji6) < 256
            · rw [if_pos c8] at H
              have c8b0 : decide ((ji6) < 256) = true := decide_eq_true c8
              clear c8
              obtain rfl := Option.some.inj H
              have p9 : 0 ≤ ((ji6) : Int) := of_decide_eq_true (by first | (with_reducible assumption) | assumption)
              have q9 : (ji6) < (256 : Int) := of_decide_eq_true (by first | (with_reducible assumption) | assumption)
              have hx9 := bt_at (⟨#[0, 1, 2, 2, 3, 3, 3, 3, 4, 4, 4, 4, 4, 4, 4, 4, 5, 5, 5, 5, 5, 5, 5, 5, 5, 5, 5, 5, 5, 5, 5, 5, 6, 6, 6, 6, 6, 6, 6, 6, 6, 6, 6, 6, 6, 6, 6, 6, 6, 6, 6, 6, 6, 6, 6, 6, 6, 6, 6, 6, 6, 6, 6, 6, 7, 7, 7, 7, 7, 7, 7, 7, 7, 7, 7, 7, 7, 7, 7, 7, 7, 7, 7, 7, 7, 7, 7, 7, 7, 7, 7, 7, 7, 7, 7, 7, 7, 7, 7, 7, 7, 7, 7, 7, 7, 7, 7, 7, 7, 7, 7, 7, 7, 7, 7, 7, 7, 7, 7, 7, 7, 7, 7, 7, 7, 7, 7, 7, 8, 8, 8, 8, 8, 8, 8, 8, 8, 8, 8, 8, 8, 8, 8, 8, 8, 8, 8, 8, 8, 8, 8, 8, 8, 8, 8, 8, 8, 8, 8, 8, 8, 8, 8, 8, 8, 8, 8, 8, 8, 8, 8, 8, 8, 8, 8, 8, 8, 8, 8, 8, 8, 8, 8, 8, 8, 8, 8, 8, 8, 8, 8, 8, 8, 8, 8, 8, 8, 8, 8, 8, 8, 8, 8, 8, 8, 8, 8, 8, 8, 8, 8, 8, 8, 8, 8, 8, 8, 8, 8, 8, 8, 8, 8, 8, 8, 8, 8, 8, 8, 8, 8, 8, 8, 8, 8, 8, 8, 8, 8, 8, 8, 8, 8, 8, 8, 8, 8, 8, 8, 8, 8, 8, 8, 8, 8, 8]⟩ : ByteArray) (ji6)
              replace p9 := eq_true p9
              replace q9 := eq_true q9
              go_wp2
              go_ret
              exact ⟨by first | rfl | (simp; done) | (simp only [← hji6] <;> (first | rfl | simp)) | (simp [*]; done), by repeat (first | exact Drawn0.refl _ | apply Drawn0.step)⟩
            · rw [if_neg c8] at H
              exact absurd H (by simp)
          · rw [if_neg c7] at H
            exact absurd H (by simp)
        · rw [if_neg c5] at H
          have c5b0 : decide (256 ≤ (x0_1 / 65536)) = false := decide_eq_false c5
          clear c5
          obtain ⟨ji10, hji10⟩ : ∃ j_ : Int, ((x0_1 / 65536) % 256) = j_ := ⟨_, rfl⟩
          replace H : (if 0 ≤ (ji10) then (if (ji10) < 256 then (some (wrap64 ((wrap64 (x2_1 + 16)) + (wrap64 (bt (⟨#[0, 1, 2, 2, 3, 3, 3, 3, 4, 4, 4, 4, 4, 4, 4, 4, 5, 5, 5, 5, 5, 5, 5, 5, 5, 5, 5, 5, 5, 5, 5, 5, 6, 6, 6, 6, 6, 6, 6, 6, 6, 6, 6, 6, 6, 6, 6, 6, 6, 6, 6, 6, 6, 6, 6, 6, 6, 6, 6, 6, 6, 6, 6, 6, 7, 7, 7, 7, 7, 7, 7, 7, 7, 7, 7, 7, 7, 7, 7, 7, 7, 7, 7, 7, 7, 7, 7, 7, 7, 7, 7, 7, 7, 7, 7, 7, 7, 7, 7, 7, 7, 7, 7, 7, 7, 7, 7, 7, 7, 7, 7, 7, 7, 7, 7, 7, 7, 7, 7, 7, 7, 7, 7, 7, 7, 7, 7, 7, 8, 8, 8, 8, 8, 8, 8, 8, 8, 8, 8, 8, 8, 8, 8, 8, 8, 8, 8, 8, 8, 8, 8, 8, 8, 8, 8, 8, 8, 8, 8, 8, 8, 8, 8, 8, 8, 8, 8, 8, 8, 8, 8, 8, 8, 8, 8, 8, 8, 8, 8, 8, 8, 8, 8, 8, 8, 8, 8, 8, 8, 8, 8, 8, 8, 8, 8, 8, 8, 8, 8, 8, 8, 8, 8, 8, 8, 8, 8, 8, 8, 8, 8, 8, 8, 8, 8, 8, 8, 8, 8, 8, 8, 8, 8, 8, 8, 8, 8, 8, 8, 8, 8, 8, 8, 8, 8, 8, 8, 8, 8, 8, 8, 8, 8, 8, 8, 8, 8, 8, 8, 8, 8, 8, 8, 8, 8, 8]⟩ : ByteArray) (ji10)))))) else (none)) else (none)) = some r := by first | (rw [hji10] at H; exact H) | (simp only [hji10] at H ⊢; exact H)
          by_cases c11 : 0 ≤ (ji10)
          · rw [if_pos c11] at H
            have c11b0 : decide (0 ≤ (ji10)) = true := decide_eq_true c11
            clear c11
            by_cases c12 : (ji10) < 256
            · rw [if_pos c12] at H
              have c12b0 : decide ((ji10) < 256) = true := decide_eq_true c12
              clear c12
              obtain rfl := Option.some.inj H
              have p13 : 0 ≤ ((ji10) : Int) := of_decide_eq_true (by first | (with_reducible assumption) | assumption)
              have q13 : (ji10) < (256 : Int) := of_decide_eq_true (by first | (with_reducible assumption) | assumption)
              have hx13 := bt_at (⟨#[0, 1, 2, 2, 3, 3, 3, 3, 4, 4, 4, 4, 4, 4, 4, 4, 5, 5, 5, 5, 5, 5, 5, 5, 5, 5, 5, 5, 5, 5, 5, 5, 6, 6, 6, 6, 6, 6, 6, 6, 6, 6, 6, 6, 6, 6, 6, 6, 6, 6, 6, 6, 6, 6, 6, 6, 6, 6, 6, 6, 6, 6, 6, 6, 7, 7, 7, 7, 7, 7, 7, 7, 7, 7, 7, 7, 7, 7, 7, 7, 7, 7, 7, 7, 7, 7, 7, 7, 7, 7, 7, 7, 7, 7, 7, 7, 7, 7, 7, 7, 7, 7, 7, 7, 7, 7, 7, 7, 7, 7, 7, 7, 7, 7, 7, 7, 7, 7, 7, 7, 7, 7, 7, 7, 7, 7, 7, 7, 8, 8, 8, 8, 8, 8, 8, 8, 8, 8, 8, 8, 8, 8, 8, 8, 8, 8, 8, 8, 8, 8, 8, 8, 8, 8, 8, 8, 8, 8, 8, 8, 8, 8, 8, 8, 8, 8, 8, 8, 8, 8, 8, 8, 8, 8, 8, 8, 8, 8, 8, 8, 8, 8, 8, 8, 8, 8, 8, 8, 8, 8, 8, 8, 8, 8, 8, 8, 8, 8, 8, 8, 8, 8, 8, 8, 8, 8, 8, 8, 8, 8, 8, 8, 8, 8, 8, 8, 8, 8, 8, 8, 8, 8, 8, 8, 8, 8, 8, 8, 8, 8, 8, 8, 8, 8, 8, 8, 8, 8, 8, 8, 8, 8, 8, 8, 8, 8, 8, 8, 8, 8, 8, 8, 8, 8, 8, 8]⟩ : ByteArray) (ji10)
              replace p13 := eq_true p13
              replace q13 := eq_true q13
              go_wp2
              go_ret
              exact ⟨by first | rfl | (simp; done) | (simp only [← hji10] <;> (first | rfl | simp)) | (simp [*]; done), by repeat (first | exact Drawn0.refl _ | apply Drawn0.step)⟩
            · rw [if_neg c12] at H
              exact absurd H (by simp)
          · rw [if_neg c11] at H
            exact absurd H (by simp)
      · rw [if_neg c4] at H
        have c4b0 : decide (65536 ≤ x0_1) = false := decide_eq_false c4
        clear c4
        by_cases c14 : x0_1 ≥ 256
        · rw [if_pos c14] at H
          have c14b0 : decide (256 ≤ x0_1) = true := decide_eq_true c14
          clear c14
          obtain ⟨ji15, hji15⟩ : ∃ j_ : Int, ((x0_1 / 256) % 256) = j_ := ⟨_, rfl⟩
          replace H : (if 0 ≤ (ji15) then (if (ji15) < 256 then (some (wrap64 ((wrap64 (x2_1 + 8)) + (wrap64 (bt (⟨#[0, 1, 2, 2, 3, 3, 3, 3, 4, 4, 4, 4, 4, 4, 4, 4, 5, 5, 5, 5, 5, 5, 5, 5, 5, 5, 5, 5, 5, 5, 5, 5, 6, 6, 6, 6, 6, 6, 6, 6, 6, 6, 6, 6, 6, 6, 6, 6, 6, 6, 6, 6, 6, 6, 6, 6, 6, 6, 6, 6, 6, 6, 6, 6, 7, 7, 7, 7, 7, 7, 7, 7, 7, 7, 7, 7, 7, 7, 7, 7, 7, 7, 7, 7, 7, 7, 7, 7, 7, 7, 7, 7, 7, 7, 7, 7, 7, 7, 7, 7, 7, 7, 7, 7, 7, 7, 7, 7, 7, 7, 7, 7, 7, 7, 7, 7, 7, 7, 7, 7, 7, 7, 7, 7, 7, 7, 7, 7, 8, 8, 8, 8, 8, 8, 8, 8, 8, 8, 8, 8, 8, 8, 8, 8, 8, 8, 8, 8, 8, 8, 8, 8, 8, 8, 8, 8, 8, 8, 8, 8, 8, 8, 8, 8, 8, 8, 8, 8, 8, 8, 8, 8, 8, 8, 8, 8, 8, 8, 8, 8, 8, 8, 8, 8, 8, 8, 8, 8, 8, 8, 8, 8, 8, 8, 8, 8, 8, 8, 8, 8, 8, 8, 8, 8, 8, 8, 8, 8, 8, 8, 8, 8, 8, 8, 8, 8, 8, 8, 8, 8, 8, 8, 8, 8, 8, 8, 8, 8, 8, 8, 8, 8, 8, 8, 8, 8, 8, 8, 8, 8, 8, 8, 8, 8, 8, 8, 8, 8, 8, 8, 8, 8, 8, 8, 8, 8]⟩ : ByteArray) (ji15)))))) else (none)) else (none)) = some r := by first | (rw [hji15] at H; exact H) | (simp only [hji15] at H ⊢; exact H)
          by_cases c16 : 0 ≤ (ji15)
          · rw [if_pos c16] at H
            have c16b0 : decide (0 ≤ (ji15)) = true := decide_eq_true c16
            clear c16
            by_cases c17 : (ji15) < 256
            · rw [if_pos c17] at H
              have c17b0 : decide ((ji15) < 256) = true := decide_eq_true c17
              clear c17
              obtain rfl := Option.some.inj H
              have p18 : 0 ≤ ((ji15) : Int) := of_decide_eq_true (by first | (with_reducible assumption) | assumption)
              have q18 : (ji15) < (256 : Int) := of_decide_eq_true (by first | (with_reducible assumption) | assumption)
              have hx18 := bt_at (⟨#[0, 1, 2, 2, 3, 3, 3, 3, 4, 4, 4, 4, 4, 4, 4, 4, 5, 5, 5, 5, 5, 5, 5, 5, 5, 5, 5, 5, 5, 5, 5, 5, 6, 6, 6, 6, 6, 6, 6, 6, 6, 6, 6, 6, 6, 6, 6, 6, 6, 6, 6, 6, 6, 6, 6, 6, 6, 6, 6, 6, 6, 6, 6, 6, 7, 7, 7, 7, 7, 7, 7, 7, 7, 7, 7, 7, 7, 7, 7, 7, 7, 7, 7, 7, 7, 7, 7, 7, 7, 7, 7, 7, 7, 7, 7, 7, 7, 7, 7, 7, 7, 7, 7, 7, 7, 7, 7, 7, 7, 7, 7, 7, 7, 7, 7, 7, 7, 7, 7, 7, 7, 7, 7, 7, 7, 7, 7, 7, 8, 8, 8, 8, 8, 8, 8, 8, 8, 8, 8, 8, 8, 8, 8, 8, 8, 8, 8, 8, 8, 8, 8, 8, 8, 8, 8, 8, 8, 8, 8, 8, 8, 8, 8, 8, 8, 8, 8, 8, 8, 8, 8, 8, 8, 8, 8, 8, 8, 8, 8, 8, 8, 8, 8, 8, 8, 8, 8, 8, 8, 8, 8, 8, 8, 8, 8, 8, 8, 8, 8, 8, 8, 8, 8, 8, 8, 8, 8, 8, 8, 8, 8, 8, 8, 8, 8, 8, 8, 8, 8, 8, 8, 8, 8, 8, 8, 8, 8, 8, 8, 8, 8, 8, 8, 8, 8, 8, 8, 8, 8, 8, 8, 8, 8, 8, 8, 8, 8, 8, 8, 8, 8, 8, 8, 8, 8, 8]⟩ : ByteArray) (ji15)
              replace p18 := eq_true p18
              replace q18 := eq_true q18
              go_wp2
              go_ret
              exact ⟨by first | rfl | (simp; done) | (simp only [← hji15] <;> (first | rfl | simp)) | (simp [*]; done), by repeat (first | exact Drawn0.refl _ | apply Drawn0.step)⟩
            · rw [if_neg c17] at H
              exact absurd H (by simp)
          · rw [if_neg c16] at H
            exact absurd H (by simp)
        · rw [if_neg c14] at H
          have c14b0 : decide (256 ≤ x0_1) = false := decide_eq_false c14
          clear c14
          obtain ⟨ji19, hji19⟩ : ∃ j_ : Int, ((x0_1) % 256) = j_ := ⟨_, rfl⟩
          replace H : (if 0 ≤ (ji19) then (if (ji19) < 256 then (some (wrap64 (x2_1 + (wrap64 (bt (⟨#[0, 1, 2, 2, 3, 3, 3, 3, 4, 4, 4, 4, 4, 4, 4, 4, 5, 5, 5, 5, 5, 5, 5, 5, 5, 5, 5, 5, 5, 5, 5, 5, 6, 6, 6, 6, 6, 6, 6, 6, 6, 6, 6, 6, 6, 6, 6, 6, 6, 6, 6, 6, 6, 6, 6, 6, 6, 6, 6, 6, 6, 6, 6, 6, 7, 7, 7, 7, 7, 7, 7, 7, 7, 7, 7, 7, 7, 7, 7, 7, 7, 7, 7, 7, 7, 7, 7, 7, 7, 7, 7, 7, 7, 7, 7, 7, 7, 7, 7, 7, 7, 7, 7, 7, 7, 7, 7, 7, 7, 7, 7, 7, 7, 7, 7, 7, 7, 7, 7, 7, 7, 7, 7, 7, 7, 7, 7, 7, 8, 8, 8, 8, 8, 8, 8, 8, 8, 8, 8, 8, 8, 8, 8, 8, 8, 8, 8, 8, 8, 8, 8, 8, 8, 8, 8, 8, 8, 8, 8, 8, 8, 8, 8, 8, 8, 8, 8, 8, 8, 8, 8, 8, 8, 8, 8, 8, 8, 8, 8, 8, 8, 8, 8, 8, 8, 8, 8, 8, 8, 8, 8, 8, 8, 8, 8, 8, 8, 8, 8, 8, 8, 8, 8, 8, 8, 8, 8, 8, 8, 8, 8, 8, 8, 8, 8, 8, 8, 8, 8, 8, 8, 8, 8, 8, 8, 8, 8, 8, 8, 8, 8, 8, 8, 8, 8, 8, 8, 8, 8, 8, 8, 8, 8, 8, 8, 8, 8, 8, 8, 8, 8, 8, 8, 8, 8, 8]⟩ : ByteArray) (ji19)))))) else (none)) else (none)) = some r := by first | (rw [hji19] at H; exact H) | (simp only [hji19] at H ⊢; exact H)
          by_cases c20 : 0 ≤ (ji19)
          · rw [if_pos c20] at H
            have c20b0 : decide (0 ≤ (ji19)) = true := decide_eq_true c20
            clear c20
            by_cases c21 : (ji19) < 256
            · rw [if_pos c21] at H
              have c21b0 : decide ((ji19) < 256) = true := decide_eq_true c21
              clear c21
              obtain rfl := Option.some.inj H
              have p22 : 0 ≤ ((ji19) : Int) := of_decide_eq_true (by first | (with_reducible assumption) | assumption)
              have q22 : (ji19) < (256 : Int) := of_decide_eq_true (by first | (with_reducible assumption) | assumption)
              have hx22 := bt_at (⟨#[0, 1, 2, 2, 3, 3, 3, 3, 4, 4, 4, 4, 4, 4, 4, 4, 5, 5, 5, 5, 5, 5, 5, 5, 5, 5, 5, 5, 5, 5, 5, 5, 6, 6, 6, 6, 6, 6, 6, 6, 6, 6, 6, 6, 6, 6, 6, 6, 6, 6, 6, 6, 6, 6, 6, 6, 6, 6, 6, 6, 6, 6, 6, 6, 7, 7, 7, 7, 7, 7, 7, 7, 7, 7, 7, 7, 7, 7, 7, 7, 7, 7, 7, 7, 7, 7, 7, 7, 7, 7, 7, 7, 7, 7, 7, 7, 7, 7, 7, 7, 7, 7, 7, 7, 7, 7, 7, 7, 7, 7, 7, 7, 7, 7, 7, 7, 7, 7, 7, 7, 7, 7, 7, 7, 7, 7, 7, 7, 8, 8, 8, 8, 8, 8, 8, 8, 8, 8, 8, 8, 8, 8, 8, 8, 8, 8, 8, 8, 8, 8, 8, 8, 8, 8, 8, 8, 8, 8, 8, 8, 8, 8, 8, 8, 8, 8, 8, 8, 8, 8, 8, 8, 8, 8, 8, 8, 8, 8, 8, 8, 8, 8, 8, 8, 8, 8, 8, 8, 8, 8, 8, 8, 8, 8, 8, 8, 8, 8, 8, 8, 8, 8, 8, 8, 8, 8, 8, 8, 8, 8, 8, 8, 8, 8, 8, 8, 8, 8, 8, 8, 8, 8, 8, 8, 8, 8, 8, 8, 8, 8, 8, 8, 8, 8, 8, 8, 8, 8, 8, 8, 8, 8, 8, 8, 8, 8, 8, 8, 8, 8, 8, 8, 8, 8, 8, 8]⟩ : ByteArray) (ji19)
              replace p22 := eq_true p22
              replace q22 := eq_true q22
              go_wp2
              go_ret
              exact ⟨by first | rfl | (simp; done) | (simp only [← hji19] <;> (first | rfl | simp)) | (simp [*]; done), by repeat (first | exact Drawn0.refl _ | apply Drawn0.step)⟩
            · rw [if_neg c21] at H
              exact absurd H (by simp)
          · rw [if_neg c20] at H
            exact absurd H (by simp)
end Go.Proofs.YtbgabhknmpbgiaaDoor.S
end
section
namespace Go.Proofs.YtbgabhknmpbgiaaDoor.S
open Go.RowKit Go.Proofs.YtbgabhknmpbgiaaDoorW.PrintWords Go.Proofs.YtbgabhknmpbgiaaDoorW.PrintLast Go.Proofs.YtbgabhknmpbgiaaDoorW.PrintMore
attribute [local go_sem] max2_int min2_int max_two min_two max_three min_three max_four min_four
set_option linter.unusedVariables false
set_option linter.unusedSimpArgs false
def codec_spread.f (k : Nat) (a0 : Int) : Option (Int) := if a0 < 0 then ((bits_Len64.f k (IntKind.u64.wrap (Go.bits .xor .i64 (-1) a0))).bind fun t117 => (some (wrap64 (Int.tdiv (wrap64 (t117 + 8)) 8)))) else ((bits_Len64.f k (IntKind.u64.wrap (a0))).bind fun t118 => (some (wrap64 (Int.tdiv (wrap64 (t118 + 8)) 8))))
set_option maxHeartbeats 8000000 in
set_option maxRecDepth 100000 in
theorem codec_spread.calls (k : Nat) (a0 : Int) (r : Int) (w : World) (hG : Glob w) (h : codec_spread.f k a0 = some r) :
    Calls Tryd.prog 70 #[.int .i64 a0] w fun e w' => e = .returned (.int .i64 r) ∧ Drawn0 w w' := by
  have HG := Aside0.mk hG
  clear hG
  have H : (if a0 < 0 then ((bits_Len64.f k (IntKind.u64.wrap (Go.bits .xor .i64 (-1) a0))).bind fun t117 => (some (wrap64 (Int.tdiv (wrap64 (t117 + 8)) 8)))) else ((bits_Len64.f k (IntKind.u64.wrap (a0))).bind fun t118 => (some (wrap64 (Int.tdiv (wrap64 (t118 + 8)) 8))))) = some r := h
  clear h
  by_cases c2 : a0 < 0
  · rw [if_pos c2] at H
    have c2b0 : decide (a0 < 0) = true := decide_eq_true c2
    clear c2
    replace H := Option.bind_eq_some_iff.mp H
    obtain ⟨t117, A30, H⟩ := H
    replace H : (some (wrap64 (Int.tdiv (wrap64 (t117 + 8)) 8))) = some r := H
    have A3 := Aside0.mk A30
    clear A30
    obtain rfl := Option.some.inj H
    go_enter Tryd.func70, Tryd.ntmps70
    go_wp2_with (first | ((with_reducible refine gate_callee (f := 86) rfl ?_); refine goesL_ (some 9) rfl rfl Tryd.func86 (by kernel_rfl) rfl #[.int .u64 (IntKind.u64.wrap (Go.bits .xor .i64 (-1) a0))] rfl (by (try simp only [List.map_toArray, List.map_cons, List.map_nil]); first | done | rfl | (simp only [List.length_drop, List.length_take]; rfl)) ?_; (with_reducible refine (bits_Len64.calls k (IntKind.u64.wrap (Go.bits .xor .i64 (-1) a0)) t117 _ ?side99  A3.out).mono ?_); (case side99 => first | exact HG.out | exact Glob.below HG.out (by repeat (first | (with_reducible first | exact HB.out | apply below_alloc | apply pw_below_drewN | apply below_drew1) | exact HB.out))); rintro e w' ⟨rfl, ⟨nd, rfl⟩⟩; refine ⟨_, rfl, ?_⟩))
    go_ret
    exact ⟨by first | rfl | (simp; done) | (simp [*]; done), by repeat (first | exact Drawn0.refl _ | apply Drawn0.step)⟩
  · rw [if_neg c2] at H
    have c2b0 : decide (a0 < 0) = false := decide_eq_false c2
    clear c2
    replace H := Option.bind_eq_some_iff.mp H
    obtain ⟨t118, A40, H⟩ := H
    replace H : (some (wrap64 (Int.tdiv (wrap64 (t118 + 8)) 8))) = some r := H
    have A4 := Aside0.mk A40
    clear A40
    obtain rfl := Option.some.inj H
    go_enter Tryd.func70, Tryd.ntmps70
    go_wp2_with (first | ((with_reducible refine gate_callee (f := 86) rfl ?_); refine goesL_ (some 9) rfl rfl Tryd.func86 (by kernel_rfl) rfl #[.int .u64 (IntKind.u64.wrap (a0))] rfl (by (try simp only [List.map_toArray, List.map_cons, List.map_nil]); first | done | rfl | (simp only [List.length_drop, List.length_take]; rfl)) ?_; (with_reducible refine (bits_Len64.calls k (IntKind.u64.wrap (a0)) t118 _ ?side99  A4.out).mono ?_); (case side99 => first | exact HG.out | exact Glob.below HG.out (by repeat (first | (with_reducible first | exact HB.out | apply below_alloc | apply pw_below_drewN | apply below_drew1) | exact HB.out))); rintro e w' ⟨rfl, ⟨nd, rfl⟩⟩; refine ⟨_, rfl, ?_⟩))
    go_ret
    exact ⟨by first | rfl | (simp; done) | (simp [*]; done), by repeat (first | exact Drawn0.refl _ | apply Drawn0.step)⟩
end Go.Proofs.YtbgabhknmpbgiaaDoor.S
end
section
namespace Go.Proofs.YtbgabhknmpbgiaaDoor.S
open Go.RowKit Go.Proofs.YtbgabhknmpbgiaaDoorW.PrintWords Go.Proofs.YtbgabhknmpbgiaaDoorW.PrintLast Go.Proofs.YtbgabhknmpbgiaaDoorW.PrintMore
attribute [local go_sem] max2_int min2_int max_two min_two max_three min_three max_four min_four
set_option linter.unusedVariables false
set_option linter.unusedSimpArgs false
def codec_number.l0 : Nat → Int → List Int → Int → Option (List Int)
  | 0, _, _, _ => none
  | k + 1, x1, x7, x8 => if x8 ≥ 0 then (if 0 ≤ (wrap64 (8 * x8)) then (if x7.length < 140737488355328 then (codec_number.l0 k x1 (x7 ++ [(shr .u64 x1 (wrap64 (8 * x8))) % 256]) (wrap64 (x8 - 1))) else (none)) else (none)) else (some x7)
def codec_number.f (k : Nat) (a0 : Int) (a1 : Int) (a2 : Int) : Option (List Int) := codec_number.l0 k a1 (([(a0 + ((a2) % 256)) % 256] : List Int)) (wrap64 (a2 - 1))
set_option maxHeartbeats 8000000 in
set_option maxRecDepth 100000 in
theorem codec_number.calls (k : Nat) (a0 : Int) (a1 : Int) (a2 : Int) (r : List Int) (w : World) (hG : Glob w) (h : codec_number.f k a0 a1 a2 = some r) :
    Calls Tryd.prog 68 #[.int .u8 a0, .int .u64 a1, .int .i64 a2] w fun e w' => ∃ v0_ : Value, e = .returned (v0_) ∧ Kd.R (Kd.int .u8) 5 w' w.heap.size (fun _ => True) v0_ r ∧ Below w.heap.size w w' := by
  have HG := Aside0.mk hG
  clear hG
  have HB := Aside0.mk (Below.refl w.heap.size w)
  have H : (codec_number.l0 k a1 (([(a0 + ((a2) % 256)) % 256] : List Int)) (wrap64 (a2 - 1))) = some r := h
  clear h
  obtain ⟨y106, hy106⟩ : ∃ y_ : List Int, y_ = (([(a0 + ((a2) % 256)) % 256] : List Int)) := ⟨_, rfl⟩
  replace H : (codec_number.l0 k a1 y106 (wrap64 (a2 - 1))) = some r := by first | (rw [hy106]; with_reducible exact H) | (have H2_ := (Option.bind_some _ _).symm.trans H; rw [hy106]; with_reducible exact H2_) | (have H2_ := (Option.bind_some _ _).symm.trans H; with_reducible exact H2_) | with_reducible exact H | (rw [hy106]; exact H) | exact H
  have Ny106 := Aside0.mk hy106
  clear hy106
  have H' := Aside0.mk H
  clear H
  go_enter Tryd.func68, Tryd.ntmps68
  go_wp2_with (first | ((with_reducible refine gate_dst (N := 13) rfl ?_); refine Kd.R_lit (Kd.int .u8) _ 5 ?hg (N := 13) ?hd (xs := ([(a0 + ((a2) % 256)) % 256] : List Int)) (inner := [.int .u8 ((a0 + ((a2) % 256)) % 256)]) (ok := fun _ => True) (okp := fun _ => True) ?hr ?hp (fun _ hk => hk) trivial (Below.refl _ _) (Nat.le_refl _) (by simp) ?_; (case hd => rfl); (case hg => rfl); (case hr => first | (go_simp; done) | (go_simp; rfl)); (case hp => exact (Reps.one (show Kd.M (Kd.int .u8) _ _ _ ((a0 + ((a2) % 256)) % 256) [.int .u8 ((a0 + ((a2) % 256)) % 256)] from rfl) (Reps.none _ _))); intro v107 w4 ho5 hb hg_ hnew_; clear hg_ hnew_; (first | rw [← Ny106.out] at ho5 | (simp only [Int.reduceToNat] at ho5; rw [← Ny106.out] at ho5)); have n0_ := Aside0.mk (Kd.R_lower ho5 (below_size (by repeat (first | (with_reducible first | exact HB.out | apply below_alloc | apply pw_below_drewN | apply below_drew1) | exact HB.out)))); have n1_ := Aside0.mk (below_step (by repeat (first | (with_reducible first | exact HB.out | apply below_alloc | apply pw_below_drewN | apply below_drew1) | exact HB.out)) hb); clear HB; have HO108 := n0_; have HB := n1_; clear n0_ n1_; clear hb ho5))
  go_loopg [7, 8] k (fun kq v7 v8 w' => ∃ (x7_1 : List Int) (x8_1 : Int), v8 = .int .i64 x8_1 ∧ Aside0 (codec_number.l0 kq a1 x7_1 x8_1 = some r) ∧ Aside0 (kq ≤ k) ∧ Aside0 (Kd.R (Kd.int .u8) 5 w' w.heap.size (fun _ => True) v7 x7_1) ∧ Aside0 (Below w.heap.size w w'))
  case atStart => exact ⟨(y106), (wrap64 (a2 - 1)), (by first | rfl | (simp; done) | (simp [*]; done)), H', ⟨Nat.le_refl _⟩, ⟨by (with_reducible repeat (first | apply Kd.R_alloc | apply Kd.R_drewN | apply Kd.R_drew)); exact HO108.out⟩, ⟨by repeat (first | (with_reducible first | exact HB.out | apply below_alloc | apply pw_below_drewN | apply below_drew1) | exact HB.out)⟩⟩
  case round =>
    clear H'
    try clear p2
    obtain ⟨x7_1, x8_1, rfl, HA, HK1, HO_7, HB⟩ := hrel
    cases gk with
    | zero => exact absurd HA.out (by simp [codec_number.l0])
    | succ k1 =>
      have H := HA.out
      clear HA
      simp only [codec_number.l0] at H
      by_cases c6 : x8_1 ≥ 0
      · rw [if_pos c6] at H
        have c6b0 : decide (0 ≤ x8_1) = true := decide_eq_true c6
        clear c6
        obtain ⟨ji7, hji7⟩ : ∃ j_ : Int, (wrap64 (8 * x8_1)) = j_ := ⟨_, rfl⟩
        replace H : (if 0 ≤ (ji7) then (if x7_1.length < 140737488355328 then (codec_number.l0 k1 a1 (x7_1 ++ [(shr .u64 a1 (ji7)) % 256]) (wrap64 (x8_1 - 1))) else (none)) else (none)) = some r := by first | (rw [hji7] at H; exact H) | (simp only [hji7] at H ⊢; exact H)
        have hji7w : (IntKind.i64.wrap (8 * x8_1)) = ji7 := (i64_w _).trans hji7
        by_cases c8 : 0 ≤ (ji7)
        · rw [if_pos c8] at H
          have c8b0 := eq_true c8
          have c8b1 : decide (0 ≤ (ji7)) = true := decide_eq_true c8
          clear c8
          obtain ⟨ji9, hji9⟩ : ∃ j_ : Int, (shr .u64 a1 (ji7)) = j_ := ⟨_, rfl⟩
          replace H : (if x7_1.length < 140737488355328 then (codec_number.l0 k1 a1 (x7_1 ++ [(ji9) % 256]) (wrap64 (x8_1 - 1))) else (none)) = some r := by first | (rw [hji9] at H; exact H) | (simp only [hji9] at H ⊢; exact H)
          have hji9_ : (a1 / 2 ^ min (ji7).toNat 64) = ji9 := hji9
          have hji9z : (ji7) ≤ 64 → (a1 / 2 ^ (ji7).toNat) = ji9 := shr_small hji9
          by_cases c10 : x7_1.length < 140737488355328
          · rw [if_pos c10] at H
            have LMc10 := Aside0.mk c10
            clear c10
            obtain ⟨y109, hy109⟩ : ∃ y_ : List Int, y_ = (x7_1 ++ [(ji9) % 256]) := ⟨_, rfl⟩
            replace H : (codec_number.l0 k1 a1 y109 (wrap64 (x8_1 - 1))) = some r := by first | (rw [hy109]; with_reducible exact H) | (have H2_ := (Option.bind_some _ _).symm.trans H; rw [hy109]; with_reducible exact H2_) | (have H2_ := (Option.bind_some _ _).symm.trans H; with_reducible exact H2_) | with_reducible exact H | (rw [hy109]; exact H) | exact H
            have Ny109 := Aside0.mk hy109
            clear hy109
            have H' := Aside0.mk H
            clear H
            go_wp2_with (first | ((with_reducible refine gate_builtin (b := .append) (xs := #[.tmp 20, .tmp 26]) rfl ?_); at_builtin; refine Kd.R_append (Kd.int .u8) (w0 := w) w.heap.size rfl (.tmp 20) (.tmp 26) 80 5 (.int .u8 0) 1 rfl Tryd.underlying80 info5 rfl (by decide) (by omega) u7 x7_1 ((ji9) % 256) [.int .u8 ((ji9) % 256)] (fun _ => True) (fun _ => False) rfl rfl ?aP (fun _ hk => hk.elim) ?aF ?aO ?aB ?aS ?aL ?_; (case aP => exact rfl); (case aB => exact (by repeat (first | (with_reducible first | exact HB.out | apply below_alloc | apply pw_below_drewN | apply below_drew1) | exact HB.out))); (case aF => exact (fun _ _ => trivial)); (case aO => exact (by (with_reducible repeat (first | apply Kd.R_alloc | apply Kd.R_drewN | apply Kd.R_drew)); exact HO_7.out)); (case aS => exact (below_size (by repeat (first | (with_reducible first | exact HB.out | apply below_alloc | apply pw_below_drewN | apply below_drew1) | exact HB.out)))); (case aL => have := LMc10.out; first | omega | (simp only [ByteArray.size, List.size_toArray, List.length_cons, List.length_nil] at this ⊢; omega)); intro v110 w11 ho hb hg hat; rw [← Ny109.out] at ho; have n0_ := Aside0.mk (hb); have n1_ := Aside0.mk (ho); clear HB; clear HO_7; have HB := n0_; have HO111 := n1_; clear n0_ n1_; clear ho hb hg hat))
            go_roundg k1
            case measure => have := HK1.out; omega
            case rel => exact ⟨(y109), (wrap64 (x8_1 - 1)), (by first | rfl | (simp; done) | (simp [*]; done)), H', ⟨by have := HK1.out; omega⟩, ⟨by (with_reducible repeat (first | apply Kd.R_alloc | apply Kd.R_drewN | apply Kd.R_drew)); exact HO111.out⟩, ⟨by repeat (first | (with_reducible first | exact HB.out | apply below_alloc | apply pw_below_drewN | apply below_drew1) | exact HB.out)⟩⟩
          · rw [if_neg c10] at H
            exact absurd H (by simp)
        · rw [if_neg c8] at H
          exact absurd H (by simp)
      · rw [if_neg c6] at H
        have c6b0 : decide (0 ≤ x8_1) = false := decide_eq_false c6
        clear c6
        obtain rfl := Option.some.inj H
        go_wp2
        go_ret
        exact ⟨_, by first | rfl | (simp [errW_none, errW_some] <;> rfl) | (simp [*, errW_none, errW_some] <;> rfl), by (with_reducible repeat (first | apply Kd.R_alloc | apply Kd.R_drewN | apply Kd.R_drew)); exact HO_7.out, by repeat (first | (with_reducible first | exact HB.out | apply below_alloc | apply pw_below_drewN | apply below_drew1) | exact HB.out)⟩
end Go.Proofs.YtbgabhknmpbgiaaDoor.S
end
section
namespace Go.Proofs.YtbgabhknmpbgiaaDoor.S
open Go.RowKit Go.Proofs.YtbgabhknmpbgiaaDoorW.PrintWords Go.Proofs.YtbgabhknmpbgiaaDoorW.PrintLast Go.Proofs.YtbgabhknmpbgiaaDoorW.PrintMore
attribute [local go_sem] max2_int min2_int max_two min_two max_three min_three max_four min_four
set_option linter.unusedVariables false
set_option linter.unusedSimpArgs false
def codec_width.f (k : Nat) (a0 : Int) : Option (Int) := (bits_Len64.f k a0).bind fun t112 => (some (mx 1 (wrap64 (Int.tdiv (wrap64 (t112 + 7)) 8))))
set_option maxHeartbeats 8000000 in
set_option maxRecDepth 100000 in
theorem codec_width.calls (k : Nat) (a0 : Int) (r : Int) (w : World) (hG : Glob w) (h : codec_width.f k a0 = some r) :
    Calls Tryd.prog 69 #[.int .u64 a0] w fun e w' => e = .returned (.int .i64 r) ∧ Below w.heap.size w w' := by
  have HG := Aside0.mk hG
  clear hG
  have HB := Aside0.mk (Below.refl w.heap.size w)
  have H : ((bits_Len64.f k a0).bind fun t112 => (some (mx 1 (wrap64 (Int.tdiv (wrap64 (t112 + 7)) 8))))) = some r := h
  clear h
  replace H := Option.bind_eq_some_iff.mp H
  obtain ⟨t112, A20, H⟩ := H
  replace H : (some (mx 1 (wrap64 (Int.tdiv (wrap64 (t112 + 7)) 8)))) = some r := H
  have A2 := Aside0.mk A20
  clear A20
  obtain ⟨ji3, hji3⟩ : ∃ j_ : Int, (mx 1 (wrap64 (Int.tdiv (wrap64 (t112 + 7)) 8))) = j_ := ⟨_, rfl⟩
  replace H : (some ji3) = some r := by first | (rw [hji3] at H; exact H) | (simp only [hji3] at H ⊢; exact H)
  (try rw [hji3] at A2)
  (try (have hji3l : 1 ≤ ji3 := by (rw [← hji3]; unfold mx; (repeat' split) <;> omega)))
  (try (have hji3m : 0 ≤ ji3 := by omega))
  have hji3_ : (if 1 < (wrap64 (Int.tdiv (wrap64 (t112 + 7)) 8)) then (wrap64 (Int.tdiv (wrap64 (t112 + 7)) 8)) else 1) = ji3 := hji3
  obtain rfl := Option.some.inj H
  go_enter Tryd.func69, Tryd.ntmps69
  go_wp2_with (first | ((with_reducible refine gate_callee (f := 86) rfl ?_); refine goesL_ (some 4) rfl rfl Tryd.func86 (by kernel_rfl) rfl #[.int .u64 a0] rfl (by (try simp only [List.map_toArray, List.map_cons, List.map_nil]); first | done | rfl | (simp only [List.length_drop, List.length_take]; rfl)) ?_; (with_reducible refine (bits_Len64.calls k a0 t112 _ ?side99  A2.out).mono ?_); (case side99 => first | exact HG.out | exact Glob.below HG.out (by repeat (first | (with_reducible first | exact HB.out | apply below_alloc | apply pw_below_drewN | apply below_drew1) | exact HB.out))); rintro e w' ⟨rfl, ⟨nd, rfl⟩⟩; refine ⟨_, rfl, ?_⟩))
  go_ret
  exact ⟨by first | rfl | (simp [errW_none, errW_some] <;> rfl) | (simp only [← hji3]; first | rfl | (simp [errW_none, errW_some] <;> rfl)) | (simp [*, errW_none, errW_some] <;> rfl), by repeat (first | (with_reducible first | exact HB.out | apply below_alloc | apply pw_below_drewN | apply below_drew1) | exact HB.out)⟩
end Go.Proofs.YtbgabhknmpbgiaaDoor.S
end
section
namespace Go.Proofs.YtbgabhknmpbgiaaDoor.S
open Go.RowKit Go.Proofs.YtbgabhknmpbgiaaDoorW.PrintWords Go.Proofs.YtbgabhknmpbgiaaDoorW.PrintLast Go.Proofs.YtbgabhknmpbgiaaDoorW.PrintMore
set_option linter.unusedVariables false
set_option linter.unusedSimpArgs false
def WrAt (B g : Nat) (l : List Int) (w : World) : Prop := ∃ v, w.heap[g]? = some (.cells #[v] 82 (0, 0)) ∧ B ≤ g ∧ Kd.R (Kd.int .u8) 5 w B (fun _ => True) v l
structure KeepT (w w' : World) : Prop where
  size : w.heap.size ≤ w'.heap.size
  keep : ∀ (k : Nat) cs t, w.heap[k]? = some (.cells cs t (0, 0)) → t ≠ 5 → t ≠ 82 → w'.heap[k]? = some (.cells cs t (0, 0))
theorem KeepT.trans {w w1 w2 : World} (h : KeepT w w1) (k : KeepT w1 w2) : KeepT w w2 := ⟨Nat.le_trans h.size k.size, fun j cs t hj h1 h2 => k.keep j cs t (h.keep j cs t hj h1 h2) h1 h2⟩
structure WrStep (B g : Nat) (l' : List Int) (w w1 : World) (v v1 : Value) : Prop where
  at_ : WrAt B g l' (w1.setCell ⟨g, 0, none⟩ v1)
  bel : Below B w (w1.setCell ⟨g, 0, none⟩ v1)
  keep : KeepT w (w1.setCell ⟨g, 0, none⟩ v1)
  cell : w1.cell? ⟨g, 0, none⟩ = some v
  free : w1.frozen? ⟨g, 0, none⟩ = false
theorem wr_step {B g : Nat} {l l' : List Int} {w W1 w1 : World} {v v1 : Value} (hv : w.heap[g]? = some (.cells #[v] 82 (0, 0))) (hg : B ≤ g) (ho : Kd.R (Kd.int .u8) 5 w B (fun _ => True) v l)
    (hb1 : Below w.heap.size w W1) (ho1 : Kd.R (Kd.int .u8) 5 w1 B (fun _ => True) v1 l') (hbel : Below B w w1) (hgr : W1.grownBy w1 v.ownBlock) : WrStep B g l' w w1 v v1 := by
  have hne : ∀ (k : Nat) cs t, w.heap[k]? = some (.cells cs t (0, 0)) → t ≠ 5 → some k ≠ v.ownBlock := fun k cs t hk ht => Kd.R_ne ho hk (Ne.symm ht)
  have h1 : w1.heap[g]? = some (.cells #[v] 82 (0, 0)) := blk_grown (blk_below hv hb1) hgr (hne g _ _ hv (by decide))
  have hsz : w.heap.size ≤ w1.heap.size := Nat.le_trans hb1.size hgr.size
  refine ⟨⟨v1, blk_put h1 0 v1 rfl, hg, ?_⟩, hbel.setCell hg _, ⟨by simpa [World.setCell] using hsz, fun k cs t hk t1 t2 => ?_⟩, (blk_cell h1 0).trans rfl, blk_frozen h1 0⟩
  · have ha := Kd.R_types ho1 h1 (fun q hq => by
      rcases List.mem_cons.1 hq with rfl | hq
      · decide
      · cases hq)
    exact Kd.R_mono (Kd.R_far ha (p := ⟨g, 0, none⟩) (fun _ h => h.2) v1) (fun _ _ => trivial)
  · exact blk_far (blk_grown (blk_below hk hb1) hgr (hne k _ _ hk t1)) (by rintro rfl; rw [hv] at hk; injection hk with hk; injection hk with _ hk _; exact t2 hk.symm) _
def WrPost (B g : Nat) (l' : List Int) (w : World) (r : Value) (e : Ending) (w' : World) : Prop := e = .returned r ∧ WrAt B g l' w' ∧ Below B w w' ∧ KeepT w w'
def wrMax : Nat := 1000000000000
set_option maxHeartbeats 8000000 in
set_option maxRecDepth 100000 in
theorem wr_bool_true (B g : Nat) (l : List Int) (w : World) (hB : B ≤ w.heap.size) (h : WrAt B g l w) (hl : l.length ≤ wrMax) :
    Calls Tryd.prog 42 #[.pointer (some ⟨g, 0, none⟩), .bool true] w fun e w' => WrPost B g (l ++ [2]) w (.tuple #[]) e w' := by
  obtain ⟨v, hv, hg, ho⟩ := h
  unfold wrMax at hl
  have HV := Aside0.mk hv
  have HO := Aside0.mk ho
  have HG := Aside0.mk hg
  have HS := Aside0.mk hB
  have hc := (blk_cell hv 0).trans rfl
  clear hv ho hg hB
  obtain ⟨ls, LS⟩ : ∃ ls, Aside0 (l ++ [2] = ls) := ⟨_, ⟨rfl⟩⟩
  rw [LS.out]
  go_enter Tryd.func42, Tryd.ntmps42
  go_wp2_with (at_builtin; refine Kd.R_append (Kd.int .u8) (w0 := w) B rfl (.tmp 9) (.tmp 10) 80 5 (.int .u8 0) 1 rfl Tryd.underlying80 info5 rfl (by decide) (by omega) v l 2 [.int .u8 2] (fun _ => True) (fun _ => False) rfl rfl rfl (fun _ hk => hk.elim) (fun _ _ => trivial) HO.out (Below.refl _ _) HS.out (by omega) ?_; intro v1 w9 ho hb hg hat; rw [LS.out] at ho; obtain ⟨A1, c1, e1⟩ := Kd.R_slice ho; subst e1; have HW := Aside0.mk (wr_step HV.out HG.out HO.out (Below.refl _ _) ho hb hg); have hcc := HW.out.cell; have hff := HW.out.free; clear ho hb hg hat hc)
  refine bodyPost_end (results_none rfl _ _ _) rfl ?_
  exact ⟨rfl, HW.out.at_, HW.out.bel, HW.out.keep⟩
set_option maxHeartbeats 8000000 in
set_option maxRecDepth 100000 in
theorem wr_bool_false (B g : Nat) (l : List Int) (w : World) (hB : B ≤ w.heap.size) (h : WrAt B g l w) (hl : l.length ≤ wrMax) :
    Calls Tryd.prog 42 #[.pointer (some ⟨g, 0, none⟩), .bool false] w fun e w' => WrPost B g (l ++ [1]) w (.tuple #[]) e w' := by
  obtain ⟨v, hv, hg, ho⟩ := h
  unfold wrMax at hl
  have HV := Aside0.mk hv
  have HO := Aside0.mk ho
  have HG := Aside0.mk hg
  have HS := Aside0.mk hB
  have hc := (blk_cell hv 0).trans rfl
  clear hv ho hg hB
  obtain ⟨ls, LS⟩ : ∃ ls, Aside0 (l ++ [1] = ls) := ⟨_, ⟨rfl⟩⟩
  rw [LS.out]
  go_enter Tryd.func42, Tryd.ntmps42
  go_wp2_with (at_builtin; refine Kd.R_append (Kd.int .u8) (w0 := w) B rfl (.tmp 18) (.tmp 19) 80 5 (.int .u8 0) 1 rfl Tryd.underlying80 info5 rfl (by decide) (by omega) v l 1 [.int .u8 1] (fun _ => True) (fun _ => False) rfl rfl rfl (fun _ hk => hk.elim) (fun _ _ => trivial) HO.out (Below.refl _ _) HS.out (by omega) ?_; intro v1 w9 ho hb hg hat; rw [LS.out] at ho; obtain ⟨A1, c1, e1⟩ := Kd.R_slice ho; subst e1; have HW := Aside0.mk (wr_step HV.out HG.out HO.out (Below.refl _ _) ho hb hg); have hcc := HW.out.cell; have hff := HW.out.free; clear ho hb hg hat hc)
  refine bodyPost_end (results_none rfl _ _ _) rfl ?_
  exact ⟨rfl, HW.out.at_, HW.out.bel, HW.out.keep⟩
theorem wr_bool (B g : Nat) (l : List Int) (b : Bool) (w : World) (hB : B ≤ w.heap.size) (h : WrAt B g l w) (hl : l.length ≤ wrMax) :
    Calls Tryd.prog 42 #[.pointer (some ⟨g, 0, none⟩), .bool b] w fun e w' => WrPost B g (l ++ [if b = true then 2 else 1]) w (.tuple #[]) e w' := by
  cases b
  · exact wr_bool_false B g l w hB h hl
  · exact wr_bool_true B g l w hB h hl
set_option maxHeartbeats 8000000 in
set_option maxRecDepth 100000 in
theorem wr_unsigned (k k2 : Nat) (B g : Nat) (l : List Int) (n wd : Int) (bs : List Int) (w : World) (hG : Aside0 (Glob w)) (hB : B ≤ w.heap.size) (h : WrAt B g l w) (hl : l.length + bs.length ≤ wrMax) (hw : Aside0 (codec_width.f k n = some wd)) (hn : Aside0 (codec_number.f k2 16 n wd = some bs)) :
    Calls Tryd.prog 40 #[.pointer (some ⟨g, 0, none⟩), .int .u64 n] w fun e w' => WrPost B g (l ++ bs) w (.tuple #[]) e w' := by
  obtain ⟨v, hv, hg, ho⟩ := h
  unfold wrMax at hl
  have HV := Aside0.mk hv
  have HO := Aside0.mk ho
  have HG := Aside0.mk hg
  have HS := Aside0.mk hB
  have hc := (blk_cell hv 0).trans rfl
  clear hv ho hg hB
  obtain ⟨ls, LS⟩ : ∃ ls, Aside0 (l ++ bs = ls) := ⟨_, ⟨rfl⟩⟩
  rw [LS.out]
  go_enter Tryd.func40, Tryd.ntmps40
  try go_wp2
  refine start_ (n := 13) (S := fun w' => w'.cell? ⟨g, 0, none⟩ = some v) (ds := [12]) #[Yn, Yn, Yn, Yn, Yn, Yn, Yn, Yn, Yn, Yn, Yn, Yn, Yn] (by kernel_rfl) rfl rfl (hc) (fun hHeld => ?_)
  refine pure_ (i := 0) (N := some 4) (v := ?_) (a' := ?_) #[Y, Yn, Yn, Yn, Yn, Yn, Yn, Yn, Yn, Yn, Yn, Yn, Yn] rfl rfl (by kernel_rfl) (fun _ _ _ h => h) (Or.inl ⟨by rfl, ?_⟩) ?_ ?_
  rotate_left
  · intro w'
    go_simp
    with_reducible rfl
  rotate_left
  · simp only [Act.put, List.setIfInBounds_toArray, List.set_cons_zero, List.set_cons_succ, i64_w, i32_w]
    rfl
  refine pure_ (i := 1) (N := some 5) (v := ?_) (a' := ?_) #[Y, Y, Yn, Yn, Yn, Yn, Yn, Yn, Yn, Yn, Yn, Yn, Yn] rfl rfl (by kernel_rfl) (fun _ _ _ h => h) (Or.inl ⟨by rfl, ?_⟩) ?_ ?_
  rotate_left
  · intro w'
    go_simp
    with_reducible rfl
  rotate_left
  · simp only [Act.put, List.setIfInBounds_toArray, List.set_cons_zero, List.set_cons_succ, i64_w, i32_w]
    rfl
  refine pure_ (i := 2) (N := some 6) (v := ?_) (a' := ?_) #[Y, Y, Y, Yn, Yn, Yn, Yn, Yn, Yn, Yn, Yn, Yn, Yn] rfl rfl (by kernel_rfl) (fun _ _ _ h => h) (Or.inl ⟨by rfl, ?_⟩) ?_ ?_
  rotate_left
  · intro w'
    go_simp
    with_reducible rfl
  rotate_left
  · simp only [Act.put, List.setIfInBounds_toArray, List.set_cons_zero, List.set_cons_succ, i64_w, i32_w]
    rfl
  refine pure_ (i := 3) (N := some 7) (v := ?_) (a' := ?_) #[Y, Y, Y, Y, Yn, Yn, Yn, Yn, Yn, Yn, Yn, Yn, Yn] rfl rfl (by kernel_rfl) (fun _ _ _ h => h) (Or.inl ⟨by rfl, ?_⟩) ?_ ?_
  rotate_left
  · intro w'
    go_simp
    with_reducible rfl
  rotate_left
  · simp only [Act.put, List.setIfInBounds_toArray, List.set_cons_zero, List.set_cons_succ, i64_w, i32_w]
    rfl
  refine pure_ (i := 5) (N := some 9) (v := ?_) (a' := ?_) #[Y, Y, Y, Y, Yn, Y, Yn, Yn, Yn, Yn, Yn, Yn, Yn] rfl rfl (by kernel_rfl) (fun _ _ _ h => h) (Or.inl ⟨by rfl, ?_⟩) ?_ ?_
  rotate_left
  · intro w'
    go_simp
    with_reducible rfl
  rotate_left
  · simp only [Act.put, List.setIfInBounds_toArray, List.set_cons_zero, List.set_cons_succ, i64_w, i32_w]
    rfl
  refine pure_ (i := 6) (N := some 10) (v := ?_) (a' := ?_) #[Y, Y, Y, Y, Yn, Y, Y, Yn, Yn, Yn, Yn, Yn, Yn] rfl rfl (by kernel_rfl) (fun _ _ _ h => h) (Or.inl ⟨by rfl, ?_⟩) ?_ ?_
  rotate_left
  · intro w'
    go_simp
    with_reducible rfl
  rotate_left
  · simp only [Act.put, List.setIfInBounds_toArray, List.set_cons_zero, List.set_cons_succ, i64_w, i32_w]
    rfl
  refine take_ (i := 4) (N := some 8) (v := ?_) (a' := ?_) #[Y, Y, Y, Y, Y, Y, Y, Yn, Yn, Yn, Yn, Yn, Yn] rfl rfl (by kernel_rfl) (fun _ _ _ h => h) (Or.inl ⟨by rfl, ?_⟩) hHeld ?_ ?_
  rotate_left
  · intro w' s0
    go_simp
    with_reducible rfl
  rotate_left
  · simp only [Act.put, List.setIfInBounds_toArray, List.set_cons_zero, List.set_cons_succ, i64_w, i32_w]
    rfl
  refine one_ (i := 7) (N := some 11) #[Y, Y, Y, Y, Y, Y, Y, Y, Yn, Yn, Yn, Yn, Yn] rfl rfl (by kernel_rfl) (by decide) (fun K hK => ?_)
  refine goes_ Tryd.func69 (by kernel_rfl) rfl #[.int .u64 n] (by rfl) rfl rfl (by simp only [List.map_toArray, List.map_cons, List.map_nil]; rfl) ?_
  with_reducible refine (codec_width.calls k n wd _ (Glob.below hG.out (below_drew1 (Below.refl _ _))) hw.out).mono ?_
  rintro e w7 ⟨rfl, hb7⟩
  refine ⟨_, rfl, ?_⟩
  have HB7 := Aside0.mk (below_step (below_drew1 (Below.refl w.heap.size w)) hb7)
  have hk := Aside0.mk hb7
  clear hb7
  refine hK.out _ _ (pw_cell_below hk.out hHeld) (fun hHeld => ?_)
  clear hK K
  refine norm_ (a' := ?_) ?_ ?_
  rotate_left
  · show Act.put _ (some 11) _ = _
    simp only [Act.put, List.setIfInBounds_toArray, List.set_cons_zero, List.set_cons_succ, i64_w, i32_w]
    rfl
  refine one_ (i := 8) (N := some 12) #[Y, Y, Y, Y, Y, Y, Y, Y, Y, Yn, Yn, Yn, Yn] rfl rfl (by kernel_rfl) (by decide) (fun K hK => ?_)
  refine goes_ Tryd.func68 (by kernel_rfl) rfl #[.int .u8 16, .int .u64 n, .int .i64 wd] (by rfl) rfl rfl (by simp only [List.map_toArray, List.map_cons, List.map_nil]; rfl) ?_
  with_reducible refine (codec_number.calls k2 16 n wd bs _ (Glob.below hG.out HB7.out) hn.out).mono ?_
  rintro e w8 ⟨v2, rfl, hv2, hb8⟩
  refine ⟨_, rfl, ?_⟩
  have HB8 := Aside0.mk (below_step HB7.out hb8)
  obtain ⟨A2, c2, e2⟩ := Kd.R_slice hv2
  subst e2
  have HR2 := Aside0.mk hv2
  have hk := Aside0.mk hb8
  clear hb8 hv2 HB7
  refine hK.out _ _ (pw_cell_below hk.out hHeld) (fun hHeld => ?_)
  clear hK K
  refine norm_ (a' := ?_) ?_ ?_
  rotate_left
  · show Act.put _ (some 12) _ = _
    simp only [Act.put, List.setIfInBounds_toArray, List.set_cons_zero, List.set_cons_succ, i64_w, i32_w]
    rfl
  refine one_ (i := 9) (N := some 13) #[Y, Y, Y, Y, Y, Y, Y, Y, Y, Y, Yn, Yn, Yn] rfl rfl (by kernel_rfl) (by decide) (fun K hK => ?_)
  refine Kd.R_append_rows_step (Kd.int .u8) (w0 := w) B (by rfl) (.tmp 8) (.tmp 12) 80 5 (.int .u8 0) 1 rfl Tryd.underlying80 info5 rfl (by decide) (by omega) v l bs _ _ _ (fun _ => True) (fun _ => False) rfl rfl (Kd.R_below HO.out HB8.out) (Kd.R_reads' HR2.out).2.2 (fun _ _ h => h) (fun _ h => h.elim) (fun _ _ => trivial) (HB8.out.mono HS.out) (Nat.le_trans HS.out HB8.out.size) (by omega) ?_
  intro v1 w9 ho hb hg hat
  rw [LS.out] at ho
  obtain ⟨A1, c1, e1⟩ := Kd.R_slice ho
  subst e1
  have HW := Aside0.mk (wr_step HV.out HG.out HO.out HB8.out ho hb hg)
  have hcc := HW.out.cell
  have hff := HW.out.free
  clear ho hb hg hat
  refine hK.out _ _ (hcc) (fun hHeld => ?_)
  clear hK K
  refine norm_ (a' := ?_) ?_ ?_
  rotate_left
  · show Act.put _ (some 13) _ = _
    simp only [Act.put, List.setIfInBounds_toArray, List.set_cons_zero, List.set_cons_succ, i64_w, i32_w]
    rfl
  refine pure_ (i := 10) (N := some 14) (v := ?_) (a' := ?_) #[Y, Y, Y, Y, Y, Y, Y, Y, Y, Y, Y, Yn, Yn] rfl rfl (by kernel_rfl) (fun _ _ _ h => h) (Or.inl ⟨by rfl, ?_⟩) ?_ ?_
  rotate_left
  · intro w'
    go_simp
    with_reducible rfl
  rotate_left
  · simp only [Act.put, List.setIfInBounds_toArray, List.set_cons_zero, List.set_cons_succ, i64_w, i32_w]
    rfl
  refine pure_ (i := 11) (N := some 15) (v := ?_) (a' := ?_) #[Y, Y, Y, Y, Y, Y, Y, Y, Y, Y, Y, Y, Yn] rfl rfl (by kernel_rfl) (fun _ _ _ h => h) (Or.inl ⟨by rfl, ?_⟩) ?_ ?_
  rotate_left
  · intro w'
    go_simp
    with_reducible rfl
  rotate_left
  · simp only [Act.put, List.setIfInBounds_toArray, List.set_cons_zero, List.set_cons_succ, i64_w, i32_w]
    rfl
  refine last_ (i := 12) (N := none) #[Y, Y, Y, Y, Y, Y, Y, Y, Y, Y, Y, Y, Y] rfl rfl (by kernel_rfl) (by decide) (fun K hK => ?_)
  refine skip_ (w1 := ?_) (by rfl) rfl ?_ ?_
  rotate_left
  · go_simp
    rfl
  refine hK.out _ _ ?_
  clear hK K
  refine done_ (by kernel_rfl) ?_
  try go_wp2
  refine bodyPost_end (results_none rfl _ _ _) rfl ?_
  exact ⟨rfl, HW.out.at_, HW.out.bel, HW.out.keep⟩
set_option maxHeartbeats 8000000 in
set_option maxRecDepth 100000 in
theorem wr_signed (k k2 : Nat) (B g : Nat) (l : List Int) (n wd : Int) (bs : List Int) (w : World) (hG : Aside0 (Glob w)) (hB : B ≤ w.heap.size) (h : WrAt B g l w) (hl : l.length + bs.length ≤ wrMax) (hw : Aside0 (codec_spread.f k n = some wd)) (hn : Aside0 (codec_number.f k2 32 (IntKind.u64.wrap n) wd = some bs)) :
    Calls Tryd.prog 41 #[.pointer (some ⟨g, 0, none⟩), .int .i64 n] w fun e w' => WrPost B g (l ++ bs) w (.tuple #[]) e w' := by
  obtain ⟨v, hv, hg, ho⟩ := h
  unfold wrMax at hl
  have HV := Aside0.mk hv
  have HO := Aside0.mk ho
  have HG := Aside0.mk hg
  have HS := Aside0.mk hB
  have hc := (blk_cell hv 0).trans rfl
  clear hv ho hg hB
  obtain ⟨ls, LS⟩ : ∃ ls, Aside0 (l ++ bs = ls) := ⟨_, ⟨rfl⟩⟩
  rw [LS.out]
  go_enter Tryd.func41, Tryd.ntmps41
  try go_wp2
  refine start_ (n := 14) (S := fun w' => w'.cell? ⟨g, 0, none⟩ = some v) (ds := [13]) #[Yn, Yn, Yn, Yn, Yn, Yn, Yn, Yn, Yn, Yn, Yn, Yn, Yn, Yn] (by kernel_rfl) rfl rfl (hc) (fun hHeld => ?_)
  refine pure_ (i := 0) (N := some 4) (v := ?_) (a' := ?_) #[Y, Yn, Yn, Yn, Yn, Yn, Yn, Yn, Yn, Yn, Yn, Yn, Yn, Yn] rfl rfl (by kernel_rfl) (fun _ _ _ h => h) (Or.inl ⟨by rfl, ?_⟩) ?_ ?_
  rotate_left
  · intro w'
    go_simp
    with_reducible rfl
  rotate_left
  · simp only [Act.put, List.setIfInBounds_toArray, List.set_cons_zero, List.set_cons_succ, i64_w, i32_w]
    rfl
  refine pure_ (i := 1) (N := some 5) (v := ?_) (a' := ?_) #[Y, Y, Yn, Yn, Yn, Yn, Yn, Yn, Yn, Yn, Yn, Yn, Yn, Yn] rfl rfl (by kernel_rfl) (fun _ _ _ h => h) (Or.inl ⟨by rfl, ?_⟩) ?_ ?_
  rotate_left
  · intro w'
    go_simp
    with_reducible rfl
  rotate_left
  · simp only [Act.put, List.setIfInBounds_toArray, List.set_cons_zero, List.set_cons_succ, i64_w, i32_w]
    rfl
  refine pure_ (i := 2) (N := some 6) (v := ?_) (a' := ?_) #[Y, Y, Y, Yn, Yn, Yn, Yn, Yn, Yn, Yn, Yn, Yn, Yn, Yn] rfl rfl (by kernel_rfl) (fun _ _ _ h => h) (Or.inl ⟨by rfl, ?_⟩) ?_ ?_
  rotate_left
  · intro w'
    go_simp
    with_reducible rfl
  rotate_left
  · simp only [Act.put, List.setIfInBounds_toArray, List.set_cons_zero, List.set_cons_succ, i64_w, i32_w]
    rfl
  refine pure_ (i := 3) (N := some 7) (v := ?_) (a' := ?_) #[Y, Y, Y, Y, Yn, Yn, Yn, Yn, Yn, Yn, Yn, Yn, Yn, Yn] rfl rfl (by kernel_rfl) (fun _ _ _ h => h) (Or.inl ⟨by rfl, ?_⟩) ?_ ?_
  rotate_left
  · intro w'
    go_simp
    with_reducible rfl
  rotate_left
  · simp only [Act.put, List.setIfInBounds_toArray, List.set_cons_zero, List.set_cons_succ, i64_w, i32_w]
    rfl
  refine pure_ (i := 5) (N := some 9) (v := ?_) (a' := ?_) #[Y, Y, Y, Y, Yn, Y, Yn, Yn, Yn, Yn, Yn, Yn, Yn, Yn] rfl rfl (by kernel_rfl) (fun _ _ _ h => h) (Or.inl ⟨by rfl, ?_⟩) ?_ ?_
  rotate_left
  · intro w'
    go_simp
    with_reducible rfl
  rotate_left
  · simp only [Act.put, List.setIfInBounds_toArray, List.set_cons_zero, List.set_cons_succ, i64_w, i32_w]
    rfl
  refine pure_ (i := 6) (N := some 10) (v := ?_) (a' := ?_) #[Y, Y, Y, Y, Yn, Y, Y, Yn, Yn, Yn, Yn, Yn, Yn, Yn] rfl rfl (by kernel_rfl) (fun _ _ _ h => h) (Or.inl ⟨by rfl, ?_⟩) ?_ ?_
  rotate_left
  · intro w'
    go_simp
    with_reducible rfl
  rotate_left
  · simp only [Act.put, List.setIfInBounds_toArray, List.set_cons_zero, List.set_cons_succ, i64_w, i32_w]
    rfl
  refine pure_ (i := 7) (N := some 11) (v := ?_) (a' := ?_) #[Y, Y, Y, Y, Yn, Y, Y, Y, Yn, Yn, Yn, Yn, Yn, Yn] rfl rfl (by kernel_rfl) (fun _ _ _ h => h) (Or.inl ⟨by rfl, ?_⟩) ?_ ?_
  rotate_left
  · intro w'
    go_simp
    with_reducible rfl
  rotate_left
  · simp only [Act.put, List.setIfInBounds_toArray, List.set_cons_zero, List.set_cons_succ, i64_w, i32_w]
    rfl
  refine take_ (i := 4) (N := some 8) (v := ?_) (a' := ?_) #[Y, Y, Y, Y, Y, Y, Y, Y, Yn, Yn, Yn, Yn, Yn, Yn] rfl rfl (by kernel_rfl) (fun _ _ _ h => h) (Or.inl ⟨by rfl, ?_⟩) hHeld ?_ ?_
  rotate_left
  · intro w' s0
    go_simp
    with_reducible rfl
  rotate_left
  · simp only [Act.put, List.setIfInBounds_toArray, List.set_cons_zero, List.set_cons_succ, i64_w, i32_w]
    rfl
  refine one_ (i := 8) (N := some 12) #[Y, Y, Y, Y, Y, Y, Y, Y, Y, Yn, Yn, Yn, Yn, Yn] rfl rfl (by kernel_rfl) (by decide) (fun K hK => ?_)
  refine goes_ Tryd.func70 (by kernel_rfl) rfl #[.int .i64 n] (by rfl) rfl rfl (by simp only [List.map_toArray, List.map_cons, List.map_nil]; rfl) ?_
  with_reducible refine (codec_spread.calls k n wd _ (Glob.below hG.out (below_drew1 (Below.refl _ _))) hw.out).mono ?_
  rintro e w7 ⟨rfl, ⟨nd, rfl⟩⟩
  refine ⟨_, rfl, ?_⟩
  have HB7 := Aside0.mk (pw_below_drewN (below_drew1 (Below.refl w.heap.size w)) nd)
  refine hK.out _ _ (hHeld) (fun hHeld => ?_)
  clear hK K
  refine norm_ (a' := ?_) ?_ ?_
  rotate_left
  · show Act.put _ (some 12) _ = _
    simp only [Act.put, List.setIfInBounds_toArray, List.set_cons_zero, List.set_cons_succ, i64_w, i32_w]
    rfl
  refine one_ (i := 9) (N := some 13) #[Y, Y, Y, Y, Y, Y, Y, Y, Y, Y, Yn, Yn, Yn, Yn] rfl rfl (by kernel_rfl) (by decide) (fun K hK => ?_)
  refine goes_ Tryd.func68 (by kernel_rfl) rfl #[.int .u8 32, .int .u64 (IntKind.u64.wrap n), .int .i64 wd] (by rfl) rfl rfl (by simp only [List.map_toArray, List.map_cons, List.map_nil]; rfl) ?_
  with_reducible refine (codec_number.calls k2 32 (IntKind.u64.wrap n) wd bs _ (Glob.below hG.out HB7.out) hn.out).mono ?_
  rintro e w8 ⟨v2, rfl, hv2, hb8⟩
  refine ⟨_, rfl, ?_⟩
  have HB8 := Aside0.mk (below_step HB7.out hb8)
  obtain ⟨A2, c2, e2⟩ := Kd.R_slice hv2
  subst e2
  have HR2 := Aside0.mk hv2
  have hk := Aside0.mk hb8
  clear hb8 hv2 HB7
  refine hK.out _ _ (pw_cell_below hk.out hHeld) (fun hHeld => ?_)
  clear hK K
  refine norm_ (a' := ?_) ?_ ?_
  rotate_left
  · show Act.put _ (some 13) _ = _
    simp only [Act.put, List.setIfInBounds_toArray, List.set_cons_zero, List.set_cons_succ, i64_w, i32_w]
    rfl
  refine one_ (i := 10) (N := some 14) #[Y, Y, Y, Y, Y, Y, Y, Y, Y, Y, Y, Yn, Yn, Yn] rfl rfl (by kernel_rfl) (by decide) (fun K hK => ?_)
  refine Kd.R_append_rows_step (Kd.int .u8) (w0 := w) B (by rfl) (.tmp 8) (.tmp 13) 80 5 (.int .u8 0) 1 rfl Tryd.underlying80 info5 rfl (by decide) (by omega) v l bs _ _ _ (fun _ => True) (fun _ => False) rfl rfl (Kd.R_below HO.out HB8.out) (Kd.R_reads' HR2.out).2.2 (fun _ _ h => h) (fun _ h => h.elim) (fun _ _ => trivial) (HB8.out.mono HS.out) (Nat.le_trans HS.out HB8.out.size) (by omega) ?_
  intro v1 w9 ho hb hg hat
  rw [LS.out] at ho
  obtain ⟨A1, c1, e1⟩ := Kd.R_slice ho
  subst e1
  have HW := Aside0.mk (wr_step HV.out HG.out HO.out HB8.out ho hb hg)
  have hcc := HW.out.cell
  have hff := HW.out.free
  clear ho hb hg hat
  refine hK.out _ _ (hcc) (fun hHeld => ?_)
  clear hK K
  refine norm_ (a' := ?_) ?_ ?_
  rotate_left
  · show Act.put _ (some 14) _ = _
    simp only [Act.put, List.setIfInBounds_toArray, List.set_cons_zero, List.set_cons_succ, i64_w, i32_w]
    rfl
  refine pure_ (i := 11) (N := some 15) (v := ?_) (a' := ?_) #[Y, Y, Y, Y, Y, Y, Y, Y, Y, Y, Y, Y, Yn, Yn] rfl rfl (by kernel_rfl) (fun _ _ _ h => h) (Or.inl ⟨by rfl, ?_⟩) ?_ ?_
  rotate_left
  · intro w'
    go_simp
    with_reducible rfl
  rotate_left
  · simp only [Act.put, List.setIfInBounds_toArray, List.set_cons_zero, List.set_cons_succ, i64_w, i32_w]
    rfl
  refine pure_ (i := 12) (N := some 16) (v := ?_) (a' := ?_) #[Y, Y, Y, Y, Y, Y, Y, Y, Y, Y, Y, Y, Y, Yn] rfl rfl (by kernel_rfl) (fun _ _ _ h => h) (Or.inl ⟨by rfl, ?_⟩) ?_ ?_
  rotate_left
  · intro w'
    go_simp
    with_reducible rfl
  rotate_left
  · simp only [Act.put, List.setIfInBounds_toArray, List.set_cons_zero, List.set_cons_succ, i64_w, i32_w]
    rfl
  refine last_ (i := 13) (N := none) #[Y, Y, Y, Y, Y, Y, Y, Y, Y, Y, Y, Y, Y, Y] rfl rfl (by kernel_rfl) (by decide) (fun K hK => ?_)
  refine skip_ (w1 := ?_) (by rfl) rfl ?_ ?_
  rotate_left
  · go_simp
    rfl
  refine hK.out _ _ ?_
  clear hK K
  refine done_ (by kernel_rfl) ?_
  try go_wp2
  refine bodyPost_end (results_none rfl _ _ _) rfl ?_
  exact ⟨rfl, HW.out.at_, HW.out.bel, HW.out.keep⟩
theorem Glob.base {B : Nat} {w w1 : World} (hG : Glob w) (h0 : 0 < B) (hb : Below B w w1) : Glob w1 := by
  obtain ⟨t, h⟩ := hG
  exact ⟨t, (hb.block 0 h0).trans h⟩
set_option maxHeartbeats 8000000 in
set_option maxRecDepth 100000 in
theorem wr_list (k k2 : Nat) (B g : Nat) (l : List Int) (n wd : Int) (bs : List Int) (w : World) (hG : Aside0 (Glob w)) (h0 : 0 < B) (hB : B ≤ w.heap.size) (h : WrAt B g l w) (hl : l.length + 1 + bs.length ≤ wrMax) (hr : 0 ≤ n ∧ n ≤ 65535) (hw' : Aside0 (codec_width.f k n = some wd)) (hn' : Aside0 (codec_number.f k2 16 n wd = some bs)) :
    Calls Tryd.prog 39 #[.pointer (some ⟨g, 0, none⟩), .int .i64 n] w fun e w' => WrPost B g (l ++ [64] ++ bs) w (.int .i64 0) e w' := by
  have hwn : IntKind.u64.wrap n = n := by
    show n % 18446744073709551616 = n
    omega
  have hw : Aside0 (codec_width.f k (IntKind.u64.wrap n) = some wd) := ⟨by rw [hwn]; exact hw'.out⟩
  have hn : Aside0 (codec_number.f k2 16 (IntKind.u64.wrap n) wd = some bs) := ⟨by rw [hwn]; exact hn'.out⟩
  clear hw' hn' hwn
  obtain ⟨v, hv, hg, ho⟩ := h
  unfold wrMax at hl
  have HV := Aside0.mk hv
  have HO := Aside0.mk ho
  have HG := Aside0.mk hg
  have HS := Aside0.mk hB
  have hc := (blk_cell hv 0).trans rfl
  clear hv ho hg hB
  obtain ⟨ls, LS⟩ : ∃ ls, Aside0 (l ++ [64] = ls) := ⟨_, ⟨rfl⟩⟩
  rw [LS.out]
  have hl2 : ls.length + bs.length ≤ wrMax := by rw [← LS.out]; simp [wrMax]; omega
  have hb0 : decide (n < 0) = false := decide_eq_false (by omega)
  have hb1 : decide (65535 < n) = false := decide_eq_false (by omega)
  have H0 := Aside0.mk h0
  clear hr h0
  go_enter Tryd.func39, Tryd.ntmps39
  go_wp2_with (first | (at_builtin; refine Kd.R_append (Kd.int .u8) (w0 := w) B rfl (.tmp 15) (.tmp 16) 80 5 (.int .u8 0) 1 rfl Tryd.underlying80 info5 rfl (by decide) (by omega) v l 64 [.int .u8 64] (fun _ => True) (fun _ => False) rfl rfl rfl (fun _ hk => hk.elim) (fun _ _ => trivial) HO.out (Below.refl _ _) HS.out (by omega) ?_; intro v1 w9 ho hb hg hat; rw [LS.out] at ho; obtain ⟨A1, c1, e1⟩ := Kd.R_slice ho; subst e1; have HW := Aside0.mk (wr_step HV.out HG.out HO.out (Below.refl _ _) ho hb hg); have hcc := HW.out.cell; have hff := HW.out.free; clear ho hb hg hat hc) | (go_at_call 40; (with_reducible refine (wr_unsigned k k2 B g ls _ wd bs _ ⟨Glob.base hG.out H0.out HW.out.bel⟩ (Nat.le_trans HS.out HW.out.keep.size) HW.out.at_ hl2 hw hn).mono ?_); rintro e w5 ⟨rfl, ha, hb, hk⟩; have HA := Aside0.mk ha; have HBB := Aside0.mk (HW.out.bel.trans hb); have HKK := Aside0.mk (HW.out.keep.trans hk); clear ha hb hk))
  go_ret
  exact ⟨rfl, HA.out, HBB.out, HKK.out⟩
theorem wr_step2 {B g : Nat} {l l' : List Int} {w w1 : World} {v v1 : Value} (hv : w.heap[g]? = some (.cells #[v] 82 (0, 0))) (hg : B ≤ g) (ho : Kd.R (Kd.int .u8) 5 w B (fun _ => True) v l)
    (ho1 : Kd.R (Kd.int .u8) 5 w1 B (fun _ => True) v1 l') (hbel : Below B w w1) (hgr : w.grownBy w1 v.ownBlock) : WrStep B g l' w w1 v v1 := wr_step hv hg ho (Below.refl _ _) ho1 hbel hgr
theorem R_of_own {w : World} {B : Nat} {v : Value} {l : List Int} (h : w.ownsRow B 5 1 v l.length (nums .u8 l)) : Kd.R (Kd.int .u8) 5 w B (fun _ => True) v l := by
  refine ⟨fun _ _ => trivial, nums .u8 l, h, ?_⟩
  refine ⟨by show (nums .u8 l).length = l.length * 1; simp [nums], fun j p hj => ?_⟩
  obtain ⟨hl, hp⟩ := List.getElem?_eq_some_iff.1 hj
  have hlt : j < (nums .u8 l).length := by simpa [nums] using hl
  show List.take 1 (List.drop (j * 1) (nums .u8 l)) = [.int .u8 p]
  rw [Nat.mul_one, List.drop_eq_getElem_cons hlt]
  simp [nums, hp]
set_option maxHeartbeats 8000000 in
set_option maxRecDepth 100000 in
theorem wr_text (k k2 : Nat) (B g : Nat) (l : List Int) (s : ByteArray) (wd : Int) (bs : List Int) (w : World) (hG : Aside0 (Glob w)) (h0 : 0 < B) (hB : B ≤ w.heap.size) (h : WrAt B g l w) (hl : l.length + 1 + bs.length + s.size ≤ wrMax) (hr : s.size ≤ 65535) (hw : Aside0 (codec_width.f k (s.size : Int) = some wd)) (hn : Aside0 (codec_number.f k2 16 (s.size : Int) wd = some bs)) :
    Calls Tryd.prog 43 #[.pointer (some ⟨g, 0, none⟩), .string s] w fun e w' => WrPost B g (l ++ [48] ++ bs ++ bytesOf s) w (.int .i64 0) e w' := by
  obtain ⟨v, hv, hg, ho⟩ := h
  unfold wrMax at hl
  have HV := Aside0.mk hv
  have HO := Aside0.mk ho
  have HG := Aside0.mk hg
  have HS := Aside0.mk hB
  have hc := (blk_cell hv 0).trans rfl
  clear hv ho hg hB
  obtain ⟨ls, LS⟩ : ∃ ls, Aside0 (l ++ [48] = ls) := ⟨_, ⟨rfl⟩⟩
  rw [LS.out]
  obtain ⟨l2, L2⟩ : ∃ l2, Aside0 (ls ++ bs = l2) := ⟨_, ⟨rfl⟩⟩
  rw [L2.out]
  obtain ⟨l3, L3⟩ : ∃ l3, Aside0 (l2 ++ bytesOf s = l3) := ⟨_, ⟨rfl⟩⟩
  rw [L3.out]
  have hl2 : ls.length + bs.length ≤ wrMax := by rw [← LS.out]; simp [wrMax]; omega
  have hl3 := Aside0.mk (show l2.length + s.size ≤ 140737488355328 by rw [← L2.out, ← LS.out]; simp; omega)
  have hb0 : decide (65535 < (s.size : Int)) = false := decide_eq_false (by omega)
  have hb1 : decide (65535 < s.size) = false := decide_eq_false (by omega)
  have H0 := Aside0.mk h0
  clear hr h0
  go_enter Tryd.func43, Tryd.ntmps43
  go_wp2_with (first | (at_builtin; refine Kd.R_append (Kd.int .u8) (w0 := w) B rfl (.tmp 12) (.tmp 13) 80 5 (.int .u8 0) 1 rfl Tryd.underlying80 info5 rfl (by decide) (by omega) v l 48 [.int .u8 48] (fun _ => True) (fun _ => False) rfl rfl rfl (fun _ hk => hk.elim) (fun _ _ => trivial) HO.out (Below.refl _ _) HS.out (by omega) ?_; intro v1 w9 ho hb hg hat; rw [LS.out] at ho; obtain ⟨A1, c1, e1⟩ := Kd.R_slice ho; subst e1; have HW := Aside0.mk (wr_step HV.out HG.out HO.out (Below.refl _ _) ho hb hg); have hcc := HW.out.cell; have hff := HW.out.free; clear ho hb hg hat hc) | ((go_at_call 40; (with_reducible refine (wr_unsigned k k2 B g ls _ wd bs _ ⟨Glob.base hG.out H0.out HW.out.bel⟩ (Nat.le_trans HS.out HW.out.keep.size) HW.out.at_ hl2 hw hn).mono ?_); rintro e w5 ⟨rfl, ha, hb, hk⟩; have HA := Aside0.mk ha; have HBB := Aside0.mk (HW.out.bel.trans hb); have HKK := Aside0.mk (HW.out.keep.trans hk); clear ha hb hk); rw [L2.out] at HA; obtain ⟨v2, hv2, _, ho2⟩ := HA.out; obtain ⟨A2, c2, e2⟩ := Kd.R_slice ho2; subst e2; have HV2 := Aside0.mk hv2; have HO2 := Aside0.mk ho2; have HN2 : Aside0 (w5.ownsRow B 5 1 (.slice A2 l2.length c2) l2.length (nums .u8 l2)) := ⟨Kd.own_of_R ho2⟩; have hc2 := (blk_cell hv2 0).trans rfl; clear hv2 ho2 HA) | (refine print_append_str (w0 := w5) B rfl (.tmp 26) (.tmp 27) 80 9 5 rfl Tryd.underlying80 Tryd.underlying9 info5 (.slice A2 l2.length c2) l2 s ?h1 ?h2 ?aO ?aB ?aS ?aL ?_; (case h1 => rfl); (case h2 => rfl); (case aO => exact HN2.out); (case aB => exact Below.refl _ _); (case aS => exact Nat.le_trans HS.out HKK.out.size); (case aL => exact hl3.out); intro v3 w9 ho hb hg; have ho' := R_of_own ho; rw [L3.out] at ho'; obtain ⟨A3, c3, e3⟩ := Kd.R_slice ho'; subst e3; have HW3 := Aside0.mk (wr_step2 HV2.out HG.out HO2.out ho' hb hg); have hcc3 := HW3.out.cell; have hff3 := HW3.out.free; clear ho ho' hb hg hc2))
  go_ret
  exact ⟨rfl, HW3.out.at_, HBB.out.trans HW3.out.bel, HKK.out.trans HW3.out.keep⟩
set_option maxHeartbeats 8000000 in
set_option maxRecDepth 100000 in
theorem wr_data (B g : Nat) (l : List Int) (w : World) (h : WrAt B g l w) :
    Calls Tryd.prog 44 #[.pointer (some ⟨g, 0, none⟩)] w fun e w' => e = .returned (.string (strOfNums l)) ∧ w' = w := by
  obtain ⟨v, hv, hg, ho⟩ := h
  obtain ⟨A1, c1, e1⟩ := Kd.R_slice ho
  subst e1
  have hc := (blk_cell hv 0).trans rfl
  have hcv := own_string (w := w) (P := Tryd.prog) Tryd.underlying80 Tryd.underlying5 Tryd.underlying9 (Kd.own_of_R ho)
  clear hv ho hg
  go_enter Tryd.func44, Tryd.ntmps44
  go_wp2
  go_ret
  exact ⟨rfl, rfl⟩
end Go.Proofs.YtbgabhknmpbgiaaDoor.S
end
section
namespace Go.Proofs.YtbgabhknmpbgiaaDoor.Pure
open Go.RowKit Go.Proofs.YtbgabhknmpbgiaaDoorW.PrintWords Go.Proofs.YtbgabhknmpbgiaaDoorW.PrintLast Go.Proofs.YtbgabhknmpbgiaaDoorW.PrintMore
theorem u64w (n : Int) : IntKind.u64.wrap n = n % 18446744073709551616 := rfl
theorem i64w (n : Int) : IntKind.i64.wrap n = wrap64 n := by
  unfold wrap64
  show (if (true && decide (n % 18446744073709551616 ≥ 9223372036854775808)) = true then n % 18446744073709551616 - 18446744073709551616 else n % 18446744073709551616) = _
  by_cases h : n % 18446744073709551616 ≥ 9223372036854775808
  · simp only [h, decide_true, Bool.and_self, if_true]; omega
  · simp only [h, decide_false, Bool.and_false, Bool.false_eq_true, if_false]; omega
theorem w64 {n : Int} (h0 : -9223372036854775808 ≤ n) (h1 : n ≤ 9223372036854775807) : wrap64 n = n := by unfold wrap64; omega
theorem not_i64 (a : Int) (h0 : -9223372036854775808 ≤ a) (h1 : a < 0) : IntKind.u64.wrap (Go.bits .xor .i64 (-1) a) = -1 - a := by
  show IntKind.u64.wrap (IntKind.i64.wrap (((BitVec.ofInt 64 (-1)) ^^^ (BitVec.ofInt 64 a)).toNat : Int)) = _
  have e : (BitVec.ofInt 64 (-1)) = BitVec.allOnes 64 := by decide
  rw [e, BitVec.allOnes_xor, BitVec.toNat_not, BitVec.toNat_ofInt, i64w, u64w]
  unfold wrap64
  omega
def nb (x : Int) : Int := if x < 256 then 1 else if x < 65536 then 2 else if x < 16777216 then 3 else if x < 4294967296 then 4 else if x < 1099511627776 then 5 else if x < 281474976710656 then 6 else if x < 72057594037927936 then 7 else 8
def sb (x : Int) : Int := if x < 128 then 1 else if x < 32768 then 2 else if x < 8388608 then 3 else if x < 2147483648 then 4 else if x < 549755813888 then 5 else if x < 140737488355328 then 6 else if x < 36028797018963968 then 7 else if x < 9223372036854775808 then 8 else 9
def ss (x : Int) : Int := if x < 0 then sb (-1 - x) else sb x
theorem nb_range (x : Int) : 1 ≤ nb x ∧ nb x ≤ 8 := by unfold nb; omega
theorem ss_range (x : Int) (h0 : -9223372036854775808 ≤ x) (h1 : x ≤ 9223372036854775807) : 1 ≤ ss x ∧ ss x ≤ 8 := by unfold ss sb; omega
end Go.Proofs.YtbgabhknmpbgiaaDoor.Pure
end
section
namespace Go.Proofs.YtbgabhknmpbgiaaDoor.Pure
open Go.RowKit Go.Proofs.YtbgabhknmpbgiaaDoor.S Go.Proofs.YtbgabhknmpbgiaaDoorW.PrintWords Go.Proofs.YtbgabhknmpbgiaaDoorW.PrintLast Go.Proofs.YtbgabhknmpbgiaaDoorW.PrintMore
set_option linter.unusedVariables false
def lenTab : ByteArray := (⟨#[0, 1, 2, 2, 3, 3, 3, 3, 4, 4, 4, 4, 4, 4, 4, 4, 5, 5, 5, 5, 5, 5, 5, 5, 5, 5, 5, 5, 5, 5, 5, 5, 6, 6, 6, 6, 6, 6, 6, 6, 6, 6, 6, 6, 6, 6, 6, 6, 6, 6, 6, 6, 6, 6, 6, 6, 6, 6, 6, 6, 6, 6, 6, 6, 7, 7, 7, 7, 7, 7, 7, 7, 7, 7, 7, 7, 7, 7, 7, 7, 7, 7, 7, 7, 7, 7, 7, 7, 7, 7, 7, 7, 7, 7, 7, 7, 7, 7, 7, 7, 7, 7, 7, 7, 7, 7, 7, 7, 7, 7, 7, 7, 7, 7, 7, 7, 7, 7, 7, 7, 7, 7, 7, 7, 7, 7, 7, 7, 8, 8, 8, 8, 8, 8, 8, 8, 8, 8, 8, 8, 8, 8, 8, 8, 8, 8, 8, 8, 8, 8, 8, 8, 8, 8, 8, 8, 8, 8, 8, 8, 8, 8, 8, 8, 8, 8, 8, 8, 8, 8, 8, 8, 8, 8, 8, 8, 8, 8, 8, 8, 8, 8, 8, 8, 8, 8, 8, 8, 8, 8, 8, 8, 8, 8, 8, 8, 8, 8, 8, 8, 8, 8, 8, 8, 8, 8, 8, 8, 8, 8, 8, 8, 8, 8, 8, 8, 8, 8, 8, 8, 8, 8, 8, 8, 8, 8, 8, 8, 8, 8, 8, 8, 8, 8, 8, 8, 8, 8, 8, 8, 8, 8, 8, 8, 8, 8, 8, 8, 8, 8, 8, 8, 8, 8, 8, 8]⟩ : ByteArray)
theorem lenTab_at (i : Int) (h0 : 0 ≤ i) (h1 : i < 256) : (i = 0 → bt lenTab i = 0) ∧ (1 ≤ i → 1 ≤ bt lenTab i) ∧ (i < 128 → bt lenTab i ≤ 7) ∧ (128 ≤ i → bt lenTab i = 8) ∧ 0 ≤ bt lenTab i ∧ bt lenTab i ≤ 8 := by
  have : ∀ m : Fin 256, (((m.val : Int) = 0 → bt lenTab (m.val : Int) = 0) ∧ (1 ≤ (m.val : Int) → 1 ≤ bt lenTab (m.val : Int)) ∧ ((m.val : Int) < 128 → bt lenTab (m.val : Int) ≤ 7) ∧ (128 ≤ (m.val : Int) → bt lenTab (m.val : Int) = 8) ∧ 0 ≤ bt lenTab (m.val : Int) ∧ bt lenTab (m.val : Int) ≤ 8) := by decide +kernel
  have e := this ⟨i.toNat, by omega⟩
  have hn : ((i.toNat : Nat) : Int) = i := by omega
  simpa only [hn] using e
theorem wsmall {n : Int} (h0 : 0 ≤ n) (h1 : n ≤ 1000) : wrap64 n = n := by unfold wrap64; omega
set_option maxRecDepth 20000 in
theorem len64_j0 (k : Nat) (x c : Int) (h0 : 0 ≤ x) (h1 : x < 4294967296) (hc : c = 0 ∨ c = 32) : ∃ n, bits_Len64.j0 (k + 1) x c = some n ∧ 0 ≤ n ∧ n ≤ 64 ∧ (x = 0 → n = c) ∧ (1 ≤ x → (n + 7) / 8 = nb x + c / 8) ∧ (n + 8) / 8 = sb x + c / 8 := by
  have hl : ∀ i, bt (⟨#[0, 1, 2, 2, 3, 3, 3, 3, 4, 4, 4, 4, 4, 4, 4, 4, 5, 5, 5, 5, 5, 5, 5, 5, 5, 5, 5, 5, 5, 5, 5, 5, 6, 6, 6, 6, 6, 6, 6, 6, 6, 6, 6, 6, 6, 6, 6, 6, 6, 6, 6, 6, 6, 6, 6, 6, 6, 6, 6, 6, 6, 6, 6, 6, 7, 7, 7, 7, 7, 7, 7, 7, 7, 7, 7, 7, 7, 7, 7, 7, 7, 7, 7, 7, 7, 7, 7, 7, 7, 7, 7, 7, 7, 7, 7, 7, 7, 7, 7, 7, 7, 7, 7, 7, 7, 7, 7, 7, 7, 7, 7, 7, 7, 7, 7, 7, 7, 7, 7, 7, 7, 7, 7, 7, 7, 7, 7, 7, 8, 8, 8, 8, 8, 8, 8, 8, 8, 8, 8, 8, 8, 8, 8, 8, 8, 8, 8, 8, 8, 8, 8, 8, 8, 8, 8, 8, 8, 8, 8, 8, 8, 8, 8, 8, 8, 8, 8, 8, 8, 8, 8, 8, 8, 8, 8, 8, 8, 8, 8, 8, 8, 8, 8, 8, 8, 8, 8, 8, 8, 8, 8, 8, 8, 8, 8, 8, 8, 8, 8, 8, 8, 8, 8, 8, 8, 8, 8, 8, 8, 8, 8, 8, 8, 8, 8, 8, 8, 8, 8, 8, 8, 8, 8, 8, 8, 8, 8, 8, 8, 8, 8, 8, 8, 8, 8, 8, 8, 8, 8, 8, 8, 8, 8, 8, 8, 8, 8, 8, 8, 8, 8, 8, 8, 8, 8, 8]⟩ : ByteArray) i = bt lenTab i := fun _ => rfl
  rw [bits_Len64.j0]
  simp only [hl]
  by_cases c1 : x ≥ 65536
  · by_cases c2 : x / 65536 ≥ 256
    · rw [if_pos c1, if_pos c2, if_pos (by omega), if_pos (by omega)]
      obtain ⟨t1, t2, t3, t4, t5, t6⟩ := lenTab_at (x / 65536 / 256 % 256) (by omega) (by omega)
      generalize bt lenTab (x / 65536 / 256 % 256) = q at *
      rw [wsmall (n := q) (by omega) (by omega), wsmall (n := c + 16) (by omega) (by omega), wsmall (n := c + 16 + 8) (by omega) (by omega), wsmall (by omega) (by omega)]
      refine ⟨_, rfl, by omega, by omega, by omega, by unfold nb; omega, by unfold sb; omega⟩
    · rw [if_pos c1, if_neg c2, if_pos (by omega), if_pos (by omega)]
      obtain ⟨t1, t2, t3, t4, t5, t6⟩ := lenTab_at (x / 65536 % 256) (by omega) (by omega)
      generalize bt lenTab (x / 65536 % 256) = q at *
      rw [wsmall (n := q) (by omega) (by omega), wsmall (n := c + 16) (by omega) (by omega), wsmall (by omega) (by omega)]
      refine ⟨_, rfl, by omega, by omega, by omega, by unfold nb; omega, by unfold sb; omega⟩
  · by_cases c2 : x ≥ 256
    · rw [if_neg c1, if_pos c2, if_pos (by omega), if_pos (by omega)]
      obtain ⟨t1, t2, t3, t4, t5, t6⟩ := lenTab_at (x / 256 % 256) (by omega) (by omega)
      generalize bt lenTab (x / 256 % 256) = q at *
      rw [wsmall (n := q) (by omega) (by omega), wsmall (n := c + 8) (by omega) (by omega), wsmall (by omega) (by omega)]
      refine ⟨_, rfl, by omega, by omega, by omega, by unfold nb; omega, by unfold sb; omega⟩
    · rw [if_neg c1, if_neg c2, if_pos (by omega), if_pos (by omega)]
      obtain ⟨t1, t2, t3, t4, t5, t6⟩ := lenTab_at (x % 256) (by omega) (by omega)
      generalize bt lenTab (x % 256) = q at *
      rw [wsmall (n := q) (by omega) (by omega), wsmall (by omega) (by omega)]
      refine ⟨_, rfl, by omega, by omega, by omega, by unfold nb; omega, by unfold sb; omega⟩
theorem len64 (k : Nat) (x : Int) (h0 : 0 ≤ x) (h1 : x < 18446744073709551616) : ∃ n, bits_Len64.f (k + 1) x = some n ∧ 0 ≤ n ∧ n ≤ 64 ∧ (x = 0 → n = 0) ∧ (1 ≤ x → (n + 7) / 8 = nb x) ∧ (n + 8) / 8 = sb x := by
  unfold bits_Len64.f
  by_cases c : x ≥ 4294967296
  · rw [if_pos c]
    obtain ⟨n, e, a1, a2, a3, a4, a5⟩ := len64_j0 k (x / 4294967296) 32 (by omega) (by omega) (Or.inr rfl)
    refine ⟨n, e, a1, a2, by omega, fun _ => ?_, ?_⟩
    · rw [a4 (by omega)]; unfold nb; omega
    · rw [a5]; unfold sb; omega
  · rw [if_neg c]
    obtain ⟨n, e, a1, a2, a3, a4, a5⟩ := len64_j0 k x 0 h0 (by omega) (Or.inl rfl)
    exact ⟨n, e, a1, a2, a3, fun h => by rw [a4 h]; omega, by rw [a5]; omega⟩
theorem width_eq (k : Nat) (x : Int) (h0 : 0 ≤ x) (h1 : x < 18446744073709551616) : codec_width.f (k + 1) x = some (nb x) := by
  obtain ⟨n, e, a1, a2, a3, a4, a5⟩ := len64 k x h0 h1
  unfold codec_width.f
  rw [e]
  simp only [Option.bind_some]
  rw [wsmall (n := n + 7) (by omega) (by omega), Int.tdiv_eq_ediv_of_nonneg (by omega), wsmall (by omega) (by omega)]
  congr 1
  unfold mx
  by_cases c : x = 0
  · rw [a3 c]; subst c; rfl
  · rw [a4 (by omega)]; have := nb_range x
    split <;> omega
theorem spread_eq (k : Nat) (x : Int) (h0 : -9223372036854775808 ≤ x) (h1 : x ≤ 9223372036854775807) : codec_spread.f (k + 1) x = some (ss x) := by
  unfold codec_spread.f ss
  by_cases c : x < 0
  · rw [if_pos c, if_pos c, not_i64 x h0 c]
    obtain ⟨n, e, a1, a2, a3, a4, a5⟩ := len64 k (-1 - x) (by omega) (by omega)
    rw [e]
    simp only [Option.bind_some]
    rw [wsmall (n := n + 8) (by omega) (by omega), Int.tdiv_eq_ediv_of_nonneg (by omega), wsmall (by omega) (by omega), a5]
  · rw [if_neg c, if_neg c, u64w, Int.emod_eq_of_lt (by omega) (by omega)]
    obtain ⟨n, e, a1, a2, a3, a4, a5⟩ := len64 k x (by omega) (by omega)
    rw [e]
    simp only [Option.bind_some]
    rw [wsmall (n := n + 8) (by omega) (by omega), Int.tdiv_eq_ediv_of_nonneg (by omega), wsmall (by omega) (by omega), a5]
end Go.Proofs.YtbgabhknmpbgiaaDoor.Pure
end
section
namespace Go.Proofs.YtbgabhknmpbgiaaDoor.S
open Go.RowKit Go.Proofs.YtbgabhknmpbgiaaDoorW.PrintWords Go.Proofs.YtbgabhknmpbgiaaDoorW.PrintLast Go.Proofs.YtbgabhknmpbgiaaDoorW.PrintMore
attribute [local go_sem] max2_int min2_int max_two min_two max_three min_three max_four min_four
set_option linter.unusedVariables false
set_option linter.unusedSimpArgs false
mutual
def codec_kind.j0 : Nat → ByteArray → Int → Bool → Option (Int)
  | 0, _, _, _ => none
  | k + 1, x0, x1, x14 => if x14 = true then (some 0) else (if 0 ≤ x1 then (if x1 < (x0.size : Int) then (if (bt x0 x1) = 0 then (some 1) else (if ((bt x0 x1) / 16) > 4 then (some 0) else (if ((bt x0 x1) / 16) = 0 then (codec_kind.j1 k ((bt x0 x1) / 16) (Go.bits .and .u8 (bt x0 x1) 15) (decide ((Go.bits .and .u8 (bt x0 x1) 15) > 2))) else (codec_kind.j1 k ((bt x0 x1) / 16) (Go.bits .and .u8 (bt x0 x1) 15) false)))) else (none)) else (none))
def codec_kind.j1 : Nat → Int → Int → Bool → Option (Int)
  | 0, _, _, _ => none
  | k + 1, x5, x6, x31 => if x31 = true then (some 0) else (if x5 ≥ 3 then (codec_kind.j2 k x5 x6 (x6 != 0)) else (codec_kind.j2 k x5 x6 false))
def codec_kind.j2 : Nat → Int → Int → Bool → Option (Int)
  | 0, _, _, _ => none
  | k + 1, x5, x6, x31 => if x31 = true then (some 0) else (if x5 = 1 then (if x6 < 1 then (some 0) else (if x6 > 8 then (some 0) else (if 0 ≤ x5 then (if x5 < 5 then (some (rd gtab x5)) else (none)) else (none)))) else (if x5 = 2 then (if x6 < 1 then (some 0) else (if x6 > 8 then (some 0) else (if 0 ≤ x5 then (if x5 < 5 then (some (rd gtab x5)) else (none)) else (none)))) else (if 0 ≤ x5 then (if x5 < 5 then (some (rd gtab x5)) else (none)) else (none))))
end
def codec_kind.f (k : Nat) (a0 : ByteArray) (a1 : Int) : Option (Int) := if a1 < 0 then (codec_kind.j0 k a0 a1 true) else (codec_kind.j0 k a0 a1 (decide (a1 ≥ (a0.size : Int))))
set_option maxHeartbeats 8000000 in
set_option maxRecDepth 100000 in
theorem codec_kind.calls (k : Nat) (a0 : ByteArray) (a1 : Int) (r : Int) (w : World) (hG : Glob w) (h : codec_kind.f k a0 a1 = some r) :
    Calls Tryd.prog 79 #[.string a0, .int .i64 a1] w fun e w' => e = .returned (.int .i64 r) ∧ Drawn0 w w' := by
  have HG := Aside0.mk hG
  clear hG
  have H : (if a1 < 0 then (codec_kind.j0 k a0 a1 true) else (codec_kind.j0 k a0 a1 (decide (a1 ≥ (a0.size : Int))))) = some r := h
  clear h
  have HC3 := Aside0.mk H
  clear H
  go_enter Tryd.func79, Tryd.ntmps79
  go_upto_region 1 with (fail)
  repeat (go_quiet (fail); go_upto_region 1 with (fail))
  go_cut [14] (fun v14 wc => ∃ (kq : Nat) (x14_2 : Bool), v14 = .bool x14_2 ∧ Aside0 (codec_kind.j0 kq a0 a1 x14_2 = some r) ∧ Aside0 (kq ≤ k) ∧ Drawn0 w wc)
  case first =>
    have H := HC3.out
    clear HC3
    by_cases c4 : a1 < 0
    · rw [if_pos c4] at H
      have c4b0 : decide (a1 < 0) = true := decide_eq_true c4
      clear c4
      (first | rw [c4b0] | (simp only [i64_w, i32_w]; rw [c4b0]) | skip)
      have H' := Aside0.mk H
      clear H
      go_wp2
      repeat (go_quiet (fail); try go_wp2)
      go_meet
      case rel => exact ⟨_, (true), (by first | rfl | (simp; done) | (simp [*]; done)), H', ⟨by first | omega | exact Nat.le_refl _⟩, by repeat (first | exact Drawn0.refl _ | apply Drawn0.step)⟩
    · rw [if_neg c4] at H
      have c4b0 : decide (a1 < 0) = false := decide_eq_false c4
      clear c4
      (first | rw [c4b0] | (simp only [i64_w, i32_w]; rw [c4b0]) | skip)
      have H' := Aside0.mk H
      clear H
      go_wp2
      repeat (go_quiet (fail); try go_wp2)
      go_meet
      case rel => exact ⟨_, (decide (a1 ≥ (a0.size : Int))), (by first | rfl | (simp; done) | (simp [*]; done)), H', ⟨by first | omega | exact Nat.le_refl _⟩, by repeat (first | exact Drawn0.refl _ | apply Drawn0.step)⟩
  case rest =>
    clear HC3
    try clear p2
    try clear c4
    try clear c4b0
    obtain ⟨kq, x14_2, rfl, HA, HJ2, ⟨mc2, rfl⟩⟩ := hcut
    cases kq with
    | zero => exact absurd HA.out (by simp [codec_kind.j0])
    | succ kj2 =>
      have H := HA.out
      clear HA
      simp only [codec_kind.j0] at H
      by_cases c5 : x14_2 = true
      · subst c5
        have H1 : (some 0) = some r := by rw [if_pos rfl] at H; exact H
        clear H
        have H := H1
        clear H1
        obtain rfl := Option.some.inj H
        go_wp2
        repeat (go_quiet (fail); try go_wp2)
        go_ret
        exact ⟨by first | rfl | (simp; done) | (simp [*]; done), by repeat (first | exact Drawn0.refl _ | apply Drawn0.step)⟩
      · replace c5 := Bool.eq_false_iff.mpr c5
        subst c5
        have H1 : (if 0 ≤ a1 then (if a1 < (a0.size : Int) then (if (bt a0 a1) = 0 then (some 1) else (if ((bt a0 a1) / 16) > 4 then (some 0) else (if ((bt a0 a1) / 16) = 0 then (codec_kind.j1 kj2 ((bt a0 a1) / 16) (Go.bits .and .u8 (bt a0 a1) 15) (decide ((Go.bits .and .u8 (bt a0 a1) 15) > 2))) else (codec_kind.j1 kj2 ((bt a0 a1) / 16) (Go.bits .and .u8 (bt a0 a1) 15) false)))) else (none)) else (none)) = some r := by rw [if_neg (show ¬ (false = true) by decide)] at H; exact H
        clear H
        have H := H1
        clear H1
        by_cases c6 : 0 ≤ a1
        · rw [if_pos c6] at H
          have c6b0 : decide (0 ≤ a1) = true := decide_eq_true c6
          clear c6
          by_cases c7 : a1 < (a0.size : Int)
          · rw [if_pos c7] at H
            have c7b0 : decide (a1 < (a0.size : Int)) = true := decide_eq_true c7
            clear c7
            by_cases c11 : (bt a0 a1) = 0
            · rw [if_pos c11] at H
              have c11b0 : ((bt a0 a1) == 0) = true := beq_iff_eq.mpr c11
              have c11b1 : ((bt a0 a1) != 0) = false := bne_eq_false_iff_eq.mpr c11
              clear c11
              obtain rfl := Option.some.inj H
              have p8 : 0 ≤ (a1 : Int) := of_decide_eq_true (by first | (with_reducible assumption) | assumption)
              have q8 : a1 < (a0.size : Int) := of_decide_eq_true (by first | (with_reducible assumption) | assumption)
              have hx8 := bt_at a0 a1
              replace p8 := eq_true p8
              replace q8 := eq_true q8
              have p9 : 0 ≤ (a1 : Int) := of_decide_eq_true (by first | (with_reducible assumption) | assumption)
              have q9 : a1 < (a0.size : Int) := of_decide_eq_true (by first | (with_reducible assumption) | assumption)
              have hx9 := bt_at a0 a1
              replace p9 := eq_true p9
              replace q9 := eq_true q9
              have p10 : 0 ≤ (a1 : Int) := of_decide_eq_true (by first | (with_reducible assumption) | assumption)
              have q10 : a1 < (a0.size : Int) := of_decide_eq_true (by first | (with_reducible assumption) | assumption)
              have hx10 := bt_at a0 a1
              replace p10 := eq_true p10
              replace q10 := eq_true q10
              go_wp2
              repeat (go_quiet (fail); try go_wp2)
              go_ret
              exact ⟨by first | rfl | (simp; done) | (simp [*]; done), by repeat (first | exact Drawn0.refl _ | apply Drawn0.step)⟩
            · rw [if_neg c11] at H
              have c11b0 : ((bt a0 a1) == 0) = false := beq_eq_false_iff_ne.mpr c11
              have c11b1 : ((bt a0 a1) != 0) = true := bne_iff_ne.mpr c11
              by_cases c12 : ((bt a0 a1) / 16) > 4
              · rw [if_pos c12] at H
                have c12b0 : decide (4 < ((bt a0 a1) / 16)) = true := decide_eq_true c12
                clear c12
                obtain rfl := Option.some.inj H
                have p8 : 0 ≤ (a1 : Int) := of_decide_eq_true (by first | (with_reducible assumption) | assumption)
                have q8 : a1 < (a0.size : Int) := of_decide_eq_true (by first | (with_reducible assumption) | assumption)
                have hx8 := bt_at a0 a1
                replace p8 := eq_true p8
                replace q8 := eq_true q8
                have p9 : 0 ≤ (a1 : Int) := of_decide_eq_true (by first | (with_reducible assumption) | assumption)
                have q9 : a1 < (a0.size : Int) := of_decide_eq_true (by first | (with_reducible assumption) | assumption)
                have hx9 := bt_at a0 a1
                replace p9 := eq_true p9
                replace q9 := eq_true q9
                have p10 : 0 ≤ (a1 : Int) := of_decide_eq_true (by first | (with_reducible assumption) | assumption)
                have q10 : a1 < (a0.size : Int) := of_decide_eq_true (by first | (with_reducible assumption) | assumption)
                have hx10 := bt_at a0 a1
                replace p10 := eq_true p10
                replace q10 := eq_true q10
                go_wp2
                repeat (go_quiet (fail); try go_wp2)
                go_ret
                exact ⟨by first | rfl | (simp; done) | (simp [*]; done), by repeat (first | exact Drawn0.refl _ | apply Drawn0.step)⟩
              · rw [if_neg c12] at H
                have c12b0 : decide (4 < ((bt a0 a1) / 16)) = false := decide_eq_false c12
                clear c12
                have HC13 := Aside0.mk H
                clear H
                have p8 : 0 ≤ (a1 : Int) := of_decide_eq_true (by first | (with_reducible assumption) | assumption)
                have q8 : a1 < (a0.size : Int) := of_decide_eq_true (by first | (with_reducible assumption) | assumption)
                have hx8 := bt_at a0 a1
                replace p8 := eq_true p8
                replace q8 := eq_true q8
                have p9 : 0 ≤ (a1 : Int) := of_decide_eq_true (by first | (with_reducible assumption) | assumption)
                have q9 : a1 < (a0.size : Int) := of_decide_eq_true (by first | (with_reducible assumption) | assumption)
                have hx9 := bt_at a0 a1
                replace p9 := eq_true p9
                replace q9 := eq_true q9
                have p10 : 0 ≤ (a1 : Int) := of_decide_eq_true (by first | (with_reducible assumption) | assumption)
                have q10 : a1 < (a0.size : Int) := of_decide_eq_true (by first | (with_reducible assumption) | assumption)
                have hx10 := bt_at a0 a1
                replace p10 := eq_true p10
                replace q10 := eq_true q10
                go_upto_region 8 with (fail)
                repeat (go_quiet (fail); go_upto_region 8 with (fail))
                go_cut [31] (fun v31 wc => ∃ (kq : Nat) (x31_12 : Bool), v31 = .bool x31_12 ∧ Aside0 (codec_kind.j1 kq ((bt a0 a1) / 16) (Go.bits .and .u8 (bt a0 a1) 15) x31_12 = some r) ∧ Aside0 (kq ≤ kj2) ∧ Drawn0 w wc)
                case first =>
                  have H := HC13.out
                  clear HC13
                  by_cases c14 : ((bt a0 a1) / 16) = 0
                  · rw [if_pos c14] at H
                    have c14b0 : (((bt a0 a1) / 16) == 0) = true := beq_iff_eq.mpr c14
                    have c14b1 : (((bt a0 a1) / 16) != 0) = false := bne_eq_false_iff_eq.mpr c14
                    clear c14
                    (first | rw [c14b0] | (simp only [i64_w, i32_w]; rw [c14b0]) | skip)
                    have H' := Aside0.mk H
                    clear H
                    go_wp2
                    repeat (go_quiet (fail); try go_wp2)
                    go_meet
                    case rel => exact ⟨_, (decide ((Go.bits .and .u8 (bt a0 a1) 15) > 2)), (by first | rfl | (simp; done) | (simp [*]; done)), H', ⟨by have := HJ2.out; first | omega | exact Nat.le_refl _⟩, by repeat (first | exact Drawn0.refl _ | apply Drawn0.step)⟩
                  · rw [if_neg c14] at H
                    have c14b0 : (((bt a0 a1) / 16) == 0) = false := beq_eq_false_iff_ne.mpr c14
                    have c14b1 : (((bt a0 a1) / 16) != 0) = true := bne_iff_ne.mpr c14
                    (first | rw [c14b0] | (simp only [i64_w, i32_w]; rw [c14b0]) | skip)
                    have H' := Aside0.mk H
                    clear H
                    go_wp2
                    repeat (go_quiet (fail); try go_wp2)
                    go_meet
                    case rel => exact ⟨_, (false), (by first | rfl | (simp; done) | (simp [*]; done)), H', ⟨by have := HJ2.out; first | omega | exact Nat.le_refl _⟩, by repeat (first | exact Drawn0.refl _ | apply Drawn0.step)⟩
                case rest =>
                  clear HC13
                  try clear c1
                  try clear p1
                  try clear q1
                  try clear hx1
                  try clear c2
                  try clear p2
                  try clear c4
                  try clear c4b0
                  try clear c5
                  try clear c6
                  try clear c6b0
                  try clear c7
                  try clear c7b0
                  try clear p8
                  try clear q8
                  try clear hx8
                  try clear p9
                  try clear q9
                  try clear hx9
                  try clear p10
                  try clear q10
                  try clear hx10
                  try clear c11
                  try clear c11b0
                  try clear c11b1
                  try clear c12
                  try clear c12b0
                  try clear c14
                  try clear c14b0
                  try clear c14b1
                  try clear p10
                  try clear p2
                  try clear p8
                  try clear p9
                  try clear q10
                  try clear q8
                  try clear q9
                  obtain ⟨kq, x31_12, rfl, HA, HJ12, ⟨mc12, rfl⟩⟩ := hcut
                  cases kq with
                  | zero => exact absurd HA.out (by simp [codec_kind.j1])
                  | succ kj12 =>
                    have H := HA.out
                    clear HA
                    simp only [codec_kind.j1] at H
                    by_cases c15 : x31_12 = true
                    · subst c15
                      have H1 : (some 0) = some r := by rw [if_pos rfl] at H; exact H
                      clear H
                      have H := H1
                      clear H1
                      obtain rfl := Option.some.inj H
                      go_wp2
                      repeat (go_quiet (fail); try go_wp2)
                      go_ret
                      exact ⟨by first | rfl | (simp; done) | (simp [*]; done), by repeat (first | exact Drawn0.refl _ | apply Drawn0.step)⟩
                    · replace c15 := Bool.eq_false_iff.mpr c15
                      subst c15
                      have H1 : (if ((bt a0 a1) / 16) ≥ 3 then (codec_kind.j2 kj12 ((bt a0 a1) / 16) (Go.bits .and .u8 (bt a0 a1) 15) ((Go.bits .and .u8 (bt a0 a1) 15) != 0)) else (codec_kind.j2 kj12 ((bt a0 a1) / 16) (Go.bits .and .u8 (bt a0 a1) 15) false)) = some r := by rw [if_neg (show ¬ (false = true) by decide)] at H; exact H
                      clear H
                      have H := H1
                      clear H1
                      have HC16 := Aside0.mk H
                      clear H
                      go_upto_region 9 with (fail)
                      repeat (go_quiet (fail); go_upto_region 9 with (fail))
                      go_cut [31] (fun v31 wc => ∃ (kq : Nat) (x31_15 : Bool), v31 = .bool x31_15 ∧ Aside0 (codec_kind.j2 kq ((bt a0 a1) / 16) (Go.bits .and .u8 (bt a0 a1) 15) x31_15 = some r) ∧ Aside0 (kq ≤ kj12) ∧ Drawn0 w wc)
                      case first =>
                        have H := HC16.out
                        clear HC16
                        by_cases c17 : ((bt a0 a1) / 16) ≥ 3
                        · rw [if_pos c17] at H
                          have c17b0 : decide (3 ≤ ((bt a0 a1) / 16)) = true := decide_eq_true c17
                          clear c17
                          (first | rw [c17b0] | (simp only [i64_w, i32_w]; rw [c17b0]) | skip)
                          have H' := Aside0.mk H
                          clear H
                          go_wp2
                          repeat (go_quiet (fail); try go_wp2)
                          go_meet
                          case rel => exact ⟨_, (((Go.bits .and .u8 (bt a0 a1) 15) != 0)), (by first | rfl | (simp; done) | (simp [*]; done)), H', ⟨by have := HJ2.out; have := HJ12.out; first | omega | exact Nat.le_refl _⟩, by repeat (first | exact Drawn0.refl _ | apply Drawn0.step)⟩
                        · rw [if_neg c17] at H
                          have c17b0 : decide (3 ≤ ((bt a0 a1) / 16)) = false := decide_eq_false c17
                          clear c17
                          (first | rw [c17b0] | (simp only [i64_w, i32_w]; rw [c17b0]) | skip)
                          have H' := Aside0.mk H
                          clear H
                          go_wp2
                          repeat (go_quiet (fail); try go_wp2)
                          go_meet
                          case rel => exact ⟨_, (false), (by first | rfl | (simp; done) | (simp [*]; done)), H', ⟨by have := HJ2.out; have := HJ12.out; first | omega | exact Nat.le_refl _⟩, by repeat (first | exact Drawn0.refl _ | apply Drawn0.step)⟩
                      case rest =>
                        clear HC16
                        try clear c1
                        try clear p1
                        try clear q1
                        try clear hx1
                        try clear c2
                        try clear p2
                        try clear c4
                        try clear c4b0
                        try clear c5
                        try clear c6
                        try clear c6b0
                        try clear c7
                        try clear c7b0
                        try clear p8
                        try clear q8
                        try clear hx8
                        try clear p9
                        try clear q9
                        try clear hx9
                        try clear p10
                        try clear q10
                        try clear hx10
                        try clear c11
                        try clear c11b0
                        try clear c11b1
                        try clear c12
                        try clear c12b0
                        try clear c14
                        try clear c14b0
                        try clear c14b1
                        try clear c15
                        try clear c17
                        try clear c17b0
                        try clear p1
                        try clear p10
                        try clear p2
                        try clear p8
                        try clear p9
                        try clear q1
                        try clear q10
                        try clear q8
                        try clear q9
                        obtain ⟨kq, x31_15, rfl, HA, HJ15, ⟨mc15, rfl⟩⟩ := hcut
                        cases kq with
                        | zero => exact absurd HA.out (by simp [codec_kind.j2])
                        | succ kj15 =>
                          have H := HA.out
                          clear HA
                          simp only [codec_kind.j2] at H
                          by_cases c18 : x31_15 = true
                          · subst c18
                            have H1 : (some 0) = some r := by rw [if_pos rfl] at H; exact H
                            clear H
                            have H := H1
                            clear H1
                            obtain rfl := Option.some.inj H
                            go_wp2
                            repeat (go_quiet (fail); try go_wp2)
                            go_ret
                            exact ⟨by first | rfl | (simp; done) | (simp [*]; done), by repeat (first | exact Drawn0.refl _ | apply Drawn0.step)⟩
                          · replace c18 := Bool.eq_false_iff.mpr c18
                            subst c18
                            have H1 : (if ((bt a0 a1) / 16) = 1 then (if (Go.bits .and .u8 (bt a0 a1) 15) < 1 then (some 0) else (if (Go.bits .and .u8 (bt a0 a1) 15) > 8 then (some 0) else (if 0 ≤ ((bt a0 a1) / 16) then (if ((bt a0 a1) / 16) < 5 then (some (rd gtab ((bt a0 a1) / 16))) else (none)) else (none)))) else (if ((bt a0 a1) / 16) = 2 then (if (Go.bits .and .u8 (bt a0 a1) 15) < 1 then (some 0) else (if (Go.bits .and .u8 (bt a0 a1) 15) > 8 then (some 0) else (if 0 ≤ ((bt a0 a1) / 16) then (if ((bt a0 a1) / 16) < 5 then (some (rd gtab ((bt a0 a1) / 16))) else (none)) else (none)))) else (if 0 ≤ ((bt a0 a1) / 16) then (if ((bt a0 a1) / 16) < 5 then (some (rd gtab ((bt a0 a1) / 16))) else (none)) else (none)))) = some r := by rw [if_neg (show ¬ (false = true) by decide)] at H; exact H
                            clear H
                            have H := H1
                            clear H1
                            by_cases c19 : ((bt a0 a1) / 16) = 1
                            · rw [if_pos c19] at H
                              have c19b0 : (((bt a0 a1) / 16) == 1) = true := beq_iff_eq.mpr c19
                              have c19b1 : (((bt a0 a1) / 16) != 1) = false := bne_eq_false_iff_eq.mpr c19
                              clear c19
                              by_cases c20 : (Go.bits .and .u8 (bt a0 a1) 15) < 1
                              · rw [if_pos c20] at H
                                have c20b0 : decide ((Go.bits .and .u8 (bt a0 a1) 15) < 1) = true := decide_eq_true c20
                                clear c20
                                obtain rfl := Option.some.inj H
                                go_wp2
                                repeat (go_quiet (fail); try go_wp2)
                                go_ret
                                exact ⟨by first | rfl | (simp; done) | (simp [*]; done), by repeat (first | exact Drawn0.refl _ | apply Drawn0.step)⟩
                              · rw [if_neg c20] at H
                                have c20b0 : decide ((Go.bits .and .u8 (bt a0 a1) 15) < 1) = false := decide_eq_false c20
                                clear c20
                                by_cases c21 : (Go.bits .and .u8 (bt a0 a1) 15) > 8
                                · rw [if_pos c21] at H
                                  have c21b0 : decide (8 < (Go.bits .and .u8 (bt a0 a1) 15)) = true := decide_eq_true c21
                                  clear c21
                                  obtain rfl := Option.some.inj H
                                  go_wp2
                                  repeat (go_quiet (fail); try go_wp2)
                                  go_ret
                                  exact ⟨by first | rfl | (simp; done) | (simp [*]; done), by repeat (first | exact Drawn0.refl _ | apply Drawn0.step)⟩
                                · rw [if_neg c21] at H
                                  have c21b0 : decide (8 < (Go.bits .and .u8 (bt a0 a1) 15)) = false := decide_eq_false c21
                                  clear c21
                                  obtain ⟨ji22, hji22⟩ : ∃ j_ : Int, ((bt a0 a1) / 16) = j_ := ⟨_, rfl⟩
                                  replace H : (if 0 ≤ (ji22) then (if (ji22) < 5 then (some (rd gtab (ji22))) else (none)) else (none)) = some r := by first | (rw [hji22] at H; exact H) | (simp only [hji22] at H ⊢; exact H)
                                  (try rw [hji22] at c12b0)
                                  (try rw [hji22] at c19b0)
                                  (try rw [hji22] at c19b1)
                                  by_cases c23 : 0 ≤ (ji22)
                                  · rw [if_pos c23] at H
                                    have c23b0 : decide (0 ≤ (ji22)) = true := decide_eq_true c23
                                    clear c23
                                    by_cases c24 : (ji22) < 5
                                    · rw [if_pos c24] at H
                                      have c24b0 : decide ((ji22) < 5) = true := decide_eq_true c24
                                      clear c24
                                      have hgc25 := gt_at HG.out (i := (ji22)) (by first | omega | (apply of_decide_eq_true; assumption)) (by first | omega | (apply of_decide_eq_true; assumption))
                                      have hgb26 : 0 ≤ (ji22) ∧ (ji22) < 5 := ⟨by first | omega | (apply of_decide_eq_true; assumption), by first | omega | (apply of_decide_eq_true; assumption)⟩
                                      obtain rfl := Option.some.inj H
                                      go_wp2
                                      repeat (go_quiet (fail); try go_wp2)
                                      go_ret
                                      exact ⟨by first | rfl | (simp; done) | (simp only [← hji22] <;> (first | rfl | simp)) | (simp [*]; done), by repeat (first | exact Drawn0.refl _ | apply Drawn0.step)⟩
                                    · rw [if_neg c24] at H
                                      exact absurd H (by simp)
                                  · rw [if_neg c23] at H
                                    exact absurd H (by simp)
                            · rw [if_neg c19] at H
                              have c19b0 : (((bt a0 a1) / 16) == 1) = false := beq_eq_false_iff_ne.mpr c19
                              have c19b1 : (((bt a0 a1) / 16) != 1) = true := bne_iff_ne.mpr c19
                              by_cases c27 : ((bt a0 a1) / 16) = 2
                              · rw [if_pos c27] at H
                                have c27b0 : (((bt a0 a1) / 16) == 2) = true := beq_iff_eq.mpr c27
                                have c27b1 : (((bt a0 a1) / 16) != 2) = false := bne_eq_false_iff_eq.mpr c27
                                clear c27
                                by_cases c28 : (Go.bits .and .u8 (bt a0 a1) 15) < 1
                                · rw [if_pos c28] at H
                                  have c28b0 : decide ((Go.bits .and .u8 (bt a0 a1) 15) < 1) = true := decide_eq_true c28
                                  clear c28
                                  obtain rfl := Option.some.inj H
                                  go_wp2
                                  repeat (go_quiet (fail); try go_wp2)
                                  go_ret
                                  exact ⟨by first | rfl | (simp; done) | (simp [*]; done), by repeat (first | exact Drawn0.refl _ | apply Drawn0.step)⟩
                                · rw [if_neg c28] at H
                                  have c28b0 : decide ((Go.bits .and .u8 (bt a0 a1) 15) < 1) = false := decide_eq_false c28
                                  clear c28
                                  by_cases c29 : (Go.bits .and .u8 (bt a0 a1) 15) > 8
                                  · rw [if_pos c29] at H
                                    have c29b0 : decide (8 < (Go.bits .and .u8 (bt a0 a1) 15)) = true := decide_eq_true c29
                                    clear c29
                                    obtain rfl := Option.some.inj H
                                    go_wp2
                                    repeat (go_quiet (fail); try go_wp2)
                                    go_ret
                                    exact ⟨by first | rfl | (simp; done) | (simp [*]; done), by repeat (first | exact Drawn0.refl _ | apply Drawn0.step)⟩
                                  · rw [if_neg c29] at H
                                    have c29b0 : decide (8 < (Go.bits .and .u8 (bt a0 a1) 15)) = false := decide_eq_false c29
                                    clear c29
                                    obtain ⟨ji30, hji30⟩ : ∃ j_ : Int, ((bt a0 a1) / 16) = j_ := ⟨_, rfl⟩
                                    replace H : (if 0 ≤ (ji30) then (if (ji30) < 5 then (some (rd gtab (ji30))) else (none)) else (none)) = some r := by first | (rw [hji30] at H; exact H) | (simp only [hji30] at H ⊢; exact H)
                                    (try rw [hji30] at c12b0)
                                    (try rw [hji30] at c19b0)
                                    (try rw [hji30] at c19b1)
                                    (try rw [hji30] at c27b0)
                                    (try rw [hji30] at c27b1)
                                    by_cases c31 : 0 ≤ (ji30)
                                    · rw [if_pos c31] at H
                                      have c31b0 : decide (0 ≤ (ji30)) = true := decide_eq_true c31
                                      clear c31
                                      by_cases c32 : (ji30) < 5
                                      · rw [if_pos c32] at H
                                        have c32b0 : decide ((ji30) < 5) = true := decide_eq_true c32
                                        clear c32
                                        have hgc33 := gt_at HG.out (i := (ji30)) (by first | omega | (apply of_decide_eq_true; assumption)) (by first | omega | (apply of_decide_eq_true; assumption))
                                        have hgb34 : 0 ≤ (ji30) ∧ (ji30) < 5 := ⟨by first | omega | (apply of_decide_eq_true; assumption), by first | omega | (apply of_decide_eq_true; assumption)⟩
                                        obtain rfl := Option.some.inj H
                                        go_wp2
                                        repeat (go_quiet (fail); try go_wp2)
                                        go_ret
                                        exact ⟨by first | rfl | (simp; done) | (simp only [← hji30] <;> (first | rfl | simp)) | (simp [*]; done), by repeat (first | exact Drawn0.refl _ | apply Drawn0.step)⟩
                                      · rw [if_neg c32] at H
                                        exact absurd H (by simp)
                                    · rw [if_neg c31] at H
                                      exact absurd H (by simp)
                              · rw [if_neg c27] at H
                                have c27b0 : (((bt a0 a1) / 16) == 2) = false := beq_eq_false_iff_ne.mpr c27
                                have c27b1 : (((bt a0 a1) / 16) != 2) = true := bne_iff_ne.mpr c27
                                obtain ⟨ji35, hji35⟩ : ∃ j_ : Int, ((bt a0 a1) / 16) = j_ := ⟨_, rfl⟩
                                replace H : (if 0 ≤ (ji35) then (if (ji35) < 5 then (some (rd gtab (ji35))) else (none)) else (none)) = some r := by first | (rw [hji35] at H; exact H) | (simp only [hji35] at H ⊢; exact H)
                                (try rw [hji35] at c12b0)
                                (try rw [hji35] at c19b0)
                                (try rw [hji35] at c19b1)
                                (try rw [hji35] at c27b0)
                                (try rw [hji35] at c27b1)
                                by_cases c36 : 0 ≤ (ji35)
                                · rw [if_pos c36] at H
                                  have c36b0 : decide (0 ≤ (ji35)) = true := decide_eq_true c36
                                  clear c36
                                  by_cases c37 : (ji35) < 5
                                  · rw [if_pos c37] at H
                                    have c37b0 : decide ((ji35) < 5) = true := decide_eq_true c37
                                    clear c37
                                    have hgc38 := gt_at HG.out (i := (ji35)) (by first | omega | (apply of_decide_eq_true; assumption)) (by first | omega | (apply of_decide_eq_true; assumption))
                                    have hgb39 : 0 ≤ (ji35) ∧ (ji35) < 5 := ⟨by first | omega | (apply of_decide_eq_true; assumption), by first | omega | (apply of_decide_eq_true; assumption)⟩
                                    obtain rfl := Option.some.inj H
                                    go_wp2
                                    repeat (go_quiet (fail); try go_wp2)
                                    go_ret
                                    exact ⟨by first | rfl | (simp; done) | (simp only [← hji35] <;> (first | rfl | simp)) | (simp [*]; done), by repeat (first | exact Drawn0.refl _ | apply Drawn0.step)⟩
                                  · rw [if_neg c37] at H
                                    exact absurd H (by simp)
                                · rw [if_neg c36] at H
                                  exact absurd H (by simp)
          · rw [if_neg c7] at H
            exact absurd H (by simp)
        · rw [if_neg c6] at H
          exact absurd H (by simp)
end Go.Proofs.YtbgabhknmpbgiaaDoor.S
end
section
namespace Go.Proofs.YtbgabhknmpbgiaaDoor.S
open Go.RowKit Go.Proofs.YtbgabhknmpbgiaaDoorW.PrintWords Go.Proofs.YtbgabhknmpbgiaaDoorW.PrintLast Go.Proofs.YtbgabhknmpbgiaaDoorW.PrintMore
attribute [local go_sem] max2_int min2_int max_two min_two max_three min_three max_four min_four
set_option linter.unusedVariables false
set_option linter.unusedSimpArgs false
def codec_raw.l0 : Nat → ByteArray → Int → Int → Int → Int → Int → Int → Option (Int × Int × Bool)
  | 0, _, _, _, _, _, _, _ => none
  | k + 1, x0, x1, x2, x9, x10, x31, x32 => if x32 < x31 then (if 0 ≤ (wrap64 ((wrap64 (x1 + 1)) + x32)) then (if (wrap64 ((wrap64 (x1 + 1)) + x32)) < (x0.size : Int) then (codec_raw.l0 k x0 x1 x2 x9 (Go.bits .or .u64 (IntKind.u64.wrap (x10 * 256)) (IntKind.u64.wrap (bt x0 (wrap64 ((wrap64 (x1 + 1)) + x32))))) x31 (wrap64 (x32 + 1))) else (none)) else (none)) else (if x2 = 3 then ((codec_width.f k x10).bind fun t125 => (some (x10, wrap64 ((wrap64 (x1 + 1)) + x9), (t125 == x9)))) else (if 0 ≤ (wrap64 (64 - (wrap64 (8 * x9)))) then ((codec_spread.f k (shr .i64 (wrap64 (shl .u64 x10 (wrap64 (64 - (wrap64 (8 * x9)))))) (wrap64 (64 - (wrap64 (8 * x9)))))).bind fun t126 => (some (IntKind.u64.wrap (shr .i64 (wrap64 (shl .u64 x10 (wrap64 (64 - (wrap64 (8 * x9)))))) (wrap64 (64 - (wrap64 (8 * x9))))), wrap64 ((wrap64 (x1 + 1)) + x9), (t126 == x9)))) else (none)))
def codec_raw.f (k : Nat) (a0 : ByteArray) (a1 : Int) (a2 : Int) : Option (Int × Int × Bool) := (codec_kind.f k a0 a1).bind fun t124 => (if t124 = a2 then (if 0 ≤ a1 then (if a1 < (a0.size : Int) then (if (wrap64 ((wrap64 (a1 + 1)) + (wrap64 (Go.bits .and .u8 (bt a0 a1) 15)))) > (a0.size : Int) then (some (0, 0, false)) else (codec_raw.l0 k a0 a1 a2 (wrap64 (Go.bits .and .u8 (bt a0 a1) 15)) 0 (wrap64 (Go.bits .and .u8 (bt a0 a1) 15)) 0)) else (none)) else (none)) else (some (0, 0, false)))
set_option maxHeartbeats 8000000 in
set_option maxRecDepth 100000 in
theorem codec_raw.calls (k : Nat) (a0 : ByteArray) (a1 : Int) (a2 : Int) (r1 : Int) (r2 : Int) (r3 : Bool) (w : World) (hG : Glob w) (h : codec_raw.f k a0 a1 a2 = some (r1, r2, r3)) :
    Calls Tryd.prog 75 #[.string a0, .int .i64 a1, .int .i64 a2] w fun e w' => e = .returned (.tuple #[.int .u64 r1, .int .i64 r2, .bool r3]) ∧ Below w.heap.size w w' := by
  have HG := Aside0.mk hG
  clear hG
  have HB := Aside0.mk (Below.refl w.heap.size w)
  have H : ((codec_kind.f k a0 a1).bind fun t124 => (if t124 = a2 then (if 0 ≤ a1 then (if a1 < (a0.size : Int) then (if (wrap64 ((wrap64 (a1 + 1)) + (wrap64 (Go.bits .and .u8 (bt a0 a1) 15)))) > (a0.size : Int) then (some (0, 0, false)) else (codec_raw.l0 k a0 a1 a2 (wrap64 (Go.bits .and .u8 (bt a0 a1) 15)) 0 (wrap64 (Go.bits .and .u8 (bt a0 a1) 15)) 0)) else (none)) else (none)) else (some (0, 0, false)))) = some (r1, r2, r3) := h
  clear h
  replace H := Option.bind_eq_some_iff.mp H
  obtain ⟨t124, A40, H⟩ := H
  replace H : (if t124 = a2 then (if 0 ≤ a1 then (if a1 < (a0.size : Int) then (if (wrap64 ((wrap64 (a1 + 1)) + (wrap64 (Go.bits .and .u8 (bt a0 a1) 15)))) > (a0.size : Int) then (some (0, 0, false)) else (codec_raw.l0 k a0 a1 a2 (wrap64 (Go.bits .and .u8 (bt a0 a1) 15)) 0 (wrap64 (Go.bits .and .u8 (bt a0 a1) 15)) 0)) else (none)) else (none)) else (some (0, 0, false))) = some (r1, r2, r3) := H
  have A4 := Aside0.mk A40
  clear A40
  by_cases c5 : t124 = a2
  · rw [if_pos c5] at H
    have c5b0 : (t124 == a2) = true := beq_iff_eq.mpr c5
    have c5b1 : (t124 != a2) = false := bne_eq_false_iff_eq.mpr c5
    clear c5
    by_cases c6 : 0 ≤ a1
    · rw [if_pos c6] at H
      have c6b0 : decide (0 ≤ a1) = true := decide_eq_true c6
      clear c6
      by_cases c7 : a1 < (a0.size : Int)
      · rw [if_pos c7] at H
        have c7b0 : decide (a1 < (a0.size : Int)) = true := decide_eq_true c7
        clear c7
        by_cases c9 : (wrap64 ((wrap64 (a1 + 1)) + (wrap64 (Go.bits .and .u8 (bt a0 a1) 15)))) > (a0.size : Int)
        · rw [if_pos c9] at H
          have c9b0 : decide ((a0.size : Int) < (wrap64 ((wrap64 (a1 + 1)) + (wrap64 (Go.bits .and .u8 (bt a0 a1) 15))))) = true := decide_eq_true c9
          clear c9
          simp only [Option.some.injEq, Prod.mk.injEq] at H
          obtain ⟨rfl, rfl, rfl⟩ := H
          go_enter Tryd.func75, Tryd.ntmps75
          go_wp2_with (first | ((with_reducible refine gate_callee (f := 79) rfl ?_); refine goesL_ (some 16) rfl rfl Tryd.func79 (by kernel_rfl) rfl #[.string a0, .int .i64 a1] rfl (by (try simp only [List.map_toArray, List.map_cons, List.map_nil]); first | done | rfl | (simp only [List.length_drop, List.length_take]; rfl)) ?_; (with_reducible refine (codec_kind.calls k a0 a1 t124 _ ?side99  A4.out).mono ?_); (case side99 => first | exact HG.out | exact Glob.below HG.out (by repeat (first | (with_reducible first | exact HB.out | apply below_alloc | apply pw_below_drewN | apply below_drew1) | exact HB.out))); rintro e w' ⟨rfl, ⟨nd, rfl⟩⟩; refine ⟨_, rfl, ?_⟩; have p8 : 0 ≤ (a1 : Int) := of_decide_eq_true (by first | (with_reducible assumption) | assumption); have q8 : a1 < (a0.size : Int) := of_decide_eq_true (by first | (with_reducible assumption) | assumption); have hx8 := bt_at a0 a1; replace p8 := eq_true p8; replace q8 := eq_true q8))
          go_ret3
          exact ⟨by first | rfl | (simp [errW_none, errW_some] <;> rfl) | (simp [*, errW_none, errW_some] <;> rfl), by repeat (first | (with_reducible first | exact HB.out | apply below_alloc | apply pw_below_drewN | apply below_drew1) | exact HB.out)⟩
        · rw [if_neg c9] at H
          have c9b0 : decide ((a0.size : Int) < (wrap64 ((wrap64 (a1 + 1)) + (wrap64 (Go.bits .and .u8 (bt a0 a1) 15))))) = false := decide_eq_false c9
          clear c9
          have H' := Aside0.mk H
          clear H
          go_enter Tryd.func75, Tryd.ntmps75
          go_wp2_with (first | ((with_reducible refine gate_callee (f := 79) rfl ?_); refine goesL_ (some 16) rfl rfl Tryd.func79 (by kernel_rfl) rfl #[.string a0, .int .i64 a1] rfl (by (try simp only [List.map_toArray, List.map_cons, List.map_nil]); first | done | rfl | (simp only [List.length_drop, List.length_take]; rfl)) ?_; (with_reducible refine (codec_kind.calls k a0 a1 t124 _ ?side99  A4.out).mono ?_); (case side99 => first | exact HG.out | exact Glob.below HG.out (by repeat (first | (with_reducible first | exact HB.out | apply below_alloc | apply pw_below_drewN | apply below_drew1) | exact HB.out))); rintro e w' ⟨rfl, ⟨nd, rfl⟩⟩; refine ⟨_, rfl, ?_⟩; have p8 : 0 ≤ (a1 : Int) := of_decide_eq_true (by first | (with_reducible assumption) | assumption); have q8 : a1 < (a0.size : Int) := of_decide_eq_true (by first | (with_reducible assumption) | assumption); have hx8 := bt_at a0 a1; replace p8 := eq_true p8; replace q8 := eq_true q8))
          go_loopg [10, 32] k (fun kq v10 v32 w' => ∃ (x10_1 : Int) (x32_1 : Int), v10 = .int .u64 x10_1 ∧ v32 = .int .i64 x32_1 ∧ Aside0 (codec_raw.l0 kq a0 a1 a2 (wrap64 (Go.bits .and .u8 (bt a0 a1) 15)) x10_1 (wrap64 (Go.bits .and .u8 (bt a0 a1) 15)) x32_1 = some (r1, r2, r3)) ∧ Aside0 (kq ≤ k) ∧ Aside0 (Below w.heap.size w w'))
          case atStart => exact ⟨(0), (0), (by first | rfl | (simp; done) | (simp [*]; done)), (by first | rfl | (simp; done) | (simp [*]; done)), H', ⟨Nat.le_refl _⟩, ⟨by repeat (first | (with_reducible first | exact HB.out | apply below_alloc | apply pw_below_drewN | apply below_drew1) | exact HB.out)⟩⟩
          case round =>
            clear H'
            try clear p2
            try clear c5
            try clear c5b0
            try clear c5b1
            try clear c6
            try clear c6b0
            try clear p6
            try clear c7
            try clear c7b0
            try clear p8
            try clear q8
            try clear hx8
            try clear c9
            try clear c9b0
            try clear p8
            try clear q8
            obtain ⟨x10_1, x32_1, rfl, rfl, HA, HK1, HB⟩ := hrel
            cases gk with
            | zero => exact absurd HA.out (by simp [codec_raw.l0])
            | succ k1 =>
              have H := HA.out
              clear HA
              simp only [codec_raw.l0] at H
              by_cases c10 : x32_1 < (wrap64 (Go.bits .and .u8 (bt a0 a1) 15))
              · rw [if_pos c10] at H
                have c10b0 : decide (x32_1 < (wrap64 (Go.bits .and .u8 (bt a0 a1) 15))) = true := decide_eq_true c10
                clear c10
                obtain ⟨ji11, hji11⟩ : ∃ j_ : Int, (wrap64 ((wrap64 (a1 + 1)) + x32_1)) = j_ := ⟨_, rfl⟩
                replace H : (if 0 ≤ (ji11) then (if (ji11) < (a0.size : Int) then (codec_raw.l0 k1 a0 a1 a2 (wrap64 (Go.bits .and .u8 (bt a0 a1) 15)) (Go.bits .or .u64 (IntKind.u64.wrap (x10_1 * 256)) (IntKind.u64.wrap (bt a0 (ji11)))) (wrap64 (Go.bits .and .u8 (bt a0 a1) 15)) (wrap64 (x32_1 + 1))) else (none)) else (none)) = some (r1, r2, r3) := by first | (rw [hji11] at H; exact H) | (simp only [hji11] at H ⊢; exact H)
                have hji11w : (IntKind.i64.wrap ((wrap64 (a1 + 1)) + x32_1)) = ji11 := (i64_w _).trans hji11
                by_cases c12 : 0 ≤ (ji11)
                · rw [if_pos c12] at H
                  have c12b0 : decide (0 ≤ (ji11)) = true := decide_eq_true c12
                  clear c12
                  by_cases c13 : (ji11) < (a0.size : Int)
                  · rw [if_pos c13] at H
                    have c13b0 : decide ((ji11) < (a0.size : Int)) = true := decide_eq_true c13
                    clear c13
                    have H' := Aside0.mk H
                    clear H
                    have p14 : 0 ≤ ((ji11) : Int) := of_decide_eq_true (by first | (with_reducible assumption) | assumption)
                    have q14 : (ji11) < (a0.size : Int) := of_decide_eq_true (by first | (with_reducible assumption) | assumption)
                    have hx14 := bt_at a0 (ji11)
                    replace p14 := eq_true p14
                    replace q14 := eq_true q14
                    go_wp2
                    go_roundg k1
                    case measure => have := HK1.out; omega
                    case rel => exact ⟨(Go.bits .or .u64 (IntKind.u64.wrap (x10_1 * 256)) (IntKind.u64.wrap (bt a0 (ji11)))), (wrap64 (x32_1 + 1)), (by first | rfl | (simp; done) | (simp only [← hji11] <;> (first | rfl | simp)) | (simp [*]; done)), (by first | rfl | (simp; done) | (simp [*]; done)), H', ⟨by have := HK1.out; omega⟩, ⟨by repeat (first | (with_reducible first | exact HB.out | apply below_alloc | apply pw_below_drewN | apply below_drew1) | exact HB.out)⟩⟩
                  · rw [if_neg c13] at H
                    exact absurd H (by simp)
                · rw [if_neg c12] at H
                  exact absurd H (by simp)
              · rw [if_neg c10] at H
                have c10b0 : decide (x32_1 < (wrap64 (Go.bits .and .u8 (bt a0 a1) 15))) = false := decide_eq_false c10
                clear c10
                by_cases c15 : a2 = 3
                · rw [if_pos c15] at H
                  have c15b0 : (a2 == 3) = true := beq_iff_eq.mpr c15
                  have c15b1 : (a2 != 3) = false := bne_eq_false_iff_eq.mpr c15
                  clear c15
                  replace H := Option.bind_eq_some_iff.mp H
                  obtain ⟨t125, A160, H⟩ := H
                  replace H : (some (x10_1, wrap64 ((wrap64 (a1 + 1)) + (wrap64 (Go.bits .and .u8 (bt a0 a1) 15))), (t125 == (wrap64 (Go.bits .and .u8 (bt a0 a1) 15))))) = some (r1, r2, r3) := H
                  have A16 := Aside0.mk A160
                  clear A160
                  simp only [Option.some.injEq, Prod.mk.injEq] at H
                  obtain ⟨rfl, rfl, rfl⟩ := H
                  go_wp2_with (first | ((with_reducible refine gate_callee (f := 69) rfl ?_); refine goesL_ (some 54) rfl rfl Tryd.func69 (by kernel_rfl) rfl #[.int .u64 x10_1] rfl (by (try simp only [List.map_toArray, List.map_cons, List.map_nil]); first | done | rfl | (simp only [List.length_drop, List.length_take]; rfl)) ?_; (with_reducible refine (codec_width.calls k1 x10_1 t125 _ ?side99  A16.out).mono ?_); (case side99 => first | exact HG.out | exact Glob.below HG.out (by repeat (first | (with_reducible first | exact HB.out | apply below_alloc | apply pw_below_drewN | apply below_drew1) | exact HB.out))); rintro e w17 ⟨rfl, hb⟩; refine ⟨_, rfl, ?_⟩; have n0_ := Aside0.mk (below_step (by repeat (first | (with_reducible first | exact HB.out | apply below_alloc | apply pw_below_drewN | apply below_drew1) | exact HB.out)) hb); clear HB; have HB := n0_; clear n0_; (try clear hb); (try clear hb2); (try clear hk); (try clear hi)))
                  go_ret3
                  exact ⟨by first | rfl | (simp [errW_none, errW_some] <;> rfl) | (simp [*, errW_none, errW_some] <;> rfl), by repeat (first | (with_reducible first | exact HB.out | apply below_alloc | apply pw_below_drewN | apply below_drew1) | exact HB.out)⟩
                · rw [if_neg c15] at H
                  have c15b0 : (a2 == 3) = false := beq_eq_false_iff_ne.mpr c15
                  have c15b1 : (a2 != 3) = true := bne_iff_ne.mpr c15
                  obtain ⟨ji18, hji18⟩ : ∃ j_ : Int, (wrap64 (64 - (wrap64 (8 * (wrap64 (Go.bits .and .u8 (bt a0 a1) 15)))))) = j_ := ⟨_, rfl⟩
                  replace H : (if 0 ≤ (ji18) then ((codec_spread.f k1 (shr .i64 (wrap64 (shl .u64 x10_1 (ji18))) (ji18))).bind fun t126 => (some (IntKind.u64.wrap (shr .i64 (wrap64 (shl .u64 x10_1 (ji18))) (ji18)), wrap64 ((wrap64 (a1 + 1)) + (wrap64 (Go.bits .and .u8 (bt a0 a1) 15))), (t126 == (wrap64 (Go.bits .and .u8 (bt a0 a1) 15)))))) else (none)) = some (r1, r2, r3) := by first | (rw [hji18] at H; exact H) | (simp only [hji18] at H ⊢; exact H)
                  have hji18w : (IntKind.i64.wrap (64 - (wrap64 (8 * (wrap64 (Go.bits .and .u8 (bt a0 a1) 15)))))) = ji18 := (i64_w _).trans hji18
                  by_cases c19 : 0 ≤ (ji18)
                  · rw [if_pos c19] at H
                    have c19b0 := eq_true c19
                    have c19b1 : decide (0 ≤ (ji18)) = true := decide_eq_true c19
                    clear c19
                    obtain ⟨ji20, hji20⟩ : ∃ j_ : Int, (shl .u64 x10_1 (ji18)) = j_ := ⟨_, rfl⟩
                    replace H : ((codec_spread.f k1 (shr .i64 (wrap64 (ji20)) (ji18))).bind fun t126 => (some (IntKind.u64.wrap (shr .i64 (wrap64 (ji20)) (ji18)), wrap64 ((wrap64 (a1 + 1)) + (wrap64 (Go.bits .and .u8 (bt a0 a1) 15))), (t126 == (wrap64 (Go.bits .and .u8 (bt a0 a1) 15)))))) = some (r1, r2, r3) := by first | (rw [hji20] at H; exact H) | (simp only [hji20] at H ⊢; exact H)
                    have hji20_ : (IntKind.u64.wrap (x10_1 * 2 ^ min (ji18).toNat 64)) = ji20 := hji20
                    have hji20z : (ji18) ≤ 64 → (IntKind.u64.wrap (x10_1 * 2 ^ (ji18).toNat)) = ji20 := shl_small hji20
                    have c21b0 := eq_true (of_decide_eq_true (by first | (with_reducible assumption) | assumption) : 0 ≤ (ji18))
                    obtain ⟨ji22, hji22⟩ : ∃ j_ : Int, (shr .i64 (wrap64 (ji20)) (ji18)) = j_ := ⟨_, rfl⟩
                    replace H : ((codec_spread.f k1 (ji22)).bind fun t126 => (some (IntKind.u64.wrap (ji22), wrap64 ((wrap64 (a1 + 1)) + (wrap64 (Go.bits .and .u8 (bt a0 a1) 15))), (t126 == (wrap64 (Go.bits .and .u8 (bt a0 a1) 15)))))) = some (r1, r2, r3) := by first | (rw [hji22] at H; exact H) | (simp only [hji22] at H ⊢; exact H)
                    have hji22_ : ((wrap64 (ji20)) / 2 ^ min (ji18).toNat 64) = ji22 := hji22
                    have hji22z : (ji18) ≤ 64 → ((wrap64 (ji20)) / 2 ^ (ji18).toNat) = ji22 := shr_small hji22
                    replace H := Option.bind_eq_some_iff.mp H
                    obtain ⟨t126, A230, H⟩ := H
                    replace H : (some (IntKind.u64.wrap (ji22), wrap64 ((wrap64 (a1 + 1)) + (wrap64 (Go.bits .and .u8 (bt a0 a1) 15))), (t126 == (wrap64 (Go.bits .and .u8 (bt a0 a1) 15))))) = some (r1, r2, r3) := H
                    have A23 := Aside0.mk A230
                    clear A230
                    simp only [Option.some.injEq, Prod.mk.injEq] at H
                    obtain ⟨rfl, rfl, rfl⟩ := H
                    go_wp2_with (first | ((with_reducible refine gate_callee (f := 70) rfl ?_); refine goesL_ (some 73) rfl rfl Tryd.func70 (by kernel_rfl) rfl #[.int .i64 ji22] rfl (by (try simp only [List.map_toArray, List.map_cons, List.map_nil]); first | done | (simp only [hji22]; rfl) | rfl | (simp only [List.length_drop, List.length_take]; rfl)) ?_; (with_reducible refine (codec_spread.calls k1 ji22 t126 _ ?side99  A23.out).mono ?_); (case side99 => first | exact HG.out | exact Glob.below HG.out (by repeat (first | (with_reducible first | exact HB.out | apply below_alloc | apply pw_below_drewN | apply below_drew1) | exact HB.out))); rintro e w' ⟨rfl, ⟨nd, rfl⟩⟩; refine ⟨_, rfl, ?_⟩))
                    go_ret3
                    exact ⟨by first | rfl | (simp [errW_none, errW_some] <;> rfl) | (simp only [← hji18, ← hji20, ← hji22]; first | rfl | (simp [errW_none, errW_some] <;> rfl)) | (simp [*, errW_none, errW_some] <;> rfl), by repeat (first | (with_reducible first | exact HB.out | apply below_alloc | apply pw_below_drewN | apply below_drew1) | exact HB.out)⟩
                  · rw [if_neg c19] at H
                    exact absurd H (by simp)
      · rw [if_neg c7] at H
        exact absurd H (by simp)
    · rw [if_neg c6] at H
      exact absurd H (by simp)
  · rw [if_neg c5] at H
    have c5b0 : (t124 == a2) = false := beq_eq_false_iff_ne.mpr c5
    have c5b1 : (t124 != a2) = true := bne_iff_ne.mpr c5
    simp only [Option.some.injEq, Prod.mk.injEq] at H
    obtain ⟨rfl, rfl, rfl⟩ := H
    go_enter Tryd.func75, Tryd.ntmps75
    go_wp2_with (first | ((with_reducible refine gate_callee (f := 79) rfl ?_); refine goesL_ (some 16) rfl rfl Tryd.func79 (by kernel_rfl) rfl #[.string a0, .int .i64 a1] rfl (by (try simp only [List.map_toArray, List.map_cons, List.map_nil]); first | done | rfl | (simp only [List.length_drop, List.length_take]; rfl)) ?_; (with_reducible refine (codec_kind.calls k a0 a1 t124 _ ?side99  A4.out).mono ?_); (case side99 => first | exact HG.out | exact Glob.below HG.out (by repeat (first | (with_reducible first | exact HB.out | apply below_alloc | apply pw_below_drewN | apply below_drew1) | exact HB.out))); rintro e w' ⟨rfl, ⟨nd, rfl⟩⟩; refine ⟨_, rfl, ?_⟩))
    go_ret3
    exact ⟨by first | rfl | (simp [errW_none, errW_some] <;> rfl) | (simp [*, errW_none, errW_some] <;> rfl), by repeat (first | (with_reducible first | exact HB.out | apply below_alloc | apply pw_below_drewN | apply below_drew1) | exact HB.out)⟩
end Go.Proofs.YtbgabhknmpbgiaaDoor.S
end
section
namespace Go.Proofs.YtbgabhknmpbgiaaDoor.S
open Go.RowKit Go.Proofs.YtbgabhknmpbgiaaDoorW.PrintWords Go.Proofs.YtbgabhknmpbgiaaDoorW.PrintLast Go.Proofs.YtbgabhknmpbgiaaDoorW.PrintMore
attribute [local go_sem] max2_int min2_int max_two min_two max_three min_three max_four min_four
set_option linter.unusedVariables false
set_option linter.unusedSimpArgs false
end Go.Proofs.YtbgabhknmpbgiaaDoor.S
end
section
namespace Go.Proofs.YtbgabhknmpbgiaaDoor.S
open Go.RowKit Go.Proofs.YtbgabhknmpbgiaaDoorW.PrintWords Go.Proofs.YtbgabhknmpbgiaaDoorW.PrintLast Go.Proofs.YtbgabhknmpbgiaaDoorW.PrintMore
attribute [local go_sem] max2_int min2_int max_two min_two max_three min_three max_four min_four
set_option linter.unusedVariables false
set_option linter.unusedSimpArgs false
end Go.Proofs.YtbgabhknmpbgiaaDoor.S
end
section
namespace Go.Proofs.YtbgabhknmpbgiaaDoor.S
open Go.RowKit Go.Proofs.YtbgabhknmpbgiaaDoorW.PrintWords Go.Proofs.YtbgabhknmpbgiaaDoorW.PrintLast Go.Proofs.YtbgabhknmpbgiaaDoorW.PrintMore
attribute [local go_sem] max2_int min2_int max_two min_two max_three min_three max_four min_four
set_option linter.unusedVariables false
set_option linter.unusedSimpArgs false
end Go.Proofs.YtbgabhknmpbgiaaDoor.S
end
section
namespace Go.Proofs.YtbgabhknmpbgiaaDoor.S
open Go.RowKit Go.Proofs.YtbgabhknmpbgiaaDoorW.PrintWords Go.Proofs.YtbgabhknmpbgiaaDoorW.PrintLast Go.Proofs.YtbgabhknmpbgiaaDoorW.PrintMore
attribute [local go_sem] max2_int min2_int max_two min_two max_three min_three max_four min_four
set_option linter.unusedVariables false
set_option linter.unusedSimpArgs false
end Go.Proofs.YtbgabhknmpbgiaaDoor.S
end
section
namespace Go.Proofs.YtbgabhknmpbgiaaDoor.S
open Go.RowKit Go.Proofs.YtbgabhknmpbgiaaDoorW.PrintWords Go.Proofs.YtbgabhknmpbgiaaDoorW.PrintLast Go.Proofs.YtbgabhknmpbgiaaDoorW.PrintMore
attribute [local go_sem] max2_int min2_int max_two min_two max_three min_three max_four min_four
set_option linter.unusedVariables false
set_option linter.unusedSimpArgs false
end Go.Proofs.YtbgabhknmpbgiaaDoor.S
end
section
namespace Go.Proofs.YtbgabhknmpbgiaaDoor.S
open Go.RowKit Go.Proofs.YtbgabhknmpbgiaaDoorW.PrintWords Go.Proofs.YtbgabhknmpbgiaaDoorW.PrintLast Go.Proofs.YtbgabhknmpbgiaaDoorW.PrintMore
attribute [local go_sem] max2_int min2_int max_two min_two max_three min_three max_four min_four
set_option linter.unusedVariables false
set_option linter.unusedSimpArgs false
end Go.Proofs.YtbgabhknmpbgiaaDoor.S
end
section
namespace Go.Proofs.YtbgabhknmpbgiaaDoor.Pure
open Go.RowKit Go.Proofs.YtbgabhknmpbgiaaDoor.S Go.Proofs.YtbgabhknmpbgiaaDoorW.PrintWords Go.Proofs.YtbgabhknmpbgiaaDoorW.PrintLast Go.Proofs.YtbgabhknmpbgiaaDoorW.PrintMore
set_option linter.unusedVariables false
set_option linter.unusedSimpArgs false
end Go.Proofs.YtbgabhknmpbgiaaDoor.Pure
end
