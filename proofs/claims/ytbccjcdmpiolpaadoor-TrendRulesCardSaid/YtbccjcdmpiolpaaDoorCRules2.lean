/- TrendRulesCard: one part of the proof that the law answers true for every input, and that its arguments read afterwards as before. No condition. -/
import Derived.Test.YtbccjcdmpiolpaaDoorCRules1
import Derived.Outline
import Derived.Deep.OwnRows
import Derived.Deep.MidRow
import Derived.LoopTactic
section
namespace Go.Proofs.YtbccjcdmpiolpaaDoor.T
open Go.RowKit Go.Proofs.YtbccjcdmpiolpaaDoorW.PrintWords Go.Proofs.YtbccjcdmpiolpaaDoorW.PrintLast Go.Proofs.YtbccjcdmpiolpaaDoorW.PrintMore
set_option linter.unusedVariables false
set_option linter.unusedSimpArgs false
attribute [local go_sem] max2_int min2_int max_two min_two
structure Lg where
  nm : ByteArray
  pt : ByteArray
  way : Int
  iv : Int
  st : Int
  sz : Int
  now : Int
  valid : Bool
  vk : Int
  vn : Int
  q : Int
  ra : Int
  total : Int
  recs : List S44
structure Rot (sz : Int) (ring : List S44) (f : Nat) (recs : List S44) : Prop where
  recs : recs = ring.drop f ++ ring.take f
  lt : f = 0 ∨ f < ring.length
  full : (ring.length : Int) < sz → f = 0
abbrev LC (nm pt : ByteArray) (way iv st sz now : Int) (valid : Bool) (vk vn q ra total : Int) (v : Value) (f : Int) : Array Value := #[.string nm, .string pt, .int .i64 way, .int .i64 iv, .int .i64 st, .int .i64 sz, .int .i64 now, .bool valid, .int .i64 vk, .int .i64 vn, .int .i64 q, .int .i64 ra, .int .i64 total, v, .int .i64 f]
def LogAt (B g : Nat) (L : Lg) (w : World) : Prop := ∃ v ring f, w.heap[g]? = some (.cells (LC L.nm L.pt L.way L.iv L.st L.sz L.now L.valid L.vk L.vn L.q L.ra L.total v ((f : Nat) : Int)) 68 (0, 0)) ∧ B ≤ g ∧ Kd.R k44 44 w B (fun _ => True) v ring ∧ Rot L.sz ring f L.recs
structure KeepL (w w' : World) (g : Nat) : Prop where
  size : w.heap.size ≤ w'.heap.size
  keep : ∀ (k : Nat) cs t, w.heap[k]? = some (.cells cs t (0, 0)) → t ≠ 44 → k ≠ g → w'.heap[k]? = some (.cells cs t (0, 0))
theorem KeepL.refl (w : World) (g : Nat) : KeepL w w g := ⟨Nat.le_refl _, fun _ _ _ h _ _ => h⟩
theorem KeepL.trans {w w1 w2 : World} {g : Nat} (h : KeepL w w1 g) (k : KeepL w1 w2 g) : KeepL w w2 g := ⟨Nat.le_trans h.size k.size, fun j cs t hj h1 h2 => k.keep j cs t (h.keep j cs t hj h1 h2) h1 h2⟩
theorem KeepL.of_below {w w1 : World} (h : Below w.heap.size w w1) (g : Nat) : KeepL w w1 g := ⟨h.size, fun j cs t hj _ _ => blk_below hj h⟩
theorem KeepL.set {w w1 : World} {g : Nat} (h : KeepL w w1 g) (j : Nat) (u : Value) : KeepL w (w1.setCell ⟨g, j, none⟩ u) g := ⟨by simpa [World.setCell] using h.size, fun k cs t hk h1 h2 => blk_far (h.keep k cs t hk h1 h2) (p := ⟨g, j, none⟩) h2 u⟩
theorem KeepL.drew {w w1 : World} {g : Nat} (h : KeepL w w1 g) : KeepL w w1.drew g := ⟨h.size, h.keep⟩
theorem LogAt.below {B g : Nat} {L : Lg} {w w1 : World} (h : LogAt B g L w) (hb : Below w.heap.size w w1) : LogAt B g L w1 := by
  obtain ⟨v, ring, f, hv, hg, ho, hr⟩ := h
  exact ⟨v, ring, f, blk_below hv hb, hg, Kd.R_below ho hb, hr⟩
theorem LogAt.drew {B g : Nat} {L : Lg} {w : World} (h : LogAt B g L w) : LogAt B g L w.drew := by
  obtain ⟨v, ring, f, hv, hg, ho, hr⟩ := h
  exact ⟨v, ring, f, blk_drew hv, hg, Kd.R_drew ho, hr⟩
theorem LogAt.lower {B B' g : Nat} {L : Lg} {w : World} (h : LogAt B g L w) (hb : B' ≤ B) : LogAt B' g L w := by
  obtain ⟨v, ring, f, hv, hg, ho, hr⟩ := h
  exact ⟨v, ring, f, hv, Nat.le_trans hb hg, Kd.R_lower ho hb, hr⟩
theorem LogAt.lt {B g : Nat} {L : Lg} {w : World} (h : LogAt B g L w) : g < w.heap.size := by
  obtain ⟨v, ring, f, hv, _⟩ := h
  exact blk_lt hv
theorem R_setL {B g : Nat} {w : World} {cs : Array Value} {v : Value} {ring : List S44} (hv : w.heap[g]? = some (.cells cs 68 (0, 0))) (ho : Kd.R k44 44 w B (fun _ => True) v ring) (j : Nat) (u : Value) : Kd.R k44 44 (w.setCell ⟨g, j, none⟩ u) B (fun _ => True) v ring :=
  Kd.R_set ho hv (fun q hq => by
    rcases List.mem_cons.1 hq with rfl | hq
    · decide
    · cases hq) j u
theorem info44 : (Tryd.prog.info? 44).map (fun i => (i.zero, i.size, i.bytes)) = some (some (.agg #[(.int .i64 0), (.int .i64 0), (.int .i64 0), (.int .i64 0), (.int .i64 0), (.int .i64 0)]), 6, 48) := by kernel_rfl
structure CatInv (w : World) (v : Value) (xs : List S44) (wr : World) : Prop where
  own : Kd.R k44 44 wr w.heap.size (fun _ => True) v xs
  bel : Below w.heap.size w wr
def GrowPost (w : World) (e : Ending) (w' : World) : Prop := ∃ v : Value, e = .returned v ∧ CatInv w v [] w'
def CatPost (w : World) (xs : List S44) (e : Ending) (w' : World) : Prop := ∃ v : Value, e = .returned v ∧ CatInv w v xs w'
set_option maxHeartbeats 16000000 in
set_option maxRecDepth 100000 in
theorem grow_calls (n : Nat) (w : World) (hn : n ≤ 1000000) : Calls Tryd.prog 50 #[.slice none 0 0, .int .i64 (n : Int)] w fun e w' => GrowPost w e w' := by
  have HB := Aside0.mk (Below.refl w.heap.size w)
  have hb0 : decide ((n : Int) < 0) = false := decide_eq_false (by omega)
  by_cases hz : n = 0
  · subst hz
    clear hb0 hn
    go_enter Tryd.func50, Tryd.ntmps50
    go_wp2
    go_ret
    exact ⟨_, rfl, ⟨Kd.R_nil _ _ _ _ _, HB.out⟩⟩
  · have hp : 0 < n := by omega
    have hb1 : decide (0 < n) = true := decide_eq_true hp
    clear hz
    go_enter Tryd.func50, Tryd.ntmps50
    go_wp2_with (at_builtin; refine Kd.R_append_zeros k44 (w0 := w) w.heap.size rfl (.tmp 20) (.tmp 21) 39 3 44 (.agg #[(.int .i64 0), (.int .i64 0), (.int .i64 0), (.int .i64 0), (.int .i64 0), (.int .i64 0)]) 48 rfl Tryd.underlying39 Tryd.underlying3 info44 rfl (by decide) (by omega) (.slice none 0 0) [] z44 (n : Int) (fun _ => True) rfl rfl (k44_mkM _ _ _ z44) (fun _ _ => trivial) (Kd.R_nil _ _ _ _ _) (by omega) HB.out (Nat.le_refl _) (by simp; omega) ?_; intro v1 w9 ho hb hg hat; rw [List.nil_append] at ho; obtain ⟨A1, c1, e1⟩ := Kd.R_slice ho; subst e1; have HT := Aside0.mk (Kd.R_take (m := 0) ho (Nat.zero_le _)); have HB2 := Aside0.mk hb; clear ho hb hg hat)
    go_ret
    exact ⟨_, rfl, ⟨HT.out, HB2.out⟩⟩
set_option maxHeartbeats 16000000 in
set_option maxRecDepth 100000 in
theorem concat_calls (A0 : Option Addr) (c0 : Nat) (l0 : List S44) (A1 : Option Addr) (c1 : Nat) (l1 : List S44) (g : Nat) (w : World) (hg : w.heap[g]? = some (.cells #[.slice A0 l0.length c0, .slice A1 l1.length c1] 39 (0, 0)))
    (hr0 : Kd.C k44 w A0 l0.length l0) (hc0 : l0.length ≤ c0) (hr1 : Kd.C k44 w A1 l1.length l1) (hc1 : l1.length ≤ c1) (hn : l0.length + l1.length ≤ 1000000) :
    Calls Tryd.prog 25 #[.slice (some ⟨g, 0, none⟩) 2 2] w fun e w' => CatPost w (l0 ++ l1) e w' := by
  have HR0 := Aside0.mk hr0
  have HR1 := Aside0.mk hr1
  have HG := Aside0.mk hg
  clear hr0 hr1 hg
  have z0 := (blk_cell HG.out 0).trans rfl
  have z1 := (blk_cell HG.out 1).trans rfl
  have hb0 : decide ((l0.length : Int) < 0) = false := decide_eq_false (by omega)
  have hb1 : decide ((l0.length : Int) + (l1.length : Int) < 0) = false := decide_eq_false (by omega)
  go_enter Tryd.func25, Tryd.ntmps25
  go_wp2
  go_loop [3, 11] (fun s i => (i = .int .i64 0 ∧ s = .int .i64 0) ∨ (i = .int .i64 1 ∧ s = .int .i64 (l0.length : Int)) ∨ (i = .int .i64 2 ∧ s = .int .i64 ((l0.length : Int) + (l1.length : Int)))) (fun _ i => 2 - (intOf i).toNat)
  case atStart => exact Or.inl ⟨rfl, rfl⟩
  case round =>
    rcases hrel with ⟨rfl, rfl⟩ | ⟨rfl, rfl⟩ | ⟨rfl, rfl⟩
    · go_wp2
      exact ⟨Or.inr (Or.inl ⟨rfl, by first | rfl | (simp; done)⟩), by simp [RowKit.intOf]⟩
    · go_wp2
      exact ⟨Or.inr (Or.inr ⟨rfl, by first | rfl | (simp; done)⟩), by simp [RowKit.intOf]⟩
    · clear hb0 hb1
      have HGr := Aside0.mk (fun W => grow_calls (l0.length + l1.length) W hn)
      have hcast := Aside0.mk (show ((l0.length : Int) + (l1.length : Int)) = ((l0.length + l1.length : Nat) : Int) by omega)
      go_wp2_with (go_at_call 50; rw [hcast.out]; (with_reducible refine (HGr.out _).mono ?_); rintro e w1 ⟨v, rfl, hv⟩; have HI0 := Aside0.mk hv; clear hv)
      clear hcast HGr
      go_loopw [6, 27] (fun v i wr => (i = .int .i64 0 ∧ Aside0 (CatInv w v [] wr)) ∨ (i = .int .i64 1 ∧ Aside0 (CatInv w v l0 wr)) ∨ (i = .int .i64 2 ∧ Aside0 (CatInv w v (l0 ++ l1) wr))) (fun _ i _ => 2 - (intOf i).toNat)
      case atStart => exact Or.inl ⟨rfl, HI0⟩
      case round =>
        clear HI0 z0 z1
        rcases hrel with ⟨rfl, HI⟩ | ⟨rfl, HI⟩ | ⟨rfl, HI⟩
        · have z0 := (blk_cell (blk_below HG.out HI.out.bel) 0).trans rfl
          go_wp2_with (at_builtin; refine Kd.R_append_rows k44 (w0 := w) w.heap.size rfl (.tmp 31) (.tmp 32) 39 44 (.agg #[(.int .i64 0), (.int .i64 0), (.int .i64 0), (.int .i64 0), (.int .i64 0), (.int .i64 0)]) 48 rfl Tryd.underlying39 info44 rfl (by decide) (by omega) u6 [] l0 _ _ _ (fun _ => True) (fun _ => False) rfl rfl HI.out.own (Kd.C_below HR0.out HI.out.bel) (fun _ _ h => h) (fun _ h => h.elim) (fun _ _ => trivial) HI.out.bel HI.out.bel.size (by first | omega | (simp; omega)) ?_; intro v1 w9 ho hb hg hat; have HN1 := Aside0.mk (CatInv.mk ho hb); clear ho hb hg hat; rw [List.nil_append] at HN1)
          exact ⟨Or.inr (Or.inl ⟨rfl, HN1⟩), by simp [RowKit.intOf]⟩
        · have z1 := (blk_cell (blk_below HG.out HI.out.bel) 1).trans rfl
          go_wp2_with (at_builtin; refine Kd.R_append_rows k44 (w0 := w) w.heap.size rfl (.tmp 31) (.tmp 32) 39 44 (.agg #[(.int .i64 0), (.int .i64 0), (.int .i64 0), (.int .i64 0), (.int .i64 0), (.int .i64 0)]) 48 rfl Tryd.underlying39 info44 rfl (by decide) (by omega) u6 l0 l1 _ _ _ (fun _ => True) (fun _ => False) rfl rfl HI.out.own (Kd.C_below HR1.out HI.out.bel) (fun _ _ h => h) (fun _ h => h.elim) (fun _ _ => trivial) HI.out.bel HI.out.bel.size (by first | omega | (simp; omega)) ?_; intro v1 w9 ho hb hg hat; have HN1 := Aside0.mk (CatInv.mk ho hb); clear ho hb hg hat)
          exact ⟨Or.inr (Or.inr ⟨rfl, HN1⟩), by simp [RowKit.intOf]⟩
        · go_wp2
          go_ret
          exact ⟨_, rfl, HI.out⟩
theorem cutD {w : World} {A : Option Addr} {c : Nat} {xs : List S44} (h : Kd.C k44 w A xs.length xs) (hc : xs.length ≤ c) (j : Nat) (hj : j ≤ xs.length) : ∃ A' c', (xs.drop j).length ≤ c' ∧ (∀ W : World, (Instr.slice 39 (.slice A xs.length c) (some (.int .i64 (j : Int))) none none).run Tryd.prog W = .ok (.slice A' (xs.drop j).length c') W) ∧ ∀ w1, Kd.C k44 w1 A xs.length xs → Kd.C k44 w1 A' (xs.drop j).length (xs.drop j) := by
  obtain ⟨i0, hi, hzz⟩ := Option.map_eq_some_iff.1 info44
  simp only [Prod.mk.injEq] at hzz
  refine ⟨(if c = j then A else A.map (·.add (j * 6))), c - j, by rw [List.length_drop]; omega, fun W => ?_, fun w1 h1 => Kd.C_drop h1 hj hc⟩
  have := cut_from (P := Tryd.prog) 39 44 .i64 Tryd.underlying39 hi 6 hzz.2.1 A xs.length c (j : Int) (by omega) (by omega) W
  rw [Int.toNat_natCast] at this
  rw [this, List.length_drop]
theorem cutT {A : Option Addr} {c : Nat} {xs : List S44} (hc : xs.length ≤ c) (j : Nat) (hj : j ≤ xs.length) : (xs.take j).length ≤ c ∧ (∀ W : World, (Instr.slice 39 (.slice A xs.length c) none (some (.int .i64 (j : Int))) none).run Tryd.prog W = .ok (.slice A (xs.take j).length c) W) ∧ ∀ w1, Kd.C k44 w1 A xs.length xs → Kd.C k44 w1 A (xs.take j).length (xs.take j) := by
  obtain ⟨i0, hi, hzz⟩ := Option.map_eq_some_iff.1 info44
  simp only [Prod.mk.injEq] at hzz
  refine ⟨by rw [List.length_take]; omega, fun W => ?_, fun w1 h1 => Kd.C_take h1 hj⟩
  have := cut_to (P := Tryd.prog) 39 44 .i64 Tryd.underlying39 hi A xs.length c (j : Int) (by omega) (by omega) hc W
  rw [Int.toNat_natCast] at this
  rw [this, List.length_take, Nat.min_eq_left hj]
set_option maxHeartbeats 16000000 in
set_option maxRecDepth 100000 in
theorem new_calls (nm pt : ByteArray) (way iv st sz at_ : Int) (w : World) :
    Calls Tryd.prog 10 #[.agg #[.string nm, .string pt, .int .i64 way, .int .i64 iv, .int .i64 st, .int .i64 sz], .int .i64 at_] w fun e w' => ∃ g, e = .returned (.pointer (some ⟨g, 0, none⟩)) ∧ LogAt w.heap.size g ⟨nm, pt, way, iv, st, sz, at_, false, 0, 0, 0, 0, 0, []⟩ w' ∧ Below w.heap.size w w' := by
  go_enter Tryd.func10, Tryd.ntmps10
  go_wp2_with (first | ((with_reducible refine gate_dst (N := 2) rfl ?_); refine box_event ?hg (N := 2) ?hd (cs := #[.string nm, .string pt, .int .i64 way, .int .i64 iv, .int .i64 st, .int .i64 sz]) (t := 23) ?hr ?_; (case hd => rfl); (case hg => rfl); (case hr => first | (go_simp; done) | (go_simp; rfl)); intro gr hgr w1 hbox hb; have BR := Aside0.mk hbox; have HB1 := Aside0.mk hb; have x0 := (blk_cell hbox 0).trans rfl; have x1 := (blk_cell hbox 1).trans rfl; have x2 := (blk_cell hbox 2).trans rfl; have x3 := (blk_cell hbox 3).trans rfl; have x4 := (blk_cell hbox 4).trans rfl; have x5 := (blk_cell hbox 5).trans rfl; clear hb hbox hgr) | ((with_reducible refine gate_dst (N := 8) rfl ?_); refine box_event ?hg (N := 8) ?hd (cs := LC nm pt way iv st sz at_ false 0 0 0 0 0 (.slice none 0 0) 0) (t := 68) ?hr ?_; (case hd => rfl); (case hg => rfl); (case hr => first | (go_simp; done) | (go_simp; rfl)); intro g hg w5 hbox hb; have HI5 := Aside0.mk (show LogAt w.heap.size g ⟨nm, pt, way, iv, st, sz, at_, false, 0, 0, 0, 0, 0, []⟩ w5 from ⟨_, [], 0, hbox, by rw [hg]; exact HB1.out.size, Kd.R_nil _ _ _ _ _, ⟨rfl, Or.inl rfl, fun _ => rfl⟩⟩); have HB5 := Aside0.mk (below_step HB1.out hb); clear hb hbox hg))
  go_ret
  exact ⟨g, rfl, HI5.out, HB5.out⟩
set_option maxHeartbeats 16000000 in
set_option maxRecDepth 100000 in
theorem total_calls (B g : Nat) (L : Lg) (w : World) (h : LogAt B g L w) :
    Calls Tryd.prog 12 #[.pointer (some ⟨g, 0, none⟩)] w fun e w' => e = .returned (.int .i64 L.total) ∧ w' = w := by
  obtain ⟨v0, ring, f, hG, hge, hO, hr⟩ := h
  have c12 := (blk_cell hG 12).trans rfl
  clear hG hge hO hr
  go_enter Tryd.func12, Tryd.ntmps12
  go_wp2
  go_ret
  exact ⟨rfl, rfl⟩
set_option maxHeartbeats 16000000 in
set_option maxRecDepth 100000 in
theorem records_calls (B g : Nat) (L : Lg) (w : World) (h : LogAt B g L w) (hn : L.recs.length ≤ 1000000) :
    Calls Tryd.prog 14 #[.pointer (some ⟨g, 0, none⟩)] w fun e w' => ∃ v : Value, e = .returned v ∧ Kd.R k44 44 w' w.heap.size (fun _ => True) v L.recs ∧ Below w.heap.size w w' := by
  obtain ⟨v0, ring, f, hG, hge, hO, hr⟩ := h
  have hfl : f ≤ ring.length := by have := hr.lt; omega
  have hln : (ring.drop f).length + (ring.take f).length ≤ 1000000 := by rw [hr.recs, List.length_append] at hn; exact hn
  obtain ⟨A0, c0, e0, hc0, hC⟩ := Kd.R_reads hO
  subst e0
  obtain ⟨A1, c1, hc1, hcut1, hD⟩ := cutD hC hc0 f hfl
  obtain ⟨hc2, hcut2, hT⟩ := cutT (A := A0) hc0 f hfl
  have hrs := hr.recs
  clear hge hr
  generalize ring.drop f = xs1 at hln hc1 hcut1 hD hrs
  generalize ring.take f = xs2 at hln hc2 hcut2 hT hrs
  have HRS := Aside0.mk hrs
  clear hrs
  have HD := Aside0.mk hD
  have HT := Aside0.mk hT
  have HLN := Aside0.mk hln
  have HG := Aside0.mk hG
  have HC1 := Aside0.mk (Kd.C_drew hC)
  have HG1 := Aside0.mk (blk_drew hG)
  have HB1 := Aside0.mk (below_drew (Below.refl w.heap.size w))
  clear hD hT hln hC hO
  have c13 := (blk_cell hG 13).trans rfl
  have c14 := (blk_cell hG 14).trans rfl
  clear hG
  go_enter Tryd.func14, Tryd.ntmps14
  go_wp2
  refine start_ (n := 21) (S := fun w' => w'.cell? ⟨g, 13, none⟩ = some (.slice A0 ring.length c0) ∧ w'.cell? ⟨g, 14, none⟩ = some (.int .i64 (f : Int))) (ds := []) #[Yn, Yn, Yn, Yn, Yn, Yn, Yn, Yn, Yn, Yn, Yn, Yn, Yn, Yn, Yn, Yn, Yn, Yn, Yn, Yn, Yn] (by kernel_rfl) rfl rfl ⟨c13, c14⟩ (fun hHeld => ?_)
  generalize w.drew = w1 at HC1 HG1 HB1 hHeld ⊢
  refine pure_ (i := 0) (N := some 3) (v := ?_) (a' := ?_) #[Y, Yn, Yn, Yn, Yn, Yn, Yn, Yn, Yn, Yn, Yn, Yn, Yn, Yn, Yn, Yn, Yn, Yn, Yn, Yn, Yn] rfl rfl (by kernel_rfl) (fun _ _ _ h => h) (Or.inl ⟨by rfl, ?_⟩) ?_ ?_
  rotate_left
  · intro w'
    go_simp
    with_reducible rfl
  rotate_left
  · simp only [Act.put, List.setIfInBounds_toArray, List.set_cons_zero, List.set_cons_succ, i64_w, i32_w]
    rfl
  refine pure_ (i := 1) (N := some 4) (v := ?_) (a' := ?_) #[Y, Y, Yn, Yn, Yn, Yn, Yn, Yn, Yn, Yn, Yn, Yn, Yn, Yn, Yn, Yn, Yn, Yn, Yn, Yn, Yn] rfl rfl (by kernel_rfl) (fun _ _ _ h => h) (Or.inl ⟨by rfl, ?_⟩) ?_ ?_
  rotate_left
  · intro w'
    go_simp
    with_reducible rfl
  rotate_left
  · simp only [Act.put, List.setIfInBounds_toArray, List.set_cons_zero, List.set_cons_succ, i64_w, i32_w]
    rfl
  refine pure_ (i := 2) (N := some 5) (v := ?_) (a' := ?_) #[Y, Y, Y, Yn, Yn, Yn, Yn, Yn, Yn, Yn, Yn, Yn, Yn, Yn, Yn, Yn, Yn, Yn, Yn, Yn, Yn] rfl rfl (by kernel_rfl) (fun _ _ _ h => h) (Or.inl ⟨by rfl, ?_⟩) ?_ ?_
  rotate_left
  · intro w'
    go_simp
    with_reducible rfl
  rotate_left
  · simp only [Act.put, List.setIfInBounds_toArray, List.set_cons_zero, List.set_cons_succ, i64_w, i32_w]
    rfl
  refine pure_ (i := 4) (N := some 7) (v := ?_) (a' := ?_) #[Y, Y, Y, Yn, Y, Yn, Yn, Yn, Yn, Yn, Yn, Yn, Yn, Yn, Yn, Yn, Yn, Yn, Yn, Yn, Yn] rfl rfl (by kernel_rfl) (fun _ _ _ h => h) (Or.inl ⟨by rfl, ?_⟩) ?_ ?_
  rotate_left
  · intro w'
    go_simp
    with_reducible rfl
  rotate_left
  · simp only [Act.put, List.setIfInBounds_toArray, List.set_cons_zero, List.set_cons_succ, i64_w, i32_w]
    rfl
  refine pure_ (i := 5) (N := some 8) (v := ?_) (a' := ?_) #[Y, Y, Y, Yn, Y, Y, Yn, Yn, Yn, Yn, Yn, Yn, Yn, Yn, Yn, Yn, Yn, Yn, Yn, Yn, Yn] rfl rfl (by kernel_rfl) (fun _ _ _ h => h) (Or.inl ⟨by rfl, ?_⟩) ?_ ?_
  rotate_left
  · intro w'
    go_simp
    with_reducible rfl
  rotate_left
  · simp only [Act.put, List.setIfInBounds_toArray, List.set_cons_zero, List.set_cons_succ, i64_w, i32_w]
    rfl
  refine pure_ (i := 6) (N := some 9) (v := ?_) (a' := ?_) #[Y, Y, Y, Yn, Y, Y, Y, Yn, Yn, Yn, Yn, Yn, Yn, Yn, Yn, Yn, Yn, Yn, Yn, Yn, Yn] rfl rfl (by kernel_rfl) (fun _ _ _ h => h) (Or.inl ⟨by rfl, ?_⟩) ?_ ?_
  rotate_left
  · intro w'
    go_simp
    with_reducible rfl
  rotate_left
  · simp only [Act.put, List.setIfInBounds_toArray, List.set_cons_zero, List.set_cons_succ, i64_w, i32_w]
    rfl
  refine pure_ (i := 9) (N := some 12) (v := ?_) (a' := ?_) #[Y, Y, Y, Yn, Y, Y, Y, Yn, Yn, Y, Yn, Yn, Yn, Yn, Yn, Yn, Yn, Yn, Yn, Yn, Yn] rfl rfl (by kernel_rfl) (fun _ _ _ h => h) (Or.inl ⟨by rfl, ?_⟩) ?_ ?_
  rotate_left
  · intro w'
    go_simp
    with_reducible rfl
  rotate_left
  · simp only [Act.put, List.setIfInBounds_toArray, List.set_cons_zero, List.set_cons_succ, i64_w, i32_w]
    rfl
  refine pure_ (i := 10) (N := some 13) (v := ?_) (a' := ?_) #[Y, Y, Y, Yn, Y, Y, Y, Yn, Yn, Y, Y, Yn, Yn, Yn, Yn, Yn, Yn, Yn, Yn, Yn, Yn] rfl rfl (by kernel_rfl) (fun _ _ _ h => h) (Or.inl ⟨by rfl, ?_⟩) ?_ ?_
  rotate_left
  · intro w'
    go_simp
    with_reducible rfl
  rotate_left
  · simp only [Act.put, List.setIfInBounds_toArray, List.set_cons_zero, List.set_cons_succ, i64_w, i32_w]
    rfl
  refine pure_ (i := 11) (N := some 14) (v := ?_) (a' := ?_) #[Y, Y, Y, Yn, Y, Y, Y, Yn, Yn, Y, Y, Y, Yn, Yn, Yn, Yn, Yn, Yn, Yn, Yn, Yn] rfl rfl (by kernel_rfl) (fun _ _ _ h => h) (Or.inl ⟨by rfl, ?_⟩) ?_ ?_
  rotate_left
  · intro w'
    go_simp
    with_reducible rfl
  rotate_left
  · simp only [Act.put, List.setIfInBounds_toArray, List.set_cons_zero, List.set_cons_succ, i64_w, i32_w]
    rfl
  refine pure_ (i := 13) (N := some 16) (v := ?_) (a' := ?_) #[Y, Y, Y, Yn, Y, Y, Y, Yn, Yn, Y, Y, Y, Yn, Y, Yn, Yn, Yn, Yn, Yn, Yn, Yn] rfl rfl (by kernel_rfl) (fun _ _ _ h => h) (Or.inl ⟨by rfl, ?_⟩) ?_ ?_
  rotate_left
  · intro w'
    go_simp
    with_reducible rfl
  rotate_left
  · simp only [Act.put, List.setIfInBounds_toArray, List.set_cons_zero, List.set_cons_succ, i64_w, i32_w]
    rfl
  refine pure_ (i := 14) (N := some 17) (v := ?_) (a' := ?_) #[Y, Y, Y, Yn, Y, Y, Y, Yn, Yn, Y, Y, Y, Yn, Y, Y, Yn, Yn, Yn, Yn, Yn, Yn] rfl rfl (by kernel_rfl) (fun _ _ _ h => h) (Or.inl ⟨by rfl, ?_⟩) ?_ ?_
  rotate_left
  · intro w'
    go_simp
    with_reducible rfl
  rotate_left
  · simp only [Act.put, List.setIfInBounds_toArray, List.set_cons_zero, List.set_cons_succ, i64_w, i32_w]
    rfl
  refine pure_ (i := 15) (N := some 18) (v := ?_) (a' := ?_) #[Y, Y, Y, Yn, Y, Y, Y, Yn, Yn, Y, Y, Y, Yn, Y, Y, Y, Yn, Yn, Yn, Yn, Yn] rfl rfl (by kernel_rfl) (fun _ _ _ h => h) (Or.inl ⟨by rfl, ?_⟩) ?_ ?_
  rotate_left
  · intro w'
    go_simp
    with_reducible rfl
  rotate_left
  · simp only [Act.put, List.setIfInBounds_toArray, List.set_cons_zero, List.set_cons_succ, i64_w, i32_w]
    rfl
  refine take_ (i := 3) (N := some 6) (v := ?_) (a' := ?_) #[Y, Y, Y, Y, Y, Y, Y, Yn, Yn, Y, Y, Y, Yn, Y, Y, Y, Yn, Yn, Yn, Yn, Yn] rfl rfl (by kernel_rfl) (fun _ _ _ h => h) (Or.inl ⟨by rfl, ?_⟩) hHeld ?_ ?_
  rotate_left
  · rintro w' ⟨s0, s1⟩
    go_simp
    with_reducible rfl
  rotate_left
  · simp only [Act.put, List.setIfInBounds_toArray, List.set_cons_zero, List.set_cons_succ, i64_w, i32_w]
    rfl
  refine take_ (i := 7) (N := some 10) (v := ?_) (a' := ?_) #[Y, Y, Y, Y, Y, Y, Y, Y, Yn, Y, Y, Y, Yn, Y, Y, Y, Yn, Yn, Yn, Yn, Yn] rfl rfl (by kernel_rfl) (fun _ _ _ h => h) (Or.inl ⟨by rfl, ?_⟩) hHeld ?_ ?_
  rotate_left
  · rintro w' ⟨s0, s1⟩
    go_simp
    with_reducible rfl
  rotate_left
  · simp only [Act.put, List.setIfInBounds_toArray, List.set_cons_zero, List.set_cons_succ, i64_w, i32_w]
    rfl
  refine pure_ (i := 8) (N := some 11) (v := ?_) (a' := ?_) #[Y, Y, Y, Y, Y, Y, Y, Y, Y, Y, Y, Y, Yn, Y, Y, Y, Yn, Yn, Yn, Yn, Yn] rfl rfl (by kernel_rfl) (fun _ _ _ h => h) (Or.inl ⟨by rfl, ?_⟩) ?_ ?_
  rotate_left
  · intro w'
    go_simp
    with_reducible rfl
  rotate_left
  · simp only [Act.put, List.setIfInBounds_toArray, List.set_cons_zero, List.set_cons_succ, i64_w, i32_w]
    rfl
  refine take_ (i := 12) (N := some 15) (v := ?_) (a' := ?_) #[Y, Y, Y, Y, Y, Y, Y, Y, Y, Y, Y, Y, Y, Y, Y, Y, Yn, Yn, Yn, Yn, Yn] rfl rfl (by kernel_rfl) (fun _ _ _ h => h) (Or.inl ⟨by rfl, ?_⟩) hHeld ?_ ?_
  rotate_left
  · rintro w' ⟨s0, s1⟩
    go_simp
    with_reducible rfl
  rotate_left
  · simp only [Act.put, List.setIfInBounds_toArray, List.set_cons_zero, List.set_cons_succ, i64_w, i32_w]
    rfl
  refine take_ (i := 16) (N := some 19) (v := ?_) (a' := ?_) #[Y, Y, Y, Y, Y, Y, Y, Y, Y, Y, Y, Y, Y, Y, Y, Y, Y, Yn, Yn, Yn, Yn] rfl rfl (by kernel_rfl) (fun _ _ _ h => h) (Or.inl ⟨by rfl, ?_⟩) hHeld ?_ ?_
  rotate_left
  · rintro w' ⟨s0, s1⟩
    go_simp
    with_reducible rfl
  rotate_left
  · simp only [Act.put, List.setIfInBounds_toArray, List.set_cons_zero, List.set_cons_succ, i64_w, i32_w]
    rfl
  refine pure_ (i := 17) (N := some 20) (v := ?_) (a' := ?_) #[Y, Y, Y, Y, Y, Y, Y, Y, Y, Y, Y, Y, Y, Y, Y, Y, Y, Y, Yn, Yn, Yn] rfl rfl (by kernel_rfl) (fun _ _ _ h => h) (Or.inl ⟨by rfl, ?_⟩) ?_ ?_
  rotate_left
  · intro w'
    go_simp
    with_reducible rfl
  rotate_left
  · simp only [Act.put, List.setIfInBounds_toArray, List.set_cons_zero, List.set_cons_succ, i64_w, i32_w]
    rfl
  refine one_ (i := 18) (N := some 21) #[Y, Y, Y, Y, Y, Y, Y, Y, Y, Y, Y, Y, Y, Y, Y, Y, Y, Y, Y, Yn, Yn] rfl rfl (by kernel_rfl) (by decide) (fun K hK => ?_)
  refine value_ (w1 := ?_) (v := ?_) (by rfl) rfl ?_ ?_
  rotate_left 2
  · go_simp
    constructor
    · rfl
    · rfl
  have HGb := Aside0.mk (blk_new w1 (.cells #[.slice A1 xs1.length c1, .slice A0 xs2.length c0] 39 (0, 0)))
  have HBb := Aside0.mk (below_alloc HB1.out (.cells #[.slice A1 xs1.length c1, .slice A0 xs2.length c0] 39 (0, 0)))
  have HGl := Aside0.mk (blk_alloc HG1.out (.cells #[.slice A1 xs1.length c1, .slice A0 xs2.length c0] 39 (0, 0)))
  have HCl := Aside0.mk (Kd.C_alloc HC1.out (.cells #[.slice A1 xs1.length c1, .slice A0 xs2.length c0] 39 (0, 0)))
  refine hK.out _ _ ⟨(blk_cell HGl.out 13).trans rfl, (blk_cell HGl.out 14).trans rfl⟩ (fun hHeld => ?_)
  clear hK K
  refine norm_ (a' := ?_) ?_ ?_
  rotate_left
  · show Act.put _ (some 21) _ = _
    simp only [Act.put, List.setIfInBounds_toArray, List.set_cons_zero, List.set_cons_succ, i64_w, i32_w]
    rfl
  refine one_ (i := 19) (N := some 22) #[Y, Y, Y, Y, Y, Y, Y, Y, Y, Y, Y, Y, Y, Y, Y, Y, Y, Y, Y, Y, Yn] rfl rfl (by kernel_rfl) (by decide) (fun K hK => ?_)
  refine goes_ Tryd.func25 (by kernel_rfl) rfl #[.slice (some ⟨w1.heap.size, 0, none⟩) 2 2] (by rfl) rfl rfl (by simp only [List.map_toArray, List.map_cons, List.map_nil]; rfl) ?_
  with_reducible refine (concat_calls A1 c1 xs1 A0 c0 xs2 w1.heap.size _ HGb.out (HD.out _ HCl.out) hc1 (HT.out _ HCl.out) hc2 HLN.out).mono ?_
  rintro e w3 ⟨v3, rfl, hv⟩
  refine ⟨_, rfl, ?_⟩
  have HV := Aside0.mk hv
  clear hv
  refine hK.out _ _ ⟨(blk_cell (blk_below HGl.out HV.out.bel) 13).trans rfl, (blk_cell (blk_below HGl.out HV.out.bel) 14).trans rfl⟩ (fun hHeld => ?_)
  clear hK K
  refine norm_ (a' := ?_) ?_ ?_
  rotate_left
  · show Act.put _ (some 22) _ = _
    simp only [Act.put, List.setIfInBounds_toArray, List.set_cons_zero, List.set_cons_succ, i64_w, i32_w]
    rfl
  refine pure_ (i := 20) (N := some 2) (v := ?_) (a' := ?_) #[Y, Y, Y, Y, Y, Y, Y, Y, Y, Y, Y, Y, Y, Y, Y, Y, Y, Y, Y, Y, Y] rfl rfl (by kernel_rfl) (fun _ _ _ h => h) (Or.inl ⟨by rfl, ?_⟩) ?_ ?_
  rotate_left
  · intro w'
    go_simp
    with_reducible rfl
  rotate_left
  · simp only [Act.put, List.setIfInBounds_toArray, List.set_cons_zero, List.set_cons_succ, i64_w, i32_w]
    rfl
  refine done_ (by kernel_rfl) ?_
  clear hHeld
  go_wp2
  go_ret
  exact ⟨_, rfl, by rw [HRS.out]; exact Kd.R_lower HV.out.own (below_size HBb.out), below_step HBb.out HV.out.bel⟩
end Go.Proofs.YtbccjcdmpiolpaaDoor.T
end
section
namespace Go.Proofs.YtbccjcdmpiolpaaDoor.T
open Go.RowKit Go.Proofs.YtbccjcdmpiolpaaDoorW.PrintWords Go.Proofs.YtbccjcdmpiolpaaDoorW.PrintLast Go.Proofs.YtbccjcdmpiolpaaDoorW.PrintMore
set_option linter.unusedVariables false
set_option linter.unusedSimpArgs false
attribute [local go_sem] max2_int min2_int max_two min_two
section
variable {P : Program} {ops : Array Oper} {o : Oper} {a : Act} {Q : Exit → Act → World → Prop} {K : Act → World → Prop}
theorem step_store_row {w : World} (hw : Region.wanted o (yielded ops a.tmps) = true) (hN : o.dst = none) (ty : TypeId) (x y : Operand) (ho : o.op = .store ty x y)
    (g : Nat) (cells : Array Value) (hx : a.eval x = .pointer (some ⟨g, 0, none⟩)) (hy : a.eval y = .agg cells)
    (t : TypeId) (old : Array Value) (hg : w.heap[g]? = some (.cells old t (0, 0))) (hi : (P.info? ty).map (·.size) = some cells.size)
    (hold : old.size = cells.size) (h1 : cells.all (·.oneCell') = true) (h : K a (w.setRow g cells)) :
    if Region.wanted o (yielded ops a.tmps) = true then Oper.wp P o a w K Q else K (a.put o.dst undef) w := by
  rw [if_pos hw]
  refine wp_store_row ty x y ho g cells hx hy t old hg hi hold h1 ?_
  rw [hN]
  exact h
theorem add_off (g n : Nat) : (⟨g, 0, none⟩ : Addr).add n = ⟨g, n, none⟩ := by
  unfold Addr.add
  split <;> simp_all
theorem step_R_store {α : Type} (d : Kd α) {w0 W : World} (base : Nat) (hw : Region.wanted o (yielded ops a.tmps) = true) (hN : o.dst = none) (t : TypeId) (p x : Operand) (ho : o.op = .store t p x) (e : TypeId) {g n cap : Nat} (i : Int) (xs : List α) (x' : α) (u : Value) (seg c : List Value) (ok okp : Nat → Prop)
    (haddr : a.eval p = .pointer (some ((⟨g, 0, none⟩ : Addr).add (i.toNat * d.sz)))) (hx : a.eval x = u) (hu : u.cells.toList = seg) (ht : (P.info? t).map (·.size) = some seg.length) (h1 : ∀ q ∈ seg, q.oneCell' = true)
    (HO : d.R e W base ok (.slice (some ⟨g, 0, none⟩) n cap) xs) (h0 : 0 ≤ i) (hi : i < n) (hcl : c.length = d.sz) (hcc : ∀ j u, c[j]? = some u → W.cell? ⟨g, i.toNat * d.sz + j, none⟩ = some u)
    (hj : seg.length = d.sz) (hM : d.M W base okp x' seg) (hokp : ∀ k, okp k → ok k ∧ k ≠ g) (HB : Below base w0 W)
    (h : ∀ w1, d.R e w1 base ok (.slice (some ⟨g, 0, none⟩) n cap) (xs.set i.toNat x') → Below base w0 w1 → W.grownBy w1 (some g) → K a w1) :
    if Region.wanted o (yielded ops a.tmps) = true then Oper.wp P o a W K Q else K (a.put o.dst undef) W := by
  rw [add_off] at haddr
  have hM' : d.M W base okp x' (c.take 0 ++ seg ++ c.drop (0 + seg.length)) := by
    rw [List.take_zero, List.nil_append, List.drop_eq_nil_of_le (by omega), List.append_nil]
    exact hM
  obtain ⟨hrow, hg⟩ := Kd.R_seg HO i h0 hi (seg := seg) (j := 0) hcl hcc (by omega) hM' hokp
  have hbg : base ≤ g := Kd.R_base HO g (by simp [Value.ownBlock])
  have hnx : n = xs.length := (Kd.R_reads' HO).1
  obtain ⟨_, inner, hown, hr⟩ := HO
  have hil : i.toNat < n := by omega
  have hB : Below base w0 (W.setCells g (i.toNat * d.sz + 0) seg) := HB.trans ⟨hg.os, hg.tape, hg.output, hg.size, fun k hk => by
    have hlt : k < W.heap.size ∨ W.heap.size ≤ k := Nat.lt_or_ge _ _
    rcases hlt with hlt | hge
    · exact hg.block k hlt (fun he => by injection he with he; omega)
    · exact setCells_far seg _ k (by omega)⟩
  have hrun : (Instr.storeAt t (.pointer (some ⟨g, i.toNat * d.sz, none⟩)) u).run P W = .ok () (W.setCells g (i.toNat * d.sz) seg) := by
    rcases hown.2 with ⟨hv, _⟩ | ⟨g', cap', cur, hv, hb, hh, hnc, hcm, hcs, _⟩
    · cases hv
    injection hv with ha _ hc
    injection ha with ha
    injection ha with hg'
    subst hg'; subst hc
    refine run_store_run t u seg hh hu ht ?_ h1
    have h2 : i.toNat * d.sz + d.sz ≤ n * d.sz := by rw [← Nat.succ_mul]; exact Nat.mul_le_mul_right _ hil
    have h3 : n * d.sz ≤ cap * d.sz := Nat.mul_le_mul_right _ (by omega)
    omega
  rw [if_pos hw]
  unfold Oper.wp execOp
  simp only [ho, haddr, hx, Sem.run_bind, Sem.run_pure, Result.andThen_ok, hrun]
  show K (a.put o.dst undef) _
  rw [hN]
  exact h _ hrow hB hg
end
theorem wrap_id {n : Int} (h0 : -9223372036854775808 ≤ n) (h1 : n ≤ 9223372036854775807) : wrap64 n = n := by unfold wrap64; omega
theorem below_setRow {B g : Nat} {w W : World} (h : Below B w W) (hg : B ≤ g) (cs : Array Value) : Below B w (W.setRow g cs) :=
  ⟨h.os, h.tape, h.output, by simp; exact h.size, fun i hi => (setRow_other W g i cs (by omega)).trans (h.block i hi)⟩
def Lg.rec1 (L : Lg) (at_ : Int) : S44 := ⟨L.total + 1, at_, ⟨L.vk, L.vn⟩, L.q, 0⟩
def Lg.record (L : Lg) (at_ : Int) : Lg := { L with total := L.total + 1, recs := if (L.recs.length : Int) < L.sz then L.recs ++ [L.rec1 at_] else L.recs.drop 1 ++ [L.rec1 at_] }
theorem Rot.length {sz : Int} {ring recs : List S44} {f : Nat} (h : Rot sz ring f recs) : recs.length = ring.length := by
  rw [h.recs, List.length_append, List.length_drop, List.length_take]
  have := h.lt
  omega
theorem rot_step (ring : List S44) (f : Nat) (x : S44) (hf : f < ring.length) (f' : Nat) (h' : (f + 1 = ring.length ∧ f' = 0) ∨ (f + 1 < ring.length ∧ f' = f + 1)) : (ring.drop f ++ ring.take f).drop 1 ++ [x] = (ring.set f x).drop f' ++ (ring.set f x).take f' := by
  have e1 : ring.drop f = ring[f] :: ring.drop (f + 1) := List.drop_eq_getElem_cons hf
  rw [e1, List.cons_append, List.drop_succ_cons, List.drop_zero]
  have e2 : (ring.set f x) = ring.take f ++ x :: ring.drop (f + 1) := by rw [List.set_eq_take_append_cons_drop, if_pos hf]
  have hl : (ring.take f).length = f := by rw [List.length_take]; omega
  have e3 : ring.take f ++ x :: ring.drop (f + 1) = (ring.take f ++ [x]) ++ ring.drop (f + 1) := by rw [List.append_assoc]; rfl
  have hl3 : (ring.take f ++ [x]).length = f + 1 := by rw [List.length_append, hl]; rfl
  rcases h' with ⟨h1, rfl⟩ | ⟨h1, rfl⟩
  · rw [List.drop_zero, List.take_zero, List.append_nil, e2, List.drop_eq_nil_of_le (by omega), List.nil_append]
  · rw [e2, e3, List.drop_left' hl3, List.take_left' hl3, List.append_assoc]
def RecPost (B g : Nat) (w : World) (L : Lg) (e : Ending) (w' : World) : Prop := e = .returned (.tuple #[]) ∧ LogAt B g L w' ∧ Below B w w' ∧ KeepL w w' g
theorem elem44 {W : World} {base g n cap : Nat} {xs : List S44} (h : Kd.R k44 44 W base (fun _ => True) (.slice (some ⟨g, 0, none⟩) n cap) xs) (i : Int) (h0 : 0 ≤ i) (h1 : i < (xs.length : Int)) : ∃ c : List Value, c.length = k44.sz ∧ ∀ j u, c[j]? = some u → W.cell? ⟨g, i.toNat * k44.sz + j, none⟩ = some u := by
  have hn : n = xs.length := (Kd.R_reads' h).1
  obtain ⟨cs, hl, hM, hc, hf⟩ := Kd.R_elem h z44 i h0 (by omega)
  exact ⟨cs, hl, hc⟩
set_option maxHeartbeats 16000000 in
set_option maxRecDepth 100000 in
theorem record_calls (B g : Nat) (L : Lg) (at_ : Int) (w : World) (h : LogAt B g L w) (hBS : B ≤ w.heap.size) (ht : 0 ≤ L.total ∧ L.total ≤ 1000000000000000) (hs : 1 ≤ L.sz) (hn : L.recs.length ≤ 1000000) :
    Calls Tryd.prog 28 #[.pointer (some ⟨g, 0, none⟩), .int .i64 at_] w fun e w' => RecPost B g w (L.record at_) e w' := by
  obtain ⟨nm, pt, way, iv, st, sz, now, valid, vk, vn, q, ra, total, recs⟩ := L
  simp only [] at ht hs hn
  obtain ⟨v0, ring, f, hG, hge, hO, hr⟩ := h
  have HBS := Aside0.mk hBS
  obtain ⟨tt, HTT⟩ : ∃ tt, Aside0 (wrap64 (total + 1) = tt) := ⟨_, ⟨rfl⟩⟩
  have HT2 := Aside0.mk (show tt = total + 1 by rw [← HTT.out, wrap_id (by omega) (by omega)])
  have HR := Aside0.mk hr
  have HLR := Aside0.mk (show recs.length = ring.length from hr.length)
  have hlr : ring.length ≤ 1000000 := by rw [← HLR.out]; exact hn
  have HSZ := Aside0.mk (show 1 ≤ sz from hs)
  have HGE := Aside0.mk hge
  clear hr hn ht hs
  obtain ⟨fi, HFI⟩ : ∃ fi : Int, Aside0 (((f : Nat) : Int) = fi) := ⟨_, ⟨rfl⟩⟩
  rw [HFI.out] at hG
  have hG : w.heap[g]? = some (.cells (LC nm pt way iv st sz now valid vk vn q ra total v0 fi) 68 (0, 0)) := hG
  by_cases k1 : (ring.length : Int) < sz
  · obtain ⟨A0, c0, e0⟩ := Kd.R_slice hO
    subst e0
    have k1b : decide ((ring.length : Int) < sz) = true := decide_eq_true k1
    have K1 := Aside0.mk k1
    clear k1
    have HG := Aside0.mk hG
    have HG1 := Aside0.mk (blk_put hG 12 (.int .i64 tt) rfl)
    have HO1 := Aside0.mk (R_setL hG hO 12 (.int .i64 tt))
    have HB1 := Aside0.mk ((Below.refl B w).setCell (p := ⟨g, 12, none⟩) hge (.int .i64 tt))
    have HK1 := Aside0.mk ((KeepL.refl w g).set 12 (.int .i64 tt))
    clear hO hge hBS
    have c12 := (blk_cell hG 12).trans rfl
    have f12 := blk_frozen hG 12
    clear hG
    go_enter Tryd.func28, Tryd.ntmps28
    go_wp2
    rw [HTT.out]
    generalize w.setCell ⟨g, 12, none⟩ (.int .i64 tt) = w1 at HG1 HO1 HB1 HK1 ⊢
    clear c12 f12
    have c12 := (blk_cell HG1.out 12).trans rfl
    have c8 := (blk_cell HG1.out 8).trans rfl
    have c9 := (blk_cell HG1.out 9).trans rfl
    have c10 := (blk_cell HG1.out 10).trans rfl
    have HG2 := Aside0.mk (blk_drew HG1.out)
    have HO2 := Aside0.mk (Kd.R_drew HO1.out)
    have HB2 := Aside0.mk (below_drew1 HB1.out)
    have HK2 := Aside0.mk HK1.out.drew
    refine start_ (n := 18) (S := fun w' => w'.cell? ⟨g, 12, none⟩ = some (.int .i64 tt) ∧ w'.cell? ⟨g, 8, none⟩ = some (.int .i64 vk) ∧ w'.cell? ⟨g, 9, none⟩ = some (.int .i64 vn) ∧ w'.cell? ⟨g, 10, none⟩ = some (.int .i64 q)) (ds := []) #[Yn, Yn, Yn, Yn, Yn, Yn, Yn, Yn, Yn, Yn, Yn, Yn, Yn, Yn, Yn, Yn, Yn, Yn] (by kernel_rfl) rfl rfl ⟨c12, c8, c9, c10⟩ (fun hHeld => ?_)
    generalize w1.drew = w2 at HG2 HO2 HB2 HK2 hHeld ⊢
    refine pure_ (i := 0) (N := some 12) (v := ?_) (a' := ?_) #[Y, Yn, Yn, Yn, Yn, Yn, Yn, Yn, Yn, Yn, Yn, Yn, Yn, Yn, Yn, Yn, Yn, Yn] rfl rfl (by kernel_rfl) (fun _ _ _ h => h) (Or.inl ⟨by rfl, ?_⟩) ?_ ?_
    rotate_left
    · intro w'
      go_simp
      with_reducible rfl
    rotate_left
    · simp only [Act.put, List.setIfInBounds_toArray, List.set_cons_zero, List.set_cons_succ, i64_w, i32_w]
      rfl
    refine pure_ (i := 1) (N := some 13) (v := ?_) (a' := ?_) #[Y, Y, Yn, Yn, Yn, Yn, Yn, Yn, Yn, Yn, Yn, Yn, Yn, Yn, Yn, Yn, Yn, Yn] rfl rfl (by kernel_rfl) (fun _ _ _ h => h) (Or.inl ⟨by rfl, ?_⟩) ?_ ?_
    rotate_left
    · intro w'
      go_simp
      with_reducible rfl
    rotate_left
    · simp only [Act.put, List.setIfInBounds_toArray, List.set_cons_zero, List.set_cons_succ, i64_w, i32_w]
      rfl
    refine pure_ (i := 2) (N := some 14) (v := ?_) (a' := ?_) #[Y, Y, Y, Yn, Yn, Yn, Yn, Yn, Yn, Yn, Yn, Yn, Yn, Yn, Yn, Yn, Yn, Yn] rfl rfl (by kernel_rfl) (fun _ _ _ h => h) (Or.inl ⟨by rfl, ?_⟩) ?_ ?_
    rotate_left
    · intro w'
      go_simp
      with_reducible rfl
    rotate_left
    · simp only [Act.put, List.setIfInBounds_toArray, List.set_cons_zero, List.set_cons_succ, i64_w, i32_w]
      rfl
    refine pure_ (i := 4) (N := some 16) (v := ?_) (a' := ?_) #[Y, Y, Y, Yn, Y, Yn, Yn, Yn, Yn, Yn, Yn, Yn, Yn, Yn, Yn, Yn, Yn, Yn] rfl rfl (by kernel_rfl) (fun _ _ _ h => h) (Or.inl ⟨by rfl, ?_⟩) ?_ ?_
    rotate_left
    · intro w'
      go_simp
      with_reducible rfl
    rotate_left
    · simp only [Act.put, List.setIfInBounds_toArray, List.set_cons_zero, List.set_cons_succ, i64_w, i32_w]
      rfl
    refine pure_ (i := 5) (N := some 17) (v := ?_) (a' := ?_) #[Y, Y, Y, Yn, Y, Y, Yn, Yn, Yn, Yn, Yn, Yn, Yn, Yn, Yn, Yn, Yn, Yn] rfl rfl (by kernel_rfl) (fun _ _ _ h => h) (Or.inl ⟨by rfl, ?_⟩) ?_ ?_
    rotate_left
    · intro w'
      go_simp
      with_reducible rfl
    rotate_left
    · simp only [Act.put, List.setIfInBounds_toArray, List.set_cons_zero, List.set_cons_succ, i64_w, i32_w]
      rfl
    refine pure_ (i := 6) (N := some 18) (v := ?_) (a' := ?_) #[Y, Y, Y, Yn, Y, Y, Y, Yn, Yn, Yn, Yn, Yn, Yn, Yn, Yn, Yn, Yn, Yn] rfl rfl (by kernel_rfl) (fun _ _ _ h => h) (Or.inl ⟨by rfl, ?_⟩) ?_ ?_
    rotate_left
    · intro w'
      go_simp
      with_reducible rfl
    rotate_left
    · simp only [Act.put, List.setIfInBounds_toArray, List.set_cons_zero, List.set_cons_succ, i64_w, i32_w]
      rfl
    refine pure_ (i := 7) (N := some 19) (v := ?_) (a' := ?_) #[Y, Y, Y, Yn, Y, Y, Y, Y, Yn, Yn, Yn, Yn, Yn, Yn, Yn, Yn, Yn, Yn] rfl rfl (by kernel_rfl) (fun _ _ _ h => h) (Or.inl ⟨by rfl, ?_⟩) ?_ ?_
    rotate_left
    · intro w'
      go_simp
      with_reducible rfl
    rotate_left
    · simp only [Act.put, List.setIfInBounds_toArray, List.set_cons_zero, List.set_cons_succ, i64_w, i32_w]
      rfl
    refine pure_ (i := 8) (N := some 20) (v := ?_) (a' := ?_) #[Y, Y, Y, Yn, Y, Y, Y, Y, Y, Yn, Yn, Yn, Yn, Yn, Yn, Yn, Yn, Yn] rfl rfl (by kernel_rfl) (fun _ _ _ h => h) (Or.inl ⟨by rfl, ?_⟩) ?_ ?_
    rotate_left
    · intro w'
      go_simp
      with_reducible rfl
    rotate_left
    · simp only [Act.put, List.setIfInBounds_toArray, List.set_cons_zero, List.set_cons_succ, i64_w, i32_w]
      rfl
    refine pure_ (i := 10) (N := some 22) (v := ?_) (a' := ?_) #[Y, Y, Y, Yn, Y, Y, Y, Y, Y, Yn, Y, Yn, Yn, Yn, Yn, Yn, Yn, Yn] rfl rfl (by kernel_rfl) (fun _ _ _ h => h) (Or.inl ⟨by rfl, ?_⟩) ?_ ?_
    rotate_left
    · intro w'
      go_simp
      with_reducible rfl
    rotate_left
    · simp only [Act.put, List.setIfInBounds_toArray, List.set_cons_zero, List.set_cons_succ, i64_w, i32_w]
      rfl
    refine pure_ (i := 11) (N := some 23) (v := ?_) (a' := ?_) #[Y, Y, Y, Yn, Y, Y, Y, Y, Y, Yn, Y, Y, Yn, Yn, Yn, Yn, Yn, Yn] rfl rfl (by kernel_rfl) (fun _ _ _ h => h) (Or.inl ⟨by rfl, ?_⟩) ?_ ?_
    rotate_left
    · intro w'
      go_simp
      with_reducible rfl
    rotate_left
    · simp only [Act.put, List.setIfInBounds_toArray, List.set_cons_zero, List.set_cons_succ, i64_w, i32_w]
      rfl
    refine pure_ (i := 12) (N := some 24) (v := ?_) (a' := ?_) #[Y, Y, Y, Yn, Y, Y, Y, Y, Y, Yn, Y, Y, Y, Yn, Yn, Yn, Yn, Yn] rfl rfl (by kernel_rfl) (fun _ _ _ h => h) (Or.inl ⟨by rfl, ?_⟩) ?_ ?_
    rotate_left
    · intro w'
      go_simp
      with_reducible rfl
    rotate_left
    · simp only [Act.put, List.setIfInBounds_toArray, List.set_cons_zero, List.set_cons_succ, i64_w, i32_w]
      rfl
    refine pure_ (i := 13) (N := some 25) (v := ?_) (a' := ?_) #[Y, Y, Y, Yn, Y, Y, Y, Y, Y, Yn, Y, Y, Y, Y, Yn, Yn, Yn, Yn] rfl rfl (by kernel_rfl) (fun _ _ _ h => h) (Or.inl ⟨by rfl, ?_⟩) ?_ ?_
    rotate_left
    · intro w'
      go_simp
      with_reducible rfl
    rotate_left
    · simp only [Act.put, List.setIfInBounds_toArray, List.set_cons_zero, List.set_cons_succ, i64_w, i32_w]
      rfl
    refine take_ (i := 3) (N := some 15) (v := ?_) (a' := ?_) #[Y, Y, Y, Y, Y, Y, Y, Y, Y, Yn, Y, Y, Y, Y, Yn, Yn, Yn, Yn] rfl rfl (by kernel_rfl) (fun _ _ _ h => h) (Or.inl ⟨by rfl, ?_⟩) hHeld ?_ ?_
    rotate_left
    · rintro w' ⟨s0, s1, s2, s3⟩
      go_simp
      with_reducible rfl
    rotate_left
    · simp only [Act.put, List.setIfInBounds_toArray, List.set_cons_zero, List.set_cons_succ, i64_w, i32_w]
      rfl
    refine take_ (i := 9) (N := some 21) (v := ?_) (a' := ?_) #[Y, Y, Y, Y, Y, Y, Y, Y, Y, Y, Y, Y, Y, Y, Yn, Yn, Yn, Yn] rfl rfl (by kernel_rfl) (fun _ _ _ h => h) (Or.inl ⟨by rfl, ?_⟩) hHeld ?_ ?_
    rotate_left
    · rintro w' ⟨s0, s1, s2, s3⟩
      go_simp
      with_reducible rfl
    rotate_left
    · simp only [Act.put, List.setIfInBounds_toArray, List.set_cons_zero, List.set_cons_succ, i64_w, i32_w]
      rfl
    refine take_ (i := 14) (N := some 26) (v := ?_) (a' := ?_) #[Y, Y, Y, Y, Y, Y, Y, Y, Y, Y, Y, Y, Y, Y, Y, Yn, Yn, Yn] rfl rfl (by kernel_rfl) (fun _ _ _ h => h) (Or.inl ⟨by rfl, ?_⟩) hHeld ?_ ?_
    rotate_left
    · rintro w' ⟨s0, s1, s2, s3⟩
      go_simp
      with_reducible rfl
    rotate_left
    · simp only [Act.put, List.setIfInBounds_toArray, List.set_cons_zero, List.set_cons_succ, i64_w, i32_w]
      rfl
    refine pure_ (i := 15) (N := some 27) (v := ?_) (a' := ?_) #[Y, Y, Y, Y, Y, Y, Y, Y, Y, Y, Y, Y, Y, Y, Y, Y, Yn, Yn] rfl rfl (by kernel_rfl) (fun _ _ _ h => h) (Or.inl ⟨by rfl, ?_⟩) ?_ ?_
    rotate_left
    · intro w'
      go_simp
      with_reducible rfl
    rotate_left
    · simp only [Act.put, List.setIfInBounds_toArray, List.set_cons_zero, List.set_cons_succ, i64_w, i32_w]
      rfl
    refine one_ (i := 16) (N := some 4) #[Y, Y, Y, Y, Y, Y, Y, Y, Y, Y, Y, Y, Y, Y, Y, Y, Y, Yn] rfl rfl (by kernel_rfl) (by decide) (fun K hK => ?_)
    refine value_ (w1 := ?_) (v := ?_) (by rfl) rfl ?_ ?_
    rotate_left 2
    · go_simp
      constructor
      · rfl
      · rfl
    refine hK.out _ _ ⟨(blk_cell (blk_alloc HG2.out _) 12).trans rfl, (blk_cell (blk_alloc HG2.out _) 8).trans rfl, (blk_cell (blk_alloc HG2.out _) 9).trans rfl, (blk_cell (blk_alloc HG2.out _) 10).trans rfl⟩ (fun hHeld => ?_)
    clear hK K
    refine norm_ (a' := ?_) ?_ ?_
    rotate_left
    · show Act.put _ (some 4) _ = _
      simp only [Act.put, List.setIfInBounds_toArray, List.set_cons_zero, List.set_cons_succ, i64_w, i32_w]
      rfl
    refine one_ (i := 17) (N := none) #[Y, Y, Y, Y, Y, Y, Y, Y, Y, Y, Y, Y, Y, Y, Y, Y, Y, Y] rfl rfl (by kernel_rfl) (by decide) (fun K hK => ?_)
    refine step_store_row (by rfl) rfl 44 (.tmp 4) (.tmp 27) rfl w2.heap.size #[.int .i64 tt, .int .i64 at_, .int .i64 vk, .int .i64 vn, .int .i64 q, .int .i64 0] rfl rfl 44 #[.int .i64 0, .int .i64 0, .int .i64 0, .int .i64 0, .int .i64 0, .int .i64 0] (blk_new w2 (.cells #[.int .i64 0, .int .i64 0, .int .i64 0, .int .i64 0, .int .i64 0, .int .i64 0] 44 (0, 0))) (by kernel_rfl) rfl (by simp [Value.oneCell']) ?_
    have hbx := below_setRow (below_alloc (Below.refl w2.heap.size w2) (.cells #[.int .i64 0, .int .i64 0, .int .i64 0, .int .i64 0, .int .i64 0, .int .i64 0] 44 (0, 0))) (Nat.le_refl _) #[.int .i64 tt, .int .i64 at_, .int .i64 vk, .int .i64 vn, .int .i64 q, .int .i64 0]
    have HX3 := Aside0.mk (setRow_heap _ _ _ #[.int .i64 tt, .int .i64 at_, .int .i64 vk, .int .i64 vn, .int .i64 q, .int .i64 0] _ _ (blk_new w2 (.cells #[.int .i64 0, .int .i64 0, .int .i64 0, .int .i64 0, .int .i64 0, .int .i64 0] 44 (0, 0))))
    have HG3 := Aside0.mk (blk_below HG2.out hbx)
    have HO3 := Aside0.mk (Kd.R_below HO2.out hbx)
    have HB3 := Aside0.mk (HB2.out.trans (hbx.mono (Nat.le_trans HBS.out HB2.out.size)))
    have HK3 := Aside0.mk (HK2.out.trans (KeepL.of_below hbx g))
    clear hbx
    obtain ⟨gx, HGX⟩ : ∃ gx, Aside0 (w2.heap.size = gx) := ⟨_, ⟨rfl⟩⟩
    rw [HGX.out] at HX3 HG3 HO3 HB3 HK3 ⊢
    generalize (w2.alloc (.cells #[.int .i64 0, .int .i64 0, .int .i64 0, .int .i64 0, .int .i64 0, .int .i64 0] 44 (0, 0))).setRow gx #[.int .i64 tt, .int .i64 at_, .int .i64 vk, .int .i64 vn, .int .i64 q, .int .i64 0] = w3 at HX3 HG3 HO3 HB3 HK3 ⊢
    refine hK.out _ _ ⟨(blk_cell HG3.out 12).trans rfl, (blk_cell HG3.out 8).trans rfl, (blk_cell HG3.out 9).trans rfl, (blk_cell HG3.out 10).trans rfl⟩ (fun hHeld => ?_)
    clear hK K
    refine done_ (by kernel_rfl) ?_
    clear c12 c8 c9 c10 hHeld
    have c13 := (blk_cell HG3.out 13).trans rfl
    have c5 := (blk_cell HG3.out 5).trans rfl
    go_wp2
    have HG4 := Aside0.mk (blk_drew HG3.out)
    have HO4 := Aside0.mk (Kd.R_drew HO3.out)
    have HB4 := Aside0.mk (below_drew1 HB3.out)
    have HK4 := Aside0.mk HK3.out.drew
    have HX4 := Aside0.mk (blk_drew HX3.out)
    refine start_ (n := 11) (S := fun w' => w'.cell? ⟨g, 13, none⟩ = some (.slice A0 ring.length c0) ∧ w'.cell? ⟨g, 5, none⟩ = some (.int .i64 sz)) (ds := []) #[Yn, Yn, Yn, Yn, Yn, Yn, Yn, Yn, Yn, Yn, Yn] (by kernel_rfl) rfl rfl ⟨c13, c5⟩ (fun hHeld => ?_)
    generalize w3.drew = w4 at HG4 HO4 HB4 HK4 HX4 hHeld ⊢
    refine pure_ (i := 0) (N := some 28) (v := ?_) (a' := ?_) #[Y, Yn, Yn, Yn, Yn, Yn, Yn, Yn, Yn, Yn, Yn] rfl rfl (by kernel_rfl) (fun _ _ _ h => h) (Or.inl ⟨by rfl, ?_⟩) ?_ ?_
    rotate_left
    · intro w'
      go_simp
      with_reducible rfl
    rotate_left
    · simp only [Act.put, List.setIfInBounds_toArray, List.set_cons_zero, List.set_cons_succ, i64_w, i32_w]
      rfl
    refine pure_ (i := 1) (N := some 29) (v := ?_) (a' := ?_) #[Y, Y, Yn, Yn, Yn, Yn, Yn, Yn, Yn, Yn, Yn] rfl rfl (by kernel_rfl) (fun _ _ _ h => h) (Or.inl ⟨by rfl, ?_⟩) ?_ ?_
    rotate_left
    · intro w'
      go_simp
      with_reducible rfl
    rotate_left
    · simp only [Act.put, List.setIfInBounds_toArray, List.set_cons_zero, List.set_cons_succ, i64_w, i32_w]
      rfl
    refine pure_ (i := 2) (N := some 30) (v := ?_) (a' := ?_) #[Y, Y, Y, Yn, Yn, Yn, Yn, Yn, Yn, Yn, Yn] rfl rfl (by kernel_rfl) (fun _ _ _ h => h) (Or.inl ⟨by rfl, ?_⟩) ?_ ?_
    rotate_left
    · intro w'
      go_simp
      with_reducible rfl
    rotate_left
    · simp only [Act.put, List.setIfInBounds_toArray, List.set_cons_zero, List.set_cons_succ, i64_w, i32_w]
      rfl
    refine pure_ (i := 5) (N := some 33) (v := ?_) (a' := ?_) #[Y, Y, Y, Yn, Yn, Y, Yn, Yn, Yn, Yn, Yn] rfl rfl (by kernel_rfl) (fun _ _ _ h => h) (Or.inl ⟨by rfl, ?_⟩) ?_ ?_
    rotate_left
    · intro w'
      go_simp
      with_reducible rfl
    rotate_left
    · simp only [Act.put, List.setIfInBounds_toArray, List.set_cons_zero, List.set_cons_succ, i64_w, i32_w]
      rfl
    refine pure_ (i := 6) (N := some 34) (v := ?_) (a' := ?_) #[Y, Y, Y, Yn, Yn, Y, Y, Yn, Yn, Yn, Yn] rfl rfl (by kernel_rfl) (fun _ _ _ h => h) (Or.inl ⟨by rfl, ?_⟩) ?_ ?_
    rotate_left
    · intro w'
      go_simp
      with_reducible rfl
    rotate_left
    · simp only [Act.put, List.setIfInBounds_toArray, List.set_cons_zero, List.set_cons_succ, i64_w, i32_w]
      rfl
    refine pure_ (i := 7) (N := some 35) (v := ?_) (a' := ?_) #[Y, Y, Y, Yn, Yn, Y, Y, Y, Yn, Yn, Yn] rfl rfl (by kernel_rfl) (fun _ _ _ h => h) (Or.inl ⟨by rfl, ?_⟩) ?_ ?_
    rotate_left
    · intro w'
      go_simp
      with_reducible rfl
    rotate_left
    · simp only [Act.put, List.setIfInBounds_toArray, List.set_cons_zero, List.set_cons_succ, i64_w, i32_w]
      rfl
    refine pure_ (i := 8) (N := some 36) (v := ?_) (a' := ?_) #[Y, Y, Y, Yn, Yn, Y, Y, Y, Y, Yn, Yn] rfl rfl (by kernel_rfl) (fun _ _ _ h => h) (Or.inl ⟨by rfl, ?_⟩) ?_ ?_
    rotate_left
    · intro w'
      go_simp
      with_reducible rfl
    rotate_left
    · simp only [Act.put, List.setIfInBounds_toArray, List.set_cons_zero, List.set_cons_succ, i64_w, i32_w]
      rfl
    refine take_ (i := 3) (N := some 31) (v := ?_) (a' := ?_) #[Y, Y, Y, Y, Yn, Y, Y, Y, Y, Yn, Yn] rfl rfl (by kernel_rfl) (fun _ _ _ h => h) (Or.inl ⟨by rfl, ?_⟩) hHeld ?_ ?_
    rotate_left
    · rintro w' ⟨s0, s1⟩
      go_simp
      with_reducible rfl
    rotate_left
    · simp only [Act.put, List.setIfInBounds_toArray, List.set_cons_zero, List.set_cons_succ, i64_w, i32_w]
      rfl
    refine pure_ (i := 4) (N := some 32) (v := ?_) (a' := ?_) #[Y, Y, Y, Y, Y, Y, Y, Y, Y, Yn, Yn] rfl rfl (by kernel_rfl) (fun _ _ _ h => h) (Or.inl ⟨by rfl, ?_⟩) ?_ ?_
    rotate_left
    · intro w'
      go_simp
      with_reducible rfl
    rotate_left
    · simp only [Act.put, List.setIfInBounds_toArray, List.set_cons_zero, List.set_cons_succ, i64_w, i32_w]
      rfl
    refine take_ (i := 9) (N := some 37) (v := ?_) (a' := ?_) #[Y, Y, Y, Y, Y, Y, Y, Y, Y, Y, Yn] rfl rfl (by kernel_rfl) (fun _ _ _ h => h) (Or.inl ⟨by rfl, ?_⟩) hHeld ?_ ?_
    rotate_left
    · rintro w' ⟨s0, s1⟩
      go_simp
      with_reducible rfl
    rotate_left
    · simp only [Act.put, List.setIfInBounds_toArray, List.set_cons_zero, List.set_cons_succ, i64_w, i32_w]
      rfl
    refine pure_ (i := 10) (N := some 38) (v := ?_) (a' := ?_) #[Y, Y, Y, Y, Y, Y, Y, Y, Y, Y, Y] rfl rfl (by kernel_rfl) (fun _ _ _ h => h) (Or.inl ⟨by rfl, ?_⟩) ?_ ?_
    rotate_left
    · intro w'
      go_simp
      with_reducible rfl
    rotate_left
    · simp only [Act.put, List.setIfInBounds_toArray, List.set_cons_zero, List.set_cons_succ, i64_w, i32_w]
      rfl
    refine done_ (by kernel_rfl) ?_
    clear c13 c5 hHeld
    have c13 := (blk_cell HG4.out 13).trans rfl
    have x0 := (blk_cell HX4.out 0).trans rfl
    have x1 := (blk_cell HX4.out 1).trans rfl
    have x2 := (blk_cell HX4.out 2).trans rfl
    have x3 := (blk_cell HX4.out 3).trans rfl
    have x4 := (blk_cell HX4.out 4).trans rfl
    have x5 := (blk_cell HX4.out 5).trans rfl
    go_wp2
    have HG5 := Aside0.mk (blk_drew HG4.out)
    have HO5 := Aside0.mk (Kd.R_drew HO4.out)
    have HB5 := Aside0.mk (below_drew1 HB4.out)
    have HK5 := Aside0.mk HK4.out.drew
    have HX5 := Aside0.mk (blk_drew HX4.out)
    refine start_ (n := 11) (S := fun w' => w'.cell? ⟨g, 13, none⟩ = some (.slice A0 ring.length c0) ∧ w'.cell? ⟨gx, 0, none⟩ = some (.int .i64 tt) ∧ w'.cell? ⟨gx, 1, none⟩ = some (.int .i64 at_) ∧ w'.cell? ⟨gx, 2, none⟩ = some (.int .i64 vk) ∧ w'.cell? ⟨gx, 3, none⟩ = some (.int .i64 vn) ∧ w'.cell? ⟨gx, 4, none⟩ = some (.int .i64 q) ∧ w'.cell? ⟨gx, 5, none⟩ = some (.int .i64 0)) (ds := [7, 10]) #[Yn, Yn, Yn, Yn, Yn, Yn, Yn, Yn, Yn, Yn, Yn] (by kernel_rfl) rfl rfl ⟨c13, x0, x1, x2, x3, x4, x5⟩ (fun hHeld => ?_)
    generalize w4.drew = w5 at HG5 HO5 HB5 HK5 HX5 hHeld ⊢
    refine pure_ (i := 0) (N := some 39) (v := ?_) (a' := ?_) #[Y, Yn, Yn, Yn, Yn, Yn, Yn, Yn, Yn, Yn, Yn] rfl rfl (by kernel_rfl) (fun _ _ _ h => h) (Or.inl ⟨by rfl, ?_⟩) ?_ ?_
    rotate_left
    · intro w'
      go_simp
      with_reducible rfl
    rotate_left
    · simp only [Act.put, List.setIfInBounds_toArray, List.set_cons_zero, List.set_cons_succ, i64_w, i32_w]
      rfl
    refine pure_ (i := 1) (N := some 40) (v := ?_) (a' := ?_) #[Y, Y, Yn, Yn, Yn, Yn, Yn, Yn, Yn, Yn, Yn] rfl rfl (by kernel_rfl) (fun _ _ _ h => h) (Or.inl ⟨by rfl, ?_⟩) ?_ ?_
    rotate_left
    · intro w'
      go_simp
      with_reducible rfl
    rotate_left
    · simp only [Act.put, List.setIfInBounds_toArray, List.set_cons_zero, List.set_cons_succ, i64_w, i32_w]
      rfl
    refine pure_ (i := 2) (N := some 41) (v := ?_) (a' := ?_) #[Y, Y, Y, Yn, Yn, Yn, Yn, Yn, Yn, Yn, Yn] rfl rfl (by kernel_rfl) (fun _ _ _ h => h) (Or.inl ⟨by rfl, ?_⟩) ?_ ?_
    rotate_left
    · intro w'
      go_simp
      with_reducible rfl
    rotate_left
    · simp only [Act.put, List.setIfInBounds_toArray, List.set_cons_zero, List.set_cons_succ, i64_w, i32_w]
      rfl
    refine pure_ (i := 3) (N := some 42) (v := ?_) (a' := ?_) #[Y, Y, Y, Y, Yn, Yn, Yn, Yn, Yn, Yn, Yn] rfl rfl (by kernel_rfl) (fun _ _ _ h => h) (Or.inl ⟨by rfl, ?_⟩) ?_ ?_
    rotate_left
    · intro w'
      go_simp
      with_reducible rfl
    rotate_left
    · simp only [Act.put, List.setIfInBounds_toArray, List.set_cons_zero, List.set_cons_succ, i64_w, i32_w]
      rfl
    refine take_ (i := 4) (N := some 43) (v := ?_) (a' := ?_) #[Y, Y, Y, Y, Y, Yn, Yn, Yn, Yn, Yn, Yn] rfl rfl (by kernel_rfl) (fun _ _ _ h => h) (Or.inl ⟨by rfl, ?_⟩) hHeld ?_ ?_
    rotate_left
    · rintro w' ⟨s0, s1, s2, s3, s4, s5, s6⟩
      go_simp
      with_reducible rfl
    rotate_left
    · simp only [Act.put, List.setIfInBounds_toArray, List.set_cons_zero, List.set_cons_succ, i64_w, i32_w]
      rfl
    refine take_ (i := 5) (N := some 44) (v := ?_) (a' := ?_) #[Y, Y, Y, Y, Y, Y, Yn, Yn, Yn, Yn, Yn] rfl rfl (by kernel_rfl) (fun _ _ _ h => h) (Or.inl ⟨by rfl, ?_⟩) hHeld ?_ ?_
    rotate_left
    · rintro w' ⟨s0, s1, s2, s3, s4, s5, s6⟩
      go_simp
      with_reducible rfl
    rotate_left
    · simp only [Act.put, List.setIfInBounds_toArray, List.set_cons_zero, List.set_cons_succ, i64_w, i32_w]
      rfl
    refine one_ (i := 6) (N := some 45) #[Y, Y, Y, Y, Y, Y, Y, Yn, Yn, Yn, Yn] rfl rfl (by kernel_rfl) (by decide) (fun K hK => ?_)
    refine value_ (w1 := ?_) (v := ?_) (by rfl) rfl ?_ ?_
    rotate_left 2
    · go_simp
      constructor
      · rfl
      · rfl
    refine hK.out _ _ ⟨(blk_cell (blk_alloc HG5.out _) 13).trans rfl, (blk_cell (blk_alloc HX5.out _) 0).trans rfl, (blk_cell (blk_alloc HX5.out _) 1).trans rfl, (blk_cell (blk_alloc HX5.out _) 2).trans rfl, (blk_cell (blk_alloc HX5.out _) 3).trans rfl, (blk_cell (blk_alloc HX5.out _) 4).trans rfl, (blk_cell (blk_alloc HX5.out _) 5).trans rfl⟩ (fun hHeld => ?_)
    clear hK K
    refine norm_ (a' := ?_) ?_ ?_
    rotate_left
    · show Act.put _ (some 45) _ = _
      simp only [Act.put, List.setIfInBounds_toArray, List.set_cons_zero, List.set_cons_succ, i64_w, i32_w]
      rfl
    refine last_ (i := 7) (N := some 46) #[Y, Y, Y, Y, Y, Y, Y, Y, Yn, Yn, Yn] rfl rfl (by kernel_rfl) (by decide) (fun K hK => ?_)
    refine Kd.R_append_step k44 (w0 := w5) B (by rfl) (.tmp 43) (.tmp 45) 39 44 (.agg #[(.int .i64 0), (.int .i64 0), (.int .i64 0), (.int .i64 0), (.int .i64 0), (.int .i64 0)]) 48 rfl Tryd.underlying39 info44 rfl (by decide) (by omega) (.slice A0 ring.length c0) ring (⟨tt, at_, ⟨vk, vn⟩, q, 0⟩ : S44) [.int .i64 tt, .int .i64 at_, .int .i64 vk, .int .i64 vn, .int .i64 q, .int .i64 0] (fun _ => True) (fun _ => False) rfl (by first | (go_simp; done) | (go_simp; rfl)) (k44_mkM _ _ _ (⟨tt, at_, ⟨vk, vn⟩, q, 0⟩ : S44)) (fun _ hk => hk.elim) (fun _ _ => trivial) HO5.out (Below.refl _ _) (Nat.le_trans HBS.out HB5.out.size) (by omega) ?_
    intro v1 w6 ho hb hg hat
    obtain ⟨ms, HMS⟩ : ∃ ms, Aside0 (ring ++ [(⟨tt, at_, ⟨vk, vn⟩, q, 0⟩ : S44)] = ms) := ⟨_, ⟨rfl⟩⟩
    rw [HMS.out] at ho
    obtain ⟨A1, k1_, e1⟩ := Kd.R_slice ho
    subst e1
    have HG6 := Aside0.mk (blk_grown HG5.out hg (Kd.R_ne HO5.out HG5.out (by decide)))
    have HO6 := Aside0.mk ho
    have HB6 := Aside0.mk (HB5.out.trans hb)
    have HK6 := Aside0.mk (HK5.out.trans ⟨hg.size, fun k cs t hk ht _ => blk_grown hk hg (Kd.R_ne HO5.out hk (Ne.symm ht))⟩)
    have f13 := blk_frozen HG6.out 13
    have c13 := (blk_cell HG6.out 13).trans rfl
    clear ho hb hg hat
    refine hK.out _ _ ?_
    clear hK K
    refine norm_ (a' := ?_) ?_ ?_
    rotate_left
    · show Act.put _ (some 46) _ = _
      simp only [Act.put, List.setIfInBounds_toArray, List.set_cons_zero, List.set_cons_succ, i64_w, i32_w]
      rfl
    refine pure_ (i := 8) (N := some 47) (v := ?_) (a' := ?_) #[Y, Y, Y, Y, Y, Y, Y, Y, Y, Yn, Yn] rfl rfl (by kernel_rfl) (fun _ _ _ h => h) (Or.inl ⟨by rfl, ?_⟩) ?_ ?_
    rotate_left
    · intro w'
      go_simp
      with_reducible rfl
    rotate_left
    · simp only [Act.put, List.setIfInBounds_toArray, List.set_cons_zero, List.set_cons_succ, i64_w, i32_w]
      rfl
    refine pure_ (i := 9) (N := some 48) (v := ?_) (a' := ?_) #[Y, Y, Y, Y, Y, Y, Y, Y, Y, Y, Yn] rfl rfl (by kernel_rfl) (fun _ _ _ h => h) (Or.inl ⟨by rfl, ?_⟩) ?_ ?_
    rotate_left
    · intro w'
      go_simp
      with_reducible rfl
    rotate_left
    · simp only [Act.put, List.setIfInBounds_toArray, List.set_cons_zero, List.set_cons_succ, i64_w, i32_w]
      rfl
    refine last_ (i := 10) (N := none) #[Y, Y, Y, Y, Y, Y, Y, Y, Y, Y, Y] rfl rfl (by kernel_rfl) (by decide) (fun K hK => ?_)
    refine skip_ (w1 := ?_) (by rfl) rfl ?_ ?_
    rotate_left
    · go_simp
      rfl
    refine hK.out _ _ ?_
    clear hK K
    refine done_ (by kernel_rfl) ?_
    have HG7 := Aside0.mk (blk_put HG6.out 13 (.slice A1 ms.length k1_) rfl)
    have HO7 := Aside0.mk (R_setL HG6.out HO6.out 13 (.slice A1 ms.length k1_))
    have HB7 := Aside0.mk (HB6.out.setCell (p := ⟨g, 13, none⟩) HGE.out (.slice A1 ms.length k1_))
    have HK7 := Aside0.mk (HK6.out.set 13 (.slice A1 ms.length k1_))
    go_wp2_with (refine bodyPost_ret (results_none rfl _ _ _) rfl ?_)
    have hf : f = 0 := HR.out.full K1.out
    refine ⟨rfl, ⟨.slice A1 ms.length k1_, ms, 0, ?_, HGE.out, HO7.out, ⟨?_, Or.inl rfl, fun _ => rfl⟩⟩, HB7.out, HK7.out⟩
    · have h7 := HG7.out
      rw [← HFI.out, hf, HT2.out] at h7
      exact h7
    · show (if (recs.length : Int) < sz then recs ++ [Lg.rec1 _ at_] else recs.drop 1 ++ [Lg.rec1 _ at_]) = _
      rw [if_pos (by rw [HLR.out]; exact K1.out), List.drop_zero, List.take_zero, List.append_nil, ← HMS.out, HR.out.recs, hf, List.drop_zero, List.take_zero, List.append_nil, HT2.out]
      rfl
  · have hpos : 0 < ring.length := by have := HSZ.out; omega
    have hfl : f < ring.length := by have := HR.out.lt; omega
    obtain ⟨gr, c0, e0, _⟩ := Kd.R_form hO hpos
    subst e0
    have k1b : decide ((ring.length : Int) < sz) = false := decide_eq_false k1
    have K1 := Aside0.mk k1
    have HF0 := Aside0.mk (show 0 ≤ fi by have := HFI.out; omega)
    have HF1 := Aside0.mk (show fi < (ring.length : Int) by have := HFI.out; omega)
    have HFL := Aside0.mk hfl
    clear k1 hpos hfl
    have HG := Aside0.mk hG
    have HG1 := Aside0.mk (blk_put hG 12 (.int .i64 tt) rfl)
    have HO1 := Aside0.mk (R_setL hG hO 12 (.int .i64 tt))
    have HB1 := Aside0.mk ((Below.refl B w).setCell (p := ⟨g, 12, none⟩) hge (.int .i64 tt))
    have HK1 := Aside0.mk ((KeepL.refl w g).set 12 (.int .i64 tt))
    clear hO hge hBS
    have c12 := (blk_cell hG 12).trans rfl
    have f12 := blk_frozen hG 12
    clear hG
    go_enter Tryd.func28, Tryd.ntmps28
    go_wp2
    rw [HTT.out]
    generalize w.setCell ⟨g, 12, none⟩ (.int .i64 tt) = w1 at HG1 HO1 HB1 HK1 ⊢
    clear c12 f12
    have c12 := (blk_cell HG1.out 12).trans rfl
    have c8 := (blk_cell HG1.out 8).trans rfl
    have c9 := (blk_cell HG1.out 9).trans rfl
    have c10 := (blk_cell HG1.out 10).trans rfl
    have HG2 := Aside0.mk (blk_drew HG1.out)
    have HO2 := Aside0.mk (Kd.R_drew HO1.out)
    have HB2 := Aside0.mk (below_drew1 HB1.out)
    have HK2 := Aside0.mk HK1.out.drew
    refine start_ (n := 18) (S := fun w' => w'.cell? ⟨g, 12, none⟩ = some (.int .i64 tt) ∧ w'.cell? ⟨g, 8, none⟩ = some (.int .i64 vk) ∧ w'.cell? ⟨g, 9, none⟩ = some (.int .i64 vn) ∧ w'.cell? ⟨g, 10, none⟩ = some (.int .i64 q)) (ds := []) #[Yn, Yn, Yn, Yn, Yn, Yn, Yn, Yn, Yn, Yn, Yn, Yn, Yn, Yn, Yn, Yn, Yn, Yn] (by kernel_rfl) rfl rfl ⟨c12, c8, c9, c10⟩ (fun hHeld => ?_)
    generalize w1.drew = w2 at HG2 HO2 HB2 HK2 hHeld ⊢
    refine pure_ (i := 0) (N := some 12) (v := ?_) (a' := ?_) #[Y, Yn, Yn, Yn, Yn, Yn, Yn, Yn, Yn, Yn, Yn, Yn, Yn, Yn, Yn, Yn, Yn, Yn] rfl rfl (by kernel_rfl) (fun _ _ _ h => h) (Or.inl ⟨by rfl, ?_⟩) ?_ ?_
    rotate_left
    · intro w'
      go_simp
      with_reducible rfl
    rotate_left
    · simp only [Act.put, List.setIfInBounds_toArray, List.set_cons_zero, List.set_cons_succ, i64_w, i32_w]
      rfl
    refine pure_ (i := 1) (N := some 13) (v := ?_) (a' := ?_) #[Y, Y, Yn, Yn, Yn, Yn, Yn, Yn, Yn, Yn, Yn, Yn, Yn, Yn, Yn, Yn, Yn, Yn] rfl rfl (by kernel_rfl) (fun _ _ _ h => h) (Or.inl ⟨by rfl, ?_⟩) ?_ ?_
    rotate_left
    · intro w'
      go_simp
      with_reducible rfl
    rotate_left
    · simp only [Act.put, List.setIfInBounds_toArray, List.set_cons_zero, List.set_cons_succ, i64_w, i32_w]
      rfl
    refine pure_ (i := 2) (N := some 14) (v := ?_) (a' := ?_) #[Y, Y, Y, Yn, Yn, Yn, Yn, Yn, Yn, Yn, Yn, Yn, Yn, Yn, Yn, Yn, Yn, Yn] rfl rfl (by kernel_rfl) (fun _ _ _ h => h) (Or.inl ⟨by rfl, ?_⟩) ?_ ?_
    rotate_left
    · intro w'
      go_simp
      with_reducible rfl
    rotate_left
    · simp only [Act.put, List.setIfInBounds_toArray, List.set_cons_zero, List.set_cons_succ, i64_w, i32_w]
      rfl
    refine pure_ (i := 4) (N := some 16) (v := ?_) (a' := ?_) #[Y, Y, Y, Yn, Y, Yn, Yn, Yn, Yn, Yn, Yn, Yn, Yn, Yn, Yn, Yn, Yn, Yn] rfl rfl (by kernel_rfl) (fun _ _ _ h => h) (Or.inl ⟨by rfl, ?_⟩) ?_ ?_
    rotate_left
    · intro w'
      go_simp
      with_reducible rfl
    rotate_left
    · simp only [Act.put, List.setIfInBounds_toArray, List.set_cons_zero, List.set_cons_succ, i64_w, i32_w]
      rfl
    refine pure_ (i := 5) (N := some 17) (v := ?_) (a' := ?_) #[Y, Y, Y, Yn, Y, Y, Yn, Yn, Yn, Yn, Yn, Yn, Yn, Yn, Yn, Yn, Yn, Yn] rfl rfl (by kernel_rfl) (fun _ _ _ h => h) (Or.inl ⟨by rfl, ?_⟩) ?_ ?_
    rotate_left
    · intro w'
      go_simp
      with_reducible rfl
    rotate_left
    · simp only [Act.put, List.setIfInBounds_toArray, List.set_cons_zero, List.set_cons_succ, i64_w, i32_w]
      rfl
    refine pure_ (i := 6) (N := some 18) (v := ?_) (a' := ?_) #[Y, Y, Y, Yn, Y, Y, Y, Yn, Yn, Yn, Yn, Yn, Yn, Yn, Yn, Yn, Yn, Yn] rfl rfl (by kernel_rfl) (fun _ _ _ h => h) (Or.inl ⟨by rfl, ?_⟩) ?_ ?_
    rotate_left
    · intro w'
      go_simp
      with_reducible rfl
    rotate_left
    · simp only [Act.put, List.setIfInBounds_toArray, List.set_cons_zero, List.set_cons_succ, i64_w, i32_w]
      rfl
    refine pure_ (i := 7) (N := some 19) (v := ?_) (a' := ?_) #[Y, Y, Y, Yn, Y, Y, Y, Y, Yn, Yn, Yn, Yn, Yn, Yn, Yn, Yn, Yn, Yn] rfl rfl (by kernel_rfl) (fun _ _ _ h => h) (Or.inl ⟨by rfl, ?_⟩) ?_ ?_
    rotate_left
    · intro w'
      go_simp
      with_reducible rfl
    rotate_left
    · simp only [Act.put, List.setIfInBounds_toArray, List.set_cons_zero, List.set_cons_succ, i64_w, i32_w]
      rfl
    refine pure_ (i := 8) (N := some 20) (v := ?_) (a' := ?_) #[Y, Y, Y, Yn, Y, Y, Y, Y, Y, Yn, Yn, Yn, Yn, Yn, Yn, Yn, Yn, Yn] rfl rfl (by kernel_rfl) (fun _ _ _ h => h) (Or.inl ⟨by rfl, ?_⟩) ?_ ?_
    rotate_left
    · intro w'
      go_simp
      with_reducible rfl
    rotate_left
    · simp only [Act.put, List.setIfInBounds_toArray, List.set_cons_zero, List.set_cons_succ, i64_w, i32_w]
      rfl
    refine pure_ (i := 10) (N := some 22) (v := ?_) (a' := ?_) #[Y, Y, Y, Yn, Y, Y, Y, Y, Y, Yn, Y, Yn, Yn, Yn, Yn, Yn, Yn, Yn] rfl rfl (by kernel_rfl) (fun _ _ _ h => h) (Or.inl ⟨by rfl, ?_⟩) ?_ ?_
    rotate_left
    · intro w'
      go_simp
      with_reducible rfl
    rotate_left
    · simp only [Act.put, List.setIfInBounds_toArray, List.set_cons_zero, List.set_cons_succ, i64_w, i32_w]
      rfl
    refine pure_ (i := 11) (N := some 23) (v := ?_) (a' := ?_) #[Y, Y, Y, Yn, Y, Y, Y, Y, Y, Yn, Y, Y, Yn, Yn, Yn, Yn, Yn, Yn] rfl rfl (by kernel_rfl) (fun _ _ _ h => h) (Or.inl ⟨by rfl, ?_⟩) ?_ ?_
    rotate_left
    · intro w'
      go_simp
      with_reducible rfl
    rotate_left
    · simp only [Act.put, List.setIfInBounds_toArray, List.set_cons_zero, List.set_cons_succ, i64_w, i32_w]
      rfl
    refine pure_ (i := 12) (N := some 24) (v := ?_) (a' := ?_) #[Y, Y, Y, Yn, Y, Y, Y, Y, Y, Yn, Y, Y, Y, Yn, Yn, Yn, Yn, Yn] rfl rfl (by kernel_rfl) (fun _ _ _ h => h) (Or.inl ⟨by rfl, ?_⟩) ?_ ?_
    rotate_left
    · intro w'
      go_simp
      with_reducible rfl
    rotate_left
    · simp only [Act.put, List.setIfInBounds_toArray, List.set_cons_zero, List.set_cons_succ, i64_w, i32_w]
      rfl
    refine pure_ (i := 13) (N := some 25) (v := ?_) (a' := ?_) #[Y, Y, Y, Yn, Y, Y, Y, Y, Y, Yn, Y, Y, Y, Y, Yn, Yn, Yn, Yn] rfl rfl (by kernel_rfl) (fun _ _ _ h => h) (Or.inl ⟨by rfl, ?_⟩) ?_ ?_
    rotate_left
    · intro w'
      go_simp
      with_reducible rfl
    rotate_left
    · simp only [Act.put, List.setIfInBounds_toArray, List.set_cons_zero, List.set_cons_succ, i64_w, i32_w]
      rfl
    refine take_ (i := 3) (N := some 15) (v := ?_) (a' := ?_) #[Y, Y, Y, Y, Y, Y, Y, Y, Y, Yn, Y, Y, Y, Y, Yn, Yn, Yn, Yn] rfl rfl (by kernel_rfl) (fun _ _ _ h => h) (Or.inl ⟨by rfl, ?_⟩) hHeld ?_ ?_
    rotate_left
    · rintro w' ⟨s0, s1, s2, s3⟩
      go_simp
      with_reducible rfl
    rotate_left
    · simp only [Act.put, List.setIfInBounds_toArray, List.set_cons_zero, List.set_cons_succ, i64_w, i32_w]
      rfl
    refine take_ (i := 9) (N := some 21) (v := ?_) (a' := ?_) #[Y, Y, Y, Y, Y, Y, Y, Y, Y, Y, Y, Y, Y, Y, Yn, Yn, Yn, Yn] rfl rfl (by kernel_rfl) (fun _ _ _ h => h) (Or.inl ⟨by rfl, ?_⟩) hHeld ?_ ?_
    rotate_left
    · rintro w' ⟨s0, s1, s2, s3⟩
      go_simp
      with_reducible rfl
    rotate_left
    · simp only [Act.put, List.setIfInBounds_toArray, List.set_cons_zero, List.set_cons_succ, i64_w, i32_w]
      rfl
    refine take_ (i := 14) (N := some 26) (v := ?_) (a' := ?_) #[Y, Y, Y, Y, Y, Y, Y, Y, Y, Y, Y, Y, Y, Y, Y, Yn, Yn, Yn] rfl rfl (by kernel_rfl) (fun _ _ _ h => h) (Or.inl ⟨by rfl, ?_⟩) hHeld ?_ ?_
    rotate_left
    · rintro w' ⟨s0, s1, s2, s3⟩
      go_simp
      with_reducible rfl
    rotate_left
    · simp only [Act.put, List.setIfInBounds_toArray, List.set_cons_zero, List.set_cons_succ, i64_w, i32_w]
      rfl
    refine pure_ (i := 15) (N := some 27) (v := ?_) (a' := ?_) #[Y, Y, Y, Y, Y, Y, Y, Y, Y, Y, Y, Y, Y, Y, Y, Y, Yn, Yn] rfl rfl (by kernel_rfl) (fun _ _ _ h => h) (Or.inl ⟨by rfl, ?_⟩) ?_ ?_
    rotate_left
    · intro w'
      go_simp
      with_reducible rfl
    rotate_left
    · simp only [Act.put, List.setIfInBounds_toArray, List.set_cons_zero, List.set_cons_succ, i64_w, i32_w]
      rfl
    refine one_ (i := 16) (N := some 4) #[Y, Y, Y, Y, Y, Y, Y, Y, Y, Y, Y, Y, Y, Y, Y, Y, Y, Yn] rfl rfl (by kernel_rfl) (by decide) (fun K hK => ?_)
    refine value_ (w1 := ?_) (v := ?_) (by rfl) rfl ?_ ?_
    rotate_left 2
    · go_simp
      constructor
      · rfl
      · rfl
    refine hK.out _ _ ⟨(blk_cell (blk_alloc HG2.out _) 12).trans rfl, (blk_cell (blk_alloc HG2.out _) 8).trans rfl, (blk_cell (blk_alloc HG2.out _) 9).trans rfl, (blk_cell (blk_alloc HG2.out _) 10).trans rfl⟩ (fun hHeld => ?_)
    clear hK K
    refine norm_ (a' := ?_) ?_ ?_
    rotate_left
    · show Act.put _ (some 4) _ = _
      simp only [Act.put, List.setIfInBounds_toArray, List.set_cons_zero, List.set_cons_succ, i64_w, i32_w]
      rfl
    refine one_ (i := 17) (N := none) #[Y, Y, Y, Y, Y, Y, Y, Y, Y, Y, Y, Y, Y, Y, Y, Y, Y, Y] rfl rfl (by kernel_rfl) (by decide) (fun K hK => ?_)
    refine step_store_row (by rfl) rfl 44 (.tmp 4) (.tmp 27) rfl w2.heap.size #[.int .i64 tt, .int .i64 at_, .int .i64 vk, .int .i64 vn, .int .i64 q, .int .i64 0] rfl rfl 44 #[.int .i64 0, .int .i64 0, .int .i64 0, .int .i64 0, .int .i64 0, .int .i64 0] (blk_new w2 (.cells #[.int .i64 0, .int .i64 0, .int .i64 0, .int .i64 0, .int .i64 0, .int .i64 0] 44 (0, 0))) (by kernel_rfl) rfl (by simp [Value.oneCell']) ?_
    have hbx := below_setRow (below_alloc (Below.refl w2.heap.size w2) (.cells #[.int .i64 0, .int .i64 0, .int .i64 0, .int .i64 0, .int .i64 0, .int .i64 0] 44 (0, 0))) (Nat.le_refl _) #[.int .i64 tt, .int .i64 at_, .int .i64 vk, .int .i64 vn, .int .i64 q, .int .i64 0]
    have HX3 := Aside0.mk (setRow_heap _ _ _ #[.int .i64 tt, .int .i64 at_, .int .i64 vk, .int .i64 vn, .int .i64 q, .int .i64 0] _ _ (blk_new w2 (.cells #[.int .i64 0, .int .i64 0, .int .i64 0, .int .i64 0, .int .i64 0, .int .i64 0] 44 (0, 0))))
    have HG3 := Aside0.mk (blk_below HG2.out hbx)
    have HO3 := Aside0.mk (Kd.R_below HO2.out hbx)
    have HB3 := Aside0.mk (HB2.out.trans (hbx.mono (Nat.le_trans HBS.out HB2.out.size)))
    have HK3 := Aside0.mk (HK2.out.trans (KeepL.of_below hbx g))
    clear hbx
    obtain ⟨gx, HGX⟩ : ∃ gx, Aside0 (w2.heap.size = gx) := ⟨_, ⟨rfl⟩⟩
    rw [HGX.out] at HX3 HG3 HO3 HB3 HK3 ⊢
    generalize (w2.alloc (.cells #[.int .i64 0, .int .i64 0, .int .i64 0, .int .i64 0, .int .i64 0, .int .i64 0] 44 (0, 0))).setRow gx #[.int .i64 tt, .int .i64 at_, .int .i64 vk, .int .i64 vn, .int .i64 q, .int .i64 0] = w3 at HX3 HG3 HO3 HB3 HK3 ⊢
    refine hK.out _ _ ⟨(blk_cell HG3.out 12).trans rfl, (blk_cell HG3.out 8).trans rfl, (blk_cell HG3.out 9).trans rfl, (blk_cell HG3.out 10).trans rfl⟩ (fun hHeld => ?_)
    clear hK K
    refine done_ (by kernel_rfl) ?_
    clear c12 c8 c9 c10 hHeld
    have c13 := (blk_cell HG3.out 13).trans rfl
    have c5 := (blk_cell HG3.out 5).trans rfl
    go_wp2
    have HG4 := Aside0.mk (blk_drew HG3.out)
    have HO4 := Aside0.mk (Kd.R_drew HO3.out)
    have HB4 := Aside0.mk (below_drew1 HB3.out)
    have HK4 := Aside0.mk HK3.out.drew
    have HX4 := Aside0.mk (blk_drew HX3.out)
    refine start_ (n := 11) (S := fun w' => w'.cell? ⟨g, 13, none⟩ = some (.slice (some ⟨gr, 0, none⟩) ring.length c0) ∧ w'.cell? ⟨g, 5, none⟩ = some (.int .i64 sz)) (ds := []) #[Yn, Yn, Yn, Yn, Yn, Yn, Yn, Yn, Yn, Yn, Yn] (by kernel_rfl) rfl rfl ⟨c13, c5⟩ (fun hHeld => ?_)
    generalize w3.drew = w4 at HG4 HO4 HB4 HK4 HX4 hHeld ⊢
    refine pure_ (i := 0) (N := some 28) (v := ?_) (a' := ?_) #[Y, Yn, Yn, Yn, Yn, Yn, Yn, Yn, Yn, Yn, Yn] rfl rfl (by kernel_rfl) (fun _ _ _ h => h) (Or.inl ⟨by rfl, ?_⟩) ?_ ?_
    rotate_left
    · intro w'
      go_simp
      with_reducible rfl
    rotate_left
    · simp only [Act.put, List.setIfInBounds_toArray, List.set_cons_zero, List.set_cons_succ, i64_w, i32_w]
      rfl
    refine pure_ (i := 1) (N := some 29) (v := ?_) (a' := ?_) #[Y, Y, Yn, Yn, Yn, Yn, Yn, Yn, Yn, Yn, Yn] rfl rfl (by kernel_rfl) (fun _ _ _ h => h) (Or.inl ⟨by rfl, ?_⟩) ?_ ?_
    rotate_left
    · intro w'
      go_simp
      with_reducible rfl
    rotate_left
    · simp only [Act.put, List.setIfInBounds_toArray, List.set_cons_zero, List.set_cons_succ, i64_w, i32_w]
      rfl
    refine pure_ (i := 2) (N := some 30) (v := ?_) (a' := ?_) #[Y, Y, Y, Yn, Yn, Yn, Yn, Yn, Yn, Yn, Yn] rfl rfl (by kernel_rfl) (fun _ _ _ h => h) (Or.inl ⟨by rfl, ?_⟩) ?_ ?_
    rotate_left
    · intro w'
      go_simp
      with_reducible rfl
    rotate_left
    · simp only [Act.put, List.setIfInBounds_toArray, List.set_cons_zero, List.set_cons_succ, i64_w, i32_w]
      rfl
    refine pure_ (i := 5) (N := some 33) (v := ?_) (a' := ?_) #[Y, Y, Y, Yn, Yn, Y, Yn, Yn, Yn, Yn, Yn] rfl rfl (by kernel_rfl) (fun _ _ _ h => h) (Or.inl ⟨by rfl, ?_⟩) ?_ ?_
    rotate_left
    · intro w'
      go_simp
      with_reducible rfl
    rotate_left
    · simp only [Act.put, List.setIfInBounds_toArray, List.set_cons_zero, List.set_cons_succ, i64_w, i32_w]
      rfl
    refine pure_ (i := 6) (N := some 34) (v := ?_) (a' := ?_) #[Y, Y, Y, Yn, Yn, Y, Y, Yn, Yn, Yn, Yn] rfl rfl (by kernel_rfl) (fun _ _ _ h => h) (Or.inl ⟨by rfl, ?_⟩) ?_ ?_
    rotate_left
    · intro w'
      go_simp
      with_reducible rfl
    rotate_left
    · simp only [Act.put, List.setIfInBounds_toArray, List.set_cons_zero, List.set_cons_succ, i64_w, i32_w]
      rfl
    refine pure_ (i := 7) (N := some 35) (v := ?_) (a' := ?_) #[Y, Y, Y, Yn, Yn, Y, Y, Y, Yn, Yn, Yn] rfl rfl (by kernel_rfl) (fun _ _ _ h => h) (Or.inl ⟨by rfl, ?_⟩) ?_ ?_
    rotate_left
    · intro w'
      go_simp
      with_reducible rfl
    rotate_left
    · simp only [Act.put, List.setIfInBounds_toArray, List.set_cons_zero, List.set_cons_succ, i64_w, i32_w]
      rfl
    refine pure_ (i := 8) (N := some 36) (v := ?_) (a' := ?_) #[Y, Y, Y, Yn, Yn, Y, Y, Y, Y, Yn, Yn] rfl rfl (by kernel_rfl) (fun _ _ _ h => h) (Or.inl ⟨by rfl, ?_⟩) ?_ ?_
    rotate_left
    · intro w'
      go_simp
      with_reducible rfl
    rotate_left
    · simp only [Act.put, List.setIfInBounds_toArray, List.set_cons_zero, List.set_cons_succ, i64_w, i32_w]
      rfl
    refine take_ (i := 3) (N := some 31) (v := ?_) (a' := ?_) #[Y, Y, Y, Y, Yn, Y, Y, Y, Y, Yn, Yn] rfl rfl (by kernel_rfl) (fun _ _ _ h => h) (Or.inl ⟨by rfl, ?_⟩) hHeld ?_ ?_
    rotate_left
    · rintro w' ⟨s0, s1⟩
      go_simp
      with_reducible rfl
    rotate_left
    · simp only [Act.put, List.setIfInBounds_toArray, List.set_cons_zero, List.set_cons_succ, i64_w, i32_w]
      rfl
    refine pure_ (i := 4) (N := some 32) (v := ?_) (a' := ?_) #[Y, Y, Y, Y, Y, Y, Y, Y, Y, Yn, Yn] rfl rfl (by kernel_rfl) (fun _ _ _ h => h) (Or.inl ⟨by rfl, ?_⟩) ?_ ?_
    rotate_left
    · intro w'
      go_simp
      with_reducible rfl
    rotate_left
    · simp only [Act.put, List.setIfInBounds_toArray, List.set_cons_zero, List.set_cons_succ, i64_w, i32_w]
      rfl
    refine take_ (i := 9) (N := some 37) (v := ?_) (a' := ?_) #[Y, Y, Y, Y, Y, Y, Y, Y, Y, Y, Yn] rfl rfl (by kernel_rfl) (fun _ _ _ h => h) (Or.inl ⟨by rfl, ?_⟩) hHeld ?_ ?_
    rotate_left
    · rintro w' ⟨s0, s1⟩
      go_simp
      with_reducible rfl
    rotate_left
    · simp only [Act.put, List.setIfInBounds_toArray, List.set_cons_zero, List.set_cons_succ, i64_w, i32_w]
      rfl
    refine pure_ (i := 10) (N := some 38) (v := ?_) (a' := ?_) #[Y, Y, Y, Y, Y, Y, Y, Y, Y, Y, Y] rfl rfl (by kernel_rfl) (fun _ _ _ h => h) (Or.inl ⟨by rfl, ?_⟩) ?_ ?_
    rotate_left
    · intro w'
      go_simp
      with_reducible rfl
    rotate_left
    · simp only [Act.put, List.setIfInBounds_toArray, List.set_cons_zero, List.set_cons_succ, i64_w, i32_w]
      rfl
    refine done_ (by kernel_rfl) ?_
    clear c13 c5 hHeld
    have c13 := (blk_cell HG4.out 13).trans rfl
    have c14 := (blk_cell HG4.out 14).trans rfl
    have x0 := (blk_cell HX4.out 0).trans rfl
    have x1 := (blk_cell HX4.out 1).trans rfl
    have x2 := (blk_cell HX4.out 2).trans rfl
    have x3 := (blk_cell HX4.out 3).trans rfl
    have x4 := (blk_cell HX4.out 4).trans rfl
    have x5 := (blk_cell HX4.out 5).trans rfl
    have h0t : (0 ≤ fi) = True := eq_true HF0.out
    have h1t : (fi < (ring.length : Int)) = True := eq_true HF1.out
    go_wp2
    have HG5 := Aside0.mk (blk_drew HG4.out)
    have HO5 := Aside0.mk (Kd.R_drew HO4.out)
    have HB5 := Aside0.mk (below_drew1 HB4.out)
    have HK5 := Aside0.mk HK4.out.drew
    have HX5 := Aside0.mk (blk_drew HX4.out)
    refine start_ (n := 11) (S := fun w' => w'.cell? ⟨g, 13, none⟩ = some (.slice (some ⟨gr, 0, none⟩) ring.length c0) ∧ w'.cell? ⟨g, 14, none⟩ = some (.int .i64 fi) ∧ w'.cell? ⟨gx, 0, none⟩ = some (.int .i64 tt) ∧ w'.cell? ⟨gx, 1, none⟩ = some (.int .i64 at_) ∧ w'.cell? ⟨gx, 2, none⟩ = some (.int .i64 vk) ∧ w'.cell? ⟨gx, 3, none⟩ = some (.int .i64 vn) ∧ w'.cell? ⟨gx, 4, none⟩ = some (.int .i64 q) ∧ w'.cell? ⟨gx, 5, none⟩ = some (.int .i64 0)) (ds := [10]) #[Yn, Yn, Yn, Yn, Yn, Yn, Yn, Yn, Yn, Yn, Yn] (by kernel_rfl) rfl rfl ⟨c13, c14, x0, x1, x2, x3, x4, x5⟩ (fun hHeld => ?_)
    generalize w4.drew = w5 at HG5 HO5 HB5 HK5 HX5 hHeld ⊢
    refine pure_ (i := 0) (N := some 49) (v := ?_) (a' := ?_) #[Y, Yn, Yn, Yn, Yn, Yn, Yn, Yn, Yn, Yn, Yn] rfl rfl (by kernel_rfl) (fun _ _ _ h => h) (Or.inl ⟨by rfl, ?_⟩) ?_ ?_
    rotate_left
    · intro w'
      go_simp
      with_reducible rfl
    rotate_left
    · simp only [Act.put, List.setIfInBounds_toArray, List.set_cons_zero, List.set_cons_succ, i64_w, i32_w]
      rfl
    refine pure_ (i := 1) (N := some 50) (v := ?_) (a' := ?_) #[Y, Y, Yn, Yn, Yn, Yn, Yn, Yn, Yn, Yn, Yn] rfl rfl (by kernel_rfl) (fun _ _ _ h => h) (Or.inl ⟨by rfl, ?_⟩) ?_ ?_
    rotate_left
    · intro w'
      go_simp
      with_reducible rfl
    rotate_left
    · simp only [Act.put, List.setIfInBounds_toArray, List.set_cons_zero, List.set_cons_succ, i64_w, i32_w]
      rfl
    refine pure_ (i := 2) (N := some 51) (v := ?_) (a' := ?_) #[Y, Y, Y, Yn, Yn, Yn, Yn, Yn, Yn, Yn, Yn] rfl rfl (by kernel_rfl) (fun _ _ _ h => h) (Or.inl ⟨by rfl, ?_⟩) ?_ ?_
    rotate_left
    · intro w'
      go_simp
      with_reducible rfl
    rotate_left
    · simp only [Act.put, List.setIfInBounds_toArray, List.set_cons_zero, List.set_cons_succ, i64_w, i32_w]
      rfl
    refine pure_ (i := 4) (N := some 53) (v := ?_) (a' := ?_) #[Y, Y, Y, Yn, Y, Yn, Yn, Yn, Yn, Yn, Yn] rfl rfl (by kernel_rfl) (fun _ _ _ h => h) (Or.inl ⟨by rfl, ?_⟩) ?_ ?_
    rotate_left
    · intro w'
      go_simp
      with_reducible rfl
    rotate_left
    · simp only [Act.put, List.setIfInBounds_toArray, List.set_cons_zero, List.set_cons_succ, i64_w, i32_w]
      rfl
    refine pure_ (i := 5) (N := some 54) (v := ?_) (a' := ?_) #[Y, Y, Y, Yn, Y, Y, Yn, Yn, Yn, Yn, Yn] rfl rfl (by kernel_rfl) (fun _ _ _ h => h) (Or.inl ⟨by rfl, ?_⟩) ?_ ?_
    rotate_left
    · intro w'
      go_simp
      with_reducible rfl
    rotate_left
    · simp only [Act.put, List.setIfInBounds_toArray, List.set_cons_zero, List.set_cons_succ, i64_w, i32_w]
      rfl
    refine pure_ (i := 6) (N := some 55) (v := ?_) (a' := ?_) #[Y, Y, Y, Yn, Y, Y, Y, Yn, Yn, Yn, Yn] rfl rfl (by kernel_rfl) (fun _ _ _ h => h) (Or.inl ⟨by rfl, ?_⟩) ?_ ?_
    rotate_left
    · intro w'
      go_simp
      with_reducible rfl
    rotate_left
    · simp only [Act.put, List.setIfInBounds_toArray, List.set_cons_zero, List.set_cons_succ, i64_w, i32_w]
      rfl
    refine take_ (i := 3) (N := some 52) (v := ?_) (a' := ?_) #[Y, Y, Y, Y, Y, Y, Y, Yn, Yn, Yn, Yn] rfl rfl (by kernel_rfl) (fun _ _ _ h => h) (Or.inl ⟨by rfl, ?_⟩) hHeld ?_ ?_
    rotate_left
    · rintro w' ⟨s0, s1, s2, s3, s4, s5, s6, s7⟩
      go_simp
      with_reducible rfl
    rotate_left
    · simp only [Act.put, List.setIfInBounds_toArray, List.set_cons_zero, List.set_cons_succ, i64_w, i32_w]
      rfl
    refine take_ (i := 7) (N := some 56) (v := ?_) (a' := ?_) #[Y, Y, Y, Y, Y, Y, Y, Y, Yn, Yn, Yn] rfl rfl (by kernel_rfl) (fun _ _ _ h => h) (Or.inl ⟨by rfl, ?_⟩) hHeld ?_ ?_
    rotate_left
    · rintro w' ⟨s0, s1, s2, s3, s4, s5, s6, s7⟩
      go_simp
      with_reducible rfl
    rotate_left
    · simp only [Act.put, List.setIfInBounds_toArray, List.set_cons_zero, List.set_cons_succ, i64_w, i32_w]
      rfl
    refine take_ (i := 8) (N := some 57) (v := ?_) (a' := ?_) #[Y, Y, Y, Y, Y, Y, Y, Y, Y, Yn, Yn] rfl rfl (by kernel_rfl) (fun _ _ _ h => h) (Or.inl ⟨by rfl, ?_⟩) hHeld ?_ ?_
    rotate_left
    · rintro w' ⟨s0, s1, s2, s3, s4, s5, s6, s7⟩
      go_simp
      with_reducible rfl
    rotate_left
    · simp only [Act.put, List.setIfInBounds_toArray, List.set_cons_zero, List.set_cons_succ, i64_w, i32_w]
      rfl
    refine pure_ (i := 9) (N := some 58) (v := ?_) (a' := ?_) #[Y, Y, Y, Y, Y, Y, Y, Y, Y, Y, Yn] rfl rfl (by kernel_rfl) (fun _ _ _ h => h) (Or.inl ⟨by rfl, ?_⟩) ?_ ?_
    rotate_left
    · intro w'
      go_simp
      with_reducible rfl
    rotate_left
    · simp only [Act.put, List.setIfInBounds_toArray, List.set_cons_zero, List.set_cons_succ, i64_w, i32_w]
      rfl
    refine last_ (i := 10) (N := none) #[Y, Y, Y, Y, Y, Y, Y, Y, Y, Y, Y] rfl rfl (by kernel_rfl) (by decide) (fun K hK => ?_)
    obtain ⟨cz, hcl, hcc⟩ := elem44 HO5.out fi HF0.out HF1.out
    refine step_R_store k44 (w0 := w5) B (by rfl) rfl 44 (.tmp 58) (.tmp 57) rfl 44 fi ring (⟨tt, at_, ⟨vk, vn⟩, q, 0⟩ : S44) (.agg #[.int .i64 tt, .int .i64 at_, .int .i64 vk, .int .i64 vn, .int .i64 q, .int .i64 0]) [.int .i64 tt, .int .i64 at_, .int .i64 vk, .int .i64 vn, .int .i64 q, .int .i64 0] cz (fun _ => True) (fun _ => False) (by first | rfl | (go_simp; done) | (go_simp; rfl)) rfl rfl (by kernel_rfl) (by simp [Value.oneCell']) HO5.out HF0.out HF1.out hcl hcc rfl (k44_mkM _ _ _ (⟨tt, at_, ⟨vk, vn⟩, q, 0⟩ : S44)) (fun _ hk => hk.elim) (Below.refl _ _) ?_
    intro w6 ho hb hg
    clear hcc hcl
    obtain ⟨ms, HMS⟩ : ∃ ms, Aside0 (ring.set fi.toNat (⟨tt, at_, ⟨vk, vn⟩, q, 0⟩ : S44) = ms) := ⟨_, ⟨rfl⟩⟩
    rw [HMS.out] at ho
    have HML := Aside0.mk (show ring.length = ms.length by rw [← HMS.out, List.length_set])
    rw [HML.out] at ho
    have HG6 := Aside0.mk (blk_grown HG5.out hg (Kd.R_ne HO5.out HG5.out (by decide)))
    have HO6 := Aside0.mk ho
    have HB6 := Aside0.mk (HB5.out.trans hb)
    have HK6 := Aside0.mk (HK5.out.trans ⟨hg.size, fun k cs t hk ht _ => blk_grown hk hg (Kd.R_ne HO5.out hk (Ne.symm ht))⟩)
    rw [HML.out] at HG6
    clear ho hb hg
    refine hK.out _ _ ?_
    clear hK K
    refine done_ (by kernel_rfl) ?_
    clear c13 c14 x0 x1 x2 x3 x4 x5 hHeld h0t h1t
    have c14 := (blk_cell HG6.out 14).trans rfl
    have c13 := (blk_cell HG6.out 13).trans rfl
    have hz1 : ((ms.length : Int) = 0) = False := eq_false (by have := HML.out; have := HF0.out; have := HF1.out; omega)
    have hz3 : (ms = []) = False := eq_false (fun e => by have h1 := HML.out; rw [e, List.length_nil] at h1; have := HF0.out; have := HF1.out; omega)
    have hz2 : ((ms.length : Int) == 0) = false := beq_false_of_ne (by have := HML.out; have := HF0.out; have := HF1.out; omega)
    obtain ⟨fj, HFJ⟩ : ∃ fj, Aside0 (wrap64 (fi + 1) = fj) := ⟨_, ⟨rfl⟩⟩
    go_wp2
    have HG7 := Aside0.mk (blk_drew HG6.out)
    have HO7 := Aside0.mk (Kd.R_drew HO6.out)
    have HB7 := Aside0.mk (below_drew1 HB6.out)
    have HK7 := Aside0.mk HK6.out.drew
    refine start_ (n := 15) (S := fun w' => w'.cell? ⟨g, 14, none⟩ = some (.int .i64 fi) ∧ w'.cell? ⟨g, 13, none⟩ = some (.slice (some ⟨gr, 0, none⟩) ms.length c0)) (ds := [14]) #[Yn, Yn, Yn, Yn, Yn, Yn, Yn, Yn, Yn, Yn, Yn, Yn, Yn, Yn, Yn] (by kernel_rfl) rfl rfl ⟨c14, c13⟩ (fun hHeld => ?_)
    generalize w6.drew = w7 at HG7 HO7 HB7 HK7 hHeld ⊢
    refine pure_ (i := 0) (N := some 59) (v := ?_) (a' := ?_) #[Y, Yn, Yn, Yn, Yn, Yn, Yn, Yn, Yn, Yn, Yn, Yn, Yn, Yn, Yn] rfl rfl (by kernel_rfl) (fun _ _ _ h => h) (Or.inl ⟨by rfl, ?_⟩) ?_ ?_
    rotate_left
    · intro w'
      go_simp
      with_reducible rfl
    rotate_left
    · simp only [Act.put, List.setIfInBounds_toArray, List.set_cons_zero, List.set_cons_succ, i64_w, i32_w]
      rfl
    refine pure_ (i := 1) (N := some 60) (v := ?_) (a' := ?_) #[Y, Y, Yn, Yn, Yn, Yn, Yn, Yn, Yn, Yn, Yn, Yn, Yn, Yn, Yn] rfl rfl (by kernel_rfl) (fun _ _ _ h => h) (Or.inl ⟨by rfl, ?_⟩) ?_ ?_
    rotate_left
    · intro w'
      go_simp
      with_reducible rfl
    rotate_left
    · simp only [Act.put, List.setIfInBounds_toArray, List.set_cons_zero, List.set_cons_succ, i64_w, i32_w]
      rfl
    refine pure_ (i := 2) (N := some 61) (v := ?_) (a' := ?_) #[Y, Y, Y, Yn, Yn, Yn, Yn, Yn, Yn, Yn, Yn, Yn, Yn, Yn, Yn] rfl rfl (by kernel_rfl) (fun _ _ _ h => h) (Or.inl ⟨by rfl, ?_⟩) ?_ ?_
    rotate_left
    · intro w'
      go_simp
      with_reducible rfl
    rotate_left
    · simp only [Act.put, List.setIfInBounds_toArray, List.set_cons_zero, List.set_cons_succ, i64_w, i32_w]
      rfl
    refine pure_ (i := 3) (N := some 62) (v := ?_) (a' := ?_) #[Y, Y, Y, Y, Yn, Yn, Yn, Yn, Yn, Yn, Yn, Yn, Yn, Yn, Yn] rfl rfl (by kernel_rfl) (fun _ _ _ h => h) (Or.inl ⟨by rfl, ?_⟩) ?_ ?_
    rotate_left
    · intro w'
      go_simp
      with_reducible rfl
    rotate_left
    · simp only [Act.put, List.setIfInBounds_toArray, List.set_cons_zero, List.set_cons_succ, i64_w, i32_w]
      rfl
    refine pure_ (i := 6) (N := some 65) (v := ?_) (a' := ?_) #[Y, Y, Y, Y, Yn, Yn, Y, Yn, Yn, Yn, Yn, Yn, Yn, Yn, Yn] rfl rfl (by kernel_rfl) (fun _ _ _ h => h) (Or.inl ⟨by rfl, ?_⟩) ?_ ?_
    rotate_left
    · intro w'
      go_simp
      with_reducible rfl
    rotate_left
    · simp only [Act.put, List.setIfInBounds_toArray, List.set_cons_zero, List.set_cons_succ, i64_w, i32_w]
      rfl
    refine pure_ (i := 7) (N := some 66) (v := ?_) (a' := ?_) #[Y, Y, Y, Y, Yn, Yn, Y, Y, Yn, Yn, Yn, Yn, Yn, Yn, Yn] rfl rfl (by kernel_rfl) (fun _ _ _ h => h) (Or.inl ⟨by rfl, ?_⟩) ?_ ?_
    rotate_left
    · intro w'
      go_simp
      with_reducible rfl
    rotate_left
    · simp only [Act.put, List.setIfInBounds_toArray, List.set_cons_zero, List.set_cons_succ, i64_w, i32_w]
      rfl
    refine pure_ (i := 8) (N := some 67) (v := ?_) (a' := ?_) #[Y, Y, Y, Y, Yn, Yn, Y, Y, Y, Yn, Yn, Yn, Yn, Yn, Yn] rfl rfl (by kernel_rfl) (fun _ _ _ h => h) (Or.inl ⟨by rfl, ?_⟩) ?_ ?_
    rotate_left
    · intro w'
      go_simp
      with_reducible rfl
    rotate_left
    · simp only [Act.put, List.setIfInBounds_toArray, List.set_cons_zero, List.set_cons_succ, i64_w, i32_w]
      rfl
    refine take_ (i := 4) (N := some 63) (v := ?_) (a' := ?_) #[Y, Y, Y, Y, Y, Yn, Y, Y, Y, Yn, Yn, Yn, Yn, Yn, Yn] rfl rfl (by kernel_rfl) (fun _ _ _ h => h) (Or.inl ⟨by rfl, ?_⟩) hHeld ?_ ?_
    rotate_left
    · rintro w' ⟨s0, s1⟩
      go_simp
      with_reducible rfl
    rotate_left
    · simp only [Act.put, List.setIfInBounds_toArray, List.set_cons_zero, List.set_cons_succ, i64_w, i32_w]
      rfl
    refine pure_ (i := 5) (N := some 64) (v := ?_) (a' := ?_) #[Y, Y, Y, Y, Y, Y, Y, Y, Y, Yn, Yn, Yn, Yn, Yn, Yn] rfl rfl (by kernel_rfl) (fun _ _ _ h => h) (Or.inl ⟨by rfl, ?_⟩) ?_ ?_
    rotate_left
    · intro w'
      go_simp
      with_reducible rfl
    rotate_left
    · simp only [Act.put, List.setIfInBounds_toArray, List.set_cons_zero, List.set_cons_succ, i64_w, i32_w]
      rfl
    refine take_ (i := 9) (N := some 68) (v := ?_) (a' := ?_) #[Y, Y, Y, Y, Y, Y, Y, Y, Y, Y, Yn, Yn, Yn, Yn, Yn] rfl rfl (by kernel_rfl) (fun _ _ _ h => h) (Or.inl ⟨by rfl, ?_⟩) hHeld ?_ ?_
    rotate_left
    · rintro w' ⟨s0, s1⟩
      go_simp
      with_reducible rfl
    rotate_left
    · simp only [Act.put, List.setIfInBounds_toArray, List.set_cons_zero, List.set_cons_succ, i64_w, i32_w]
      rfl
    refine pure_ (i := 10) (N := some 69) (v := ?_) (a' := ?_) #[Y, Y, Y, Y, Y, Y, Y, Y, Y, Y, Y, Yn, Yn, Yn, Yn] rfl rfl (by kernel_rfl) (fun _ _ _ h => h) (Or.inl ⟨by rfl, ?_⟩) ?_ ?_
    rotate_left
    · intro w'
      go_simp
      with_reducible rfl
    rotate_left
    · simp only [Act.put, List.setIfInBounds_toArray, List.set_cons_zero, List.set_cons_succ, i64_w, i32_w]
      rfl
    refine pure_ (i := 11) (N := some 70) (v := ?_) (a' := ?_) #[Y, Y, Y, Y, Y, Y, Y, Y, Y, Y, Y, Y, Yn, Yn, Yn] rfl rfl (by kernel_rfl) (fun _ _ _ h => h) (Or.inl ⟨by rfl, ?_⟩) ?_ ?_
    rotate_left
    · intro w'
      go_simp
      with_reducible rfl
    rotate_left
    · simp only [Act.put, List.setIfInBounds_toArray, List.set_cons_zero, List.set_cons_succ, i64_w, i32_w]
      rfl
    refine pure_ (i := 12) (N := some 71) (v := ?_) (a' := ?_) #[Y, Y, Y, Y, Y, Y, Y, Y, Y, Y, Y, Y, Y, Yn, Yn] rfl rfl (by kernel_rfl) (fun _ _ _ h => h) (Or.inl ⟨by rfl, ?_⟩) ?_ ?_
    rotate_left
    · intro w'
      go_simp
      with_reducible rfl
    rotate_left
    · simp only [Act.put, List.setIfInBounds_toArray, List.set_cons_zero, List.set_cons_succ, i64_w, i32_w]
      rfl
    refine pure_ (i := 13) (N := some 72) (v := ?_) (a' := ?_) #[Y, Y, Y, Y, Y, Y, Y, Y, Y, Y, Y, Y, Y, Y, Yn] rfl rfl (by kernel_rfl) (fun _ _ _ h => h) (Or.inl ⟨by rfl, ?_⟩) ?_ ?_
    rotate_left
    · intro w'
      go_simp
      with_reducible rfl
    rotate_left
    · simp only [Act.put, List.setIfInBounds_toArray, List.set_cons_zero, List.set_cons_succ, i64_w, i32_w]
      rfl
    refine last_ (i := 14) (N := none) #[Y, Y, Y, Y, Y, Y, Y, Y, Y, Y, Y, Y, Y, Y, Y] rfl rfl (by kernel_rfl) (by decide) (fun K hK => ?_)
    have f14 := blk_frozen HG7.out 14
    have c14 := (blk_cell HG7.out 14).trans rfl
    refine skip_ (w1 := ?_) (by rfl) rfl ?_ ?_
    rotate_left
    · go_simp
      rfl
    refine hK.out _ _ ?_
    clear hK K
    refine done_ (by kernel_rfl) ?_
    have hfj : fj = fi + 1 := by rw [← HFJ.out, wrap_id (by have := HF0.out; omega) (by have := HF1.out; omega)]
    obtain ⟨f', HFP⟩ : ∃ f' : Nat, Aside0 ((f + 1 = ring.length ∧ f' = 0) ∨ (f + 1 < ring.length ∧ f' = f + 1)) := by
      by_cases e : f + 1 = ring.length
      · exact ⟨0, ⟨Or.inl ⟨e, rfl⟩⟩⟩
      · exact ⟨f + 1, ⟨Or.inr ⟨by have := HFL.out; omega, rfl⟩⟩⟩
    have hrem : fj.tmod (ms.length : Int) = ((f' : Nat) : Int) := by
      have h1 := HFI.out
      have h2 := HML.out
      have h3 := HFL.out
      rw [hfj, ← h1, ← h2, Int.tmod_eq_emod_of_nonneg (by omega)]
      rcases HFP.out with ⟨h4, h5⟩ | ⟨h4, h5⟩
      · rw [h5, ← h4]
        have : ((f : Int) + 1) % ((f + 1 : Nat) : Int) = 0 := by rw [show ((f + 1 : Nat) : Int) = (f : Int) + 1 by omega, Int.emod_self]
        exact this
      · rw [h5, Int.emod_eq_of_lt (by omega) (by omega)]
        omega
    rw [HFJ.out, hrem]
    have HG8 := Aside0.mk (blk_put HG7.out 14 (.int .i64 ((f' : Nat) : Int)) rfl)
    have HO8 := Aside0.mk (R_setL HG7.out HO7.out 14 (.int .i64 ((f' : Nat) : Int)))
    have HB8 := Aside0.mk (HB7.out.setCell (p := ⟨g, 14, none⟩) HGE.out (.int .i64 ((f' : Nat) : Int)))
    have HK8 := Aside0.mk (HK7.out.set 14 (.int .i64 ((f' : Nat) : Int)))
    refine bodyPost_end (results_none rfl _ _ _) rfl ?_
    refine ⟨rfl, ⟨.slice (some ⟨gr, 0, none⟩) ms.length c0, ms, f', ?_, HGE.out, HO8.out, ⟨?_, ?_, ?_⟩⟩, HB8.out, HK8.out⟩
    · have h8 := HG8.out
      rw [HT2.out] at h8
      exact h8
    · show (if (recs.length : Int) < sz then recs ++ [Lg.rec1 _ at_] else recs.drop 1 ++ [Lg.rec1 _ at_]) = _
      rw [if_neg (by rw [HLR.out]; exact Int.not_lt.mpr K1.out), HR.out.recs, ← HMS.out, show fi.toNat = f by have := HFI.out; omega]
      have h2 := HT2.out
      subst h2
      exact rot_step ring f _ HFL.out f' HFP.out
    · rcases HFP.out with ⟨h4, h5⟩ | ⟨h4, h5⟩
      · exact Or.inl h5
      · exact Or.inr (by rw [← HML.out, h5]; exact h4)
    · intro h
      exact absurd h (by rw [← HML.out]; exact Int.not_lt.mpr K1.out)
end Go.Proofs.YtbccjcdmpiolpaaDoor.T
end
section
namespace Go.Proofs.YtbccjcdmpiolpaaDoor.T
open Go.RowKit Go.Proofs.YtbccjcdmpiolpaaDoorW.PrintWords Go.Proofs.YtbccjcdmpiolpaaDoorW.PrintLast Go.Proofs.YtbccjcdmpiolpaaDoorW.PrintMore
set_option linter.unusedVariables false
set_option linter.unusedSimpArgs false
attribute [local go_sem] max2_int min2_int max_two min_two
theorem LogAt.set_now {B g : Nat} {L : Lg} {w : World} (h : LogAt B g L w) (x : Int) : LogAt B g { L with now := x } (w.setCell ⟨g, 6, none⟩ (.int .i64 x)) := by
  obtain ⟨v, ring, f, hv, hg, ho, hr⟩ := h
  exact ⟨v, ring, f, blk_put hv 6 _ rfl, hg, R_setL hv ho 6 _, hr⟩
theorem LogAt.set_total {B g : Nat} {L : Lg} {w : World} (h : LogAt B g L w) (x : Int) : LogAt B g { L with total := x } (w.setCell ⟨g, 12, none⟩ (.int .i64 x)) := by
  obtain ⟨v, ring, f, hv, hg, ho, hr⟩ := h
  exact ⟨v, ring, f, blk_put hv 12 _ rfl, hg, R_setL hv ho 12 _, hr⟩
def Lg.run (L : Lg) (k0 : Int) : Nat → Lg
  | 0 => L
  | j + 1 => (L.run k0 j).record ((k0 + (j : Int)) * L.iv)
structure SameBut (L M : Lg) : Prop where
  nm : M.nm = L.nm
  pt : M.pt = L.pt
  way : M.way = L.way
  iv : M.iv = L.iv
  st : M.st = L.st
  sz : M.sz = L.sz
  now : M.now = L.now
  valid : M.valid = L.valid
  vk : M.vk = L.vk
  vn : M.vn = L.vn
  q : M.q = L.q
  ra : M.ra = L.ra
theorem SameBut.refl (L : Lg) : SameBut L L := ⟨rfl, rfl, rfl, rfl, rfl, rfl, rfl, rfl, rfl, rfl, rfl, rfl⟩
theorem SameBut.record {L M : Lg} (h : SameBut L M) (a : Int) : SameBut L (M.record a) := ⟨h.nm, h.pt, h.way, h.iv, h.st, h.sz, h.now, h.valid, h.vk, h.vn, h.q, h.ra⟩
theorem run_same (L : Lg) (k0 : Int) : ∀ j, SameBut L (L.run k0 j)
  | 0 => SameBut.refl L
  | j + 1 => (run_same L k0 j).record _
theorem run_total (L : Lg) (k0 : Int) : ∀ j : Nat, (L.run k0 j).total = L.total + (j : Int)
  | 0 => by simp [Lg.run]
  | j + 1 => by
    show (L.run k0 j).total + 1 = _
    rw [run_total L k0 j]
    omega
theorem record_len (L : Lg) (a : Int) (h : (L.recs.length : Int) ≤ L.sz) (hs : 1 ≤ L.sz) : ((L.record a).recs.length : Int) ≤ L.sz := by
  show (((if (L.recs.length : Int) < L.sz then L.recs ++ [L.rec1 a] else L.recs.drop 1 ++ [L.rec1 a]) : List S44).length : Int) ≤ L.sz
  split
  · rw [List.length_append, List.length_singleton]
    omega
  · rw [List.length_append, List.length_singleton, List.length_drop]
    omega
theorem run_len (L : Lg) (k0 : Int) (h : (L.recs.length : Int) ≤ L.sz) (hs : 1 ≤ L.sz) : ∀ j : Nat, ((L.run k0 j).recs.length : Int) ≤ L.sz
  | 0 => h
  | j + 1 => by
    have e := (run_same L k0 j).sz
    have := record_len (L.run k0 j) ((k0 + (j : Int)) * L.iv) (by rw [e]; exact run_len L k0 h hs j) (by rw [e]; exact hs)
    rw [e] at this
    exact this
def Lg.pass (L : Lg) (u : Int) : Lg × Int :=
  if L.way = 1 ∧ L.valid = true then
    ({ L with now := u, total := L.total + mx 0 (u / L.iv - L.now / L.iv - L.sz) }.run (L.now / L.iv + mx 0 (u / L.iv - L.now / L.iv - L.sz) + 1) (u / L.iv - L.now / L.iv - mx 0 (u / L.iv - L.now / L.iv - L.sz)).toNat, u / L.iv - L.now / L.iv)
  else ({ L with now := u }, 0)
structure OkL (L : Lg) : Prop where
  n0 : 0 ≤ L.now
  n1 : L.now ≤ 10000000000
  t0 : 0 ≤ L.total
  t1 : L.total ≤ 100000000000000
  s0 : 1 ≤ L.sz
  s1 : L.sz ≤ 1000000
  len : (L.recs.length : Int) ≤ L.sz
  iv : L.way = 1 → 1 ≤ L.iv ∧ L.iv ≤ 1000000
def PassPost (B g : Nat) (w : World) (x : Lg × Int) (e : Ending) (w' : World) : Prop := e = .returned (.int .i64 x.2) ∧ LogAt B g x.1 w' ∧ Below B w w' ∧ KeepL w w' g
structure PI (B g : Nat) (w : World) (L : Lg) (wr : World) : Prop where
  at_ : LogAt B g L wr
  bel : Below B w wr
  keep : KeepL w wr g
theorem tdiv_nn {a b : Int} (ha : 0 ≤ a) : a.tdiv b = a / b := Int.tdiv_eq_ediv_of_nonneg ha
set_option maxHeartbeats 16000000 in
set_option maxRecDepth 100000 in
theorem pass_calls (B g : Nat) (L : Lg) (u : Int) (w : World) (h : LogAt B g L w) (hBS : B ≤ w.heap.size) (hok : OkL L) (hu : L.now ≤ u ∧ u ≤ 10000000000) :
    Calls Tryd.prog 26 #[.pointer (some ⟨g, 0, none⟩), .int .i64 u] w fun e w' => PassPost B g w (L.pass u) e w' := by
  obtain ⟨nm, pt, way, iv, st, sz, now, valid, vk, vn, q, ra, total, recs⟩ := L
  have HOK := Aside0.mk hok
  have HBS := Aside0.mk hBS
  have HI0 := Aside0.mk h
  obtain ⟨v0, ring, f, hG, hge, _⟩ := h
  have HGE := Aside0.mk hge
  have hG : w.heap[g]? = some (.cells (LC nm pt way iv st sz now valid vk vn q ra total v0 ((f : Nat) : Int)) 68 (0, 0)) := hG
  have HI1 := Aside0.mk (HI0.out.set_now u)
  have HG1 := Aside0.mk (blk_put hG 6 (.int .i64 u) rfl)
  have HB1 := Aside0.mk ((Below.refl B w).setCell (p := ⟨g, 6, none⟩) hge (.int .i64 u))
  have HK1 := Aside0.mk ((KeepL.refl w g).set 6 (.int .i64 u))
  have c6 := (blk_cell hG 6).trans rfl
  have f6 := blk_frozen hG 6
  have c2 := (blk_cell hG 2).trans rfl
  have c7 := (blk_cell hG 7).trans rfl
  clear hG hge hok hBS
  by_cases k1 : way = 1
  · have k1b : (way != 1) = false := by rw [k1]; rfl
    rcases Bool.eq_false_or_eq_true valid with k2 | k2
    · have HIV := Aside0.mk (show 1 ≤ iv ∧ iv ≤ 1000000 from HOK.out.iv k1)
      have HU := Aside0.mk (show now ≤ u ∧ u ≤ 10000000000 from hu)
      clear hu
      subst k2
      obtain ⟨res, HRES⟩ : ∃ r, Aside0 (Lg.pass ⟨nm, pt, way, iv, st, sz, now, true, vk, vn, q, ra, total, recs⟩ u = r) := ⟨_, ⟨rfl⟩⟩
      rw [HRES.out]
      have KW := Aside0.mk k1
      clear k1
      obtain ⟨q0, HQ0⟩ : ∃ q, Aside0 (now / iv = q) := ⟨_, ⟨rfl⟩⟩
      obtain ⟨q1, HQ1⟩ : ∃ q, Aside0 (u / iv = q) := ⟨_, ⟨rfl⟩⟩
      have HQB := Aside0.mk (show 0 ≤ q0 ∧ q0 ≤ q1 ∧ q1 ≤ 10000000000 by
        have h0 := HOK.out.n0
        have h1 := HU.out
        have h2 := HIV.out
        simp only [] at h0
        rw [← HQ0.out, ← HQ1.out]
        exact ⟨Int.ediv_nonneg h0 (by omega), Int.ediv_le_ediv (by omega) h1.1, Int.le_trans (Int.ediv_le_self _ (by omega)) h1.2⟩)
      have hq0 : now.tdiv iv = q0 := by rw [tdiv_nn HOK.out.n0, HQ0.out]
      have hq1 : u.tdiv iv = q1 := by rw [tdiv_nn (by have h0 := HOK.out.n0; have h1 := HU.out; simp only [] at h0; omega), HQ1.out]
      have wq0 : wrap64 q0 = q0 := wrap_id (by have := HQB.out; omega) (by have := HQB.out; omega)
      have wq1 : wrap64 q1 = q1 := wrap_id (by have := HQB.out; omega) (by have := HQB.out; omega)
      obtain ⟨n, HN⟩ : ∃ n, Aside0 (q1 - q0 = n) := ⟨_, ⟨rfl⟩⟩
      obtain ⟨d, HD⟩ : ∃ d, Aside0 (n - sz = d) := ⟨_, ⟨rfl⟩⟩
      have hn_ : wrap64 (q1 - q0) = n := by rw [wrap_id (by have := HQB.out; omega) (by have := HQB.out; omega), HN.out]
      have hd_ : wrap64 (n - sz) = d := by
        have h1 := HN.out
        have h2 := HQB.out
        have h3 := HOK.out.s0
        have h4 := HOK.out.s1
        simp only [] at h3 h4
        rw [wrap_id (by omega) (by omega), HD.out]
      have HDB := Aside0.mk (show d ≤ 10000000000 by have h1 := HN.out; have h2 := HQB.out; have h3 := HOK.out.s0; have h4 := HD.out; simp only [] at h3; omega)
      go_enter Tryd.func26, Tryd.ntmps26
      go_wp2
      generalize w.setCell ⟨g, 6, none⟩ (.int .i64 u) = w1 at HI1 HG1 HB1 HK1 ⊢
      clear c6 f6 c2 c7
      have c3 := (blk_cell HG1.out 3).trans rfl
      have hz1 : (iv = 0) = False := eq_false (by have := HIV.out; omega)
      have hz2 : (iv == 0) = false := beq_false_of_ne (by have := HIV.out; omega)
      have HI2 := Aside0.mk HI1.out.drew
      have HG2 := Aside0.mk (blk_drew HG1.out)
      have HB2 := Aside0.mk (below_drew1 HB1.out)
      have HK2 := Aside0.mk HK1.out.drew
      refine start_ (n := 16) (S := fun w' => w'.cell? ⟨g, 3, none⟩ = some (.int .i64 iv)) (ds := []) #[Yn, Yn, Yn, Yn, Yn, Yn, Yn, Yn, Yn, Yn, Yn, Yn, Yn, Yn, Yn, Yn] (by kernel_rfl) rfl rfl (c3) (fun hHeld => ?_)
      generalize w1.drew = w2 at HI2 HG2 HB2 HK2 hHeld ⊢
      refine pure_ (i := 0) (N := some 30) (v := ?_) (a' := ?_) #[Y, Yn, Yn, Yn, Yn, Yn, Yn, Yn, Yn, Yn, Yn, Yn, Yn, Yn, Yn, Yn] rfl rfl (by kernel_rfl) (fun _ _ _ h => h) (Or.inl ⟨by rfl, ?_⟩) ?_ ?_
      rotate_left
      · intro w'
        go_simp
        with_reducible rfl
      rotate_left
      · simp only [Act.put, List.setIfInBounds_toArray, List.set_cons_zero, List.set_cons_succ, i64_w, i32_w]
        rfl
      refine pure_ (i := 1) (N := some 31) (v := ?_) (a' := ?_) #[Y, Y, Yn, Yn, Yn, Yn, Yn, Yn, Yn, Yn, Yn, Yn, Yn, Yn, Yn, Yn] rfl rfl (by kernel_rfl) (fun _ _ _ h => h) (Or.inl ⟨by rfl, ?_⟩) ?_ ?_
      rotate_left
      · intro w'
        go_simp
        with_reducible rfl
      rotate_left
      · simp only [Act.put, List.setIfInBounds_toArray, List.set_cons_zero, List.set_cons_succ, i64_w, i32_w]
        rfl
      refine pure_ (i := 2) (N := some 32) (v := ?_) (a' := ?_) #[Y, Y, Y, Yn, Yn, Yn, Yn, Yn, Yn, Yn, Yn, Yn, Yn, Yn, Yn, Yn] rfl rfl (by kernel_rfl) (fun _ _ _ h => h) (Or.inl ⟨by rfl, ?_⟩) ?_ ?_
      rotate_left
      · intro w'
        go_simp
        with_reducible rfl
      rotate_left
      · simp only [Act.put, List.setIfInBounds_toArray, List.set_cons_zero, List.set_cons_succ, i64_w, i32_w]
        rfl
      refine pure_ (i := 3) (N := some 33) (v := ?_) (a' := ?_) #[Y, Y, Y, Y, Yn, Yn, Yn, Yn, Yn, Yn, Yn, Yn, Yn, Yn, Yn, Yn] rfl rfl (by kernel_rfl) (fun _ _ _ h => h) (Or.inl ⟨by rfl, ?_⟩) ?_ ?_
      rotate_left
      · intro w'
        go_simp
        with_reducible rfl
      rotate_left
      · simp only [Act.put, List.setIfInBounds_toArray, List.set_cons_zero, List.set_cons_succ, i64_w, i32_w]
        rfl
      refine pure_ (i := 4) (N := some 34) (v := ?_) (a' := ?_) #[Y, Y, Y, Y, Y, Yn, Yn, Yn, Yn, Yn, Yn, Yn, Yn, Yn, Yn, Yn] rfl rfl (by kernel_rfl) (fun _ _ _ h => h) (Or.inl ⟨by rfl, ?_⟩) ?_ ?_
      rotate_left
      · intro w'
        go_simp
        with_reducible rfl
      rotate_left
      · simp only [Act.put, List.setIfInBounds_toArray, List.set_cons_zero, List.set_cons_succ, i64_w, i32_w]
        rfl
      refine pure_ (i := 7) (N := some 37) (v := ?_) (a' := ?_) #[Y, Y, Y, Y, Y, Yn, Yn, Y, Yn, Yn, Yn, Yn, Yn, Yn, Yn, Yn] rfl rfl (by kernel_rfl) (fun _ _ _ h => h) (Or.inl ⟨by rfl, ?_⟩) ?_ ?_
      rotate_left
      · intro w'
        go_simp
        with_reducible rfl
      rotate_left
      · simp only [Act.put, List.setIfInBounds_toArray, List.set_cons_zero, List.set_cons_succ, i64_w, i32_w]
        rfl
      refine pure_ (i := 8) (N := some 38) (v := ?_) (a' := ?_) #[Y, Y, Y, Y, Y, Yn, Yn, Y, Y, Yn, Yn, Yn, Yn, Yn, Yn, Yn] rfl rfl (by kernel_rfl) (fun _ _ _ h => h) (Or.inl ⟨by rfl, ?_⟩) ?_ ?_
      rotate_left
      · intro w'
        go_simp
        with_reducible rfl
      rotate_left
      · simp only [Act.put, List.setIfInBounds_toArray, List.set_cons_zero, List.set_cons_succ, i64_w, i32_w]
        rfl
      refine pure_ (i := 9) (N := some 39) (v := ?_) (a' := ?_) #[Y, Y, Y, Y, Y, Yn, Yn, Y, Y, Y, Yn, Yn, Yn, Yn, Yn, Yn] rfl rfl (by kernel_rfl) (fun _ _ _ h => h) (Or.inl ⟨by rfl, ?_⟩) ?_ ?_
      rotate_left
      · intro w'
        go_simp
        with_reducible rfl
      rotate_left
      · simp only [Act.put, List.setIfInBounds_toArray, List.set_cons_zero, List.set_cons_succ, i64_w, i32_w]
        rfl
      refine pure_ (i := 10) (N := some 40) (v := ?_) (a' := ?_) #[Y, Y, Y, Y, Y, Yn, Yn, Y, Y, Y, Y, Yn, Yn, Yn, Yn, Yn] rfl rfl (by kernel_rfl) (fun _ _ _ h => h) (Or.inl ⟨by rfl, ?_⟩) ?_ ?_
      rotate_left
      · intro w'
        go_simp
        with_reducible rfl
      rotate_left
      · simp only [Act.put, List.setIfInBounds_toArray, List.set_cons_zero, List.set_cons_succ, i64_w, i32_w]
        rfl
      refine pure_ (i := 11) (N := some 41) (v := ?_) (a' := ?_) #[Y, Y, Y, Y, Y, Yn, Yn, Y, Y, Y, Y, Y, Yn, Yn, Yn, Yn] rfl rfl (by kernel_rfl) (fun _ _ _ h => h) (Or.inl ⟨by rfl, ?_⟩) ?_ ?_
      rotate_left
      · intro w'
        go_simp
        with_reducible rfl
      rotate_left
      · simp only [Act.put, List.setIfInBounds_toArray, List.set_cons_zero, List.set_cons_succ, i64_w, i32_w]
        rfl
      refine take_ (i := 5) (N := some 35) (v := ?_) (a' := ?_) #[Y, Y, Y, Y, Y, Y, Yn, Y, Y, Y, Y, Y, Yn, Yn, Yn, Yn] rfl rfl (by kernel_rfl) (fun _ _ _ h => h) (Or.inl ⟨by rfl, ?_⟩) hHeld ?_ ?_
      rotate_left
      · intro w' s0
        go_simp
        with_reducible rfl
      rotate_left
      · simp only [Act.put, List.setIfInBounds_toArray, List.set_cons_zero, List.set_cons_succ, i64_w, i32_w]
        rfl
      refine pure_ (i := 6) (N := some 36) (v := ?_) (a' := ?_) #[Y, Y, Y, Y, Y, Y, Y, Y, Y, Y, Y, Y, Yn, Yn, Yn, Yn] rfl rfl (by kernel_rfl) (fun _ _ _ h => h) (Or.inl ⟨by rfl, ?_⟩) ?_ ?_
      rotate_left
      · intro w'
        go_simp
        with_reducible rfl
      rotate_left
      · simp only [Act.put, List.setIfInBounds_toArray, List.set_cons_zero, List.set_cons_succ, i64_w, i32_w]
        rfl
      refine take_ (i := 12) (N := some 42) (v := ?_) (a' := ?_) #[Y, Y, Y, Y, Y, Y, Y, Y, Y, Y, Y, Y, Y, Yn, Yn, Yn] rfl rfl (by kernel_rfl) (fun _ _ _ h => h) (Or.inl ⟨by rfl, ?_⟩) hHeld ?_ ?_
      rotate_left
      · intro w' s0
        go_simp
        with_reducible rfl
      rotate_left
      · simp only [Act.put, List.setIfInBounds_toArray, List.set_cons_zero, List.set_cons_succ, i64_w, i32_w]
        rfl
      refine pure_ (i := 13) (N := some 43) (v := ?_) (a' := ?_) #[Y, Y, Y, Y, Y, Y, Y, Y, Y, Y, Y, Y, Y, Y, Yn, Yn] rfl rfl (by kernel_rfl) (fun _ _ _ h => h) (Or.inl ⟨by rfl, ?_⟩) ?_ ?_
      rotate_left
      · intro w'
        go_simp
        with_reducible rfl
      rotate_left
      · simp only [Act.put, List.setIfInBounds_toArray, List.set_cons_zero, List.set_cons_succ, i64_w, i32_w]
        rfl
      refine pure_ (i := 14) (N := some 44) (v := ?_) (a' := ?_) #[Y, Y, Y, Y, Y, Y, Y, Y, Y, Y, Y, Y, Y, Y, Y, Yn] rfl rfl (by kernel_rfl) (fun _ _ _ h => h) (Or.inl ⟨by rfl, ?_⟩) ?_ ?_
      rotate_left
      · intro w'
        go_simp
        with_reducible rfl
      rotate_left
      · simp only [Act.put, List.setIfInBounds_toArray, List.set_cons_zero, List.set_cons_succ, i64_w, i32_w]
        rfl
      refine pure_ (i := 15) (N := some 6) (v := ?_) (a' := ?_) #[Y, Y, Y, Y, Y, Y, Y, Y, Y, Y, Y, Y, Y, Y, Y, Y] rfl rfl (by kernel_rfl) (fun _ _ _ h => h) (Or.inl ⟨by rfl, ?_⟩) ?_ ?_
      rotate_left
      · intro w'
        go_simp
        with_reducible rfl
      rotate_left
      · simp only [Act.put, List.setIfInBounds_toArray, List.set_cons_zero, List.set_cons_succ, i64_w, i32_w]
        rfl
      refine done_ (by kernel_rfl) ?_
      clear c3 hHeld
      have c3 := (blk_cell HG2.out 3).trans rfl
      have c5 := (blk_cell HG2.out 5).trans rfl
      have c12 := (blk_cell HG2.out 12).trans rfl
      have f12 := blk_frozen HG2.out 12
      by_cases km : d ≤ 0
      · obtain ⟨k0, HK0⟩ : ∃ k0, Aside0 (q0 + 0 + 1 = k0) := ⟨_, ⟨rfl⟩⟩
        have ht : wrap64 total = total := wrap_id (by have := HOK.out.t0; simp only [] at this; omega) (by have := HOK.out.t1; simp only [] at this; omega)
        have hk0 : wrap64 (q0 + 1) = k0 := by rw [wrap_id (by have := HQB.out; omega) (by have := HQB.out; omega), ← HK0.out]; omega
        have kmF : (d ≤ 0) = True := eq_true km
        have kmG : (0 < d) = False := eq_false (by omega)
        have HKM := HQB
        obtain ⟨m, HM⟩ : ∃ m, Aside0 ((n - 0).toNat = m) := ⟨_, ⟨rfl⟩⟩
        have HMM := Aside0.mk (show (m : Int) = q1 - q0 - 0 by have h1 := HM.out; have h2 := HN.out; have h3 := HD.out; have h4 := HQB.out; have h5 := HOK.out.s0; simp only [] at h5; omega)
        have HRS := Aside0.mk (show res = ((⟨nm, pt, way, iv, st, sz, u, true, vk, vn, q, ra, total, recs⟩ : Lg).run k0 m, n) by
          rw [← HRES.out]
          unfold Lg.pass
          rw [if_pos ⟨KW.out, rfl⟩]
          simp only []
          rw [HQ0.out, HQ1.out, HN.out, HD.out, show mx 0 d = 0 by unfold mx; omega, HM.out, HK0.out]
          rw [Int.add_zero])
        clear HRES
        have HK0E := Aside0.mk hk0
        obtain ⟨L1, HL1⟩ : ∃ L1, Aside0 ((⟨nm, pt, way, iv, st, sz, u, true, vk, vn, q, ra, total, recs⟩ : Lg) = L1) := ⟨_, ⟨rfl⟩⟩
        rw [HL1.out] at HRS
        clear km
        go_wp2
        (try simp only [wq0, wq1, hn_, hd_, ht, hk0])
        have HI3 := Aside0.mk (show LogAt B g L1 (w2.setCell ⟨g, 12, none⟩ (.int .i64 total)) by rw [← HL1.out]; exact HI2.out.set_total total)
        have HB3 := Aside0.mk (HB2.out.setCell (p := ⟨g, 12, none⟩) HGE.out (.int .i64 total))
        have HK3 := Aside0.mk (HK2.out.set 12 (.int .i64 total))
        have HOK1 := Aside0.mk (show OkL ⟨nm, pt, way, iv, st, sz, now, true, vk, vn, q, ra, total, recs⟩ from HOK.out)
        have HIVE := Aside0.mk (show L1.iv = iv by rw [← HL1.out])
        have HSZE := Aside0.mk (show L1.sz = sz ∧ L1.recs = recs ∧ L1.total = total by rw [← HL1.out]; exact ⟨rfl, rfl, rfl⟩)
        generalize w2.setCell ⟨g, 12, none⟩ (.int .i64 total) = w3 at HI3 HB3 HK3 ⊢
        clear HG2 HI2 HB2 HK2 HG1 HI1 HB1 HK1 c3 c5 c12 f12 ht hk0 kmF kmG
        go_loopw [8] (fun k wr => ∃ j : Nat, k = .int .i64 (k0 + (j : Int)) ∧ j ≤ m ∧ Aside0 (PI B g w (L1.run k0 j) wr)) (fun k _ => m + 1 - (intOf k - k0).toNat)
        case atStart => exact ⟨0, by (try rw [HK0E.out]); simp, Nat.zero_le _, ⟨⟨HI3.out, HB3.out, HK3.out⟩⟩⟩
        case round =>
          clear HI3 HB3 HK3
          obtain ⟨j, hk, hj, HI⟩ := hrel
          subst hk
          obtain ⟨kv, HKV⟩ : ∃ kv, Aside0 (k0 + (j : Int) = kv) := ⟨_, ⟨rfl⟩⟩
          rw [HKV.out]
          obtain ⟨v1, r1, f1, hG1, _⟩ := HI.out.at_
          have c3 := (blk_cell hG1 3).trans rfl
          rw [(run_same L1 k0 j).iv, HIVE.out] at c3
          clear hG1
          by_cases hlt : kv ≤ q1
          · have hl1 : decide (kv ≤ q1) = true := decide_eq_true hlt
            have HKB := Aside0.mk (show 0 ≤ kv ∧ kv ≤ 10000000000 by have h1 := HKV.out; have h2 := HK0.out; have h3 := HQB.out; have h4 := HKM.out; omega)
            have hmul : wrap64 (kv * iv) = kv * iv := by
              have h1 := HKB.out
              have h2 := HIV.out
              have h3 : 0 ≤ kv * iv := Int.mul_nonneg h1.1 (by omega)
              have h4 : kv * iv ≤ 10000000000 * 1000000 := Int.mul_le_mul h1.2 h2.2 (by omega) (by omega)
              exact wrap_id (by omega) (by omega)
            have hk1 : wrap64 (kv + 1) = kv + 1 := wrap_id (by have := HKB.out; omega) (by have := HKB.out; omega)
            have HK1E := Aside0.mk hk1
            have HJ := Aside0.mk (show j < m by have h1 := HKV.out; have h2 := HK0.out; have h3 := HMM.out; omega)
            have HRT := Aside0.mk (run_total L1 k0 j)
            have HRL := Aside0.mk (run_len L1 k0 (by rw [HSZE.out.1, HSZE.out.2.1]; exact HOK1.out.len) (by rw [HSZE.out.1]; exact HOK1.out.s0) j)
            clear hlt hj
            go_wp2_with (go_at_call 28; (with_reducible refine (record_calls B g (L1.run k0 j) (kv * iv) _ HI.out.at_ (Nat.le_trans HBS.out HI.out.keep.size) (by rw [HRT.out, HSZE.out.2.2]; have h1 := HOK1.out.t0; have h2 := HOK1.out.t1; have h3 := HQB.out; have h4 := HMM.out; have h5 := HJ.out; have h6 := HN.out; have h7 := HDB.out; have h8 := HKM.out; (try simp only [] at h1 h2); omega) (by rw [(run_same L1 k0 j).sz, HSZE.out.1]; exact HOK1.out.s0) (by have h1 := HRL.out; have h2 := HOK1.out.s1; rw [HSZE.out.1] at h1; (try simp only [] at h2); omega)).mono ?_); rintro e w5 ⟨rfl, hi, hb, hk⟩; have HI5 := Aside0.mk (show PI B g w (L1.run k0 (j + 1)) w5 from ⟨(show LogAt B g ((L1.run k0 j).record ((k0 + (j : Int)) * L1.iv)) w5 by rw [HKV.out, HIVE.out]; exact hi), HI.out.bel.trans hb, HI.out.keep.trans hk⟩); clear hi hb hk)
            refine ⟨⟨j + 1, by first | (rw [HK1E.out, ← HKV.out]; congr 1; omega) | (rw [← HKV.out]; congr 1; omega), HJ.out, HI5⟩, ?_⟩
            · first | (show m + 1 - (kv + 1 - k0).toNat < m + 1 - (kv - k0).toNat) | (show m + 1 - (wrap64 (kv + 1) - k0).toNat < m + 1 - (kv - k0).toNat; rw [HK1E.out])
              have h1 := HKV.out
              have h2 := HJ.out
              omega
          · have hl1 : decide (kv ≤ q1) = false := decide_eq_false hlt
            have HJ := Aside0.mk (show j = m by have h1 := HKV.out; have h2 := HK0.out; have h3 := HMM.out; omega)
            clear hlt hj
            go_wp2
            go_ret
            rw [HRS.out]
            exact ⟨rfl, by rw [← HJ.out]; exact HI.out.at_, HI.out.bel, HI.out.keep⟩
      · have HDB2 := HDB.out
        obtain ⟨tt, HTT⟩ : ∃ tt, Aside0 (total + d = tt) := ⟨_, ⟨rfl⟩⟩
        obtain ⟨k0, HK0⟩ : ∃ k0, Aside0 (q0 + d + 1 = k0) := ⟨_, ⟨rfl⟩⟩
        have ht : wrap64 (total + d) = tt := by rw [wrap_id (by have := HOK.out.t0; simp only [] at this; omega) (by have h1 := HOK.out.t1; have h2 := HDB.out; (try simp only [] at h1); omega), HTT.out]
        have hs_ : wrap64 (q0 + d) = q0 + d := wrap_id (by have := HQB.out; omega) (by have := HQB.out; omega)
        have hk0 : wrap64 (q0 + d + 1) = k0 := by rw [wrap_id (by have := HQB.out; omega) (by have := HQB.out; have := HDB.out; omega), HK0.out]
        have HKM := Aside0.mk (show 0 < d by omega)
        have kmF : (d ≤ 0) = False := eq_false km
        have kmG : (0 < d) = True := eq_true (by omega)
        obtain ⟨m, HM⟩ : ∃ m, Aside0 ((n - d).toNat = m) := ⟨_, ⟨rfl⟩⟩
        have HMM := Aside0.mk (show (m : Int) = q1 - q0 - d by have h1 := HM.out; have h2 := HN.out; have h3 := HD.out; have h4 := HQB.out; have h5 := HOK.out.s0; simp only [] at h5; omega)
        have HRS := Aside0.mk (show res = ((⟨nm, pt, way, iv, st, sz, u, true, vk, vn, q, ra, tt, recs⟩ : Lg).run k0 m, n) by
          rw [← HRES.out]
          unfold Lg.pass
          rw [if_pos ⟨KW.out, rfl⟩]
          simp only []
          rw [HQ0.out, HQ1.out, HN.out, HD.out, show mx 0 d = d by unfold mx; omega, HM.out, HK0.out]
          rw [HTT.out])
        clear HRES
        have HK0E := Aside0.mk hk0
        obtain ⟨L1, HL1⟩ : ∃ L1, Aside0 ((⟨nm, pt, way, iv, st, sz, u, true, vk, vn, q, ra, tt, recs⟩ : Lg) = L1) := ⟨_, ⟨rfl⟩⟩
        rw [HL1.out] at HRS
        clear km
        go_wp2
        (try simp only [wq0, wq1, hn_, hd_, ht, hs_, hk0])
        have HI3 := Aside0.mk (show LogAt B g L1 (w2.setCell ⟨g, 12, none⟩ (.int .i64 tt)) by rw [← HL1.out]; exact HI2.out.set_total tt)
        have HB3 := Aside0.mk (HB2.out.setCell (p := ⟨g, 12, none⟩) HGE.out (.int .i64 tt))
        have HK3 := Aside0.mk (HK2.out.set 12 (.int .i64 tt))
        have HOK1 := Aside0.mk (show OkL ⟨nm, pt, way, iv, st, sz, now, true, vk, vn, q, ra, total, recs⟩ from HOK.out)
        have HIVE := Aside0.mk (show L1.iv = iv by rw [← HL1.out])
        have HSZE := Aside0.mk (show L1.sz = sz ∧ L1.recs = recs ∧ L1.total = tt by rw [← HL1.out]; exact ⟨rfl, rfl, rfl⟩)
        generalize w2.setCell ⟨g, 12, none⟩ (.int .i64 tt) = w3 at HI3 HB3 HK3 ⊢
        clear HG2 HI2 HB2 HK2 HG1 HI1 HB1 HK1 c3 c5 c12 f12 ht hk0 kmF hs_ kmG
        go_loopw [8] (fun k wr => ∃ j : Nat, k = .int .i64 (k0 + (j : Int)) ∧ j ≤ m ∧ Aside0 (PI B g w (L1.run k0 j) wr)) (fun k _ => m + 1 - (intOf k - k0).toNat)
        case atStart => exact ⟨0, by (try rw [HK0E.out]); simp, Nat.zero_le _, ⟨⟨HI3.out, HB3.out, HK3.out⟩⟩⟩
        case round =>
          clear HI3 HB3 HK3
          obtain ⟨j, hk, hj, HI⟩ := hrel
          subst hk
          obtain ⟨kv, HKV⟩ : ∃ kv, Aside0 (k0 + (j : Int) = kv) := ⟨_, ⟨rfl⟩⟩
          rw [HKV.out]
          obtain ⟨v1, r1, f1, hG1, _⟩ := HI.out.at_
          have c3 := (blk_cell hG1 3).trans rfl
          rw [(run_same L1 k0 j).iv, HIVE.out] at c3
          clear hG1
          by_cases hlt : kv ≤ q1
          · have hl1 : decide (kv ≤ q1) = true := decide_eq_true hlt
            have HKB := Aside0.mk (show 0 ≤ kv ∧ kv ≤ 10000000000 by have h1 := HKV.out; have h2 := HK0.out; have h3 := HQB.out; have h4 := HKM.out; omega)
            have hmul : wrap64 (kv * iv) = kv * iv := by
              have h1 := HKB.out
              have h2 := HIV.out
              have h3 : 0 ≤ kv * iv := Int.mul_nonneg h1.1 (by omega)
              have h4 : kv * iv ≤ 10000000000 * 1000000 := Int.mul_le_mul h1.2 h2.2 (by omega) (by omega)
              exact wrap_id (by omega) (by omega)
            have hk1 : wrap64 (kv + 1) = kv + 1 := wrap_id (by have := HKB.out; omega) (by have := HKB.out; omega)
            have HK1E := Aside0.mk hk1
            have HJ := Aside0.mk (show j < m by have h1 := HKV.out; have h2 := HK0.out; have h3 := HMM.out; omega)
            have HRT := Aside0.mk (run_total L1 k0 j)
            have HRL := Aside0.mk (run_len L1 k0 (by rw [HSZE.out.1, HSZE.out.2.1]; exact HOK1.out.len) (by rw [HSZE.out.1]; exact HOK1.out.s0) j)
            clear hlt hj
            go_wp2_with (go_at_call 28; (with_reducible refine (record_calls B g (L1.run k0 j) (kv * iv) _ HI.out.at_ (Nat.le_trans HBS.out HI.out.keep.size) (by rw [HRT.out, HSZE.out.2.2]; have h1 := HOK1.out.t0; have h2 := HOK1.out.t1; have h3 := HQB.out; have h4 := HMM.out; have h5 := HJ.out; have h6 := HTT.out; have h7 := HDB.out; have h8 := HKM.out; (try simp only [] at h1 h2); omega) (by rw [(run_same L1 k0 j).sz, HSZE.out.1]; exact HOK1.out.s0) (by have h1 := HRL.out; have h2 := HOK1.out.s1; rw [HSZE.out.1] at h1; (try simp only [] at h2); omega)).mono ?_); rintro e w5 ⟨rfl, hi, hb, hk⟩; have HI5 := Aside0.mk (show PI B g w (L1.run k0 (j + 1)) w5 from ⟨(show LogAt B g ((L1.run k0 j).record ((k0 + (j : Int)) * L1.iv)) w5 by rw [HKV.out, HIVE.out]; exact hi), HI.out.bel.trans hb, HI.out.keep.trans hk⟩); clear hi hb hk)
            refine ⟨⟨j + 1, by first | (rw [HK1E.out, ← HKV.out]; congr 1; omega) | (rw [← HKV.out]; congr 1; omega), HJ.out, HI5⟩, ?_⟩
            · first | (show m + 1 - (kv + 1 - k0).toNat < m + 1 - (kv - k0).toNat) | (show m + 1 - (wrap64 (kv + 1) - k0).toNat < m + 1 - (kv - k0).toNat; rw [HK1E.out])
              have h1 := HKV.out
              have h2 := HJ.out
              omega
          · have hl1 : decide (kv ≤ q1) = false := decide_eq_false hlt
            have HJ := Aside0.mk (show j = m by have h1 := HKV.out; have h2 := HK0.out; have h3 := HMM.out; omega)
            clear hlt hj
            go_wp2
            go_ret
            rw [HRS.out]
            exact ⟨rfl, by rw [← HJ.out]; exact HI.out.at_, HI.out.bel, HI.out.keep⟩
    · subst k2
      have KW := Aside0.mk k1
      clear k1
      have HT := Aside0.mk (show Lg.pass ⟨nm, pt, way, iv, st, sz, now, false, vk, vn, q, ra, total, recs⟩ u = (⟨nm, pt, way, iv, st, sz, u, false, vk, vn, q, ra, total, recs⟩, 0) from if_neg (fun z => by cases z.2))
      rw [HT.out]
      go_enter Tryd.func26, Tryd.ntmps26
      go_wp2
      go_ret
      exact ⟨rfl, HI1.out, HB1.out, HK1.out⟩
  · have k1b : (way != 1) = true := bne_iff_ne.mpr k1
    have HT := Aside0.mk (show Lg.pass ⟨nm, pt, way, iv, st, sz, now, valid, vk, vn, q, ra, total, recs⟩ u = (⟨nm, pt, way, iv, st, sz, u, valid, vk, vn, q, ra, total, recs⟩, 0) from if_neg (fun z => k1 z.1))
    rw [HT.out]
    go_enter Tryd.func26, Tryd.ntmps26
    go_wp2
    go_ret
    exact ⟨rfl, HI1.out, HB1.out, HK1.out⟩
end Go.Proofs.YtbccjcdmpiolpaaDoor.T
end
section
namespace Go.Proofs.YtbccjcdmpiolpaaDoor.T
open Go.RowKit Go.Proofs.YtbccjcdmpiolpaaDoorW.PrintWords Go.Proofs.YtbccjcdmpiolpaaDoorW.PrintLast Go.Proofs.YtbccjcdmpiolpaaDoorW.PrintMore
set_option linter.unusedVariables false
set_option linter.unusedSimpArgs false
attribute [local go_sem] max2_int min2_int max_two min_two
theorem step_store_mid {P : Program} {ops : Array Oper} {o : Oper} {a : Act} {Q : Exit → Act → World → Prop} {K : Act → World → Prop} {w : World} (hw : Region.wanted o (yielded ops a.tmps) = true) (hN : o.dst = none) (ty : TypeId) (x y : Operand) (ho : o.op = .store ty x y)
    (b off : Nat) (cells : Array Value) (hx : a.eval x = .pointer (some ⟨b, off, none⟩)) (hy : a.eval y = .agg cells)
    (ht : w.there b off cells.size) (hi : (P.info? ty).map (·.size) = some cells.size) (h1 : cells.all (·.oneCell') = true)
    (h : K a (w.setCells b off cells.toList)) : if Region.wanted o (yielded ops a.tmps) = true then Oper.wp P o a w K Q else K (a.put o.dst undef) w := by
  rw [if_pos hw]
  refine wp_store_mid ty x y ho b off cells hx hy ht hi h1 ?_
  rw [hN]
  exact h
theorem there_blk {w : World} {g : Nat} {cs : Array Value} {t : TypeId} (h : w.heap[g]? = some (.cells cs t (0, 0))) (o n : Nat) (hn : o + n ≤ cs.size) : w.there g o n := fun j hj =>
  ⟨by rw [blk_cell h]; simp; omega, blk_frozen h _⟩
def Row (w : World) (ad : Addr) (cs : List Value) : Prop := ∀ j v, cs[j]? = some v → w.cell? (ad.add j) = some v
theorem run_loadVar_at {P : Program} (w : World) (ad : Addr) (ty : TypeId) (cs : List Value) (d : TypeDesc) (hc : Row w ad cs)
    (hu : P.underlying ty = some d) (hd : d.isRow = true) (hi : (P.info? ty).map (·.size) = some cs.length) : (loadVar ty ad).run P w = .ok (.agg cs.toArray) w := by
  have hl := run_loadCells_list (P := P) w ad cs hc
  cases hq : P.info? ty with
  | none => simp [hq] at hi
  | some i =>
    have hs : i.size = cs.length := by simpa [hq] using hi
    have hagg : (isAgg ty).run P w = .ok true w := by
      unfold isAgg
      rw [Sem.run_bind, run_underlying hu w]
      cases d <;> simp_all
    simp [loadVar, Sem.run_bind, hagg, sizeOf, typeInfo, hq, hs, hl]
theorem yieldsIf_load_at {P : Program} {ops : Array Oper} {S : World → Prop} {op : Oper} {a : Act} (hw : Region.wanted op (yielded ops a.tmps) = true) (ty : TypeId) (x : Operand) (ho : op.op = .load ty x)
    (ad : Addr) (hx : a.eval x = .pointer (some ad)) (cs : List Value) (d : TypeDesc) (hS : ∀ w, S w → Row w ad cs)
    (hu : P.underlying ty = some d) (hd : d.isRow = true) (hi : (P.info? ty).map (·.size) = some cs.length) : YieldsIf P ops S op (.agg cs.toArray) a :=
  .inl ⟨hw, fun w hw' => by
    unfold execOp
    simp only [ho, hx, Instr.loadAt, Instr.sureAddr, Sem.run_bind, Sem.run_pure, Result.andThen_ok, run_loadVar_at w ad ty cs d (hS w hw') hu hd hi]⟩
abbrev c44 (x : S44) : List Value := [.int .i64 x.f0, .int .i64 x.f1, .int .i64 x.f2.f0, .int .i64 x.f2.f1, .int .i64 x.f3, .int .i64 x.f4]
theorem row44 {w : World} {A : Option Addr} {n : Nat} {xs : List S44} (h : Kd.C k44 w A n xs) (i : Int) (h0 : 0 ≤ i) (h1 : i < n) : ∃ ad, A = some ad ∧ Row w (ad.add (i.toNat * 6)) (c44 (rd_T44 xs i)) := by
  have hl := h.1
  have hlt : i.toNat < xs.length := by omega
  obtain ⟨ad, e, hc⟩ := h.2.2 (by omega)
  obtain ⟨cs, h2, h3, h4⟩ := hc i.toNat xs[i.toNat] (List.getElem?_eq_getElem hlt)
  refine ⟨ad, e, fun j v hj => ?_⟩
  have hx : rd_T44 xs i = xs[i.toNat] := by
    unfold rd_T44
    simp [hlt]
  rw [hx] at hj
  rw [add_add]
  have h5 := k44_open h3
  subst h5
  exact h4 j v hj
theorem tmod_nn {a b : Int} (h : 0 ≤ a) : a.tmod b = a % b := Int.tmod_eq_emod_of_nonneg h
def LastPost (w : World) (e : Ending) (w' : World) : Prop := ∃ (x : S44) (b : Bool), e = .returned (.tuple #[.agg #[.int .i64 x.f0, .int .i64 x.f1, .int .i64 x.f2.f0, .int .i64 x.f2.f1, .int .i64 x.f3, .int .i64 x.f4], .bool b]) ∧ Below w.heap.size w w'
set_option maxHeartbeats 16000000 in
set_option maxRecDepth 100000 in
theorem last_calls (B g : Nat) (L : Lg) (w : World) (h : LogAt B g L w) (hn : L.recs.length ≤ 1000000) :
    Calls Tryd.prog 51 #[.pointer (some ⟨g, 0, none⟩)] w fun e w' => LastPost w e w' := by
  obtain ⟨v0, ring, f, hG, hge, hO, hr⟩ := h
  have hlr : ring.length ≤ 1000000 := by rw [← hr.length]; exact hn
  have hfl : f = 0 ∨ f < ring.length := hr.lt
  obtain ⟨A0, c0, e0, hc0, hC⟩ := Kd.R_reads hO
  subst e0
  have HG := Aside0.mk hG
  have HC := Aside0.mk hC
  clear hC hO hge hr hn hG
  by_cases k : ring = []
  · have hz0 : ((ring.length : Int) == 0) = true := by rw [k]; rfl
    have hz1 : ((ring.length : Int) = 0) = True := eq_true (by rw [k]; rfl)
    have hz3 : (ring = []) = True := eq_true k
    clear k hfl
    go_enter Tryd.func51, Tryd.ntmps51
    go_wp2_with (first | ((with_reducible refine gate_dst (N := 2) rfl ?_); refine box_event ?hg (N := 2) ?hd (cs := #[.int .i64 0, .int .i64 0, .int .i64 0, .int .i64 0, .int .i64 0, .int .i64 0]) (t := 44) ?hr ?_; (case hd => rfl); (case hg => rfl); (case hr => first | (go_simp; done) | (go_simp; rfl)); intro gx hgx w1 hbox hb; have HX1 := Aside0.mk hbox; have HG1 := Aside0.mk (blk_below HG.out hb); have HC1 := Aside0.mk (Kd.C_below HC.out hb); have HB1 := Aside0.mk hb; have HGX := Aside0.mk (show w.heap.size ≤ gx by rw [hgx]; exact Nat.le_refl _); have c13 := (blk_cell HG1.out 13).trans rfl; clear hb hbox hgx) | (refine wpList_store_row rfl 44 (.tmp 2) (.tmp _) rfl gx #[.int .i64 0, .int .i64 0, .int .i64 0, .int .i64 0, .int .i64 0, .int .i64 0] rfl rfl 44 #[.int .i64 0, .int .i64 0, .int .i64 0, .int .i64 0, .int .i64 0, .int .i64 0] HX1.out (by kernel_rfl) rfl (by simp [Value.oneCell']) ?_))
    refine bodyPost_ret (results_ct rfl _ _ gx 44 #[.int .i64 0, .int .i64 0, .int .i64 0, .int .i64 0, .int .i64 0, .int .i64 0] (0, 0) _ rfl (setRow_heap _ _ _ _ _ _ HX1.out) Tryd.underlying44 rfl (by kernel_rfl)) rfl ⟨z44, false, rfl, ?_⟩
    exact below_setRow HB1.out HGX.out _
  · have hp : 0 < ring.length := List.length_pos_iff.mpr k
    have hz0 : ((ring.length : Int) == 0) = false := beq_false_of_ne (by omega)
    have hz1 : ((ring.length : Int) = 0) = False := eq_false (by omega)
    have hz3 : (ring = []) = False := eq_false k
    obtain ⟨fi, HFI⟩ : ∃ fi : Int, Aside0 (((f : Nat) : Int) = fi) := ⟨_, ⟨rfl⟩⟩
    rw [HFI.out] at HG
    obtain ⟨ix, HIX⟩ : ∃ ix, Aside0 ((wrap64 (wrap64 (fi + (ring.length : Int)) - 1)).tmod (ring.length : Int) = ix) := ⟨_, ⟨rfl⟩⟩
    have hix : 0 ≤ ix ∧ ix < (ring.length : Int) := by
      have h1 := HIX.out
      have h2 := HFI.out
      rw [wrap_id (n := fi + _) (by omega) (by omega), wrap_id (by omega) (by omega), tmod_nn (by omega)] at h1
      rw [← h1]
      exact ⟨Int.emod_nonneg _ (by omega), Int.emod_lt_of_pos _ (by omega)⟩
    have hix_ : (wrap64 (wrap64 (fi + (ring.length : Int)) - 1)).tmod (ring.length : Int) = ix := HIX.out
    have h0t : (0 ≤ ix) = True := eq_true hix.1
    have h1t : (ix < (ring.length : Int)) = True := eq_true hix.2
    obtain ⟨ad, ea, hrow⟩ := row44 HC.out ix hix.1 hix.2
    subst ea
    clear k hp hfl hrow
    obtain ⟨rx, HRX⟩ : ∃ rx, Aside0 (rd_T44 ring ix = rx) := ⟨_, ⟨rfl⟩⟩
    have HXB := Aside0.mk hix
    clear hix
    go_enter Tryd.func51, Tryd.ntmps51
    go_wp2_with ((with_reducible refine gate_dst (N := 2) rfl ?_); refine box_event ?hg (N := 2) ?hd (cs := #[.int .i64 0, .int .i64 0, .int .i64 0, .int .i64 0, .int .i64 0, .int .i64 0]) (t := 44) ?hr ?_; (case hd => rfl); (case hg => rfl); (case hr => first | (go_simp; done) | (go_simp; rfl)); intro gx hgx w1 hbox hb; have HX1 := Aside0.mk hbox; have HG1 := Aside0.mk (blk_below HG.out hb); have HC1 := Aside0.mk (Kd.C_below HC.out hb); have HB1 := Aside0.mk hb; have HGX := Aside0.mk (show w.heap.size ≤ gx by rw [hgx]; exact Nat.le_refl _); have c13 := (blk_cell HG1.out 13).trans rfl; clear hb hbox hgx)
    have c14 := (blk_cell HG1.out 14).trans rfl
    obtain ⟨ad_, ea, hrow⟩ := row44 HC1.out ix HXB.out.1 HXB.out.2
    rw [HRX.out] at hrow
    injection ea with ea
    subst ea
    have HG2 := Aside0.mk (blk_drew HG1.out)
    have HC2 := Aside0.mk (Kd.C_drew HC1.out)
    have HX2 := Aside0.mk (blk_drew HX1.out)
    have HB2 := Aside0.mk (below_drew1 HB1.out)
    refine start_ (n := 25) (S := fun w' => w'.cell? ⟨g, 13, none⟩ = some (.slice (some ad) ring.length c0) ∧ w'.cell? ⟨g, 14, none⟩ = some (.int .i64 fi) ∧ Row w' (ad.add (ix.toNat * 6)) (c44 rx)) (ds := [23]) #[Yn, Yn, Yn, Yn, Yn, Yn, Yn, Yn, Yn, Yn, Yn, Yn, Yn, Yn, Yn, Yn, Yn, Yn, Yn, Yn, Yn, Yn, Yn, Yn, Yn] (by kernel_rfl) rfl rfl ⟨c13, c14, hrow⟩ (fun hHeld => ?_)
    generalize w1.drew = w2 at HG2 HC2 HX2 HB2 hHeld ⊢
    refine pure_ (i := 0) (N := some 11) (v := ?_) (a' := ?_) #[Y, Yn, Yn, Yn, Yn, Yn, Yn, Yn, Yn, Yn, Yn, Yn, Yn, Yn, Yn, Yn, Yn, Yn, Yn, Yn, Yn, Yn, Yn, Yn, Yn] rfl rfl (by kernel_rfl) (fun _ _ _ h => h) (Or.inl ⟨by rfl, ?_⟩) ?_ ?_
    rotate_left
    · intro w'
      go_simp
      with_reducible rfl
    rotate_left
    · simp only [Act.put, List.setIfInBounds_toArray, List.set_cons_zero, List.set_cons_succ, i64_w, i32_w]
      rfl
    refine pure_ (i := 1) (N := some 12) (v := ?_) (a' := ?_) #[Y, Y, Yn, Yn, Yn, Yn, Yn, Yn, Yn, Yn, Yn, Yn, Yn, Yn, Yn, Yn, Yn, Yn, Yn, Yn, Yn, Yn, Yn, Yn, Yn] rfl rfl (by kernel_rfl) (fun _ _ _ h => h) (Or.inl ⟨by rfl, ?_⟩) ?_ ?_
    rotate_left
    · intro w'
      go_simp
      with_reducible rfl
    rotate_left
    · simp only [Act.put, List.setIfInBounds_toArray, List.set_cons_zero, List.set_cons_succ, i64_w, i32_w]
      rfl
    refine pure_ (i := 2) (N := some 13) (v := ?_) (a' := ?_) #[Y, Y, Y, Yn, Yn, Yn, Yn, Yn, Yn, Yn, Yn, Yn, Yn, Yn, Yn, Yn, Yn, Yn, Yn, Yn, Yn, Yn, Yn, Yn, Yn] rfl rfl (by kernel_rfl) (fun _ _ _ h => h) (Or.inl ⟨by rfl, ?_⟩) ?_ ?_
    rotate_left
    · intro w'
      go_simp
      with_reducible rfl
    rotate_left
    · simp only [Act.put, List.setIfInBounds_toArray, List.set_cons_zero, List.set_cons_succ, i64_w, i32_w]
      rfl
    refine pure_ (i := 4) (N := some 15) (v := ?_) (a' := ?_) #[Y, Y, Y, Yn, Y, Yn, Yn, Yn, Yn, Yn, Yn, Yn, Yn, Yn, Yn, Yn, Yn, Yn, Yn, Yn, Yn, Yn, Yn, Yn, Yn] rfl rfl (by kernel_rfl) (fun _ _ _ h => h) (Or.inl ⟨by rfl, ?_⟩) ?_ ?_
    rotate_left
    · intro w'
      go_simp
      with_reducible rfl
    rotate_left
    · simp only [Act.put, List.setIfInBounds_toArray, List.set_cons_zero, List.set_cons_succ, i64_w, i32_w]
      rfl
    refine pure_ (i := 5) (N := some 16) (v := ?_) (a' := ?_) #[Y, Y, Y, Yn, Y, Y, Yn, Yn, Yn, Yn, Yn, Yn, Yn, Yn, Yn, Yn, Yn, Yn, Yn, Yn, Yn, Yn, Yn, Yn, Yn] rfl rfl (by kernel_rfl) (fun _ _ _ h => h) (Or.inl ⟨by rfl, ?_⟩) ?_ ?_
    rotate_left
    · intro w'
      go_simp
      with_reducible rfl
    rotate_left
    · simp only [Act.put, List.setIfInBounds_toArray, List.set_cons_zero, List.set_cons_succ, i64_w, i32_w]
      rfl
    refine pure_ (i := 6) (N := some 17) (v := ?_) (a' := ?_) #[Y, Y, Y, Yn, Y, Y, Y, Yn, Yn, Yn, Yn, Yn, Yn, Yn, Yn, Yn, Yn, Yn, Yn, Yn, Yn, Yn, Yn, Yn, Yn] rfl rfl (by kernel_rfl) (fun _ _ _ h => h) (Or.inl ⟨by rfl, ?_⟩) ?_ ?_
    rotate_left
    · intro w'
      go_simp
      with_reducible rfl
    rotate_left
    · simp only [Act.put, List.setIfInBounds_toArray, List.set_cons_zero, List.set_cons_succ, i64_w, i32_w]
      rfl
    refine pure_ (i := 8) (N := some 19) (v := ?_) (a' := ?_) #[Y, Y, Y, Yn, Y, Y, Y, Yn, Y, Yn, Yn, Yn, Yn, Yn, Yn, Yn, Yn, Yn, Yn, Yn, Yn, Yn, Yn, Yn, Yn] rfl rfl (by kernel_rfl) (fun _ _ _ h => h) (Or.inl ⟨by rfl, ?_⟩) ?_ ?_
    rotate_left
    · intro w'
      go_simp
      with_reducible rfl
    rotate_left
    · simp only [Act.put, List.setIfInBounds_toArray, List.set_cons_zero, List.set_cons_succ, i64_w, i32_w]
      rfl
    refine pure_ (i := 9) (N := some 20) (v := ?_) (a' := ?_) #[Y, Y, Y, Yn, Y, Y, Y, Yn, Y, Y, Yn, Yn, Yn, Yn, Yn, Yn, Yn, Yn, Yn, Yn, Yn, Yn, Yn, Yn, Yn] rfl rfl (by kernel_rfl) (fun _ _ _ h => h) (Or.inl ⟨by rfl, ?_⟩) ?_ ?_
    rotate_left
    · intro w'
      go_simp
      with_reducible rfl
    rotate_left
    · simp only [Act.put, List.setIfInBounds_toArray, List.set_cons_zero, List.set_cons_succ, i64_w, i32_w]
      rfl
    refine pure_ (i := 10) (N := some 21) (v := ?_) (a' := ?_) #[Y, Y, Y, Yn, Y, Y, Y, Yn, Y, Y, Y, Yn, Yn, Yn, Yn, Yn, Yn, Yn, Yn, Yn, Yn, Yn, Yn, Yn, Yn] rfl rfl (by kernel_rfl) (fun _ _ _ h => h) (Or.inl ⟨by rfl, ?_⟩) ?_ ?_
    rotate_left
    · intro w'
      go_simp
      with_reducible rfl
    rotate_left
    · simp only [Act.put, List.setIfInBounds_toArray, List.set_cons_zero, List.set_cons_succ, i64_w, i32_w]
      rfl
    refine pure_ (i := 15) (N := some 26) (v := ?_) (a' := ?_) #[Y, Y, Y, Yn, Y, Y, Y, Yn, Y, Y, Y, Yn, Yn, Yn, Yn, Y, Yn, Yn, Yn, Yn, Yn, Yn, Yn, Yn, Yn] rfl rfl (by kernel_rfl) (fun _ _ _ h => h) (Or.inl ⟨by rfl, ?_⟩) ?_ ?_
    rotate_left
    · intro w'
      go_simp
      with_reducible rfl
    rotate_left
    · simp only [Act.put, List.setIfInBounds_toArray, List.set_cons_zero, List.set_cons_succ, i64_w, i32_w]
      rfl
    refine pure_ (i := 16) (N := some 27) (v := ?_) (a' := ?_) #[Y, Y, Y, Yn, Y, Y, Y, Yn, Y, Y, Y, Yn, Yn, Yn, Yn, Y, Y, Yn, Yn, Yn, Yn, Yn, Yn, Yn, Yn] rfl rfl (by kernel_rfl) (fun _ _ _ h => h) (Or.inl ⟨by rfl, ?_⟩) ?_ ?_
    rotate_left
    · intro w'
      go_simp
      with_reducible rfl
    rotate_left
    · simp only [Act.put, List.setIfInBounds_toArray, List.set_cons_zero, List.set_cons_succ, i64_w, i32_w]
      rfl
    refine pure_ (i := 17) (N := some 28) (v := ?_) (a' := ?_) #[Y, Y, Y, Yn, Y, Y, Y, Yn, Y, Y, Y, Yn, Yn, Yn, Yn, Y, Y, Y, Yn, Yn, Yn, Yn, Yn, Yn, Yn] rfl rfl (by kernel_rfl) (fun _ _ _ h => h) (Or.inl ⟨by rfl, ?_⟩) ?_ ?_
    rotate_left
    · intro w'
      go_simp
      with_reducible rfl
    rotate_left
    · simp only [Act.put, List.setIfInBounds_toArray, List.set_cons_zero, List.set_cons_succ, i64_w, i32_w]
      rfl
    refine take_ (i := 3) (N := some 14) (v := ?_) (a' := ?_) #[Y, Y, Y, Y, Y, Y, Y, Yn, Y, Y, Y, Yn, Yn, Yn, Yn, Y, Y, Y, Yn, Yn, Yn, Yn, Yn, Yn, Yn] rfl rfl (by kernel_rfl) (fun _ _ _ h => h) (Or.inl ⟨by rfl, ?_⟩) hHeld ?_ ?_
    rotate_left
    · rintro w' ⟨s0, s1, s2⟩
      go_simp
      with_reducible rfl
    rotate_left
    · simp only [Act.put, List.setIfInBounds_toArray, List.set_cons_zero, List.set_cons_succ, i64_w, i32_w]
      rfl
    refine take_ (i := 7) (N := some 18) (v := ?_) (a' := ?_) #[Y, Y, Y, Y, Y, Y, Y, Y, Y, Y, Y, Yn, Yn, Yn, Yn, Y, Y, Y, Yn, Yn, Yn, Yn, Yn, Yn, Yn] rfl rfl (by kernel_rfl) (fun _ _ _ h => h) (Or.inl ⟨by rfl, ?_⟩) hHeld ?_ ?_
    rotate_left
    · rintro w' ⟨s0, s1, s2⟩
      go_simp
      with_reducible rfl
    rotate_left
    · simp only [Act.put, List.setIfInBounds_toArray, List.set_cons_zero, List.set_cons_succ, i64_w, i32_w]
      rfl
    refine take_ (i := 11) (N := some 22) (v := ?_) (a' := ?_) #[Y, Y, Y, Y, Y, Y, Y, Y, Y, Y, Y, Y, Yn, Yn, Yn, Y, Y, Y, Yn, Yn, Yn, Yn, Yn, Yn, Yn] rfl rfl (by kernel_rfl) (fun _ _ _ h => h) (Or.inl ⟨by rfl, ?_⟩) hHeld ?_ ?_
    rotate_left
    · rintro w' ⟨s0, s1, s2⟩
      go_simp
      with_reducible rfl
    rotate_left
    · simp only [Act.put, List.setIfInBounds_toArray, List.set_cons_zero, List.set_cons_succ, i64_w, i32_w]
      rfl
    refine pure_ (i := 12) (N := some 23) (v := ?_) (a' := ?_) #[Y, Y, Y, Y, Y, Y, Y, Y, Y, Y, Y, Y, Y, Yn, Yn, Y, Y, Y, Yn, Yn, Yn, Yn, Yn, Yn, Yn] rfl rfl (by kernel_rfl) (fun _ _ _ h => h) (Or.inl ⟨by rfl, ?_⟩) ?_ ?_
    rotate_left
    · intro w'
      go_simp
      with_reducible rfl
    rotate_left
    · simp only [Act.put, List.setIfInBounds_toArray, List.set_cons_zero, List.set_cons_succ, i64_w, i32_w]
      rfl
    refine pure_ (i := 13) (N := some 24) (v := ?_) (a' := ?_) #[Y, Y, Y, Y, Y, Y, Y, Y, Y, Y, Y, Y, Y, Y, Yn, Y, Y, Y, Yn, Yn, Yn, Yn, Yn, Yn, Yn] rfl rfl (by kernel_rfl) (fun _ _ _ h => h) (Or.inl ⟨by rfl, ?_⟩) ?_ ?_
    rotate_left
    · intro w'
      go_simp
      with_reducible rfl
    rotate_left
    · simp only [Act.put, List.setIfInBounds_toArray, List.set_cons_zero, List.set_cons_succ, i64_w, i32_w]
      rfl
    refine pure_ (i := 14) (N := some 25) (v := ?_) (a' := ?_) #[Y, Y, Y, Y, Y, Y, Y, Y, Y, Y, Y, Y, Y, Y, Y, Y, Y, Y, Yn, Yn, Yn, Yn, Yn, Yn, Yn] rfl rfl (by kernel_rfl) (fun _ _ _ h => h) (Or.inl ⟨by rfl, ?_⟩) ?_ ?_
    rotate_left
    · intro w'
      go_simp
      with_reducible rfl
    rotate_left
    · simp only [Act.put, List.setIfInBounds_toArray, List.set_cons_zero, List.set_cons_succ, i64_w, i32_w]
      rfl
    refine take_ (i := 18) (N := some 29) (v := ?_) (a' := ?_) #[Y, Y, Y, Y, Y, Y, Y, Y, Y, Y, Y, Y, Y, Y, Y, Y, Y, Y, Y, Yn, Yn, Yn, Yn, Yn, Yn] rfl rfl (by kernel_rfl) (fun _ _ _ h => h) (Or.inl ⟨by rfl, ?_⟩) hHeld ?_ ?_
    rotate_left
    · rintro w' ⟨s0, s1, s2⟩
      go_simp
      with_reducible rfl
    rotate_left
    · simp only [Act.put, List.setIfInBounds_toArray, List.set_cons_zero, List.set_cons_succ, i64_w, i32_w]
      rfl
    refine pure_ (i := 19) (N := some 30) (v := ?_) (a' := ?_) #[Y, Y, Y, Y, Y, Y, Y, Y, Y, Y, Y, Y, Y, Y, Y, Y, Y, Y, Y, Y, Yn, Yn, Yn, Yn, Yn] rfl rfl (by kernel_rfl) (fun _ _ _ h => h) (Or.inl ⟨by rfl, ?_⟩) ?_ ?_
    rotate_left
    · intro w'
      go_simp
      with_reducible rfl
    rotate_left
    · simp only [Act.put, List.setIfInBounds_toArray, List.set_cons_zero, List.set_cons_succ, i64_w, i32_w]
      rfl
    refine pure_ (i := 20) (N := some 31) (v := ?_) (a' := ?_) #[Y, Y, Y, Y, Y, Y, Y, Y, Y, Y, Y, Y, Y, Y, Y, Y, Y, Y, Y, Y, Y, Yn, Yn, Yn, Yn] rfl rfl (by kernel_rfl) (fun _ _ _ h => h) (Or.inl ⟨by rfl, ?_⟩) ?_ ?_
    rotate_left
    · intro w'
      go_simp
      with_reducible rfl
    rotate_left
    · simp only [Act.put, List.setIfInBounds_toArray, List.set_cons_zero, List.set_cons_succ, i64_w, i32_w]
      rfl
    refine pure_ (i := 21) (N := some 32) (v := ?_) (a' := ?_) #[Y, Y, Y, Y, Y, Y, Y, Y, Y, Y, Y, Y, Y, Y, Y, Y, Y, Y, Y, Y, Y, Y, Yn, Yn, Yn] rfl rfl (by kernel_rfl) (fun _ _ _ h => h) (Or.inl ⟨by rfl, ?_⟩) ?_ ?_
    rotate_left
    · intro w'
      go_simp
      with_reducible rfl
    rotate_left
    · simp only [Act.put, List.setIfInBounds_toArray, List.set_cons_zero, List.set_cons_succ, i64_w, i32_w]
      rfl
    refine take_ (i := 22) (N := some 33) (v := .agg (c44 rx).toArray) (a' := ?_) #[Y, Y, Y, Y, Y, Y, Y, Y, Y, Y, Y, Y, Y, Y, Y, Y, Y, Y, Y, Y, Y, Y, Y, Yn, Yn] rfl rfl (by kernel_rfl) (fun _ _ _ h => h) (yieldsIf_load_at (by rfl) 44 (.tmp 32) rfl (ad.add (ix.toNat * 6)) rfl (c44 rx) _ (fun _ h => h.2.2) Tryd.underlying44 rfl (by kernel_rfl)) hHeld ?_ ?_
    rotate_left
    · simp only [Act.put, List.setIfInBounds_toArray, List.set_cons_zero, List.set_cons_succ, i64_w, i32_w]
      rfl
    refine last_ (i := 23) (N := none) #[Y, Y, Y, Y, Y, Y, Y, Y, Y, Y, Y, Y, Y, Y, Y, Y, Y, Y, Y, Y, Y, Y, Y, Y, Yn] rfl rfl (by kernel_rfl) (by decide) (fun K hK => ?_)
    refine step_store_row (by rfl) rfl 44 (.tmp 2) (.tmp 33) rfl gx #[.int .i64 rx.f0, .int .i64 rx.f1, .int .i64 rx.f2.f0, .int .i64 rx.f2.f1, .int .i64 rx.f3, .int .i64 rx.f4] rfl rfl 44 #[.int .i64 0, .int .i64 0, .int .i64 0, .int .i64 0, .int .i64 0, .int .i64 0] HX2.out (by kernel_rfl) rfl (by simp [Value.oneCell']) ?_
    refine hK.out _ _ ?_
    clear hK K
    refine pure_ (i := 24) (N := some 3) (v := ?_) (a' := ?_) #[Y, Y, Y, Y, Y, Y, Y, Y, Y, Y, Y, Y, Y, Y, Y, Y, Y, Y, Y, Y, Y, Y, Y, Y, Y] rfl rfl (by kernel_rfl) (fun _ _ _ h => h) (Or.inl ⟨by rfl, ?_⟩) ?_ ?_
    rotate_left
    · intro w'
      go_simp
      with_reducible rfl
    rotate_left
    · simp only [Act.put, List.setIfInBounds_toArray, List.set_cons_zero, List.set_cons_succ, i64_w, i32_w]
      rfl
    refine done_ (by kernel_rfl) ?_
    go_wp2
    refine bodyPost_ret (results_ct rfl _ _ gx 44 #[.int .i64 rx.f0, .int .i64 rx.f1, .int .i64 rx.f2.f0, .int .i64 rx.f2.f1, .int .i64 rx.f3, .int .i64 rx.f4] (0, 0) _ rfl (setRow_heap _ _ _ _ _ _ HX2.out) Tryd.underlying44 rfl (by kernel_rfl)) rfl ⟨rx, true, rfl, ?_⟩
    exact below_setRow HB2.out HGX.out _
end Go.Proofs.YtbccjcdmpiolpaaDoor.T
end
section
namespace Go.Proofs.YtbccjcdmpiolpaaDoor.T
open Go.RowKit Go.Proofs.YtbccjcdmpiolpaaDoorW.PrintWords Go.Proofs.YtbccjcdmpiolpaaDoorW.PrintLast Go.Proofs.YtbccjcdmpiolpaaDoorW.PrintMore
set_option linter.unusedVariables false
set_option linter.unusedSimpArgs false
attribute [local go_sem] max2_int min2_int max_two min_two
theorem LogAt.set_reading {B g : Nat} {L : Lg} {w : World} (h : LogAt B g L w) (k n q a : Int) : LogAt B g { L with valid := true, vk := k, vn := n, q := q, ra := a, now := a } ((((((w.setCell ⟨g, 7, none⟩ (.bool true)).setCell ⟨g, 8, none⟩ (.int .i64 k)).setCell ⟨g, 9, none⟩ (.int .i64 n)).setCell ⟨g, 10, none⟩ (.int .i64 q)).setCell ⟨g, 11, none⟩ (.int .i64 a)).setCell ⟨g, 6, none⟩ (.int .i64 a)) := by
  obtain ⟨v, ring, f, hv, hg, ho, hr⟩ := h
  have h1 := blk_put hv 7 (.bool true) rfl
  have o1 := R_setL hv ho 7 (.bool true)
  have h2 := blk_put h1 8 (.int .i64 k) rfl
  have o2 := R_setL h1 o1 8 (.int .i64 k)
  have h3 := blk_put h2 9 (.int .i64 n) rfl
  have o3 := R_setL h2 o2 9 (.int .i64 n)
  have h4 := blk_put h3 10 (.int .i64 q) rfl
  have o4 := R_setL h3 o3 10 (.int .i64 q)
  have h5 := blk_put h4 11 (.int .i64 a) rfl
  have o5 := R_setL h4 o4 11 (.int .i64 a)
  have h6 := blk_put h5 6 (.int .i64 a) rfl
  have o6 := R_setL h5 o5 6 (.int .i64 a)
  exact ⟨v, ring, f, h6, hg, o6, hr⟩
def DiffPost (w : World) (e : Ending) (w' : World) : Prop := ∃ d : Bool, e = .returned (.bool d) ∧ Below w.heap.size w w'
set_option maxHeartbeats 16000000 in
set_option maxRecDepth 100000 in
theorem differs_calls (B g : Nat) (L : Lg) (vk vn vq va : Int) (w : World) (h : LogAt B g L w) (hn : L.recs.length ≤ 1000000) :
    Calls Tryd.prog 27 #[.pointer (some ⟨g, 0, none⟩), .agg #[.int .i64 vk, .int .i64 vn, .int .i64 vq, .int .i64 va]] w fun e w' => DiffPost w e w' := by
  have HI := Aside0.mk h
  have HLN := Aside0.mk hn
  clear h hn
  go_enter Tryd.func27, Tryd.ntmps27
  go_wp2_with (first | ((with_reducible refine gate_dst (N := 3) rfl ?_); refine box_event ?hg (N := 3) ?hd (cs := #[.int .i64 vk, .int .i64 vn, .int .i64 vq, .int .i64 va]) (t := 32) ?hr ?_; (case hd => rfl); (case hg => rfl); (case hr => first | (go_simp; done) | (go_simp; rfl)); intro gx hgx w1 hbox hb; have HX1 := Aside0.mk hbox; have HI1 := Aside0.mk (HI.out.below hb); have HB1 := Aside0.mk hb; clear hb hbox hgx) | (go_at_call 51; (with_reducible refine (last_calls B g L _ HI1.out HLN.out).mono ?_); rintro e w2 ⟨rx, b, rfl, hb⟩; have HX2 := Aside0.mk (blk_below HX1.out hb); have HI2 := Aside0.mk (HI1.out.below hb); have HB2 := Aside0.mk (below_step HB1.out hb); obtain ⟨bb, HBB⟩ : ∃ bb, Aside0 (b = bb) := ⟨_, ⟨rfl⟩⟩; clear hb) | ((with_reducible refine gate_dst (N := 5) rfl ?_); refine box_event ?hg (N := 5) ?hd (cs := #[.int .i64 0, .int .i64 0, .int .i64 0, .int .i64 0, .int .i64 0, .int .i64 0]) (t := 44) ?hr ?_; (case hd => rfl); (case hg => rfl); (case hr => first | (go_simp; done) | (go_simp; rfl)); intro gy hgy w3 hbox hb; have HY3 := Aside0.mk hbox; have HX3 := Aside0.mk (blk_below HX2.out hb); have HI3 := Aside0.mk (HI2.out.below hb); have HBY := Aside0.mk hb; have HB3 := Aside0.mk (below_step HB2.out hb); have HGY := Aside0.mk (show w2.heap.size ≤ gy by rw [hgy]; exact Nat.le_refl _); clear hb hbox hgy) | (refine wpList_store_row rfl 44 (.tmp 5) (.tmp _) rfl gy #[.int .i64 rx.f0, .int .i64 rx.f1, .int .i64 rx.f2.f0, .int .i64 rx.f2.f1, .int .i64 rx.f3, .int .i64 rx.f4] rfl rfl 44 #[.int .i64 0, .int .i64 0, .int .i64 0, .int .i64 0, .int .i64 0, .int .i64 0] HY3.out (by kernel_rfl) rfl (by simp [Value.oneCell']) ?_; have HY4 := Aside0.mk (setRow_heap _ _ _ #[.int .i64 rx.f0, .int .i64 rx.f1, .int .i64 rx.f2.f0, .int .i64 rx.f2.f1, .int .i64 rx.f3, .int .i64 rx.f4] _ _ HY3.out); have hb4 := below_setRow (HBY.out) HGY.out #[.int .i64 rx.f0, .int .i64 rx.f1, .int .i64 rx.f2.f0, .int .i64 rx.f2.f1, .int .i64 rx.f3, .int .i64 rx.f4]; have HX4 := Aside0.mk (blk_below HX2.out hb4); have HI4 := Aside0.mk (HI2.out.below hb4); have HB4 := Aside0.mk (below_step HB2.out hb4); clear hb4; generalize w3.setRow gy #[.int .i64 rx.f0, .int .i64 rx.f1, .int .i64 rx.f2.f0, .int .i64 rx.f2.f1, .int .i64 rx.f3, .int .i64 rx.f4] = w4 at HY4 HX4 HI4 HB4 ⊢; have x0 := (blk_cell HX4.out 0).trans rfl; have x1 := (blk_cell HX4.out 1).trans rfl; have x2 := (blk_cell HX4.out 2).trans rfl; have y2 := (blk_cell HY4.out 2).trans rfl; have y3 := (blk_cell HY4.out 3).trans rfl; have y4 := (blk_cell HY4.out 4).trans rfl; obtain ⟨v4, ring4, f4, hG4, _⟩ := HI4.out; have c4 := (blk_cell hG4 4).trans rfl; clear hG4))
  all_goals (go_ret; exact ⟨_, rfl, HB4.out⟩)
def TickPost (B g : Nat) (w : World) (x : Lg × Int × Int) (e : Ending) (w' : World) : Prop := e = .returned (.tuple #[.int .i64 x.2.1, .int .i64 x.2.2]) ∧ LogAt B g x.1 w' ∧ Below B w w' ∧ KeepL w w' g
def Lg.tick (L : Lg) (at_ : Int) : Lg × Int × Int := if at_ < L.now then (L, 0, 15) else ((L.pass at_).1, (L.pass at_).2, 0)
def Lg.got (L : Lg) (k n q a : Int) : Lg := { L with valid := true, vk := k, vn := n, q := q, ra := a, now := a }
def Lg.obs (L : Lg) (k n q a : Int) (d : Bool) : Lg × Int × Int :=
  if a ≤ L.now then (L, 0, 15) else if (L.way = 1 ∧ a % L.iv = 0) ∨ (L.way = 2 ∧ d = true) then (((L.pass (a - 1)).1.got k n q a).record a, (L.pass (a - 1)).2 + 1, 0) else ((L.pass (a - 1)).1.got k n q a, (L.pass (a - 1)).2, 0)
def ObsPost (B g : Nat) (w : World) (L : Lg) (k n q a : Int) (e : Ending) (w' : World) : Prop := ∃ d, TickPost B g w (L.obs k n q a d) e w'
structure PassOk (L : Lg) (u : Int) : Prop where
  same : SameBut { L with now := u } (L.pass u).1
  tot : (L.pass u).1.total = L.total + (L.pass u).2
  n0 : 0 ≤ (L.pass u).2 ∧ (L.pass u).2 ≤ 10000000000
  len : ((L.pass u).1.recs.length : Int) ≤ L.sz
theorem pass_ok {L : Lg} {u : Int} (h : OkL L) (hu : L.now ≤ u ∧ u ≤ 10000000000) : PassOk L u := by
  by_cases k : L.way = 1 ∧ L.valid = true
  · have hiv := h.iv k.1
    have h0 := h.n0
    have h1 := h.s0
    have hq : 0 ≤ L.now / L.iv := Int.ediv_nonneg h.n0 (by omega)
    have hq2 : L.now / L.iv ≤ u / L.iv := Int.ediv_le_ediv (by omega) hu.1
    have hq3 : u / L.iv ≤ u := Int.ediv_le_self _ (by omega)
    have e : L.pass u = ({ L with now := u, total := L.total + mx 0 (u / L.iv - L.now / L.iv - L.sz) }.run (L.now / L.iv + mx 0 (u / L.iv - L.now / L.iv - L.sz) + 1) (u / L.iv - L.now / L.iv - mx 0 (u / L.iv - L.now / L.iv - L.sz)).toNat, u / L.iv - L.now / L.iv) := if_pos k
    have hm : 0 ≤ mx 0 (u / L.iv - L.now / L.iv - L.sz) ∧ mx 0 (u / L.iv - L.now / L.iv - L.sz) ≤ u / L.iv - L.now / L.iv := by unfold mx; omega
    refine ⟨?_, ?_, ?_, ?_⟩
    · rw [e]
      have := run_same { L with now := u, total := L.total + mx 0 (u / L.iv - L.now / L.iv - L.sz) } (L.now / L.iv + mx 0 (u / L.iv - L.now / L.iv - L.sz) + 1) (u / L.iv - L.now / L.iv - mx 0 (u / L.iv - L.now / L.iv - L.sz)).toNat
      exact ⟨this.nm, this.pt, this.way, this.iv, this.st, this.sz, this.now, this.valid, this.vk, this.vn, this.q, this.ra⟩
    · rw [e]
      show (Lg.run _ _ _).total = L.total + (u / L.iv - L.now / L.iv)
      rw [run_total]
      show L.total + mx 0 (u / L.iv - L.now / L.iv - L.sz) + _ = _
      omega
    · rw [e]
      show 0 ≤ u / L.iv - L.now / L.iv ∧ u / L.iv - L.now / L.iv ≤ 10000000000
      omega
    · rw [e]
      exact run_len { L with now := u, total := L.total + mx 0 (u / L.iv - L.now / L.iv - L.sz) } _ h.len h.s0 _
  · have e : L.pass u = ({ L with now := u }, 0) := if_neg k
    refine ⟨?_, ?_, ?_, ?_⟩
    · rw [e]
      exact SameBut.refl _
    · rw [e]
      show L.total = L.total + 0
      omega
    · rw [e]
      exact ⟨Int.le_refl 0, (by decide : (0 : Int) ≤ 10000000000)⟩
    · rw [e]
      exact h.len
set_option maxHeartbeats 16000000 in
set_option maxRecDepth 100000 in
theorem tick_calls (B g : Nat) (L : Lg) (at_ : Int) (w : World) (h : LogAt B g L w) (hBS : B ≤ w.heap.size) (hok : OkL L) (hu : at_ ≤ 10000000000) :
    Calls Tryd.prog 16 #[.pointer (some ⟨g, 0, none⟩), .int .i64 at_] w fun e w' => TickPost B g w (L.tick at_) e w' := by
  have HI := Aside0.mk h
  have HBS := Aside0.mk hBS
  have HOK := Aside0.mk hok
  obtain ⟨v0, ring, f, hG, hge, _⟩ := h
  have HGE := Aside0.mk hge
  obtain ⟨fi, HFI⟩ : ∃ fi : Int, Aside0 (((f : Nat) : Int) = fi) := ⟨_, ⟨rfl⟩⟩
  rw [HFI.out] at hG
  have c6 := (blk_cell hG 6).trans rfl
  clear hG hge hok hBS
  by_cases k : at_ < L.now
  · have hb : decide (at_ < L.now) = true := decide_eq_true k
    have HT := Aside0.mk (show L.tick at_ = (L, 0, 15) from if_pos k)
    clear k hu
    go_enter Tryd.func16, Tryd.ntmps16
    go_wp2
    go_ret2
    rw [HT.out]
    exact ⟨rfl, HI.out, Below.refl _ _, KeepL.refl _ _⟩
  · have hb : decide (at_ < L.now) = false := decide_eq_false k
    have HT := Aside0.mk (show L.tick at_ = ((L.pass at_).1, (L.pass at_).2, 0) from if_neg k)
    have HU := Aside0.mk (show L.now ≤ at_ ∧ at_ ≤ 10000000000 by omega)
    clear k hu
    obtain ⟨res, HR⟩ : ∃ r, Aside0 (L.pass at_ = r) := ⟨_, ⟨rfl⟩⟩
    go_enter Tryd.func16, Tryd.ntmps16
    go_wp2_with (go_at_call 26; (with_reducible refine (pass_calls B g L at_ _ HI.out HBS.out HOK.out HU.out).mono ?_); rintro e w5 ⟨rfl, hi, hb, hk⟩; have HI5 := Aside0.mk hi; have HB5 := Aside0.mk hb; have HK5 := Aside0.mk hk; clear hi hb hk)
    go_ret2
    rw [HT.out]
    exact ⟨rfl, HI5.out, HB5.out, HK5.out⟩
end Go.Proofs.YtbccjcdmpiolpaaDoor.T
end
section
namespace Go.Proofs.YtbccjcdmpiolpaaDoor.T
open Go.RowKit Go.Proofs.YtbccjcdmpiolpaaDoorW.PrintWords Go.Proofs.YtbccjcdmpiolpaaDoorW.PrintLast Go.Proofs.YtbccjcdmpiolpaaDoorW.PrintMore
set_option linter.unusedVariables false
set_option linter.unusedSimpArgs false
attribute [local go_sem] max2_int min2_int max_two min_two
set_option maxHeartbeats 16000000 in
set_option maxRecDepth 100000 in
theorem obs_calls (B g : Nat) (L0 : Lg) (vk vn vq va : Int) (w : World) (h : LogAt B g L0 w) (hBS : B ≤ w.heap.size) (hok : OkL L0) (hu : va ≤ 10000000000) :
    Calls Tryd.prog 15 #[.pointer (some ⟨g, 0, none⟩), .agg #[.int .i64 vk, .int .i64 vn, .int .i64 vq, .int .i64 va]] w fun e w' => ObsPost B g w L0 vk vn vq va e w' := by
  have HI := Aside0.mk h
  have HBS := Aside0.mk hBS
  have HOK := Aside0.mk hok
  obtain ⟨v0, ring, f, hG, hge, _⟩ := h
  obtain ⟨fi, HFI⟩ : ∃ fi : Int, Aside0 (((f : Nat) : Int) = fi) := ⟨_, ⟨rfl⟩⟩
  rw [HFI.out] at hG
  obtain ⟨now, HNOW⟩ : ∃ now, Aside0 (L0.now = now) := ⟨_, ⟨rfl⟩⟩
  rw [HNOW.out] at hG
  have HG := Aside0.mk hG
  have HGE := Aside0.mk hge
  clear hG hge hok hBS
  by_cases k : va ≤ now
  · have hb : decide (va ≤ now) = true := decide_eq_true k
    have HT := Aside0.mk (show ∀ d, L0.obs vk vn vq va d = (L0, 0, 15) from fun d => if_pos (by rw [HNOW.out]; exact k))
    clear k
    go_enter Tryd.func15, Tryd.ntmps15
    go_wp2_with ((with_reducible refine gate_dst (N := 3) rfl ?_); refine box_event ?hg (N := 3) ?hd (cs := #[.int .i64 vk, .int .i64 vn, .int .i64 vq, .int .i64 va]) (t := 32) ?hr ?_; (case hd => rfl); (case hg => rfl); (case hr => first | (go_simp; done) | (go_simp; rfl)); intro gx hgx w1 hbox hb; have HX1 := Aside0.mk hbox; have HI1 := Aside0.mk (HI.out.below hb); have HG1 := Aside0.mk (blk_below HG.out hb); have HB1 := Aside0.mk (hb.mono HBS.out); have HK1 := Aside0.mk (KeepL.of_below hb g); have HGX := Aside0.mk (show w.heap.size ≤ gx by rw [hgx]; exact Nat.le_refl _); have HNX := Aside0.mk (show gx ≠ g by have := HI.out.lt; have := HGX.out; omega); clear hb hbox hgx)
    have x3 := (blk_cell HX1.out 3).trans rfl
    have c6 := (blk_cell HG1.out 6).trans rfl
    have HI2 := Aside0.mk HI1.out.drew
    have HG2 := Aside0.mk (blk_drew HG1.out)
    have HX2 := Aside0.mk (blk_drew HX1.out)
    have HB2 := Aside0.mk (below_drew1 HB1.out)
    have HK2 := Aside0.mk HK1.out.drew
    refine start_ (n := 7) (S := fun w' => w'.cell? ⟨gx, 3, none⟩ = some (.int .i64 va) ∧ w'.cell? ⟨g, 6, none⟩ = some (.int .i64 now)) (ds := []) #[Yn, Yn, Yn, Yn, Yn, Yn, Yn] (by kernel_rfl) rfl rfl ⟨x3, c6⟩ (fun hHeld => ?_)
    generalize w1.drew = w2 at HI2 HG2 HX2 HB2 HK2 hHeld ⊢
    refine pure_ (i := 0) (N := some 7) (v := ?_) (a' := ?_) #[Y, Yn, Yn, Yn, Yn, Yn, Yn] rfl rfl (by kernel_rfl) (fun _ _ _ h => h) (Or.inl ⟨by rfl, ?_⟩) ?_ ?_
    rotate_left
    · intro w'
      go_simp
      with_reducible rfl
    rotate_left
    · simp only [Act.put, List.setIfInBounds_toArray, List.set_cons_zero, List.set_cons_succ, i64_w, i32_w]
      rfl
    refine pure_ (i := 2) (N := some 9) (v := ?_) (a' := ?_) #[Y, Yn, Y, Yn, Yn, Yn, Yn] rfl rfl (by kernel_rfl) (fun _ _ _ h => h) (Or.inl ⟨by rfl, ?_⟩) ?_ ?_
    rotate_left
    · intro w'
      go_simp
      with_reducible rfl
    rotate_left
    · simp only [Act.put, List.setIfInBounds_toArray, List.set_cons_zero, List.set_cons_succ, i64_w, i32_w]
      rfl
    refine pure_ (i := 3) (N := some 10) (v := ?_) (a' := ?_) #[Y, Yn, Y, Y, Yn, Yn, Yn] rfl rfl (by kernel_rfl) (fun _ _ _ h => h) (Or.inl ⟨by rfl, ?_⟩) ?_ ?_
    rotate_left
    · intro w'
      go_simp
      with_reducible rfl
    rotate_left
    · simp only [Act.put, List.setIfInBounds_toArray, List.set_cons_zero, List.set_cons_succ, i64_w, i32_w]
      rfl
    refine pure_ (i := 4) (N := some 11) (v := ?_) (a' := ?_) #[Y, Yn, Y, Y, Y, Yn, Yn] rfl rfl (by kernel_rfl) (fun _ _ _ h => h) (Or.inl ⟨by rfl, ?_⟩) ?_ ?_
    rotate_left
    · intro w'
      go_simp
      with_reducible rfl
    rotate_left
    · simp only [Act.put, List.setIfInBounds_toArray, List.set_cons_zero, List.set_cons_succ, i64_w, i32_w]
      rfl
    refine take_ (i := 1) (N := some 8) (v := ?_) (a' := ?_) #[Y, Y, Y, Y, Y, Yn, Yn] rfl rfl (by kernel_rfl) (fun _ _ _ h => h) (Or.inl ⟨by rfl, ?_⟩) hHeld ?_ ?_
    rotate_left
    · rintro w' ⟨s0, s1⟩
      go_simp
      with_reducible rfl
    rotate_left
    · simp only [Act.put, List.setIfInBounds_toArray, List.set_cons_zero, List.set_cons_succ, i64_w, i32_w]
      rfl
    refine take_ (i := 5) (N := some 12) (v := ?_) (a' := ?_) #[Y, Y, Y, Y, Y, Y, Yn] rfl rfl (by kernel_rfl) (fun _ _ _ h => h) (Or.inl ⟨by rfl, ?_⟩) hHeld ?_ ?_
    rotate_left
    · rintro w' ⟨s0, s1⟩
      go_simp
      with_reducible rfl
    rotate_left
    · simp only [Act.put, List.setIfInBounds_toArray, List.set_cons_zero, List.set_cons_succ, i64_w, i32_w]
      rfl
    refine pure_ (i := 6) (N := some 13) (v := ?_) (a' := ?_) #[Y, Y, Y, Y, Y, Y, Y] rfl rfl (by kernel_rfl) (fun _ _ _ h => h) (Or.inl ⟨by rfl, ?_⟩) ?_ ?_
    rotate_left
    · intro w'
      go_simp
      with_reducible rfl
    rotate_left
    · simp only [Act.put, List.setIfInBounds_toArray, List.set_cons_zero, List.set_cons_succ, i64_w, i32_w]
      rfl
    refine done_ (by kernel_rfl) ?_
    go_wp2
    go_ret2
    exact ⟨false, by rw [HT.out]; exact ⟨rfl, HI2.out, HB2.out, HK2.out⟩⟩
  · have hb : decide (va ≤ now) = false := decide_eq_false k
    have HU := Aside0.mk (show L0.now ≤ va - 1 ∧ va - 1 ≤ 10000000000 by rw [HNOW.out]; omega)
    have HPO := Aside0.mk (pass_ok HOK.out HU.out)
    obtain ⟨res, HRES0⟩ : ∃ r, Aside0 (L0.pass (va - 1) = r) := ⟨_, ⟨rfl⟩⟩
    obtain ⟨M1, n1⟩ := res
    have HRES := Aside0.mk (show L0.pass (va - 1) = (M1, n1) from HRES0.out)
    clear HRES0
    have HSAME := Aside0.mk (show SameBut { L0 with now := va - 1 } M1 by have := HPO.out.same; rw [HRES.out] at this; exact this)
    have HTOT1 := Aside0.mk (show M1.total = L0.total + n1 by have := HPO.out.tot; rw [HRES.out] at this; exact this)
    have HN1 := Aside0.mk (show 0 ≤ n1 ∧ n1 ≤ 10000000000 by have := HPO.out.n0; rw [HRES.out] at this; exact this)
    have HLEN1 := Aside0.mk (show (M1.recs.length : Int) ≤ L0.sz by have := HPO.out.len; rw [HRES.out] at this; exact this)
    have HTOT := Aside0.mk (show 0 ≤ (M1.got vk vn vq va).total ∧ (M1.got vk vn vq va).total ≤ 1000000000000000 by show 0 ≤ M1.total ∧ M1.total ≤ _; rw [HTOT1.out]; have h1 := HN1.out; have h2 := HOK.out.t0; have h3 := HOK.out.t1; omega)
    have HSZ := Aside0.mk (show 1 ≤ (M1.got vk vn vq va).sz by show 1 ≤ M1.sz; rw [HSAME.out.sz]; exact HOK.out.s0)
    have HLEN := Aside0.mk (show (M1.got vk vn vq va).recs.length ≤ 1000000 by show M1.recs.length ≤ _; have h1 := HLEN1.out; have h2 := HOK.out.s1; omega)
    have hva : wrap64 (va - 1) = va - 1 := wrap_id (by have := HU.out; have := HOK.out.n0; omega) (by have := HU.out; omega)
    have hn1 : wrap64 (n1 + 1) = n1 + 1 := wrap_id (by have := HN1.out; omega) (by have := HN1.out; omega)
    have HVA := Aside0.mk (show 0 ≤ va by have h1 := HU.out; have h2 := HOK.out.n0; omega)
    clear k hu
    go_enter Tryd.func15, Tryd.ntmps15
    go_wp2_with ((with_reducible refine gate_dst (N := 3) rfl ?_); refine box_event ?hg (N := 3) ?hd (cs := #[.int .i64 vk, .int .i64 vn, .int .i64 vq, .int .i64 va]) (t := 32) ?hr ?_; (case hd => rfl); (case hg => rfl); (case hr => first | (go_simp; done) | (go_simp; rfl)); intro gx hgx w1 hbox hb; have HX1 := Aside0.mk hbox; have HI1 := Aside0.mk (HI.out.below hb); have HG1 := Aside0.mk (blk_below HG.out hb); have HB1 := Aside0.mk (hb.mono HBS.out); have HK1 := Aside0.mk (KeepL.of_below hb g); have HGX := Aside0.mk (show w.heap.size ≤ gx by rw [hgx]; exact Nat.le_refl _); have HNX := Aside0.mk (show gx ≠ g by have := HI.out.lt; have := HGX.out; omega); clear hb hbox hgx)
    have x3 := (blk_cell HX1.out 3).trans rfl
    have c6 := (blk_cell HG1.out 6).trans rfl
    have HI2 := Aside0.mk HI1.out.drew
    have HG2 := Aside0.mk (blk_drew HG1.out)
    have HX2 := Aside0.mk (blk_drew HX1.out)
    have HB2 := Aside0.mk (below_drew1 HB1.out)
    have HK2 := Aside0.mk HK1.out.drew
    refine start_ (n := 7) (S := fun w' => w'.cell? ⟨gx, 3, none⟩ = some (.int .i64 va) ∧ w'.cell? ⟨g, 6, none⟩ = some (.int .i64 now)) (ds := []) #[Yn, Yn, Yn, Yn, Yn, Yn, Yn] (by kernel_rfl) rfl rfl ⟨x3, c6⟩ (fun hHeld => ?_)
    generalize w1.drew = w2 at HI2 HG2 HX2 HB2 HK2 hHeld ⊢
    refine pure_ (i := 0) (N := some 7) (v := ?_) (a' := ?_) #[Y, Yn, Yn, Yn, Yn, Yn, Yn] rfl rfl (by kernel_rfl) (fun _ _ _ h => h) (Or.inl ⟨by rfl, ?_⟩) ?_ ?_
    rotate_left
    · intro w'
      go_simp
      with_reducible rfl
    rotate_left
    · simp only [Act.put, List.setIfInBounds_toArray, List.set_cons_zero, List.set_cons_succ, i64_w, i32_w]
      rfl
    refine pure_ (i := 2) (N := some 9) (v := ?_) (a' := ?_) #[Y, Yn, Y, Yn, Yn, Yn, Yn] rfl rfl (by kernel_rfl) (fun _ _ _ h => h) (Or.inl ⟨by rfl, ?_⟩) ?_ ?_
    rotate_left
    · intro w'
      go_simp
      with_reducible rfl
    rotate_left
    · simp only [Act.put, List.setIfInBounds_toArray, List.set_cons_zero, List.set_cons_succ, i64_w, i32_w]
      rfl
    refine pure_ (i := 3) (N := some 10) (v := ?_) (a' := ?_) #[Y, Yn, Y, Y, Yn, Yn, Yn] rfl rfl (by kernel_rfl) (fun _ _ _ h => h) (Or.inl ⟨by rfl, ?_⟩) ?_ ?_
    rotate_left
    · intro w'
      go_simp
      with_reducible rfl
    rotate_left
    · simp only [Act.put, List.setIfInBounds_toArray, List.set_cons_zero, List.set_cons_succ, i64_w, i32_w]
      rfl
    refine pure_ (i := 4) (N := some 11) (v := ?_) (a' := ?_) #[Y, Yn, Y, Y, Y, Yn, Yn] rfl rfl (by kernel_rfl) (fun _ _ _ h => h) (Or.inl ⟨by rfl, ?_⟩) ?_ ?_
    rotate_left
    · intro w'
      go_simp
      with_reducible rfl
    rotate_left
    · simp only [Act.put, List.setIfInBounds_toArray, List.set_cons_zero, List.set_cons_succ, i64_w, i32_w]
      rfl
    refine take_ (i := 1) (N := some 8) (v := ?_) (a' := ?_) #[Y, Y, Y, Y, Y, Yn, Yn] rfl rfl (by kernel_rfl) (fun _ _ _ h => h) (Or.inl ⟨by rfl, ?_⟩) hHeld ?_ ?_
    rotate_left
    · rintro w' ⟨s0, s1⟩
      go_simp
      with_reducible rfl
    rotate_left
    · simp only [Act.put, List.setIfInBounds_toArray, List.set_cons_zero, List.set_cons_succ, i64_w, i32_w]
      rfl
    refine take_ (i := 5) (N := some 12) (v := ?_) (a' := ?_) #[Y, Y, Y, Y, Y, Y, Yn] rfl rfl (by kernel_rfl) (fun _ _ _ h => h) (Or.inl ⟨by rfl, ?_⟩) hHeld ?_ ?_
    rotate_left
    · rintro w' ⟨s0, s1⟩
      go_simp
      with_reducible rfl
    rotate_left
    · simp only [Act.put, List.setIfInBounds_toArray, List.set_cons_zero, List.set_cons_succ, i64_w, i32_w]
      rfl
    refine pure_ (i := 6) (N := some 13) (v := ?_) (a' := ?_) #[Y, Y, Y, Y, Y, Y, Y] rfl rfl (by kernel_rfl) (fun _ _ _ h => h) (Or.inl ⟨by rfl, ?_⟩) ?_ ?_
    rotate_left
    · intro w'
      go_simp
      with_reducible rfl
    rotate_left
    · simp only [Act.put, List.setIfInBounds_toArray, List.set_cons_zero, List.set_cons_succ, i64_w, i32_w]
      rfl
    refine done_ (by kernel_rfl) ?_
    clear x3 c6 hHeld
    have x3 := (blk_cell HX2.out 3).trans rfl
    go_wp2_with (go_at_call 26; (with_reducible refine (pass_calls B g L0 (va - 1) _ HI2.out (Nat.le_trans HBS.out HK2.out.size) HOK.out HU.out).mono ?_); rintro e w3 ⟨he, hi, hb, hk⟩; rw [HRES.out] at he hi; replace he : e = .returned (.int .i64 n1) := he; subst he; replace hi : LogAt B g M1 w3 := hi; have HI3 := Aside0.mk hi; have HB3 := Aside0.mk (HB2.out.trans hb); have HK3 := Aside0.mk (HK2.out.trans hk); have HX3 := Aside0.mk (hk.keep _ _ _ HX2.out (by decide) HNX.out); clear hi hb hk)
    clear x3
    obtain ⟨v3, r3, f3, hG3, _⟩ := HI3.out
    have HG3 := Aside0.mk hG3
    clear hG3
    have x0 := (blk_cell HX3.out 0).trans rfl
    have x1 := (blk_cell HX3.out 1).trans rfl
    have x2 := (blk_cell HX3.out 2).trans rfl
    have x3 := (blk_cell HX3.out 3).trans rfl
    have f7 := blk_frozen HG3.out 7
    have c7 := (blk_cell HG3.out 7).trans rfl
    have HI4 := Aside0.mk HI3.out.drew
    have HX4 := Aside0.mk (blk_drew HX3.out)
    have HB4 := Aside0.mk (below_drew1 HB3.out)
    have HK4 := Aside0.mk HK3.out.drew
    have HG4 := Aside0.mk (blk_drew HG3.out)
    refine start_ (n := 15) (S := fun w' => w'.cell? ⟨gx, 0, none⟩ = some (.int .i64 vk) ∧ w'.cell? ⟨gx, 1, none⟩ = some (.int .i64 vn) ∧ w'.cell? ⟨gx, 2, none⟩ = some (.int .i64 vq) ∧ w'.cell? ⟨gx, 3, none⟩ = some (.int .i64 va)) (ds := [14]) #[Yn, Yn, Yn, Yn, Yn, Yn, Yn, Yn, Yn, Yn, Yn, Yn, Yn, Yn, Yn] (by kernel_rfl) rfl rfl ⟨x0, x1, x2, x3⟩ (fun hHeld => ?_)
    generalize w3.drew = w4 at HI4 HX4 HB4 HK4 HG4 hHeld ⊢
    refine pure_ (i := 0) (N := some 19) (v := ?_) (a' := ?_) #[Y, Yn, Yn, Yn, Yn, Yn, Yn, Yn, Yn, Yn, Yn, Yn, Yn, Yn, Yn] rfl rfl (by kernel_rfl) (fun _ _ _ h => h) (Or.inl ⟨by rfl, ?_⟩) ?_ ?_
    rotate_left
    · intro w'
      go_simp
      with_reducible rfl
    rotate_left
    · simp only [Act.put, List.setIfInBounds_toArray, List.set_cons_zero, List.set_cons_succ, i64_w, i32_w]
      rfl
    refine pure_ (i := 1) (N := some 20) (v := ?_) (a' := ?_) #[Y, Y, Yn, Yn, Yn, Yn, Yn, Yn, Yn, Yn, Yn, Yn, Yn, Yn, Yn] rfl rfl (by kernel_rfl) (fun _ _ _ h => h) (Or.inl ⟨by rfl, ?_⟩) ?_ ?_
    rotate_left
    · intro w'
      go_simp
      with_reducible rfl
    rotate_left
    · simp only [Act.put, List.setIfInBounds_toArray, List.set_cons_zero, List.set_cons_succ, i64_w, i32_w]
      rfl
    refine pure_ (i := 2) (N := some 21) (v := ?_) (a' := ?_) #[Y, Y, Y, Yn, Yn, Yn, Yn, Yn, Yn, Yn, Yn, Yn, Yn, Yn, Yn] rfl rfl (by kernel_rfl) (fun _ _ _ h => h) (Or.inl ⟨by rfl, ?_⟩) ?_ ?_
    rotate_left
    · intro w'
      go_simp
      with_reducible rfl
    rotate_left
    · simp only [Act.put, List.setIfInBounds_toArray, List.set_cons_zero, List.set_cons_succ, i64_w, i32_w]
      rfl
    refine pure_ (i := 4) (N := some 23) (v := ?_) (a' := ?_) #[Y, Y, Y, Yn, Y, Yn, Yn, Yn, Yn, Yn, Yn, Yn, Yn, Yn, Yn] rfl rfl (by kernel_rfl) (fun _ _ _ h => h) (Or.inl ⟨by rfl, ?_⟩) ?_ ?_
    rotate_left
    · intro w'
      go_simp
      with_reducible rfl
    rotate_left
    · simp only [Act.put, List.setIfInBounds_toArray, List.set_cons_zero, List.set_cons_succ, i64_w, i32_w]
      rfl
    refine pure_ (i := 6) (N := some 25) (v := ?_) (a' := ?_) #[Y, Y, Y, Yn, Y, Yn, Y, Yn, Yn, Yn, Yn, Yn, Yn, Yn, Yn] rfl rfl (by kernel_rfl) (fun _ _ _ h => h) (Or.inl ⟨by rfl, ?_⟩) ?_ ?_
    rotate_left
    · intro w'
      go_simp
      with_reducible rfl
    rotate_left
    · simp only [Act.put, List.setIfInBounds_toArray, List.set_cons_zero, List.set_cons_succ, i64_w, i32_w]
      rfl
    refine pure_ (i := 7) (N := some 26) (v := ?_) (a' := ?_) #[Y, Y, Y, Yn, Y, Yn, Y, Y, Yn, Yn, Yn, Yn, Yn, Yn, Yn] rfl rfl (by kernel_rfl) (fun _ _ _ h => h) (Or.inl ⟨by rfl, ?_⟩) ?_ ?_
    rotate_left
    · intro w'
      go_simp
      with_reducible rfl
    rotate_left
    · simp only [Act.put, List.setIfInBounds_toArray, List.set_cons_zero, List.set_cons_succ, i64_w, i32_w]
      rfl
    refine take_ (i := 3) (N := some 22) (v := ?_) (a' := ?_) #[Y, Y, Y, Y, Y, Yn, Y, Y, Yn, Yn, Yn, Yn, Yn, Yn, Yn] rfl rfl (by kernel_rfl) (fun _ _ _ h => h) (Or.inl ⟨by rfl, ?_⟩) hHeld ?_ ?_
    rotate_left
    · rintro w' ⟨s0, s1, s2, s3⟩
      go_simp
      with_reducible rfl
    rotate_left
    · simp only [Act.put, List.setIfInBounds_toArray, List.set_cons_zero, List.set_cons_succ, i64_w, i32_w]
      rfl
    refine take_ (i := 5) (N := some 24) (v := ?_) (a' := ?_) #[Y, Y, Y, Y, Y, Y, Y, Y, Yn, Yn, Yn, Yn, Yn, Yn, Yn] rfl rfl (by kernel_rfl) (fun _ _ _ h => h) (Or.inl ⟨by rfl, ?_⟩) hHeld ?_ ?_
    rotate_left
    · rintro w' ⟨s0, s1, s2, s3⟩
      go_simp
      with_reducible rfl
    rotate_left
    · simp only [Act.put, List.setIfInBounds_toArray, List.set_cons_zero, List.set_cons_succ, i64_w, i32_w]
      rfl
    have f7 := blk_frozen HG4.out 7
    have c7 := (blk_cell HG4.out 7).trans rfl
    have HP1 := Aside0.mk (blk_put HG4.out 7 (.bool true) rfl)
    have HX5 := Aside0.mk (blk_far (blk_far (blk_far (blk_far (blk_far HX4.out (p := ⟨g, 7, none⟩) HNX.out (.bool true)) (p := ⟨g, 8, none⟩) HNX.out (.int .i64 vk)) (p := ⟨g, 9, none⟩) HNX.out (.int .i64 vn)) (p := ⟨g, 10, none⟩) HNX.out (.int .i64 vq)) (p := ⟨g, 11, none⟩) HNX.out (.int .i64 va))
    have HP5 := Aside0.mk (blk_put (blk_put (blk_put (blk_put HP1.out 8 (.int .i64 vk) rfl) 9 (.int .i64 vn) rfl) 10 (.int .i64 vq) rfl) 11 (.int .i64 va) rfl)
    have f6 := blk_frozen HP5.out 6
    have c6 := (blk_cell HP5.out 6).trans rfl
    refine one_ (i := 8) (N := none) #[Y, Y, Y, Y, Y, Y, Y, Y, Y, Yn, Yn, Yn, Yn, Yn, Yn] rfl rfl (by kernel_rfl) (by decide) (fun K hK => ?_)
    refine skip_ (w1 := ?_) (by rfl) rfl ?_ ?_
    rotate_left
    · go_simp
      rfl
    refine hK.out _ _ ⟨(blk_cell (blk_far HX4.out (p := ⟨g, 7, none⟩) HNX.out (.bool true)) 0).trans rfl, (blk_cell (blk_far HX4.out (p := ⟨g, 7, none⟩) HNX.out (.bool true)) 1).trans rfl, (blk_cell (blk_far HX4.out (p := ⟨g, 7, none⟩) HNX.out (.bool true)) 2).trans rfl, (blk_cell (blk_far HX4.out (p := ⟨g, 7, none⟩) HNX.out (.bool true)) 3).trans rfl⟩ (fun hHeld => ?_)
    clear hK K
    refine pure_ (i := 9) (N := some 27) (v := ?_) (a' := ?_) #[Y, Y, Y, Y, Y, Y, Y, Y, Y, Y, Yn, Yn, Yn, Yn, Yn] rfl rfl (by kernel_rfl) (fun _ _ _ h => h) (Or.inl ⟨by rfl, ?_⟩) ?_ ?_
    rotate_left
    · intro w'
      go_simp
      with_reducible rfl
    rotate_left
    · simp only [Act.put, List.setIfInBounds_toArray, List.set_cons_zero, List.set_cons_succ, i64_w, i32_w]
      rfl
    refine pure_ (i := 10) (N := some 28) (v := ?_) (a' := ?_) #[Y, Y, Y, Y, Y, Y, Y, Y, Y, Y, Y, Yn, Yn, Yn, Yn] rfl rfl (by kernel_rfl) (fun _ _ _ h => h) (Or.inl ⟨by rfl, ?_⟩) ?_ ?_
    rotate_left
    · intro w'
      go_simp
      with_reducible rfl
    rotate_left
    · simp only [Act.put, List.setIfInBounds_toArray, List.set_cons_zero, List.set_cons_succ, i64_w, i32_w]
      rfl
    refine one_ (i := 11) (N := none) #[Y, Y, Y, Y, Y, Y, Y, Y, Y, Y, Y, Y, Yn, Yn, Yn] rfl rfl (by kernel_rfl) (by decide) (fun K hK => ?_)
    refine step_store_mid (by rfl) rfl 32 (.tmp 28) (.tmp 22) rfl g 8 #[.int .i64 vk, .int .i64 vn, .int .i64 vq, .int .i64 va] rfl rfl (there_blk HP1.out 8 4 (by show 8 + 4 ≤ 15; decide)) (by kernel_rfl) (by simp [Value.oneCell']) ?_
    show K _ ((((( w4.setCell ⟨g, 7, none⟩ (.bool true)).setCell ⟨g, 8, none⟩ (.int .i64 vk)).setCell ⟨g, 9, none⟩ (.int .i64 vn)).setCell ⟨g, 10, none⟩ (.int .i64 vq)).setCell ⟨g, 11, none⟩ (.int .i64 va))
    refine hK.out _ _ ⟨(blk_cell HX5.out 0).trans rfl, (blk_cell HX5.out 1).trans rfl, (blk_cell HX5.out 2).trans rfl, (blk_cell HX5.out 3).trans rfl⟩ (fun hHeld => ?_)
    clear hK K
    refine pure_ (i := 12) (N := some 29) (v := ?_) (a' := ?_) #[Y, Y, Y, Y, Y, Y, Y, Y, Y, Y, Y, Y, Y, Yn, Yn] rfl rfl (by kernel_rfl) (fun _ _ _ h => h) (Or.inl ⟨by rfl, ?_⟩) ?_ ?_
    rotate_left
    · intro w'
      go_simp
      with_reducible rfl
    rotate_left
    · simp only [Act.put, List.setIfInBounds_toArray, List.set_cons_zero, List.set_cons_succ, i64_w, i32_w]
      rfl
    refine pure_ (i := 13) (N := some 30) (v := ?_) (a' := ?_) #[Y, Y, Y, Y, Y, Y, Y, Y, Y, Y, Y, Y, Y, Y, Yn] rfl rfl (by kernel_rfl) (fun _ _ _ h => h) (Or.inl ⟨by rfl, ?_⟩) ?_ ?_
    rotate_left
    · intro w'
      go_simp
      with_reducible rfl
    rotate_left
    · simp only [Act.put, List.setIfInBounds_toArray, List.set_cons_zero, List.set_cons_succ, i64_w, i32_w]
      rfl
    refine last_ (i := 14) (N := none) #[Y, Y, Y, Y, Y, Y, Y, Y, Y, Y, Y, Y, Y, Y, Y] rfl rfl (by kernel_rfl) (by decide) (fun K hK => ?_)
    refine skip_ (w1 := ?_) (by rfl) rfl ?_ ?_
    rotate_left
    · go_simp
      rfl
    refine hK.out _ _ ?_
    clear hK K
    refine done_ (by kernel_rfl) ?_
    have HI6 := Aside0.mk (show LogAt B g (M1.got vk vn vq va) ((((((w4.setCell ⟨g, 7, none⟩ (.bool true)).setCell ⟨g, 8, none⟩ (.int .i64 vk)).setCell ⟨g, 9, none⟩ (.int .i64 vn)).setCell ⟨g, 10, none⟩ (.int .i64 vq)).setCell ⟨g, 11, none⟩ (.int .i64 va)).setCell ⟨g, 6, none⟩ (.int .i64 va)) from HI4.out.set_reading vk vn vq va)
    have HX6 := Aside0.mk (blk_far HX5.out (p := ⟨g, 6, none⟩) HNX.out (.int .i64 va))
    have HB6 := Aside0.mk ((((((HB4.out.setCell (p := ⟨g, 7, none⟩) HGE.out (.bool true)).setCell (p := ⟨g, 8, none⟩) HGE.out (.int .i64 vk)).setCell (p := ⟨g, 9, none⟩) HGE.out (.int .i64 vn)).setCell (p := ⟨g, 10, none⟩) HGE.out (.int .i64 vq)).setCell (p := ⟨g, 11, none⟩) HGE.out (.int .i64 va)).setCell (p := ⟨g, 6, none⟩) HGE.out (.int .i64 va))
    have HK6 := Aside0.mk ((((((HK4.out.set 7 (.bool true)).set 8 (.int .i64 vk)).set 9 (.int .i64 vn)).set 10 (.int .i64 vq)).set 11 (.int .i64 va)).set 6 (.int .i64 va))
    generalize (((((w4.setCell ⟨g, 7, none⟩ (.bool true)).setCell ⟨g, 8, none⟩ (.int .i64 vk)).setCell ⟨g, 9, none⟩ (.int .i64 vn)).setCell ⟨g, 10, none⟩ (.int .i64 vq)).setCell ⟨g, 11, none⟩ (.int .i64 va)).setCell ⟨g, 6, none⟩ (.int .i64 va) = w6 at HI6 HX6 HB6 HK6 ⊢
    clear x0 x1 x2 x3 f7 c7 f6 c6 hHeld HP1 HP5 HX5 HG4 HG3 HI3
    obtain ⟨v6, r6, f6, hG6, _⟩ := HI6.out
    obtain ⟨way, HWAY⟩ : ∃ x, Aside0 ((M1.got vk vn vq va).way = x) := ⟨_, ⟨rfl⟩⟩
    obtain ⟨iv, HIV⟩ : ∃ x, Aside0 ((M1.got vk vn vq va).iv = x) := ⟨_, ⟨rfl⟩⟩
    rw [HWAY.out, HIV.out] at hG6
    have HWE := Aside0.mk (show L0.way = way by rw [← HWAY.out]; exact HSAME.out.way.symm)
    have HIE := Aside0.mk (show L0.iv = iv by rw [← HIV.out]; exact HSAME.out.iv.symm)
    have HG6 := Aside0.mk hG6
    clear hG6
    have c2 := (blk_cell HG6.out 2).trans rfl
    have c3 := (blk_cell HG6.out 3).trans rfl
    have x0 := (blk_cell HX6.out 0).trans rfl
    have x1 := (blk_cell HX6.out 1).trans rfl
    have x2 := (blk_cell HX6.out 2).trans rfl
    have x3 := (blk_cell HX6.out 3).trans rfl
    go_wp2
    by_cases k1 : way = 1
    · have k1b : (way == 1) = true := by rw [k1]; rfl
      have HIVP := Aside0.mk (show 1 ≤ iv by rw [← HIE.out]; exact (HOK.out.iv (by rw [HWE.out]; exact k1)).1)
      have hz1 : (iv = 0) = False := eq_false (by have := HIVP.out; omega)
      have hz2 : (iv == 0) = false := beq_false_of_ne (by have := HIVP.out; omega)
      obtain ⟨rm, HRM⟩ : ∃ rm, Aside0 (va.tmod iv = rm) := ⟨_, ⟨rfl⟩⟩
      have hrm : va.tmod iv = rm := HRM.out
      have HRM2 := Aside0.mk (show va % iv = rm by rw [← HRM.out, tmod_nn HVA.out])
      by_cases k2 : rm = 0
      · have k2b : (rm == 0) = true := by rw [k2]; rfl
        have k2c : (rm = 0) = True := eq_true k2
        have HOB := Aside0.mk (show ∀ d : Bool, L0.obs vk vn vq va d = ((M1.got vk vn vq va).record va, n1 + 1, 0) from fun d => by unfold Lg.obs; rw [if_neg (by have := HU.out; omega), HRES.out, if_pos (Or.inl ⟨by rw [HWE.out]; exact k1, by rw [HIE.out, HRM2.out]; exact k2⟩)])
        clear k1 k2
        have HI7 := Aside0.mk HI6.out.drew
        have HX7 := Aside0.mk (blk_drew HX6.out)
        have HB7 := Aside0.mk (below_drew1 HB6.out)
        have HK7 := Aside0.mk HK6.out.drew
        have HG7 := Aside0.mk (blk_drew HG6.out)
        refine start_ (n := 30) (S := fun w' => w'.cell? ⟨g, 2, none⟩ = some (.int .i64 way) ∧ w'.cell? ⟨g, 3, none⟩ = some (.int .i64 iv) ∧ w'.cell? ⟨gx, 0, none⟩ = some (.int .i64 vk) ∧ w'.cell? ⟨gx, 1, none⟩ = some (.int .i64 vn) ∧ w'.cell? ⟨gx, 2, none⟩ = some (.int .i64 vq) ∧ w'.cell? ⟨gx, 3, none⟩ = some (.int .i64 va)) (ds := []) #[Yn, Yn, Yn, Yn, Yn, Yn, Yn, Yn, Yn, Yn, Yn, Yn, Yn, Yn, Yn, Yn, Yn, Yn, Yn, Yn, Yn, Yn, Yn, Yn, Yn, Yn, Yn, Yn, Yn, Yn] (by kernel_rfl) rfl rfl ⟨c2, c3, x0, x1, x2, x3⟩ (fun hHeld => ?_)
        generalize w6.drew = w7 at HI7 HX7 HB7 HK7 HG7 hHeld ⊢
        refine pure_ (i := 0) (N := some 31) (v := ?_) (a' := ?_) #[Y, Yn, Yn, Yn, Yn, Yn, Yn, Yn, Yn, Yn, Yn, Yn, Yn, Yn, Yn, Yn, Yn, Yn, Yn, Yn, Yn, Yn, Yn, Yn, Yn, Yn, Yn, Yn, Yn, Yn] rfl rfl (by kernel_rfl) (fun _ _ _ h => h) (Or.inl ⟨by rfl, ?_⟩) ?_ ?_
        rotate_left
        · intro w'
          go_simp
          with_reducible rfl
        rotate_left
        · simp only [Act.put, List.setIfInBounds_toArray, List.set_cons_zero, List.set_cons_succ, i64_w, i32_w]
          rfl
        refine pure_ (i := 1) (N := some 32) (v := ?_) (a' := ?_) #[Y, Y, Yn, Yn, Yn, Yn, Yn, Yn, Yn, Yn, Yn, Yn, Yn, Yn, Yn, Yn, Yn, Yn, Yn, Yn, Yn, Yn, Yn, Yn, Yn, Yn, Yn, Yn, Yn, Yn] rfl rfl (by kernel_rfl) (fun _ _ _ h => h) (Or.inl ⟨by rfl, ?_⟩) ?_ ?_
        rotate_left
        · intro w'
          go_simp
          with_reducible rfl
        rotate_left
        · simp only [Act.put, List.setIfInBounds_toArray, List.set_cons_zero, List.set_cons_succ, i64_w, i32_w]
          rfl
        refine pure_ (i := 2) (N := some 33) (v := ?_) (a' := ?_) #[Y, Y, Y, Yn, Yn, Yn, Yn, Yn, Yn, Yn, Yn, Yn, Yn, Yn, Yn, Yn, Yn, Yn, Yn, Yn, Yn, Yn, Yn, Yn, Yn, Yn, Yn, Yn, Yn, Yn] rfl rfl (by kernel_rfl) (fun _ _ _ h => h) (Or.inl ⟨by rfl, ?_⟩) ?_ ?_
        rotate_left
        · intro w'
          go_simp
          with_reducible rfl
        rotate_left
        · simp only [Act.put, List.setIfInBounds_toArray, List.set_cons_zero, List.set_cons_succ, i64_w, i32_w]
          rfl
        refine pure_ (i := 3) (N := some 34) (v := ?_) (a' := ?_) #[Y, Y, Y, Y, Yn, Yn, Yn, Yn, Yn, Yn, Yn, Yn, Yn, Yn, Yn, Yn, Yn, Yn, Yn, Yn, Yn, Yn, Yn, Yn, Yn, Yn, Yn, Yn, Yn, Yn] rfl rfl (by kernel_rfl) (fun _ _ _ h => h) (Or.inl ⟨by rfl, ?_⟩) ?_ ?_
        rotate_left
        · intro w'
          go_simp
          with_reducible rfl
        rotate_left
        · simp only [Act.put, List.setIfInBounds_toArray, List.set_cons_zero, List.set_cons_succ, i64_w, i32_w]
          rfl
        refine take_ (i := 4) (N := some 35) (v := ?_) (a' := ?_) #[Y, Y, Y, Y, Y, Yn, Yn, Yn, Yn, Yn, Yn, Yn, Yn, Yn, Yn, Yn, Yn, Yn, Yn, Yn, Yn, Yn, Yn, Yn, Yn, Yn, Yn, Yn, Yn, Yn] rfl rfl (by kernel_rfl) (fun _ _ _ h => h) (Or.inl ⟨by rfl, ?_⟩) hHeld ?_ ?_
        rotate_left
        · rintro w' ⟨s0, s1, s2, s3, s4, s5⟩
          go_simp
          with_reducible rfl
        rotate_left
        · simp only [Act.put, List.setIfInBounds_toArray, List.set_cons_zero, List.set_cons_succ, i64_w, i32_w]
          rfl
        refine pure_ (i := 5) (N := some 36) (v := ?_) (a' := ?_) #[Y, Y, Y, Y, Y, Y, Yn, Yn, Yn, Yn, Yn, Yn, Yn, Yn, Yn, Yn, Yn, Yn, Yn, Yn, Yn, Yn, Yn, Yn, Yn, Yn, Yn, Yn, Yn, Yn] rfl rfl (by kernel_rfl) (fun _ _ _ h => h) (Or.inl ⟨by rfl, ?_⟩) ?_ ?_
        rotate_left
        · intro w'
          go_simp
          with_reducible rfl
        rotate_left
        · simp only [Act.put, List.setIfInBounds_toArray, List.set_cons_zero, List.set_cons_succ, i64_w, i32_w]
          rfl
        refine pure_ (i := 6) (N := some 37) (v := ?_) (a' := ?_) #[Y, Y, Y, Y, Y, Y, Y, Yn, Yn, Yn, Yn, Yn, Yn, Yn, Yn, Yn, Yn, Yn, Yn, Yn, Yn, Yn, Yn, Yn, Yn, Yn, Yn, Yn, Yn, Yn] rfl rfl (by kernel_rfl) (fun _ _ _ h => h) (Or.inl ⟨by rfl, ?_⟩) ?_ ?_
        rotate_left
        · intro w'
          go_simp
          with_reducible rfl
        rotate_left
        · simp only [Act.put, List.setIfInBounds_toArray, List.set_cons_zero, List.set_cons_succ, i64_w, i32_w]
          rfl
        refine pure_ (i := 7) (N := some 38) (v := ?_) (a' := ?_) #[Y, Y, Y, Y, Y, Y, Y, Y, Yn, Yn, Yn, Yn, Yn, Yn, Yn, Yn, Yn, Yn, Yn, Yn, Yn, Yn, Yn, Yn, Yn, Yn, Yn, Yn, Yn, Yn] rfl rfl (by kernel_rfl) (fun _ _ _ h => h) (Or.inl ⟨by rfl, ?_⟩) ?_ ?_
        rotate_left
        · intro w'
          go_simp
          with_reducible rfl
        rotate_left
        · simp only [Act.put, List.setIfInBounds_toArray, List.set_cons_zero, List.set_cons_succ, i64_w, i32_w]
          rfl
        refine pure_ (i := 9) (N := some 40) (v := ?_) (a' := ?_) #[Y, Y, Y, Y, Y, Y, Y, Y, Yn, Y, Yn, Yn, Yn, Yn, Yn, Yn, Yn, Yn, Yn, Yn, Yn, Yn, Yn, Yn, Yn, Yn, Yn, Yn, Yn, Yn] rfl rfl (by kernel_rfl) (fun _ _ _ h => h) (Or.inl ⟨by rfl, ?_⟩) ?_ ?_
        rotate_left
        · intro w'
          go_simp
          with_reducible rfl
        rotate_left
        · simp only [Act.put, List.setIfInBounds_toArray, List.set_cons_zero, List.set_cons_succ, i64_w, i32_w]
          rfl
        refine pure_ (i := 10) (N := some 41) (v := ?_) (a' := ?_) #[Y, Y, Y, Y, Y, Y, Y, Y, Yn, Y, Y, Yn, Yn, Yn, Yn, Yn, Yn, Yn, Yn, Yn, Yn, Yn, Yn, Yn, Yn, Yn, Yn, Yn, Yn, Yn] rfl rfl (by kernel_rfl) (fun _ _ _ h => h) (Or.inl ⟨by rfl, ?_⟩) ?_ ?_
        rotate_left
        · intro w'
          go_simp
          with_reducible rfl
        rotate_left
        · simp only [Act.put, List.setIfInBounds_toArray, List.set_cons_zero, List.set_cons_succ, i64_w, i32_w]
          rfl
        refine pure_ (i := 11) (N := some 42) (v := ?_) (a' := ?_) #[Y, Y, Y, Y, Y, Y, Y, Y, Yn, Y, Y, Y, Yn, Yn, Yn, Yn, Yn, Yn, Yn, Yn, Yn, Yn, Yn, Yn, Yn, Yn, Yn, Yn, Yn, Yn] rfl rfl (by kernel_rfl) (fun _ _ _ h => h) (Or.inl ⟨by rfl, ?_⟩) ?_ ?_
        rotate_left
        · intro w'
          go_simp
          with_reducible rfl
        rotate_left
        · simp only [Act.put, List.setIfInBounds_toArray, List.set_cons_zero, List.set_cons_succ, i64_w, i32_w]
          rfl
        refine pure_ (i := 12) (N := some 43) (v := ?_) (a' := ?_) #[Y, Y, Y, Y, Y, Y, Y, Y, Yn, Y, Y, Y, Y, Yn, Yn, Yn, Yn, Yn, Yn, Yn, Yn, Yn, Yn, Yn, Yn, Yn, Yn, Yn, Yn, Yn] rfl rfl (by kernel_rfl) (fun _ _ _ h => h) (Or.inl ⟨by rfl, ?_⟩) ?_ ?_
        rotate_left
        · intro w'
          go_simp
          with_reducible rfl
        rotate_left
        · simp only [Act.put, List.setIfInBounds_toArray, List.set_cons_zero, List.set_cons_succ, i64_w, i32_w]
          rfl
        refine take_ (i := 8) (N := some 39) (v := ?_) (a' := ?_) #[Y, Y, Y, Y, Y, Y, Y, Y, Y, Y, Y, Y, Y, Yn, Yn, Yn, Yn, Yn, Yn, Yn, Yn, Yn, Yn, Yn, Yn, Yn, Yn, Yn, Yn, Yn] rfl rfl (by kernel_rfl) (fun _ _ _ h => h) (Or.inl ⟨by rfl, ?_⟩) hHeld ?_ ?_
        rotate_left
        · rintro w' ⟨s0, s1, s2, s3, s4, s5⟩
          go_simp
          with_reducible rfl
        rotate_left
        · simp only [Act.put, List.setIfInBounds_toArray, List.set_cons_zero, List.set_cons_succ, i64_w, i32_w]
          rfl
        refine take_ (i := 13) (N := some 44) (v := ?_) (a' := ?_) #[Y, Y, Y, Y, Y, Y, Y, Y, Y, Y, Y, Y, Y, Y, Yn, Yn, Yn, Yn, Yn, Yn, Yn, Yn, Yn, Yn, Yn, Yn, Yn, Yn, Yn, Yn] rfl rfl (by kernel_rfl) (fun _ _ _ h => h) (Or.inl ⟨by rfl, ?_⟩) hHeld ?_ ?_
        rotate_left
        · rintro w' ⟨s0, s1, s2, s3, s4, s5⟩
          go_simp
          with_reducible rfl
        rotate_left
        · simp only [Act.put, List.setIfInBounds_toArray, List.set_cons_zero, List.set_cons_succ, i64_w, i32_w]
          rfl
        refine pure_ (i := 14) (N := some 45) (v := ?_) (a' := ?_) #[Y, Y, Y, Y, Y, Y, Y, Y, Y, Y, Y, Y, Y, Y, Y, Yn, Yn, Yn, Yn, Yn, Yn, Yn, Yn, Yn, Yn, Yn, Yn, Yn, Yn, Yn] rfl rfl (by kernel_rfl) (fun _ _ _ h => h) (Or.inl ⟨by rfl, ?_⟩) ?_ ?_
        rotate_left
        · intro w'
          go_simp
          with_reducible rfl
        rotate_left
        · simp only [Act.put, List.setIfInBounds_toArray, List.set_cons_zero, List.set_cons_succ, i64_w, i32_w]
          rfl
        refine pure_ (i := 15) (N := some 46) (v := ?_) (a' := ?_) #[Y, Y, Y, Y, Y, Y, Y, Y, Y, Y, Y, Y, Y, Y, Y, Y, Yn, Yn, Yn, Yn, Yn, Yn, Yn, Yn, Yn, Yn, Yn, Yn, Yn, Yn] rfl rfl (by kernel_rfl) (fun _ _ _ h => h) (Or.inl ⟨by rfl, ?_⟩) ?_ ?_
        rotate_left
        · intro w'
          go_simp
          with_reducible rfl
        rotate_left
        · simp only [Act.put, List.setIfInBounds_toArray, List.set_cons_zero, List.set_cons_succ, i64_w, i32_w]
          rfl
        refine pure_ (i := 16) (N := some 47) (v := ?_) (a' := ?_) #[Y, Y, Y, Y, Y, Y, Y, Y, Y, Y, Y, Y, Y, Y, Y, Y, Y, Yn, Yn, Yn, Yn, Yn, Yn, Yn, Yn, Yn, Yn, Yn, Yn, Yn] rfl rfl (by kernel_rfl) (fun _ _ _ h => h) (Or.inl ⟨by rfl, ?_⟩) ?_ ?_
        rotate_left
        · intro w'
          go_simp
          with_reducible rfl
        rotate_left
        · simp only [Act.put, List.setIfInBounds_toArray, List.set_cons_zero, List.set_cons_succ, i64_w, i32_w]
          rfl
        refine pure_ (i := 17) (N := some 48) (v := ?_) (a' := ?_) #[Y, Y, Y, Y, Y, Y, Y, Y, Y, Y, Y, Y, Y, Y, Y, Y, Y, Y, Yn, Yn, Yn, Yn, Yn, Yn, Yn, Yn, Yn, Yn, Yn, Yn] rfl rfl (by kernel_rfl) (fun _ _ _ h => h) (Or.inl ⟨by rfl, ?_⟩) ?_ ?_
        rotate_left
        · intro w'
          go_simp
          with_reducible rfl
        rotate_left
        · simp only [Act.put, List.setIfInBounds_toArray, List.set_cons_zero, List.set_cons_succ, i64_w, i32_w]
          rfl
        refine pure_ (i := 18) (N := some 49) (v := undef) (a' := ?_) #[Y, Y, Y, Y, Y, Y, Y, Y, Y, Y, Y, Y, Y, Y, Y, Y, Y, Y, Y, Yn, Yn, Yn, Yn, Yn, Yn, Yn, Yn, Yn, Yn, Yn] rfl rfl (by kernel_rfl) (fun _ _ _ h => h) (Or.inr ⟨by rfl, rfl⟩) ?_ ?_
        rotate_left
        · simp only [Act.put, List.setIfInBounds_toArray, List.set_cons_zero, List.set_cons_succ, i64_w, i32_w]
          rfl
        refine pure_ (i := 19) (N := some 50) (v := undef) (a' := ?_) #[Y, Y, Y, Y, Y, Y, Y, Y, Y, Y, Y, Y, Y, Y, Y, Y, Y, Y, Y, Y, Yn, Yn, Yn, Yn, Yn, Yn, Yn, Yn, Yn, Yn] rfl rfl (by kernel_rfl) (fun _ _ _ h => h) (Or.inr ⟨by rfl, rfl⟩) ?_ ?_
        rotate_left
        · simp only [Act.put, List.setIfInBounds_toArray, List.set_cons_zero, List.set_cons_succ, i64_w, i32_w]
          rfl
        refine pure_ (i := 20) (N := some 51) (v := undef) (a' := ?_) #[Y, Y, Y, Y, Y, Y, Y, Y, Y, Y, Y, Y, Y, Y, Y, Y, Y, Y, Y, Y, Y, Yn, Yn, Yn, Yn, Yn, Yn, Yn, Yn, Yn] rfl rfl (by kernel_rfl) (fun _ _ _ h => h) (Or.inr ⟨by rfl, rfl⟩) ?_ ?_
        rotate_left
        · simp only [Act.put, List.setIfInBounds_toArray, List.set_cons_zero, List.set_cons_succ, i64_w, i32_w]
          rfl
        refine pure_ (i := 21) (N := some 52) (v := undef) (a' := ?_) #[Y, Y, Y, Y, Y, Y, Y, Y, Y, Y, Y, Y, Y, Y, Y, Y, Y, Y, Y, Y, Y, Y, Yn, Yn, Yn, Yn, Yn, Yn, Yn, Yn] rfl rfl (by kernel_rfl) (fun _ _ _ h => h) (Or.inr ⟨by rfl, rfl⟩) ?_ ?_
        rotate_left
        · simp only [Act.put, List.setIfInBounds_toArray, List.set_cons_zero, List.set_cons_succ, i64_w, i32_w]
          rfl
        refine pure_ (i := 22) (N := some 53) (v := undef) (a' := ?_) #[Y, Y, Y, Y, Y, Y, Y, Y, Y, Y, Y, Y, Y, Y, Y, Y, Y, Y, Y, Y, Y, Y, Y, Yn, Yn, Yn, Yn, Yn, Yn, Yn] rfl rfl (by kernel_rfl) (fun _ _ _ h => h) (Or.inr ⟨by rfl, rfl⟩) ?_ ?_
        rotate_left
        · simp only [Act.put, List.setIfInBounds_toArray, List.set_cons_zero, List.set_cons_succ, i64_w, i32_w]
          rfl
        refine pure_ (i := 23) (N := some 54) (v := undef) (a' := ?_) #[Y, Y, Y, Y, Y, Y, Y, Y, Y, Y, Y, Y, Y, Y, Y, Y, Y, Y, Y, Y, Y, Y, Y, Y, Yn, Yn, Yn, Yn, Yn, Yn] rfl rfl (by kernel_rfl) (fun _ _ _ h => h) (Or.inr ⟨by rfl, rfl⟩) ?_ ?_
        rotate_left
        · simp only [Act.put, List.setIfInBounds_toArray, List.set_cons_zero, List.set_cons_succ, i64_w, i32_w]
          rfl
        refine pure_ (i := 24) (N := some 55) (v := undef) (a' := ?_) #[Y, Y, Y, Y, Y, Y, Y, Y, Y, Y, Y, Y, Y, Y, Y, Y, Y, Y, Y, Y, Y, Y, Y, Y, Y, Yn, Yn, Yn, Yn, Yn] rfl rfl (by kernel_rfl) (fun _ _ _ h => h) (Or.inr ⟨by rfl, rfl⟩) ?_ ?_
        rotate_left
        · simp only [Act.put, List.setIfInBounds_toArray, List.set_cons_zero, List.set_cons_succ, i64_w, i32_w]
          rfl
        refine pure_ (i := 25) (N := some 56) (v := undef) (a' := ?_) #[Y, Y, Y, Y, Y, Y, Y, Y, Y, Y, Y, Y, Y, Y, Y, Y, Y, Y, Y, Y, Y, Y, Y, Y, Y, Y, Yn, Yn, Yn, Yn] rfl rfl (by kernel_rfl) (fun _ _ _ h => h) (Or.inr ⟨by rfl, rfl⟩) ?_ ?_
        rotate_left
        · simp only [Act.put, List.setIfInBounds_toArray, List.set_cons_zero, List.set_cons_succ, i64_w, i32_w]
          rfl
        refine pure_ (i := 26) (N := some 57) (v := undef) (a' := ?_) #[Y, Y, Y, Y, Y, Y, Y, Y, Y, Y, Y, Y, Y, Y, Y, Y, Y, Y, Y, Y, Y, Y, Y, Y, Y, Y, Y, Yn, Yn, Yn] rfl rfl (by kernel_rfl) (fun _ _ _ h => h) (Or.inr ⟨by rfl, rfl⟩) ?_ ?_
        rotate_left
        · simp only [Act.put, List.setIfInBounds_toArray, List.set_cons_zero, List.set_cons_succ, i64_w, i32_w]
          rfl
        refine pure_ (i := 27) (N := some 58) (v := undef) (a' := ?_) #[Y, Y, Y, Y, Y, Y, Y, Y, Y, Y, Y, Y, Y, Y, Y, Y, Y, Y, Y, Y, Y, Y, Y, Y, Y, Y, Y, Y, Yn, Yn] rfl rfl (by kernel_rfl) (fun _ _ _ h => h) (Or.inr ⟨by rfl, rfl⟩) ?_ ?_
        rotate_left
        · simp only [Act.put, List.setIfInBounds_toArray, List.set_cons_zero, List.set_cons_succ, i64_w, i32_w]
          rfl
        refine pure_ (i := 28) (N := some 59) (v := undef) (a' := ?_) #[Y, Y, Y, Y, Y, Y, Y, Y, Y, Y, Y, Y, Y, Y, Y, Y, Y, Y, Y, Y, Y, Y, Y, Y, Y, Y, Y, Y, Y, Yn] rfl rfl (by kernel_rfl) (fun _ _ _ h => h) (Or.inr ⟨by rfl, rfl⟩) ?_ ?_
        rotate_left
        · simp only [Act.put, List.setIfInBounds_toArray, List.set_cons_zero, List.set_cons_succ, i64_w, i32_w]
          rfl
        refine pure_ (i := 29) (N := some 60) (v := ?_) (a' := ?_) #[Y, Y, Y, Y, Y, Y, Y, Y, Y, Y, Y, Y, Y, Y, Y, Y, Y, Y, Y, Y, Y, Y, Y, Y, Y, Y, Y, Y, Y, Y] rfl rfl (by kernel_rfl) (fun _ _ _ h => h) (Or.inl ⟨by rfl, ?_⟩) ?_ ?_
        rotate_left
        · intro w'
          go_simp
          with_reducible rfl
        rotate_left
        · simp only [Act.put, List.setIfInBounds_toArray, List.set_cons_zero, List.set_cons_succ, i64_w, i32_w]
          rfl
        refine done_ (by kernel_rfl) ?_
        clear c2 c3 x0 x1 x2 x3 hHeld
        have x3 := (blk_cell HX7.out 3).trans rfl
        go_wp2_with (go_at_call 28; (with_reducible refine (record_calls B g (M1.got vk vn vq va) va _ HI7.out (Nat.le_trans HBS.out HK7.out.size) HTOT.out HSZ.out HLEN.out).mono ?_); rintro e w9 ⟨rfl, hi, hb, hk⟩; have HI9 := Aside0.mk hi; have HB9 := Aside0.mk (HB7.out.trans hb); have HK9 := Aside0.mk (HK7.out.trans hk); clear hi hb hk)
        go_ret2
        exact ⟨false, by rw [HOB.out false]; exact ⟨by show Ending.returned (.tuple #[.int .i64 (wrap64 (n1 + 1)), .int .i64 0]) = _; rw [hn1], HI9.out, HB9.out, HK9.out⟩⟩
      · have k2b : (rm == 0) = false := beq_false_of_ne k2
        have k2c : (rm = 0) = False := eq_false k2
        have k3b : (way == 2) = false := by rw [k1]; rfl
        have HOB := Aside0.mk (show ∀ d : Bool, L0.obs vk vn vq va d = (M1.got vk vn vq va, n1, 0) from fun d => by unfold Lg.obs; rw [if_neg (by have := HU.out; omega), HRES.out, if_neg (fun h => h.elim (fun h => k2 (by rw [← HRM2.out, ← HIE.out]; exact h.2)) (fun h => by have := h.1; rw [HWE.out, k1] at this; cases this))])
        clear k1 k2
        have HI7 := Aside0.mk HI6.out.drew
        have HX7 := Aside0.mk (blk_drew HX6.out)
        have HB7 := Aside0.mk (below_drew1 HB6.out)
        have HK7 := Aside0.mk HK6.out.drew
        have HG7 := Aside0.mk (blk_drew HG6.out)
        refine start_ (n := 30) (S := fun w' => w'.cell? ⟨g, 2, none⟩ = some (.int .i64 way) ∧ w'.cell? ⟨g, 3, none⟩ = some (.int .i64 iv) ∧ w'.cell? ⟨gx, 0, none⟩ = some (.int .i64 vk) ∧ w'.cell? ⟨gx, 1, none⟩ = some (.int .i64 vn) ∧ w'.cell? ⟨gx, 2, none⟩ = some (.int .i64 vq) ∧ w'.cell? ⟨gx, 3, none⟩ = some (.int .i64 va)) (ds := []) #[Yn, Yn, Yn, Yn, Yn, Yn, Yn, Yn, Yn, Yn, Yn, Yn, Yn, Yn, Yn, Yn, Yn, Yn, Yn, Yn, Yn, Yn, Yn, Yn, Yn, Yn, Yn, Yn, Yn, Yn] (by kernel_rfl) rfl rfl ⟨c2, c3, x0, x1, x2, x3⟩ (fun hHeld => ?_)
        generalize w6.drew = w7 at HI7 HX7 HB7 HK7 HG7 hHeld ⊢
        refine pure_ (i := 0) (N := some 31) (v := ?_) (a' := ?_) #[Y, Yn, Yn, Yn, Yn, Yn, Yn, Yn, Yn, Yn, Yn, Yn, Yn, Yn, Yn, Yn, Yn, Yn, Yn, Yn, Yn, Yn, Yn, Yn, Yn, Yn, Yn, Yn, Yn, Yn] rfl rfl (by kernel_rfl) (fun _ _ _ h => h) (Or.inl ⟨by rfl, ?_⟩) ?_ ?_
        rotate_left
        · intro w'
          go_simp
          with_reducible rfl
        rotate_left
        · simp only [Act.put, List.setIfInBounds_toArray, List.set_cons_zero, List.set_cons_succ, i64_w, i32_w]
          rfl
        refine pure_ (i := 1) (N := some 32) (v := ?_) (a' := ?_) #[Y, Y, Yn, Yn, Yn, Yn, Yn, Yn, Yn, Yn, Yn, Yn, Yn, Yn, Yn, Yn, Yn, Yn, Yn, Yn, Yn, Yn, Yn, Yn, Yn, Yn, Yn, Yn, Yn, Yn] rfl rfl (by kernel_rfl) (fun _ _ _ h => h) (Or.inl ⟨by rfl, ?_⟩) ?_ ?_
        rotate_left
        · intro w'
          go_simp
          with_reducible rfl
        rotate_left
        · simp only [Act.put, List.setIfInBounds_toArray, List.set_cons_zero, List.set_cons_succ, i64_w, i32_w]
          rfl
        refine pure_ (i := 2) (N := some 33) (v := ?_) (a' := ?_) #[Y, Y, Y, Yn, Yn, Yn, Yn, Yn, Yn, Yn, Yn, Yn, Yn, Yn, Yn, Yn, Yn, Yn, Yn, Yn, Yn, Yn, Yn, Yn, Yn, Yn, Yn, Yn, Yn, Yn] rfl rfl (by kernel_rfl) (fun _ _ _ h => h) (Or.inl ⟨by rfl, ?_⟩) ?_ ?_
        rotate_left
        · intro w'
          go_simp
          with_reducible rfl
        rotate_left
        · simp only [Act.put, List.setIfInBounds_toArray, List.set_cons_zero, List.set_cons_succ, i64_w, i32_w]
          rfl
        refine pure_ (i := 3) (N := some 34) (v := ?_) (a' := ?_) #[Y, Y, Y, Y, Yn, Yn, Yn, Yn, Yn, Yn, Yn, Yn, Yn, Yn, Yn, Yn, Yn, Yn, Yn, Yn, Yn, Yn, Yn, Yn, Yn, Yn, Yn, Yn, Yn, Yn] rfl rfl (by kernel_rfl) (fun _ _ _ h => h) (Or.inl ⟨by rfl, ?_⟩) ?_ ?_
        rotate_left
        · intro w'
          go_simp
          with_reducible rfl
        rotate_left
        · simp only [Act.put, List.setIfInBounds_toArray, List.set_cons_zero, List.set_cons_succ, i64_w, i32_w]
          rfl
        refine take_ (i := 4) (N := some 35) (v := ?_) (a' := ?_) #[Y, Y, Y, Y, Y, Yn, Yn, Yn, Yn, Yn, Yn, Yn, Yn, Yn, Yn, Yn, Yn, Yn, Yn, Yn, Yn, Yn, Yn, Yn, Yn, Yn, Yn, Yn, Yn, Yn] rfl rfl (by kernel_rfl) (fun _ _ _ h => h) (Or.inl ⟨by rfl, ?_⟩) hHeld ?_ ?_
        rotate_left
        · rintro w' ⟨s0, s1, s2, s3, s4, s5⟩
          go_simp
          with_reducible rfl
        rotate_left
        · simp only [Act.put, List.setIfInBounds_toArray, List.set_cons_zero, List.set_cons_succ, i64_w, i32_w]
          rfl
        refine pure_ (i := 5) (N := some 36) (v := ?_) (a' := ?_) #[Y, Y, Y, Y, Y, Y, Yn, Yn, Yn, Yn, Yn, Yn, Yn, Yn, Yn, Yn, Yn, Yn, Yn, Yn, Yn, Yn, Yn, Yn, Yn, Yn, Yn, Yn, Yn, Yn] rfl rfl (by kernel_rfl) (fun _ _ _ h => h) (Or.inl ⟨by rfl, ?_⟩) ?_ ?_
        rotate_left
        · intro w'
          go_simp
          with_reducible rfl
        rotate_left
        · simp only [Act.put, List.setIfInBounds_toArray, List.set_cons_zero, List.set_cons_succ, i64_w, i32_w]
          rfl
        refine pure_ (i := 6) (N := some 37) (v := ?_) (a' := ?_) #[Y, Y, Y, Y, Y, Y, Y, Yn, Yn, Yn, Yn, Yn, Yn, Yn, Yn, Yn, Yn, Yn, Yn, Yn, Yn, Yn, Yn, Yn, Yn, Yn, Yn, Yn, Yn, Yn] rfl rfl (by kernel_rfl) (fun _ _ _ h => h) (Or.inl ⟨by rfl, ?_⟩) ?_ ?_
        rotate_left
        · intro w'
          go_simp
          with_reducible rfl
        rotate_left
        · simp only [Act.put, List.setIfInBounds_toArray, List.set_cons_zero, List.set_cons_succ, i64_w, i32_w]
          rfl
        refine pure_ (i := 7) (N := some 38) (v := ?_) (a' := ?_) #[Y, Y, Y, Y, Y, Y, Y, Y, Yn, Yn, Yn, Yn, Yn, Yn, Yn, Yn, Yn, Yn, Yn, Yn, Yn, Yn, Yn, Yn, Yn, Yn, Yn, Yn, Yn, Yn] rfl rfl (by kernel_rfl) (fun _ _ _ h => h) (Or.inl ⟨by rfl, ?_⟩) ?_ ?_
        rotate_left
        · intro w'
          go_simp
          with_reducible rfl
        rotate_left
        · simp only [Act.put, List.setIfInBounds_toArray, List.set_cons_zero, List.set_cons_succ, i64_w, i32_w]
          rfl
        refine pure_ (i := 9) (N := some 40) (v := ?_) (a' := ?_) #[Y, Y, Y, Y, Y, Y, Y, Y, Yn, Y, Yn, Yn, Yn, Yn, Yn, Yn, Yn, Yn, Yn, Yn, Yn, Yn, Yn, Yn, Yn, Yn, Yn, Yn, Yn, Yn] rfl rfl (by kernel_rfl) (fun _ _ _ h => h) (Or.inl ⟨by rfl, ?_⟩) ?_ ?_
        rotate_left
        · intro w'
          go_simp
          with_reducible rfl
        rotate_left
        · simp only [Act.put, List.setIfInBounds_toArray, List.set_cons_zero, List.set_cons_succ, i64_w, i32_w]
          rfl
        refine pure_ (i := 10) (N := some 41) (v := ?_) (a' := ?_) #[Y, Y, Y, Y, Y, Y, Y, Y, Yn, Y, Y, Yn, Yn, Yn, Yn, Yn, Yn, Yn, Yn, Yn, Yn, Yn, Yn, Yn, Yn, Yn, Yn, Yn, Yn, Yn] rfl rfl (by kernel_rfl) (fun _ _ _ h => h) (Or.inl ⟨by rfl, ?_⟩) ?_ ?_
        rotate_left
        · intro w'
          go_simp
          with_reducible rfl
        rotate_left
        · simp only [Act.put, List.setIfInBounds_toArray, List.set_cons_zero, List.set_cons_succ, i64_w, i32_w]
          rfl
        refine pure_ (i := 11) (N := some 42) (v := ?_) (a' := ?_) #[Y, Y, Y, Y, Y, Y, Y, Y, Yn, Y, Y, Y, Yn, Yn, Yn, Yn, Yn, Yn, Yn, Yn, Yn, Yn, Yn, Yn, Yn, Yn, Yn, Yn, Yn, Yn] rfl rfl (by kernel_rfl) (fun _ _ _ h => h) (Or.inl ⟨by rfl, ?_⟩) ?_ ?_
        rotate_left
        · intro w'
          go_simp
          with_reducible rfl
        rotate_left
        · simp only [Act.put, List.setIfInBounds_toArray, List.set_cons_zero, List.set_cons_succ, i64_w, i32_w]
          rfl
        refine pure_ (i := 12) (N := some 43) (v := ?_) (a' := ?_) #[Y, Y, Y, Y, Y, Y, Y, Y, Yn, Y, Y, Y, Y, Yn, Yn, Yn, Yn, Yn, Yn, Yn, Yn, Yn, Yn, Yn, Yn, Yn, Yn, Yn, Yn, Yn] rfl rfl (by kernel_rfl) (fun _ _ _ h => h) (Or.inl ⟨by rfl, ?_⟩) ?_ ?_
        rotate_left
        · intro w'
          go_simp
          with_reducible rfl
        rotate_left
        · simp only [Act.put, List.setIfInBounds_toArray, List.set_cons_zero, List.set_cons_succ, i64_w, i32_w]
          rfl
        refine take_ (i := 8) (N := some 39) (v := ?_) (a' := ?_) #[Y, Y, Y, Y, Y, Y, Y, Y, Y, Y, Y, Y, Y, Yn, Yn, Yn, Yn, Yn, Yn, Yn, Yn, Yn, Yn, Yn, Yn, Yn, Yn, Yn, Yn, Yn] rfl rfl (by kernel_rfl) (fun _ _ _ h => h) (Or.inl ⟨by rfl, ?_⟩) hHeld ?_ ?_
        rotate_left
        · rintro w' ⟨s0, s1, s2, s3, s4, s5⟩
          go_simp
          with_reducible rfl
        rotate_left
        · simp only [Act.put, List.setIfInBounds_toArray, List.set_cons_zero, List.set_cons_succ, i64_w, i32_w]
          rfl
        refine take_ (i := 13) (N := some 44) (v := ?_) (a' := ?_) #[Y, Y, Y, Y, Y, Y, Y, Y, Y, Y, Y, Y, Y, Y, Yn, Yn, Yn, Yn, Yn, Yn, Yn, Yn, Yn, Yn, Yn, Yn, Yn, Yn, Yn, Yn] rfl rfl (by kernel_rfl) (fun _ _ _ h => h) (Or.inl ⟨by rfl, ?_⟩) hHeld ?_ ?_
        rotate_left
        · rintro w' ⟨s0, s1, s2, s3, s4, s5⟩
          go_simp
          with_reducible rfl
        rotate_left
        · simp only [Act.put, List.setIfInBounds_toArray, List.set_cons_zero, List.set_cons_succ, i64_w, i32_w]
          rfl
        refine pure_ (i := 14) (N := some 45) (v := ?_) (a' := ?_) #[Y, Y, Y, Y, Y, Y, Y, Y, Y, Y, Y, Y, Y, Y, Y, Yn, Yn, Yn, Yn, Yn, Yn, Yn, Yn, Yn, Yn, Yn, Yn, Yn, Yn, Yn] rfl rfl (by kernel_rfl) (fun _ _ _ h => h) (Or.inl ⟨by rfl, ?_⟩) ?_ ?_
        rotate_left
        · intro w'
          go_simp
          with_reducible rfl
        rotate_left
        · simp only [Act.put, List.setIfInBounds_toArray, List.set_cons_zero, List.set_cons_succ, i64_w, i32_w]
          rfl
        refine pure_ (i := 15) (N := some 46) (v := ?_) (a' := ?_) #[Y, Y, Y, Y, Y, Y, Y, Y, Y, Y, Y, Y, Y, Y, Y, Y, Yn, Yn, Yn, Yn, Yn, Yn, Yn, Yn, Yn, Yn, Yn, Yn, Yn, Yn] rfl rfl (by kernel_rfl) (fun _ _ _ h => h) (Or.inl ⟨by rfl, ?_⟩) ?_ ?_
        rotate_left
        · intro w'
          go_simp
          with_reducible rfl
        rotate_left
        · simp only [Act.put, List.setIfInBounds_toArray, List.set_cons_zero, List.set_cons_succ, i64_w, i32_w]
          rfl
        refine pure_ (i := 16) (N := some 47) (v := ?_) (a' := ?_) #[Y, Y, Y, Y, Y, Y, Y, Y, Y, Y, Y, Y, Y, Y, Y, Y, Y, Yn, Yn, Yn, Yn, Yn, Yn, Yn, Yn, Yn, Yn, Yn, Yn, Yn] rfl rfl (by kernel_rfl) (fun _ _ _ h => h) (Or.inl ⟨by rfl, ?_⟩) ?_ ?_
        rotate_left
        · intro w'
          go_simp
          with_reducible rfl
        rotate_left
        · simp only [Act.put, List.setIfInBounds_toArray, List.set_cons_zero, List.set_cons_succ, i64_w, i32_w]
          rfl
        refine pure_ (i := 17) (N := some 48) (v := ?_) (a' := ?_) #[Y, Y, Y, Y, Y, Y, Y, Y, Y, Y, Y, Y, Y, Y, Y, Y, Y, Y, Yn, Yn, Yn, Yn, Yn, Yn, Yn, Yn, Yn, Yn, Yn, Yn] rfl rfl (by kernel_rfl) (fun _ _ _ h => h) (Or.inl ⟨by rfl, ?_⟩) ?_ ?_
        rotate_left
        · intro w'
          go_simp
          with_reducible rfl
        rotate_left
        · simp only [Act.put, List.setIfInBounds_toArray, List.set_cons_zero, List.set_cons_succ, i64_w, i32_w]
          rfl
        refine pure_ (i := 18) (N := some 49) (v := ?_) (a' := ?_) #[Y, Y, Y, Y, Y, Y, Y, Y, Y, Y, Y, Y, Y, Y, Y, Y, Y, Y, Y, Yn, Yn, Yn, Yn, Yn, Yn, Yn, Yn, Yn, Yn, Yn] rfl rfl (by kernel_rfl) (fun _ _ _ h => h) (Or.inl ⟨by rfl, ?_⟩) ?_ ?_
        rotate_left
        · intro w'
          go_simp
          with_reducible rfl
        rotate_left
        · simp only [Act.put, List.setIfInBounds_toArray, List.set_cons_zero, List.set_cons_succ, i64_w, i32_w]
          rfl
        refine pure_ (i := 19) (N := some 50) (v := ?_) (a' := ?_) #[Y, Y, Y, Y, Y, Y, Y, Y, Y, Y, Y, Y, Y, Y, Y, Y, Y, Y, Y, Y, Yn, Yn, Yn, Yn, Yn, Yn, Yn, Yn, Yn, Yn] rfl rfl (by kernel_rfl) (fun _ _ _ h => h) (Or.inl ⟨by rfl, ?_⟩) ?_ ?_
        rotate_left
        · intro w'
          go_simp
          with_reducible rfl
        rotate_left
        · simp only [Act.put, List.setIfInBounds_toArray, List.set_cons_zero, List.set_cons_succ, i64_w, i32_w]
          rfl
        refine pure_ (i := 20) (N := some 51) (v := ?_) (a' := ?_) #[Y, Y, Y, Y, Y, Y, Y, Y, Y, Y, Y, Y, Y, Y, Y, Y, Y, Y, Y, Y, Y, Yn, Yn, Yn, Yn, Yn, Yn, Yn, Yn, Yn] rfl rfl (by kernel_rfl) (fun _ _ _ h => h) (Or.inl ⟨by rfl, ?_⟩) ?_ ?_
        rotate_left
        · intro w'
          go_simp
          with_reducible rfl
        rotate_left
        · simp only [Act.put, List.setIfInBounds_toArray, List.set_cons_zero, List.set_cons_succ, i64_w, i32_w]
          rfl
        refine pure_ (i := 21) (N := some 52) (v := ?_) (a' := ?_) #[Y, Y, Y, Y, Y, Y, Y, Y, Y, Y, Y, Y, Y, Y, Y, Y, Y, Y, Y, Y, Y, Y, Yn, Yn, Yn, Yn, Yn, Yn, Yn, Yn] rfl rfl (by kernel_rfl) (fun _ _ _ h => h) (Or.inl ⟨by rfl, ?_⟩) ?_ ?_
        rotate_left
        · intro w'
          go_simp
          with_reducible rfl
        rotate_left
        · simp only [Act.put, List.setIfInBounds_toArray, List.set_cons_zero, List.set_cons_succ, i64_w, i32_w]
          rfl
        refine take_ (i := 22) (N := some 53) (v := ?_) (a' := ?_) #[Y, Y, Y, Y, Y, Y, Y, Y, Y, Y, Y, Y, Y, Y, Y, Y, Y, Y, Y, Y, Y, Y, Y, Yn, Yn, Yn, Yn, Yn, Yn, Yn] rfl rfl (by kernel_rfl) (fun _ _ _ h => h) (Or.inl ⟨by rfl, ?_⟩) hHeld ?_ ?_
        rotate_left
        · rintro w' ⟨s0, s1, s2, s3, s4, s5⟩
          go_simp
          with_reducible rfl
        rotate_left
        · simp only [Act.put, List.setIfInBounds_toArray, List.set_cons_zero, List.set_cons_succ, i64_w, i32_w]
          rfl
        refine pure_ (i := 23) (N := some 54) (v := ?_) (a' := ?_) #[Y, Y, Y, Y, Y, Y, Y, Y, Y, Y, Y, Y, Y, Y, Y, Y, Y, Y, Y, Y, Y, Y, Y, Y, Yn, Yn, Yn, Yn, Yn, Yn] rfl rfl (by kernel_rfl) (fun _ _ _ h => h) (Or.inl ⟨by rfl, ?_⟩) ?_ ?_
        rotate_left
        · intro w'
          go_simp
          with_reducible rfl
        rotate_left
        · simp only [Act.put, List.setIfInBounds_toArray, List.set_cons_zero, List.set_cons_succ, i64_w, i32_w]
          rfl
        refine pure_ (i := 24) (N := some 55) (v := ?_) (a' := ?_) #[Y, Y, Y, Y, Y, Y, Y, Y, Y, Y, Y, Y, Y, Y, Y, Y, Y, Y, Y, Y, Y, Y, Y, Y, Y, Yn, Yn, Yn, Yn, Yn] rfl rfl (by kernel_rfl) (fun _ _ _ h => h) (Or.inl ⟨by rfl, ?_⟩) ?_ ?_
        rotate_left
        · intro w'
          go_simp
          with_reducible rfl
        rotate_left
        · simp only [Act.put, List.setIfInBounds_toArray, List.set_cons_zero, List.set_cons_succ, i64_w, i32_w]
          rfl
        refine pure_ (i := 25) (N := some 56) (v := undef) (a' := ?_) #[Y, Y, Y, Y, Y, Y, Y, Y, Y, Y, Y, Y, Y, Y, Y, Y, Y, Y, Y, Y, Y, Y, Y, Y, Y, Y, Yn, Yn, Yn, Yn] rfl rfl (by kernel_rfl) (fun _ _ _ h => h) (Or.inr ⟨by rfl, rfl⟩) ?_ ?_
        rotate_left
        · simp only [Act.put, List.setIfInBounds_toArray, List.set_cons_zero, List.set_cons_succ, i64_w, i32_w]
          rfl
        refine pure_ (i := 26) (N := some 57) (v := undef) (a' := ?_) #[Y, Y, Y, Y, Y, Y, Y, Y, Y, Y, Y, Y, Y, Y, Y, Y, Y, Y, Y, Y, Y, Y, Y, Y, Y, Y, Y, Yn, Yn, Yn] rfl rfl (by kernel_rfl) (fun _ _ _ h => h) (Or.inr ⟨by rfl, rfl⟩) ?_ ?_
        rotate_left
        · simp only [Act.put, List.setIfInBounds_toArray, List.set_cons_zero, List.set_cons_succ, i64_w, i32_w]
          rfl
        refine pure_ (i := 27) (N := some 58) (v := undef) (a' := ?_) #[Y, Y, Y, Y, Y, Y, Y, Y, Y, Y, Y, Y, Y, Y, Y, Y, Y, Y, Y, Y, Y, Y, Y, Y, Y, Y, Y, Y, Yn, Yn] rfl rfl (by kernel_rfl) (fun _ _ _ h => h) (Or.inr ⟨by rfl, rfl⟩) ?_ ?_
        rotate_left
        · simp only [Act.put, List.setIfInBounds_toArray, List.set_cons_zero, List.set_cons_succ, i64_w, i32_w]
          rfl
        refine pure_ (i := 28) (N := some 59) (v := ?_) (a' := ?_) #[Y, Y, Y, Y, Y, Y, Y, Y, Y, Y, Y, Y, Y, Y, Y, Y, Y, Y, Y, Y, Y, Y, Y, Y, Y, Y, Y, Y, Y, Yn] rfl rfl (by kernel_rfl) (fun _ _ _ h => h) (Or.inl ⟨by rfl, ?_⟩) ?_ ?_
        rotate_left
        · intro w'
          go_simp
          with_reducible rfl
        rotate_left
        · simp only [Act.put, List.setIfInBounds_toArray, List.set_cons_zero, List.set_cons_succ, i64_w, i32_w]
          rfl
        refine pure_ (i := 29) (N := some 60) (v := ?_) (a' := ?_) #[Y, Y, Y, Y, Y, Y, Y, Y, Y, Y, Y, Y, Y, Y, Y, Y, Y, Y, Y, Y, Y, Y, Y, Y, Y, Y, Y, Y, Y, Y] rfl rfl (by kernel_rfl) (fun _ _ _ h => h) (Or.inl ⟨by rfl, ?_⟩) ?_ ?_
        rotate_left
        · intro w'
          go_simp
          with_reducible rfl
        rotate_left
        · simp only [Act.put, List.setIfInBounds_toArray, List.set_cons_zero, List.set_cons_succ, i64_w, i32_w]
          rfl
        refine done_ (by kernel_rfl) ?_
        clear c2 c3 x0 x1 x2 x3 hHeld
        go_wp2
        go_ret2
        exact ⟨false, by rw [HOB.out false]; exact ⟨rfl, HI7.out, HB7.out, HK7.out⟩⟩
    · have k1b : (way == 1) = false := beq_false_of_ne k1
      by_cases k3 : way = 2
      · have k3b : (way == 2) = true := by rw [k3]; rfl
        have HOBT := Aside0.mk (show L0.obs vk vn vq va true = ((M1.got vk vn vq va).record va, n1 + 1, 0) by unfold Lg.obs; rw [if_neg (by have := HU.out; omega), HRES.out, if_pos (Or.inr ⟨by rw [HWE.out]; exact k3, rfl⟩)])
        have HOBF := Aside0.mk (show L0.obs vk vn vq va false = (M1.got vk vn vq va, n1, 0) by unfold Lg.obs; rw [if_neg (by have := HU.out; omega), HRES.out, if_neg (fun h => h.elim (fun h => k1 (by rw [← HWE.out]; exact h.1)) (fun h => by cases h.2))])
        clear k1 k3
        have HI7 := Aside0.mk HI6.out.drew
        have HX7 := Aside0.mk (blk_drew HX6.out)
        have HB7 := Aside0.mk (below_drew1 HB6.out)
        have HK7 := Aside0.mk HK6.out.drew
        have HG7 := Aside0.mk (blk_drew HG6.out)
        refine start_ (n := 30) (S := fun w' => w'.cell? ⟨g, 2, none⟩ = some (.int .i64 way) ∧ w'.cell? ⟨g, 3, none⟩ = some (.int .i64 iv) ∧ w'.cell? ⟨gx, 0, none⟩ = some (.int .i64 vk) ∧ w'.cell? ⟨gx, 1, none⟩ = some (.int .i64 vn) ∧ w'.cell? ⟨gx, 2, none⟩ = some (.int .i64 vq) ∧ w'.cell? ⟨gx, 3, none⟩ = some (.int .i64 va)) (ds := []) #[Yn, Yn, Yn, Yn, Yn, Yn, Yn, Yn, Yn, Yn, Yn, Yn, Yn, Yn, Yn, Yn, Yn, Yn, Yn, Yn, Yn, Yn, Yn, Yn, Yn, Yn, Yn, Yn, Yn, Yn] (by kernel_rfl) rfl rfl ⟨c2, c3, x0, x1, x2, x3⟩ (fun hHeld => ?_)
        generalize w6.drew = w7 at HI7 HX7 HB7 HK7 HG7 hHeld ⊢
        refine pure_ (i := 0) (N := some 31) (v := ?_) (a' := ?_) #[Y, Yn, Yn, Yn, Yn, Yn, Yn, Yn, Yn, Yn, Yn, Yn, Yn, Yn, Yn, Yn, Yn, Yn, Yn, Yn, Yn, Yn, Yn, Yn, Yn, Yn, Yn, Yn, Yn, Yn] rfl rfl (by kernel_rfl) (fun _ _ _ h => h) (Or.inl ⟨by rfl, ?_⟩) ?_ ?_
        rotate_left
        · intro w'
          go_simp
          with_reducible rfl
        rotate_left
        · simp only [Act.put, List.setIfInBounds_toArray, List.set_cons_zero, List.set_cons_succ, i64_w, i32_w]
          rfl
        refine pure_ (i := 1) (N := some 32) (v := ?_) (a' := ?_) #[Y, Y, Yn, Yn, Yn, Yn, Yn, Yn, Yn, Yn, Yn, Yn, Yn, Yn, Yn, Yn, Yn, Yn, Yn, Yn, Yn, Yn, Yn, Yn, Yn, Yn, Yn, Yn, Yn, Yn] rfl rfl (by kernel_rfl) (fun _ _ _ h => h) (Or.inl ⟨by rfl, ?_⟩) ?_ ?_
        rotate_left
        · intro w'
          go_simp
          with_reducible rfl
        rotate_left
        · simp only [Act.put, List.setIfInBounds_toArray, List.set_cons_zero, List.set_cons_succ, i64_w, i32_w]
          rfl
        refine pure_ (i := 2) (N := some 33) (v := ?_) (a' := ?_) #[Y, Y, Y, Yn, Yn, Yn, Yn, Yn, Yn, Yn, Yn, Yn, Yn, Yn, Yn, Yn, Yn, Yn, Yn, Yn, Yn, Yn, Yn, Yn, Yn, Yn, Yn, Yn, Yn, Yn] rfl rfl (by kernel_rfl) (fun _ _ _ h => h) (Or.inl ⟨by rfl, ?_⟩) ?_ ?_
        rotate_left
        · intro w'
          go_simp
          with_reducible rfl
        rotate_left
        · simp only [Act.put, List.setIfInBounds_toArray, List.set_cons_zero, List.set_cons_succ, i64_w, i32_w]
          rfl
        refine pure_ (i := 3) (N := some 34) (v := ?_) (a' := ?_) #[Y, Y, Y, Y, Yn, Yn, Yn, Yn, Yn, Yn, Yn, Yn, Yn, Yn, Yn, Yn, Yn, Yn, Yn, Yn, Yn, Yn, Yn, Yn, Yn, Yn, Yn, Yn, Yn, Yn] rfl rfl (by kernel_rfl) (fun _ _ _ h => h) (Or.inl ⟨by rfl, ?_⟩) ?_ ?_
        rotate_left
        · intro w'
          go_simp
          with_reducible rfl
        rotate_left
        · simp only [Act.put, List.setIfInBounds_toArray, List.set_cons_zero, List.set_cons_succ, i64_w, i32_w]
          rfl
        refine take_ (i := 4) (N := some 35) (v := ?_) (a' := ?_) #[Y, Y, Y, Y, Y, Yn, Yn, Yn, Yn, Yn, Yn, Yn, Yn, Yn, Yn, Yn, Yn, Yn, Yn, Yn, Yn, Yn, Yn, Yn, Yn, Yn, Yn, Yn, Yn, Yn] rfl rfl (by kernel_rfl) (fun _ _ _ h => h) (Or.inl ⟨by rfl, ?_⟩) hHeld ?_ ?_
        rotate_left
        · rintro w' ⟨s0, s1, s2, s3, s4, s5⟩
          go_simp
          with_reducible rfl
        rotate_left
        · simp only [Act.put, List.setIfInBounds_toArray, List.set_cons_zero, List.set_cons_succ, i64_w, i32_w]
          rfl
        refine pure_ (i := 5) (N := some 36) (v := ?_) (a' := ?_) #[Y, Y, Y, Y, Y, Y, Yn, Yn, Yn, Yn, Yn, Yn, Yn, Yn, Yn, Yn, Yn, Yn, Yn, Yn, Yn, Yn, Yn, Yn, Yn, Yn, Yn, Yn, Yn, Yn] rfl rfl (by kernel_rfl) (fun _ _ _ h => h) (Or.inl ⟨by rfl, ?_⟩) ?_ ?_
        rotate_left
        · intro w'
          go_simp
          with_reducible rfl
        rotate_left
        · simp only [Act.put, List.setIfInBounds_toArray, List.set_cons_zero, List.set_cons_succ, i64_w, i32_w]
          rfl
        refine pure_ (i := 6) (N := some 37) (v := ?_) (a' := ?_) #[Y, Y, Y, Y, Y, Y, Y, Yn, Yn, Yn, Yn, Yn, Yn, Yn, Yn, Yn, Yn, Yn, Yn, Yn, Yn, Yn, Yn, Yn, Yn, Yn, Yn, Yn, Yn, Yn] rfl rfl (by kernel_rfl) (fun _ _ _ h => h) (Or.inl ⟨by rfl, ?_⟩) ?_ ?_
        rotate_left
        · intro w'
          go_simp
          with_reducible rfl
        rotate_left
        · simp only [Act.put, List.setIfInBounds_toArray, List.set_cons_zero, List.set_cons_succ, i64_w, i32_w]
          rfl
        refine pure_ (i := 7) (N := some 38) (v := undef) (a' := ?_) #[Y, Y, Y, Y, Y, Y, Y, Y, Yn, Yn, Yn, Yn, Yn, Yn, Yn, Yn, Yn, Yn, Yn, Yn, Yn, Yn, Yn, Yn, Yn, Yn, Yn, Yn, Yn, Yn] rfl rfl (by kernel_rfl) (fun _ _ _ h => h) (Or.inr ⟨by rfl, rfl⟩) ?_ ?_
        rotate_left
        · simp only [Act.put, List.setIfInBounds_toArray, List.set_cons_zero, List.set_cons_succ, i64_w, i32_w]
          rfl
        refine pure_ (i := 8) (N := some 39) (v := undef) (a' := ?_) #[Y, Y, Y, Y, Y, Y, Y, Y, Y, Yn, Yn, Yn, Yn, Yn, Yn, Yn, Yn, Yn, Yn, Yn, Yn, Yn, Yn, Yn, Yn, Yn, Yn, Yn, Yn, Yn] rfl rfl (by kernel_rfl) (fun _ _ _ h => h) (Or.inr ⟨by rfl, rfl⟩) ?_ ?_
        rotate_left
        · simp only [Act.put, List.setIfInBounds_toArray, List.set_cons_zero, List.set_cons_succ, i64_w, i32_w]
          rfl
        refine pure_ (i := 9) (N := some 40) (v := undef) (a' := ?_) #[Y, Y, Y, Y, Y, Y, Y, Y, Y, Y, Yn, Yn, Yn, Yn, Yn, Yn, Yn, Yn, Yn, Yn, Yn, Yn, Yn, Yn, Yn, Yn, Yn, Yn, Yn, Yn] rfl rfl (by kernel_rfl) (fun _ _ _ h => h) (Or.inr ⟨by rfl, rfl⟩) ?_ ?_
        rotate_left
        · simp only [Act.put, List.setIfInBounds_toArray, List.set_cons_zero, List.set_cons_succ, i64_w, i32_w]
          rfl
        refine pure_ (i := 10) (N := some 41) (v := undef) (a' := ?_) #[Y, Y, Y, Y, Y, Y, Y, Y, Y, Y, Y, Yn, Yn, Yn, Yn, Yn, Yn, Yn, Yn, Yn, Yn, Yn, Yn, Yn, Yn, Yn, Yn, Yn, Yn, Yn] rfl rfl (by kernel_rfl) (fun _ _ _ h => h) (Or.inr ⟨by rfl, rfl⟩) ?_ ?_
        rotate_left
        · simp only [Act.put, List.setIfInBounds_toArray, List.set_cons_zero, List.set_cons_succ, i64_w, i32_w]
          rfl
        refine pure_ (i := 11) (N := some 42) (v := undef) (a' := ?_) #[Y, Y, Y, Y, Y, Y, Y, Y, Y, Y, Y, Y, Yn, Yn, Yn, Yn, Yn, Yn, Yn, Yn, Yn, Yn, Yn, Yn, Yn, Yn, Yn, Yn, Yn, Yn] rfl rfl (by kernel_rfl) (fun _ _ _ h => h) (Or.inr ⟨by rfl, rfl⟩) ?_ ?_
        rotate_left
        · simp only [Act.put, List.setIfInBounds_toArray, List.set_cons_zero, List.set_cons_succ, i64_w, i32_w]
          rfl
        refine pure_ (i := 12) (N := some 43) (v := undef) (a' := ?_) #[Y, Y, Y, Y, Y, Y, Y, Y, Y, Y, Y, Y, Y, Yn, Yn, Yn, Yn, Yn, Yn, Yn, Yn, Yn, Yn, Yn, Yn, Yn, Yn, Yn, Yn, Yn] rfl rfl (by kernel_rfl) (fun _ _ _ h => h) (Or.inr ⟨by rfl, rfl⟩) ?_ ?_
        rotate_left
        · simp only [Act.put, List.setIfInBounds_toArray, List.set_cons_zero, List.set_cons_succ, i64_w, i32_w]
          rfl
        refine pure_ (i := 13) (N := some 44) (v := undef) (a' := ?_) #[Y, Y, Y, Y, Y, Y, Y, Y, Y, Y, Y, Y, Y, Y, Yn, Yn, Yn, Yn, Yn, Yn, Yn, Yn, Yn, Yn, Yn, Yn, Yn, Yn, Yn, Yn] rfl rfl (by kernel_rfl) (fun _ _ _ h => h) (Or.inr ⟨by rfl, rfl⟩) ?_ ?_
        rotate_left
        · simp only [Act.put, List.setIfInBounds_toArray, List.set_cons_zero, List.set_cons_succ, i64_w, i32_w]
          rfl
        refine pure_ (i := 14) (N := some 45) (v := undef) (a' := ?_) #[Y, Y, Y, Y, Y, Y, Y, Y, Y, Y, Y, Y, Y, Y, Y, Yn, Yn, Yn, Yn, Yn, Yn, Yn, Yn, Yn, Yn, Yn, Yn, Yn, Yn, Yn] rfl rfl (by kernel_rfl) (fun _ _ _ h => h) (Or.inr ⟨by rfl, rfl⟩) ?_ ?_
        rotate_left
        · simp only [Act.put, List.setIfInBounds_toArray, List.set_cons_zero, List.set_cons_succ, i64_w, i32_w]
          rfl
        refine pure_ (i := 15) (N := some 46) (v := undef) (a' := ?_) #[Y, Y, Y, Y, Y, Y, Y, Y, Y, Y, Y, Y, Y, Y, Y, Y, Yn, Yn, Yn, Yn, Yn, Yn, Yn, Yn, Yn, Yn, Yn, Yn, Yn, Yn] rfl rfl (by kernel_rfl) (fun _ _ _ h => h) (Or.inr ⟨by rfl, rfl⟩) ?_ ?_
        rotate_left
        · simp only [Act.put, List.setIfInBounds_toArray, List.set_cons_zero, List.set_cons_succ, i64_w, i32_w]
          rfl
        refine pure_ (i := 16) (N := some 47) (v := ?_) (a' := ?_) #[Y, Y, Y, Y, Y, Y, Y, Y, Y, Y, Y, Y, Y, Y, Y, Y, Y, Yn, Yn, Yn, Yn, Yn, Yn, Yn, Yn, Yn, Yn, Yn, Yn, Yn] rfl rfl (by kernel_rfl) (fun _ _ _ h => h) (Or.inl ⟨by rfl, ?_⟩) ?_ ?_
        rotate_left
        · intro w'
          go_simp
          with_reducible rfl
        rotate_left
        · simp only [Act.put, List.setIfInBounds_toArray, List.set_cons_zero, List.set_cons_succ, i64_w, i32_w]
          rfl
        refine pure_ (i := 17) (N := some 48) (v := ?_) (a' := ?_) #[Y, Y, Y, Y, Y, Y, Y, Y, Y, Y, Y, Y, Y, Y, Y, Y, Y, Y, Yn, Yn, Yn, Yn, Yn, Yn, Yn, Yn, Yn, Yn, Yn, Yn] rfl rfl (by kernel_rfl) (fun _ _ _ h => h) (Or.inl ⟨by rfl, ?_⟩) ?_ ?_
        rotate_left
        · intro w'
          go_simp
          with_reducible rfl
        rotate_left
        · simp only [Act.put, List.setIfInBounds_toArray, List.set_cons_zero, List.set_cons_succ, i64_w, i32_w]
          rfl
        refine pure_ (i := 18) (N := some 49) (v := ?_) (a' := ?_) #[Y, Y, Y, Y, Y, Y, Y, Y, Y, Y, Y, Y, Y, Y, Y, Y, Y, Y, Y, Yn, Yn, Yn, Yn, Yn, Yn, Yn, Yn, Yn, Yn, Yn] rfl rfl (by kernel_rfl) (fun _ _ _ h => h) (Or.inl ⟨by rfl, ?_⟩) ?_ ?_
        rotate_left
        · intro w'
          go_simp
          with_reducible rfl
        rotate_left
        · simp only [Act.put, List.setIfInBounds_toArray, List.set_cons_zero, List.set_cons_succ, i64_w, i32_w]
          rfl
        refine pure_ (i := 19) (N := some 50) (v := ?_) (a' := ?_) #[Y, Y, Y, Y, Y, Y, Y, Y, Y, Y, Y, Y, Y, Y, Y, Y, Y, Y, Y, Y, Yn, Yn, Yn, Yn, Yn, Yn, Yn, Yn, Yn, Yn] rfl rfl (by kernel_rfl) (fun _ _ _ h => h) (Or.inl ⟨by rfl, ?_⟩) ?_ ?_
        rotate_left
        · intro w'
          go_simp
          with_reducible rfl
        rotate_left
        · simp only [Act.put, List.setIfInBounds_toArray, List.set_cons_zero, List.set_cons_succ, i64_w, i32_w]
          rfl
        refine pure_ (i := 20) (N := some 51) (v := ?_) (a' := ?_) #[Y, Y, Y, Y, Y, Y, Y, Y, Y, Y, Y, Y, Y, Y, Y, Y, Y, Y, Y, Y, Y, Yn, Yn, Yn, Yn, Yn, Yn, Yn, Yn, Yn] rfl rfl (by kernel_rfl) (fun _ _ _ h => h) (Or.inl ⟨by rfl, ?_⟩) ?_ ?_
        rotate_left
        · intro w'
          go_simp
          with_reducible rfl
        rotate_left
        · simp only [Act.put, List.setIfInBounds_toArray, List.set_cons_zero, List.set_cons_succ, i64_w, i32_w]
          rfl
        refine pure_ (i := 21) (N := some 52) (v := ?_) (a' := ?_) #[Y, Y, Y, Y, Y, Y, Y, Y, Y, Y, Y, Y, Y, Y, Y, Y, Y, Y, Y, Y, Y, Y, Yn, Yn, Yn, Yn, Yn, Yn, Yn, Yn] rfl rfl (by kernel_rfl) (fun _ _ _ h => h) (Or.inl ⟨by rfl, ?_⟩) ?_ ?_
        rotate_left
        · intro w'
          go_simp
          with_reducible rfl
        rotate_left
        · simp only [Act.put, List.setIfInBounds_toArray, List.set_cons_zero, List.set_cons_succ, i64_w, i32_w]
          rfl
        refine take_ (i := 22) (N := some 53) (v := ?_) (a' := ?_) #[Y, Y, Y, Y, Y, Y, Y, Y, Y, Y, Y, Y, Y, Y, Y, Y, Y, Y, Y, Y, Y, Y, Y, Yn, Yn, Yn, Yn, Yn, Yn, Yn] rfl rfl (by kernel_rfl) (fun _ _ _ h => h) (Or.inl ⟨by rfl, ?_⟩) hHeld ?_ ?_
        rotate_left
        · rintro w' ⟨s0, s1, s2, s3, s4, s5⟩
          go_simp
          with_reducible rfl
        rotate_left
        · simp only [Act.put, List.setIfInBounds_toArray, List.set_cons_zero, List.set_cons_succ, i64_w, i32_w]
          rfl
        refine pure_ (i := 23) (N := some 54) (v := ?_) (a' := ?_) #[Y, Y, Y, Y, Y, Y, Y, Y, Y, Y, Y, Y, Y, Y, Y, Y, Y, Y, Y, Y, Y, Y, Y, Y, Yn, Yn, Yn, Yn, Yn, Yn] rfl rfl (by kernel_rfl) (fun _ _ _ h => h) (Or.inl ⟨by rfl, ?_⟩) ?_ ?_
        rotate_left
        · intro w'
          go_simp
          with_reducible rfl
        rotate_left
        · simp only [Act.put, List.setIfInBounds_toArray, List.set_cons_zero, List.set_cons_succ, i64_w, i32_w]
          rfl
        refine pure_ (i := 24) (N := some 55) (v := ?_) (a' := ?_) #[Y, Y, Y, Y, Y, Y, Y, Y, Y, Y, Y, Y, Y, Y, Y, Y, Y, Y, Y, Y, Y, Y, Y, Y, Y, Yn, Yn, Yn, Yn, Yn] rfl rfl (by kernel_rfl) (fun _ _ _ h => h) (Or.inl ⟨by rfl, ?_⟩) ?_ ?_
        rotate_left
        · intro w'
          go_simp
          with_reducible rfl
        rotate_left
        · simp only [Act.put, List.setIfInBounds_toArray, List.set_cons_zero, List.set_cons_succ, i64_w, i32_w]
          rfl
        refine pure_ (i := 25) (N := some 56) (v := ?_) (a' := ?_) #[Y, Y, Y, Y, Y, Y, Y, Y, Y, Y, Y, Y, Y, Y, Y, Y, Y, Y, Y, Y, Y, Y, Y, Y, Y, Y, Yn, Yn, Yn, Yn] rfl rfl (by kernel_rfl) (fun _ _ _ h => h) (Or.inl ⟨by rfl, ?_⟩) ?_ ?_
        rotate_left
        · intro w'
          go_simp
          with_reducible rfl
        rotate_left
        · simp only [Act.put, List.setIfInBounds_toArray, List.set_cons_zero, List.set_cons_succ, i64_w, i32_w]
          rfl
        refine take_ (i := 26) (N := some 57) (v := ?_) (a' := ?_) #[Y, Y, Y, Y, Y, Y, Y, Y, Y, Y, Y, Y, Y, Y, Y, Y, Y, Y, Y, Y, Y, Y, Y, Y, Y, Y, Y, Yn, Yn, Yn] rfl rfl (by kernel_rfl) (fun _ _ _ h => h) (Or.inl ⟨by rfl, ?_⟩) hHeld ?_ ?_
        rotate_left
        · rintro w' ⟨s0, s1, s2, s3, s4, s5⟩
          go_simp
          with_reducible rfl
        rotate_left
        · simp only [Act.put, List.setIfInBounds_toArray, List.set_cons_zero, List.set_cons_succ, i64_w, i32_w]
          rfl
        refine one_ (i := 27) (N := some 58) #[Y, Y, Y, Y, Y, Y, Y, Y, Y, Y, Y, Y, Y, Y, Y, Y, Y, Y, Y, Y, Y, Y, Y, Y, Y, Y, Y, Y, Yn, Yn] rfl rfl (by kernel_rfl) (by decide) (fun K hK => ?_)
        refine goes_ Tryd.func27 (by kernel_rfl) rfl #[.pointer (some ⟨g, 0, none⟩), .agg #[.int .i64 vk, .int .i64 vn, .int .i64 vq, .int .i64 va]] (by rfl) rfl rfl (by simp only [List.map_toArray, List.map_cons, List.map_nil]; rfl) ?_
        with_reducible refine (differs_calls B g (M1.got vk vn vq va) vk vn vq va w7 HI7.out HLEN.out).mono ?_
        rintro e w8 ⟨d, rfl, hb⟩
        refine ⟨_, rfl, ?_⟩
        have HI8 := Aside0.mk (HI7.out.below hb)
        have HX8 := Aside0.mk (blk_below HX7.out hb)
        have HG8 := Aside0.mk (blk_below HG7.out hb)
        have HB8 := Aside0.mk (HB7.out.trans (hb.mono (Nat.le_trans HBS.out HK7.out.size)))
        have HK8 := Aside0.mk (HK7.out.trans (KeepL.of_below hb g))
        clear hb
        refine hK.out _ _ ⟨(blk_cell HG8.out 2).trans rfl, (blk_cell HG8.out 3).trans rfl, (blk_cell HX8.out 0).trans rfl, (blk_cell HX8.out 1).trans rfl, (blk_cell HX8.out 2).trans rfl, (blk_cell HX8.out 3).trans rfl⟩ (fun hHeld => ?_)
        clear hK K
        refine norm_ (a' := ?_) ?_ ?_
        rotate_left
        · show Act.put _ (some 58) _ = _
          simp only [Act.put, List.setIfInBounds_toArray, List.set_cons_zero, List.set_cons_succ, i64_w, i32_w]
          rfl
        refine pure_ (i := 28) (N := some 59) (v := ?_) (a' := ?_) #[Y, Y, Y, Y, Y, Y, Y, Y, Y, Y, Y, Y, Y, Y, Y, Y, Y, Y, Y, Y, Y, Y, Y, Y, Y, Y, Y, Y, Y, Yn] rfl rfl (by kernel_rfl) (fun _ _ _ h => h) (Or.inl ⟨by rfl, ?_⟩) ?_ ?_
        rotate_left
        · intro w'
          go_simp
          with_reducible rfl
        rotate_left
        · simp only [Act.put, List.setIfInBounds_toArray, List.set_cons_zero, List.set_cons_succ, i64_w, i32_w]
          rfl
        refine pure_ (i := 29) (N := some 60) (v := ?_) (a' := ?_) #[Y, Y, Y, Y, Y, Y, Y, Y, Y, Y, Y, Y, Y, Y, Y, Y, Y, Y, Y, Y, Y, Y, Y, Y, Y, Y, Y, Y, Y, Y] rfl rfl (by kernel_rfl) (fun _ _ _ h => h) (Or.inl ⟨by rfl, ?_⟩) ?_ ?_
        rotate_left
        · intro w'
          go_simp
          with_reducible rfl
        rotate_left
        · simp only [Act.put, List.setIfInBounds_toArray, List.set_cons_zero, List.set_cons_succ, i64_w, i32_w]
          rfl
        refine done_ (by kernel_rfl) ?_
        clear c2 c3 x0 x1 x2 x3 hHeld
        rcases Bool.eq_false_or_eq_true d with kd | kd
        · subst kd
          have x3 := (blk_cell HX8.out 3).trans rfl
          go_wp2_with (go_at_call 28; (with_reducible refine (record_calls B g (M1.got vk vn vq va) va _ HI8.out (Nat.le_trans HBS.out HK8.out.size) HTOT.out HSZ.out HLEN.out).mono ?_); rintro e w9 ⟨rfl, hi, hb, hk⟩; have HI9 := Aside0.mk hi; have HB9 := Aside0.mk (HB8.out.trans hb); have HK9 := Aside0.mk (HK8.out.trans hk); clear hi hb hk)
          go_ret2
          exact ⟨true, by rw [HOBT.out]; exact ⟨by show Ending.returned (.tuple #[.int .i64 (wrap64 (n1 + 1)), .int .i64 0]) = _; rw [hn1], HI9.out, HB9.out, HK9.out⟩⟩
        · subst kd
          go_wp2
          go_ret2
          exact ⟨false, by rw [HOBF.out]; exact ⟨rfl, HI8.out, HB8.out, HK8.out⟩⟩
      · have k3b : (way == 2) = false := beq_false_of_ne k3
        have HOB := Aside0.mk (show ∀ d : Bool, L0.obs vk vn vq va d = (M1.got vk vn vq va, n1, 0) from fun d => by unfold Lg.obs; rw [if_neg (by have := HU.out; omega), HRES.out, if_neg (fun h => h.elim (fun h => k1 (by rw [← HWE.out]; exact h.1)) (fun h => k3 (by rw [← HWE.out]; exact h.1)))])
        clear k1 k3
        have HI7 := Aside0.mk HI6.out.drew
        have HX7 := Aside0.mk (blk_drew HX6.out)
        have HB7 := Aside0.mk (below_drew1 HB6.out)
        have HK7 := Aside0.mk HK6.out.drew
        have HG7 := Aside0.mk (blk_drew HG6.out)
        refine start_ (n := 30) (S := fun w' => w'.cell? ⟨g, 2, none⟩ = some (.int .i64 way) ∧ w'.cell? ⟨g, 3, none⟩ = some (.int .i64 iv) ∧ w'.cell? ⟨gx, 0, none⟩ = some (.int .i64 vk) ∧ w'.cell? ⟨gx, 1, none⟩ = some (.int .i64 vn) ∧ w'.cell? ⟨gx, 2, none⟩ = some (.int .i64 vq) ∧ w'.cell? ⟨gx, 3, none⟩ = some (.int .i64 va)) (ds := []) #[Yn, Yn, Yn, Yn, Yn, Yn, Yn, Yn, Yn, Yn, Yn, Yn, Yn, Yn, Yn, Yn, Yn, Yn, Yn, Yn, Yn, Yn, Yn, Yn, Yn, Yn, Yn, Yn, Yn, Yn] (by kernel_rfl) rfl rfl ⟨c2, c3, x0, x1, x2, x3⟩ (fun hHeld => ?_)
        generalize w6.drew = w7 at HI7 HX7 HB7 HK7 HG7 hHeld ⊢
        refine pure_ (i := 0) (N := some 31) (v := ?_) (a' := ?_) #[Y, Yn, Yn, Yn, Yn, Yn, Yn, Yn, Yn, Yn, Yn, Yn, Yn, Yn, Yn, Yn, Yn, Yn, Yn, Yn, Yn, Yn, Yn, Yn, Yn, Yn, Yn, Yn, Yn, Yn] rfl rfl (by kernel_rfl) (fun _ _ _ h => h) (Or.inl ⟨by rfl, ?_⟩) ?_ ?_
        rotate_left
        · intro w'
          go_simp
          with_reducible rfl
        rotate_left
        · simp only [Act.put, List.setIfInBounds_toArray, List.set_cons_zero, List.set_cons_succ, i64_w, i32_w]
          rfl
        refine pure_ (i := 1) (N := some 32) (v := ?_) (a' := ?_) #[Y, Y, Yn, Yn, Yn, Yn, Yn, Yn, Yn, Yn, Yn, Yn, Yn, Yn, Yn, Yn, Yn, Yn, Yn, Yn, Yn, Yn, Yn, Yn, Yn, Yn, Yn, Yn, Yn, Yn] rfl rfl (by kernel_rfl) (fun _ _ _ h => h) (Or.inl ⟨by rfl, ?_⟩) ?_ ?_
        rotate_left
        · intro w'
          go_simp
          with_reducible rfl
        rotate_left
        · simp only [Act.put, List.setIfInBounds_toArray, List.set_cons_zero, List.set_cons_succ, i64_w, i32_w]
          rfl
        refine pure_ (i := 2) (N := some 33) (v := ?_) (a' := ?_) #[Y, Y, Y, Yn, Yn, Yn, Yn, Yn, Yn, Yn, Yn, Yn, Yn, Yn, Yn, Yn, Yn, Yn, Yn, Yn, Yn, Yn, Yn, Yn, Yn, Yn, Yn, Yn, Yn, Yn] rfl rfl (by kernel_rfl) (fun _ _ _ h => h) (Or.inl ⟨by rfl, ?_⟩) ?_ ?_
        rotate_left
        · intro w'
          go_simp
          with_reducible rfl
        rotate_left
        · simp only [Act.put, List.setIfInBounds_toArray, List.set_cons_zero, List.set_cons_succ, i64_w, i32_w]
          rfl
        refine pure_ (i := 3) (N := some 34) (v := ?_) (a' := ?_) #[Y, Y, Y, Y, Yn, Yn, Yn, Yn, Yn, Yn, Yn, Yn, Yn, Yn, Yn, Yn, Yn, Yn, Yn, Yn, Yn, Yn, Yn, Yn, Yn, Yn, Yn, Yn, Yn, Yn] rfl rfl (by kernel_rfl) (fun _ _ _ h => h) (Or.inl ⟨by rfl, ?_⟩) ?_ ?_
        rotate_left
        · intro w'
          go_simp
          with_reducible rfl
        rotate_left
        · simp only [Act.put, List.setIfInBounds_toArray, List.set_cons_zero, List.set_cons_succ, i64_w, i32_w]
          rfl
        refine take_ (i := 4) (N := some 35) (v := ?_) (a' := ?_) #[Y, Y, Y, Y, Y, Yn, Yn, Yn, Yn, Yn, Yn, Yn, Yn, Yn, Yn, Yn, Yn, Yn, Yn, Yn, Yn, Yn, Yn, Yn, Yn, Yn, Yn, Yn, Yn, Yn] rfl rfl (by kernel_rfl) (fun _ _ _ h => h) (Or.inl ⟨by rfl, ?_⟩) hHeld ?_ ?_
        rotate_left
        · rintro w' ⟨s0, s1, s2, s3, s4, s5⟩
          go_simp
          with_reducible rfl
        rotate_left
        · simp only [Act.put, List.setIfInBounds_toArray, List.set_cons_zero, List.set_cons_succ, i64_w, i32_w]
          rfl
        refine pure_ (i := 5) (N := some 36) (v := ?_) (a' := ?_) #[Y, Y, Y, Y, Y, Y, Yn, Yn, Yn, Yn, Yn, Yn, Yn, Yn, Yn, Yn, Yn, Yn, Yn, Yn, Yn, Yn, Yn, Yn, Yn, Yn, Yn, Yn, Yn, Yn] rfl rfl (by kernel_rfl) (fun _ _ _ h => h) (Or.inl ⟨by rfl, ?_⟩) ?_ ?_
        rotate_left
        · intro w'
          go_simp
          with_reducible rfl
        rotate_left
        · simp only [Act.put, List.setIfInBounds_toArray, List.set_cons_zero, List.set_cons_succ, i64_w, i32_w]
          rfl
        refine pure_ (i := 6) (N := some 37) (v := ?_) (a' := ?_) #[Y, Y, Y, Y, Y, Y, Y, Yn, Yn, Yn, Yn, Yn, Yn, Yn, Yn, Yn, Yn, Yn, Yn, Yn, Yn, Yn, Yn, Yn, Yn, Yn, Yn, Yn, Yn, Yn] rfl rfl (by kernel_rfl) (fun _ _ _ h => h) (Or.inl ⟨by rfl, ?_⟩) ?_ ?_
        rotate_left
        · intro w'
          go_simp
          with_reducible rfl
        rotate_left
        · simp only [Act.put, List.setIfInBounds_toArray, List.set_cons_zero, List.set_cons_succ, i64_w, i32_w]
          rfl
        refine pure_ (i := 7) (N := some 38) (v := undef) (a' := ?_) #[Y, Y, Y, Y, Y, Y, Y, Y, Yn, Yn, Yn, Yn, Yn, Yn, Yn, Yn, Yn, Yn, Yn, Yn, Yn, Yn, Yn, Yn, Yn, Yn, Yn, Yn, Yn, Yn] rfl rfl (by kernel_rfl) (fun _ _ _ h => h) (Or.inr ⟨by rfl, rfl⟩) ?_ ?_
        rotate_left
        · simp only [Act.put, List.setIfInBounds_toArray, List.set_cons_zero, List.set_cons_succ, i64_w, i32_w]
          rfl
        refine pure_ (i := 8) (N := some 39) (v := undef) (a' := ?_) #[Y, Y, Y, Y, Y, Y, Y, Y, Y, Yn, Yn, Yn, Yn, Yn, Yn, Yn, Yn, Yn, Yn, Yn, Yn, Yn, Yn, Yn, Yn, Yn, Yn, Yn, Yn, Yn] rfl rfl (by kernel_rfl) (fun _ _ _ h => h) (Or.inr ⟨by rfl, rfl⟩) ?_ ?_
        rotate_left
        · simp only [Act.put, List.setIfInBounds_toArray, List.set_cons_zero, List.set_cons_succ, i64_w, i32_w]
          rfl
        refine pure_ (i := 9) (N := some 40) (v := undef) (a' := ?_) #[Y, Y, Y, Y, Y, Y, Y, Y, Y, Y, Yn, Yn, Yn, Yn, Yn, Yn, Yn, Yn, Yn, Yn, Yn, Yn, Yn, Yn, Yn, Yn, Yn, Yn, Yn, Yn] rfl rfl (by kernel_rfl) (fun _ _ _ h => h) (Or.inr ⟨by rfl, rfl⟩) ?_ ?_
        rotate_left
        · simp only [Act.put, List.setIfInBounds_toArray, List.set_cons_zero, List.set_cons_succ, i64_w, i32_w]
          rfl
        refine pure_ (i := 10) (N := some 41) (v := undef) (a' := ?_) #[Y, Y, Y, Y, Y, Y, Y, Y, Y, Y, Y, Yn, Yn, Yn, Yn, Yn, Yn, Yn, Yn, Yn, Yn, Yn, Yn, Yn, Yn, Yn, Yn, Yn, Yn, Yn] rfl rfl (by kernel_rfl) (fun _ _ _ h => h) (Or.inr ⟨by rfl, rfl⟩) ?_ ?_
        rotate_left
        · simp only [Act.put, List.setIfInBounds_toArray, List.set_cons_zero, List.set_cons_succ, i64_w, i32_w]
          rfl
        refine pure_ (i := 11) (N := some 42) (v := undef) (a' := ?_) #[Y, Y, Y, Y, Y, Y, Y, Y, Y, Y, Y, Y, Yn, Yn, Yn, Yn, Yn, Yn, Yn, Yn, Yn, Yn, Yn, Yn, Yn, Yn, Yn, Yn, Yn, Yn] rfl rfl (by kernel_rfl) (fun _ _ _ h => h) (Or.inr ⟨by rfl, rfl⟩) ?_ ?_
        rotate_left
        · simp only [Act.put, List.setIfInBounds_toArray, List.set_cons_zero, List.set_cons_succ, i64_w, i32_w]
          rfl
        refine pure_ (i := 12) (N := some 43) (v := undef) (a' := ?_) #[Y, Y, Y, Y, Y, Y, Y, Y, Y, Y, Y, Y, Y, Yn, Yn, Yn, Yn, Yn, Yn, Yn, Yn, Yn, Yn, Yn, Yn, Yn, Yn, Yn, Yn, Yn] rfl rfl (by kernel_rfl) (fun _ _ _ h => h) (Or.inr ⟨by rfl, rfl⟩) ?_ ?_
        rotate_left
        · simp only [Act.put, List.setIfInBounds_toArray, List.set_cons_zero, List.set_cons_succ, i64_w, i32_w]
          rfl
        refine pure_ (i := 13) (N := some 44) (v := undef) (a' := ?_) #[Y, Y, Y, Y, Y, Y, Y, Y, Y, Y, Y, Y, Y, Y, Yn, Yn, Yn, Yn, Yn, Yn, Yn, Yn, Yn, Yn, Yn, Yn, Yn, Yn, Yn, Yn] rfl rfl (by kernel_rfl) (fun _ _ _ h => h) (Or.inr ⟨by rfl, rfl⟩) ?_ ?_
        rotate_left
        · simp only [Act.put, List.setIfInBounds_toArray, List.set_cons_zero, List.set_cons_succ, i64_w, i32_w]
          rfl
        refine pure_ (i := 14) (N := some 45) (v := undef) (a' := ?_) #[Y, Y, Y, Y, Y, Y, Y, Y, Y, Y, Y, Y, Y, Y, Y, Yn, Yn, Yn, Yn, Yn, Yn, Yn, Yn, Yn, Yn, Yn, Yn, Yn, Yn, Yn] rfl rfl (by kernel_rfl) (fun _ _ _ h => h) (Or.inr ⟨by rfl, rfl⟩) ?_ ?_
        rotate_left
        · simp only [Act.put, List.setIfInBounds_toArray, List.set_cons_zero, List.set_cons_succ, i64_w, i32_w]
          rfl
        refine pure_ (i := 15) (N := some 46) (v := undef) (a' := ?_) #[Y, Y, Y, Y, Y, Y, Y, Y, Y, Y, Y, Y, Y, Y, Y, Y, Yn, Yn, Yn, Yn, Yn, Yn, Yn, Yn, Yn, Yn, Yn, Yn, Yn, Yn] rfl rfl (by kernel_rfl) (fun _ _ _ h => h) (Or.inr ⟨by rfl, rfl⟩) ?_ ?_
        rotate_left
        · simp only [Act.put, List.setIfInBounds_toArray, List.set_cons_zero, List.set_cons_succ, i64_w, i32_w]
          rfl
        refine pure_ (i := 16) (N := some 47) (v := ?_) (a' := ?_) #[Y, Y, Y, Y, Y, Y, Y, Y, Y, Y, Y, Y, Y, Y, Y, Y, Y, Yn, Yn, Yn, Yn, Yn, Yn, Yn, Yn, Yn, Yn, Yn, Yn, Yn] rfl rfl (by kernel_rfl) (fun _ _ _ h => h) (Or.inl ⟨by rfl, ?_⟩) ?_ ?_
        rotate_left
        · intro w'
          go_simp
          with_reducible rfl
        rotate_left
        · simp only [Act.put, List.setIfInBounds_toArray, List.set_cons_zero, List.set_cons_succ, i64_w, i32_w]
          rfl
        refine pure_ (i := 17) (N := some 48) (v := ?_) (a' := ?_) #[Y, Y, Y, Y, Y, Y, Y, Y, Y, Y, Y, Y, Y, Y, Y, Y, Y, Y, Yn, Yn, Yn, Yn, Yn, Yn, Yn, Yn, Yn, Yn, Yn, Yn] rfl rfl (by kernel_rfl) (fun _ _ _ h => h) (Or.inl ⟨by rfl, ?_⟩) ?_ ?_
        rotate_left
        · intro w'
          go_simp
          with_reducible rfl
        rotate_left
        · simp only [Act.put, List.setIfInBounds_toArray, List.set_cons_zero, List.set_cons_succ, i64_w, i32_w]
          rfl
        refine pure_ (i := 18) (N := some 49) (v := ?_) (a' := ?_) #[Y, Y, Y, Y, Y, Y, Y, Y, Y, Y, Y, Y, Y, Y, Y, Y, Y, Y, Y, Yn, Yn, Yn, Yn, Yn, Yn, Yn, Yn, Yn, Yn, Yn] rfl rfl (by kernel_rfl) (fun _ _ _ h => h) (Or.inl ⟨by rfl, ?_⟩) ?_ ?_
        rotate_left
        · intro w'
          go_simp
          with_reducible rfl
        rotate_left
        · simp only [Act.put, List.setIfInBounds_toArray, List.set_cons_zero, List.set_cons_succ, i64_w, i32_w]
          rfl
        refine pure_ (i := 19) (N := some 50) (v := ?_) (a' := ?_) #[Y, Y, Y, Y, Y, Y, Y, Y, Y, Y, Y, Y, Y, Y, Y, Y, Y, Y, Y, Y, Yn, Yn, Yn, Yn, Yn, Yn, Yn, Yn, Yn, Yn] rfl rfl (by kernel_rfl) (fun _ _ _ h => h) (Or.inl ⟨by rfl, ?_⟩) ?_ ?_
        rotate_left
        · intro w'
          go_simp
          with_reducible rfl
        rotate_left
        · simp only [Act.put, List.setIfInBounds_toArray, List.set_cons_zero, List.set_cons_succ, i64_w, i32_w]
          rfl
        refine pure_ (i := 20) (N := some 51) (v := ?_) (a' := ?_) #[Y, Y, Y, Y, Y, Y, Y, Y, Y, Y, Y, Y, Y, Y, Y, Y, Y, Y, Y, Y, Y, Yn, Yn, Yn, Yn, Yn, Yn, Yn, Yn, Yn] rfl rfl (by kernel_rfl) (fun _ _ _ h => h) (Or.inl ⟨by rfl, ?_⟩) ?_ ?_
        rotate_left
        · intro w'
          go_simp
          with_reducible rfl
        rotate_left
        · simp only [Act.put, List.setIfInBounds_toArray, List.set_cons_zero, List.set_cons_succ, i64_w, i32_w]
          rfl
        refine pure_ (i := 21) (N := some 52) (v := ?_) (a' := ?_) #[Y, Y, Y, Y, Y, Y, Y, Y, Y, Y, Y, Y, Y, Y, Y, Y, Y, Y, Y, Y, Y, Y, Yn, Yn, Yn, Yn, Yn, Yn, Yn, Yn] rfl rfl (by kernel_rfl) (fun _ _ _ h => h) (Or.inl ⟨by rfl, ?_⟩) ?_ ?_
        rotate_left
        · intro w'
          go_simp
          with_reducible rfl
        rotate_left
        · simp only [Act.put, List.setIfInBounds_toArray, List.set_cons_zero, List.set_cons_succ, i64_w, i32_w]
          rfl
        refine take_ (i := 22) (N := some 53) (v := ?_) (a' := ?_) #[Y, Y, Y, Y, Y, Y, Y, Y, Y, Y, Y, Y, Y, Y, Y, Y, Y, Y, Y, Y, Y, Y, Y, Yn, Yn, Yn, Yn, Yn, Yn, Yn] rfl rfl (by kernel_rfl) (fun _ _ _ h => h) (Or.inl ⟨by rfl, ?_⟩) hHeld ?_ ?_
        rotate_left
        · rintro w' ⟨s0, s1, s2, s3, s4, s5⟩
          go_simp
          with_reducible rfl
        rotate_left
        · simp only [Act.put, List.setIfInBounds_toArray, List.set_cons_zero, List.set_cons_succ, i64_w, i32_w]
          rfl
        refine pure_ (i := 23) (N := some 54) (v := ?_) (a' := ?_) #[Y, Y, Y, Y, Y, Y, Y, Y, Y, Y, Y, Y, Y, Y, Y, Y, Y, Y, Y, Y, Y, Y, Y, Y, Yn, Yn, Yn, Yn, Yn, Yn] rfl rfl (by kernel_rfl) (fun _ _ _ h => h) (Or.inl ⟨by rfl, ?_⟩) ?_ ?_
        rotate_left
        · intro w'
          go_simp
          with_reducible rfl
        rotate_left
        · simp only [Act.put, List.setIfInBounds_toArray, List.set_cons_zero, List.set_cons_succ, i64_w, i32_w]
          rfl
        refine pure_ (i := 24) (N := some 55) (v := ?_) (a' := ?_) #[Y, Y, Y, Y, Y, Y, Y, Y, Y, Y, Y, Y, Y, Y, Y, Y, Y, Y, Y, Y, Y, Y, Y, Y, Y, Yn, Yn, Yn, Yn, Yn] rfl rfl (by kernel_rfl) (fun _ _ _ h => h) (Or.inl ⟨by rfl, ?_⟩) ?_ ?_
        rotate_left
        · intro w'
          go_simp
          with_reducible rfl
        rotate_left
        · simp only [Act.put, List.setIfInBounds_toArray, List.set_cons_zero, List.set_cons_succ, i64_w, i32_w]
          rfl
        refine pure_ (i := 25) (N := some 56) (v := undef) (a' := ?_) #[Y, Y, Y, Y, Y, Y, Y, Y, Y, Y, Y, Y, Y, Y, Y, Y, Y, Y, Y, Y, Y, Y, Y, Y, Y, Y, Yn, Yn, Yn, Yn] rfl rfl (by kernel_rfl) (fun _ _ _ h => h) (Or.inr ⟨by rfl, rfl⟩) ?_ ?_
        rotate_left
        · simp only [Act.put, List.setIfInBounds_toArray, List.set_cons_zero, List.set_cons_succ, i64_w, i32_w]
          rfl
        refine pure_ (i := 26) (N := some 57) (v := undef) (a' := ?_) #[Y, Y, Y, Y, Y, Y, Y, Y, Y, Y, Y, Y, Y, Y, Y, Y, Y, Y, Y, Y, Y, Y, Y, Y, Y, Y, Y, Yn, Yn, Yn] rfl rfl (by kernel_rfl) (fun _ _ _ h => h) (Or.inr ⟨by rfl, rfl⟩) ?_ ?_
        rotate_left
        · simp only [Act.put, List.setIfInBounds_toArray, List.set_cons_zero, List.set_cons_succ, i64_w, i32_w]
          rfl
        refine pure_ (i := 27) (N := some 58) (v := undef) (a' := ?_) #[Y, Y, Y, Y, Y, Y, Y, Y, Y, Y, Y, Y, Y, Y, Y, Y, Y, Y, Y, Y, Y, Y, Y, Y, Y, Y, Y, Y, Yn, Yn] rfl rfl (by kernel_rfl) (fun _ _ _ h => h) (Or.inr ⟨by rfl, rfl⟩) ?_ ?_
        rotate_left
        · simp only [Act.put, List.setIfInBounds_toArray, List.set_cons_zero, List.set_cons_succ, i64_w, i32_w]
          rfl
        refine pure_ (i := 28) (N := some 59) (v := ?_) (a' := ?_) #[Y, Y, Y, Y, Y, Y, Y, Y, Y, Y, Y, Y, Y, Y, Y, Y, Y, Y, Y, Y, Y, Y, Y, Y, Y, Y, Y, Y, Y, Yn] rfl rfl (by kernel_rfl) (fun _ _ _ h => h) (Or.inl ⟨by rfl, ?_⟩) ?_ ?_
        rotate_left
        · intro w'
          go_simp
          with_reducible rfl
        rotate_left
        · simp only [Act.put, List.setIfInBounds_toArray, List.set_cons_zero, List.set_cons_succ, i64_w, i32_w]
          rfl
        refine pure_ (i := 29) (N := some 60) (v := ?_) (a' := ?_) #[Y, Y, Y, Y, Y, Y, Y, Y, Y, Y, Y, Y, Y, Y, Y, Y, Y, Y, Y, Y, Y, Y, Y, Y, Y, Y, Y, Y, Y, Y] rfl rfl (by kernel_rfl) (fun _ _ _ h => h) (Or.inl ⟨by rfl, ?_⟩) ?_ ?_
        rotate_left
        · intro w'
          go_simp
          with_reducible rfl
        rotate_left
        · simp only [Act.put, List.setIfInBounds_toArray, List.set_cons_zero, List.set_cons_succ, i64_w, i32_w]
          rfl
        refine done_ (by kernel_rfl) ?_
        clear c2 c3 x0 x1 x2 x3 hHeld
        go_wp2
        go_ret2
        exact ⟨false, by rw [HOB.out false]; exact ⟨rfl, HI7.out, HB7.out, HK7.out⟩⟩
end Go.Proofs.YtbccjcdmpiolpaaDoor.T
end
section
namespace Go.Proofs.YtbccjcdmpiolpaaDoor.T
open Go.RowKit Go.Proofs.YtbccjcdmpiolpaaDoorW.PrintWords Go.Proofs.YtbccjcdmpiolpaaDoorW.PrintLast Go.Proofs.YtbccjcdmpiolpaaDoorW.PrintMore
set_option linter.unusedVariables false
set_option linter.unusedSimpArgs false
attribute [local go_sem] max2_int min2_int max_two min_two
def Lg.after (L : Lg) (number most : Int) : List S44 × Int :=
  if number < 0 ∨ number > L.total ∨ most < 1 then ([], 1)
  else if number + 1 < L.total - (L.recs.length : Int) + 1 then ([⟨L.total - (L.recs.length : Int), 0, ⟨0, 0⟩, 0, L.total - (L.recs.length : Int) - number⟩] ++ L.recs.take (most - 1).toNat, 0)
  else ((L.recs.drop (number - (L.total - (L.recs.length : Int))).toNat).take most.toNat, 0)
def AfterPost (w : World) (x : List S44 × Int) (e : Ending) (w' : World) : Prop := ∃ v : Value, e = .returned (.tuple #[v, .int .i64 x.2]) ∧ Kd.R k44 44 w' w.heap.size (fun _ => True) v x.1 ∧ Below w.heap.size w w'
theorem Gbelow {w w1 : World} (h : w.grownBy w1 (Value.slice none 0 0).ownBlock) : Below w.heap.size w w1 := ⟨h.os, h.tape, h.output, h.size, fun k hk => h.block k hk (by simp [Value.ownBlock])⟩
set_option maxHeartbeats 16000000 in
set_option maxRecDepth 100000 in
theorem after_calls (B g : Nat) (L : Lg) (number most : Int) (w : World) (h : LogAt B g L w) (hn : L.recs.length ≤ 1000000) (ht : 0 ≤ L.total ∧ L.total ≤ 1000000000000000) (hm : most ≤ 9223372036854775807) :
    Calls Tryd.prog 13 #[.pointer (some ⟨g, 0, none⟩), .int .i64 number, .int .i64 most] w fun e w' => AfterPost w (L.after number most) e w' := by
  have HI := Aside0.mk h
  have HLN := Aside0.mk hn
  have HTB := Aside0.mk ht
  have HMB := Aside0.mk hm
  obtain ⟨total, HTT⟩ : ∃ t, Aside0 (L.total = t) := ⟨_, ⟨rfl⟩⟩
  obtain ⟨v0, ring, f, hG, hge, _⟩ := h
  rw [HTT.out] at hG
  have c12 := (blk_cell hG 12).trans rfl
  have HG := Aside0.mk hG
  clear hG hge hn ht hm
  by_cases k1 : number < 0
  · have hb1 : decide (number < 0) = true := decide_eq_true k1
    have HT := Aside0.mk (show L.after number most = ([], 1) from if_pos (Or.inl k1))
    clear k1
    go_enter Tryd.func13, Tryd.ntmps13
    go_wp2
    go_ret2
    rw [HT.out]
    exact ⟨_, rfl, Kd.R_nil _ _ _ _ _, Below.refl _ _⟩
  · have hb1 : decide (number < 0) = false := decide_eq_false k1
    by_cases k2 : number > total
    · have hb2 : decide (total < number) = true := decide_eq_true k2
      have HT := Aside0.mk (show L.after number most = ([], 1) from if_pos (Or.inr (Or.inl (by rw [HTT.out]; exact k2))))
      clear k1 k2
      go_enter Tryd.func13, Tryd.ntmps13
      go_wp2
      go_ret2
      rw [HT.out]
      exact ⟨_, rfl, Kd.R_nil _ _ _ _ _, Below.refl _ _⟩
    · have hb2 : decide (total < number) = false := decide_eq_false k2
      by_cases k3 : most < 1
      · have hb3 : decide (most < 1) = true := decide_eq_true k3
        have HT := Aside0.mk (show L.after number most = ([], 1) from if_pos (Or.inr (Or.inr k3)))
        clear k1 k2 k3
        go_enter Tryd.func13, Tryd.ntmps13
        go_wp2
        go_ret2
        rw [HT.out]
        exact ⟨_, rfl, Kd.R_nil _ _ _ _ _, Below.refl _ _⟩
      · have hb3 : decide (most < 1) = false := decide_eq_false k3
        have HNB := Aside0.mk (show 0 ≤ number ∧ number ≤ total by omega)
        have HM1 := Aside0.mk (show 1 ≤ most by omega)
        clear k1 k2 k3
        obtain ⟨xs, HXS⟩ : ∃ xs, Aside0 (L.recs = xs) := ⟨_, ⟨rfl⟩⟩
        have HXB := Aside0.mk (show xs.length ≤ 1000000 by rw [← HXS.out]; exact HLN.out)
        have HTB2 := Aside0.mk (show 0 ≤ total ∧ total ≤ 1000000000000000 by rw [← HTT.out]; exact HTB.out)
        obtain ⟨od, HOD⟩ : ∃ od, Aside0 (total - (xs.length : Int) + 1 = od) := ⟨_, ⟨rfl⟩⟩
        have hw1 : wrap64 (total - (xs.length : Int)) = total - (xs.length : Int) := wrap_id (by have := HXB.out; have := HTB2.out; omega) (by have := HXB.out; have := HTB2.out; omega)
        have hw2 : wrap64 (total - (xs.length : Int) + 1) = od := by rw [wrap_id (by have := HXB.out; have := HTB2.out; omega) (by have := HXB.out; have := HTB2.out; omega), HOD.out]
        have hw3 : wrap64 (number + 1) = number + 1 := wrap_id (by have := HNB.out; omega) (by have := HNB.out; have := HTB2.out; omega)
        by_cases k4 : number + 1 < od
        · have hb4 : decide (number + 1 < od) = true := decide_eq_true k4
          have HK4 := Aside0.mk k4
          obtain ⟨gp, HGP⟩ : ∃ gp, Aside0 (od - 1 - number = gp) := ⟨_, ⟨rfl⟩⟩
          obtain ⟨o1, HO1⟩ : ∃ o1, Aside0 (od - 1 = o1) := ⟨_, ⟨rfl⟩⟩
          have hw4 : wrap64 (od - 1) = o1 := by rw [wrap_id (by have := HXB.out; have := HTB2.out; have := HOD.out; omega) (by have := HXB.out; have := HTB2.out; have := HOD.out; omega), HO1.out]
          have hw5 : wrap64 (o1 - number) = gp := by rw [wrap_id (by have := HXB.out; have := HTB2.out; have := HOD.out; have := HO1.out; have := HNB.out; omega) (by have := HXB.out; have := HTB2.out; have := HOD.out; have := HO1.out; have := HNB.out; omega), ← HGP.out, HO1.out]
          have hw6 : wrap64 (o1 - od) = -1 := by rw [wrap_id (by have := HO1.out; omega) (by have := HO1.out; omega)]; have := HO1.out; omega
          have hw7 : wrap64 (-1 + 1) = 0 := wrap_id (by omega) (by omega)
          have hw7b : wrap64 0 = 0 := wrap_id (by omega) (by omega)
          have hw8 : wrap64 (most - 1) = most - 1 := wrap_id (by have := HM1.out; omega) (by have := HMB.out; omega)
          obtain ⟨j, HJV⟩ : ∃ j : Nat, Aside0 (j = 0) := ⟨0, ⟨rfl⟩⟩
          have HJ := Aside0.mk (show j ≤ xs.length by rw [HJV.out]; exact Nat.zero_le _)
          have HJI := Aside0.mk (show (j : Int) = 0 by rw [HJV.out]; rfl)
          obtain ⟨ys, HYS⟩ : ∃ ys, Aside0 (xs.drop j = ys) := ⟨_, ⟨rfl⟩⟩
          have HYX := Aside0.mk (show ys = xs by rw [← HYS.out, HJV.out, List.drop_zero])
          have HGAP := Aside0.mk (show L.after number most = ([⟨o1, 0, ⟨0, 0⟩, 0, gp⟩] ++ xs.take (most - 1).toNat, 0) by
            unfold Lg.after
            rw [if_neg (by rw [HTT.out]; have := HNB.out; have := HM1.out; omega), HXS.out, HTT.out, if_pos (by have := HOD.out; have := HK4.out; omega), ← HO1.out, ← HGP.out, ← HOD.out]
            rw [show total - (xs.length : Int) + 1 - 1 = total - (xs.length : Int) by omega])
          clear k4
          by_cases k5 : (ys.length : Int) ≤ most - 1
          · have hmn : (most - 1 < (ys.length : Int)) = False := eq_false (by omega)
            have hmn2 : ((ys.length : Int) ≤ most - 1) = True := eq_true k5
            obtain ⟨m, HMV⟩ : ∃ m : Nat, Aside0 (m = ys.length) := ⟨_, ⟨rfl⟩⟩
            have HM := Aside0.mk (show m ≤ ys.length by rw [HMV.out]; exact Nat.le_refl _)
            have HMI := Aside0.mk (show (m : Int) = (ys.length : Int) by rw [HMV.out])
            obtain ⟨zs, HZS⟩ : ∃ zs, Aside0 (ys.take m = zs) := ⟨_, ⟨rfl⟩⟩
            have HZB := Aside0.mk (show zs.length ≤ 1000000 by rw [← HZS.out, List.length_take]; have := HXB.out; have h2 := HYX.out; have h3 := HMV.out; rw [h2] at h3 ⊢; omega)
            have HRES := Aside0.mk (show xs.take (most - 1).toNat = zs by rw [← HZS.out, HMV.out, List.take_of_length_le (Nat.le_refl _), HYX.out]; exact List.take_of_length_le (by rw [HYX.out] at k5; omega))
            clear k5
            go_enter Tryd.func13, Tryd.ntmps13
            go_wp2_with (first | (go_at_call 14; (with_reducible refine (records_calls B g L _ HI.out HLN.out).mono ?_); rintro e w1 ⟨v1, rfl, ho, hb⟩; obtain ⟨A1, c1, e1, hc1, hC1⟩ := Kd.R_reads ho; subst e1; have HB1 := Aside0.mk hb; have HC1 := Aside0.mk hC1; have HCC1 := Aside0.mk hc1; rw [HXS.out] at HC1 HCC1 ⊢; have c12 := (blk_cell (blk_below HG.out hb) 12).trans rfl; obtain ⟨A2, c2, hcc2, hcut2, hD2⟩ := cutD HC1.out HCC1.out j HJ.out; have HD2 := Aside0.mk hD2; rw [HYS.out] at hcc2 hcut2 HD2; have HC2 := Aside0.mk (show Kd.C k44 w1 A2 ys.length ys from HD2.out w1 HC1.out); have HCC2 := Aside0.mk hcc2; rw [HJI.out] at hcut2; obtain ⟨_, hcut3, hT3⟩ := cutT (A := A2) hcc2 m HM.out; have HT3 := Aside0.mk hT3; rw [HZS.out] at hcut3 HT3; rw [HMI.out] at hcut3; clear hD2 hcc2 hT3;  clear ho hb hC1 hc1) | (at_builtin; refine Kd.R_append k44 (w0 := w) w.heap.size rfl (.tmp 39) (.tmp 47) 39 44 (.agg #[(.int .i64 0), (.int .i64 0), (.int .i64 0), (.int .i64 0), (.int .i64 0), (.int .i64 0)]) 48 rfl Tryd.underlying39 info44 rfl (by decide) (by omega) (.slice none 0 0) [] (⟨o1, 0, ⟨0, 0⟩, 0, gp⟩ : S44) [.int .i64 o1, .int .i64 0, .int .i64 0, .int .i64 0, .int .i64 0, .int .i64 gp] (fun _ => True) (fun _ => False) rfl rfl (k44_mkM _ _ _ (⟨o1, 0, ⟨0, 0⟩, 0, gp⟩ : S44)) (fun _ hk => hk.elim) (fun _ _ => trivial) (Kd.R_nil _ _ _ _ _) HB1.out HB1.out.size (by simp) ?_; intro v3 w3 ho hb hg hat; rw [List.nil_append] at ho; obtain ⟨A3, c3, e3⟩ := Kd.R_slice ho; subst e3; have HO3 := Aside0.mk ho; have HB3 := Aside0.mk hb; have HC3 := Aside0.mk (show Kd.C k44 w3 A2 ys.length ys from Kd.C_below HC2.out (Gbelow hg)); clear ho hb hg hat) | (at_builtin; refine Kd.R_append_rows k44 (w0 := w) w.heap.size rfl (.tmp 57) (.tmp 66) 39 44 (.agg #[(.int .i64 0), (.int .i64 0), (.int .i64 0), (.int .i64 0), (.int .i64 0), (.int .i64 0)]) 48 rfl Tryd.underlying39 info44 rfl (by decide) (by omega) (.slice A3 1 c3) [(⟨o1, 0, ⟨0, 0⟩, 0, gp⟩ : S44)] zs _ _ _ (fun _ => True) (fun _ => False) rfl rfl HO3.out (HT3.out _ HC3.out) (fun x cs hK => by obtain rfl := k44_open hK; exact k44_mkM _ _ _ x) (fun _ h => h.elim) (fun _ _ => trivial) HB3.out HB3.out.size (by have := HZB.out; simp; omega) ?_; intro v9 w9 ho hb hg hat; have HR9 := Aside0.mk ho; have HB9 := Aside0.mk hb; clear ho hb hg hat))
            go_ret2
            rw [HGAP.out, HRES.out]
            exact ⟨_, rfl, HR9.out, HB9.out⟩
          · have hmn : (most - 1 < (ys.length : Int)) = True := eq_true (by omega)
            have hmn2 : ((ys.length : Int) ≤ most - 1) = False := eq_false k5
            obtain ⟨m, HMV⟩ : ∃ m : Nat, Aside0 (m = (most - 1).toNat) := ⟨_, ⟨rfl⟩⟩
            have HM := Aside0.mk (show m ≤ ys.length by rw [HMV.out]; omega)
            have HMI := Aside0.mk (show (m : Int) = most - 1 by rw [HMV.out]; have := HM1.out; omega)
            obtain ⟨zs, HZS⟩ : ∃ zs, Aside0 (ys.take m = zs) := ⟨_, ⟨rfl⟩⟩
            have HZB := Aside0.mk (show zs.length ≤ 1000000 by rw [← HZS.out, List.length_take]; have := HXB.out; have h2 := HYX.out; rw [h2]; omega)
            have HRES := Aside0.mk (show xs.take (most - 1).toNat = zs by rw [← HZS.out, HMV.out, HYX.out])
            clear k5
            go_enter Tryd.func13, Tryd.ntmps13
            go_wp2_with (first | (go_at_call 14; (with_reducible refine (records_calls B g L _ HI.out HLN.out).mono ?_); rintro e w1 ⟨v1, rfl, ho, hb⟩; obtain ⟨A1, c1, e1, hc1, hC1⟩ := Kd.R_reads ho; subst e1; have HB1 := Aside0.mk hb; have HC1 := Aside0.mk hC1; have HCC1 := Aside0.mk hc1; rw [HXS.out] at HC1 HCC1 ⊢; have c12 := (blk_cell (blk_below HG.out hb) 12).trans rfl; obtain ⟨A2, c2, hcc2, hcut2, hD2⟩ := cutD HC1.out HCC1.out j HJ.out; have HD2 := Aside0.mk hD2; rw [HYS.out] at hcc2 hcut2 HD2; have HC2 := Aside0.mk (show Kd.C k44 w1 A2 ys.length ys from HD2.out w1 HC1.out); have HCC2 := Aside0.mk hcc2; rw [HJI.out] at hcut2; obtain ⟨_, hcut3, hT3⟩ := cutT (A := A2) hcc2 m HM.out; have HT3 := Aside0.mk hT3; rw [HZS.out] at hcut3 HT3; rw [HMI.out] at hcut3; clear hD2 hcc2 hT3;  clear ho hb hC1 hc1) | (at_builtin; refine Kd.R_append k44 (w0 := w) w.heap.size rfl (.tmp 39) (.tmp 47) 39 44 (.agg #[(.int .i64 0), (.int .i64 0), (.int .i64 0), (.int .i64 0), (.int .i64 0), (.int .i64 0)]) 48 rfl Tryd.underlying39 info44 rfl (by decide) (by omega) (.slice none 0 0) [] (⟨o1, 0, ⟨0, 0⟩, 0, gp⟩ : S44) [.int .i64 o1, .int .i64 0, .int .i64 0, .int .i64 0, .int .i64 0, .int .i64 gp] (fun _ => True) (fun _ => False) rfl rfl (k44_mkM _ _ _ (⟨o1, 0, ⟨0, 0⟩, 0, gp⟩ : S44)) (fun _ hk => hk.elim) (fun _ _ => trivial) (Kd.R_nil _ _ _ _ _) HB1.out HB1.out.size (by simp) ?_; intro v3 w3 ho hb hg hat; rw [List.nil_append] at ho; obtain ⟨A3, c3, e3⟩ := Kd.R_slice ho; subst e3; have HO3 := Aside0.mk ho; have HB3 := Aside0.mk hb; have HC3 := Aside0.mk (show Kd.C k44 w3 A2 ys.length ys from Kd.C_below HC2.out (Gbelow hg)); clear ho hb hg hat) | (at_builtin; refine Kd.R_append_rows k44 (w0 := w) w.heap.size rfl (.tmp 57) (.tmp 66) 39 44 (.agg #[(.int .i64 0), (.int .i64 0), (.int .i64 0), (.int .i64 0), (.int .i64 0), (.int .i64 0)]) 48 rfl Tryd.underlying39 info44 rfl (by decide) (by omega) (.slice A3 1 c3) [(⟨o1, 0, ⟨0, 0⟩, 0, gp⟩ : S44)] zs _ _ _ (fun _ => True) (fun _ => False) rfl rfl HO3.out (HT3.out _ HC3.out) (fun x cs hK => by obtain rfl := k44_open hK; exact k44_mkM _ _ _ x) (fun _ h => h.elim) (fun _ _ => trivial) HB3.out HB3.out.size (by have := HZB.out; simp; omega) ?_; intro v9 w9 ho hb hg hat; have HR9 := Aside0.mk ho; have HB9 := Aside0.mk hb; clear ho hb hg hat))
            go_ret2
            rw [HGAP.out, HRES.out]
            exact ⟨_, rfl, HR9.out, HB9.out⟩
        · have hb4 : decide (number + 1 < od) = false := decide_eq_false k4
          have HK4 := Aside0.mk k4
          obtain ⟨j, HJV⟩ : ∃ j : Nat, Aside0 ((number - (total - (xs.length : Int))).toNat = j) := ⟨_, ⟨rfl⟩⟩
          have HJ := Aside0.mk (show j ≤ xs.length by have h1 := HJV.out; have h2 := HNB.out; omega)
          have HJI0 := Aside0.mk (show (j : Int) = number - (total - (xs.length : Int)) by have h1 := HJV.out; have h2 := HOD.out; omega)
          obtain ⟨ji, HJI⟩ : ∃ ji : Int, Aside0 ((j : Int) = ji) := ⟨_, ⟨rfl⟩⟩
          have hw6 : wrap64 (number - od) = ji - 1 := by rw [wrap_id (by have := HJI0.out; have := HOD.out; omega) (by have := HJI0.out; have := HOD.out; have := HJ.out; have := HXB.out; omega)]; have := HJI.out; have := HJI0.out; have := HOD.out; omega
          have hw7 : wrap64 (ji - 1 + 1) = ji := by rw [show ji - 1 + 1 = ji by omega]; exact wrap_id (by have := HJI.out; omega) (by have := HJI.out; have := HJ.out; have := HXB.out; omega)
          have hw7b : wrap64 ji = ji := wrap_id (by have := HJI.out; omega) (by have := HJI.out; have := HJ.out; have := HXB.out; omega)
          have hw8 : wrap64 most = most := wrap_id (by have := HM1.out; omega) (by have := HMB.out; omega)
          obtain ⟨ys, HYS⟩ : ∃ ys, Aside0 (xs.drop j = ys) := ⟨_, ⟨rfl⟩⟩
          have HYB := Aside0.mk (show ys.length ≤ 1000000 by rw [← HYS.out, List.length_drop]; have := HXB.out; omega)
          have HGAP := Aside0.mk (show L.after number most = (ys.take most.toNat, 0) by
            unfold Lg.after
            rw [if_neg (by rw [HTT.out]; have := HNB.out; have := HM1.out; omega), HXS.out, HTT.out, if_neg (by have := HOD.out; have := HK4.out; omega), HJV.out, HYS.out])
          clear k4
          by_cases k5 : (ys.length : Int) ≤ most
          · have hmn : (most < (ys.length : Int)) = False := eq_false (by omega)
            have hmn2 : ((ys.length : Int) ≤ most) = True := eq_true k5
            obtain ⟨m, HMV⟩ : ∃ m : Nat, Aside0 (m = ys.length) := ⟨_, ⟨rfl⟩⟩
            have HM := Aside0.mk (show m ≤ ys.length by rw [HMV.out]; exact Nat.le_refl _)
            have HMI := Aside0.mk (show (m : Int) = (ys.length : Int) by rw [HMV.out])
            obtain ⟨zs, HZS⟩ : ∃ zs, Aside0 (ys.take m = zs) := ⟨_, ⟨rfl⟩⟩
            have HZB := Aside0.mk (show zs.length ≤ 1000000 by rw [← HZS.out, List.length_take]; have := HYB.out; omega)
            have HRES := Aside0.mk (show ys.take most.toNat = zs by rw [← HZS.out, HMV.out, List.take_of_length_le (Nat.le_refl _)]; exact List.take_of_length_le (by omega))
            clear k5
            go_enter Tryd.func13, Tryd.ntmps13
            go_wp2_with (first | (go_at_call 14; (with_reducible refine (records_calls B g L _ HI.out HLN.out).mono ?_); rintro e w1 ⟨v1, rfl, ho, hb⟩; obtain ⟨A1, c1, e1, hc1, hC1⟩ := Kd.R_reads ho; subst e1; have HB1 := Aside0.mk hb; have HC1 := Aside0.mk hC1; have HCC1 := Aside0.mk hc1; rw [HXS.out] at HC1 HCC1 ⊢; have c12 := (blk_cell (blk_below HG.out hb) 12).trans rfl; obtain ⟨A2, c2, hcc2, hcut2, hD2⟩ := cutD HC1.out HCC1.out j HJ.out; have HD2 := Aside0.mk hD2; rw [HYS.out] at hcc2 hcut2 HD2; have HC2 := Aside0.mk (show Kd.C k44 w1 A2 ys.length ys from HD2.out w1 HC1.out); have HCC2 := Aside0.mk hcc2; rw [HJI.out] at hcut2; obtain ⟨_, hcut3, hT3⟩ := cutT (A := A2) hcc2 m HM.out; have HT3 := Aside0.mk hT3; rw [HZS.out] at hcut3 HT3; rw [HMI.out] at hcut3; clear hD2 hcc2 hT3;  clear ho hb hC1 hc1) | (at_builtin; refine Kd.R_append_rows k44 (w0 := w) w.heap.size rfl (.tmp 57) (.tmp 66) 39 44 (.agg #[(.int .i64 0), (.int .i64 0), (.int .i64 0), (.int .i64 0), (.int .i64 0), (.int .i64 0)]) 48 rfl Tryd.underlying39 info44 rfl (by decide) (by omega) (.slice none 0 0) [] zs _ _ _ (fun _ => True) (fun _ => False) rfl rfl (Kd.R_nil _ _ _ _ _) (HT3.out _ HC2.out) (fun x cs hK => by obtain rfl := k44_open hK; exact k44_mkM _ _ _ x) (fun _ h => h.elim) (fun _ _ => trivial) HB1.out HB1.out.size (by have := HZB.out; simp; omega) ?_; intro v9 w9 ho hb hg hat; have HR9 := Aside0.mk ho; have HB9 := Aside0.mk hb; clear ho hb hg hat))
            go_ret2
            rw [HGAP.out, HRES.out]
            rw [List.nil_append] at HR9
            exact ⟨_, rfl, HR9.out, HB9.out⟩
          · have hmn : (most < (ys.length : Int)) = True := eq_true (by omega)
            have hmn2 : ((ys.length : Int) ≤ most) = False := eq_false k5
            obtain ⟨m, HMV⟩ : ∃ m : Nat, Aside0 (m = most.toNat) := ⟨_, ⟨rfl⟩⟩
            have HM := Aside0.mk (show m ≤ ys.length by rw [HMV.out]; omega)
            have HMI := Aside0.mk (show (m : Int) = most by rw [HMV.out]; have := HM1.out; omega)
            obtain ⟨zs, HZS⟩ : ∃ zs, Aside0 (ys.take m = zs) := ⟨_, ⟨rfl⟩⟩
            have HZB := Aside0.mk (show zs.length ≤ 1000000 by rw [← HZS.out, List.length_take]; have := HYB.out; omega)
            have HRES := Aside0.mk (show ys.take most.toNat = zs by rw [← HZS.out, HMV.out])
            clear k5
            go_enter Tryd.func13, Tryd.ntmps13
            go_wp2_with (first | (go_at_call 14; (with_reducible refine (records_calls B g L _ HI.out HLN.out).mono ?_); rintro e w1 ⟨v1, rfl, ho, hb⟩; obtain ⟨A1, c1, e1, hc1, hC1⟩ := Kd.R_reads ho; subst e1; have HB1 := Aside0.mk hb; have HC1 := Aside0.mk hC1; have HCC1 := Aside0.mk hc1; rw [HXS.out] at HC1 HCC1 ⊢; have c12 := (blk_cell (blk_below HG.out hb) 12).trans rfl; obtain ⟨A2, c2, hcc2, hcut2, hD2⟩ := cutD HC1.out HCC1.out j HJ.out; have HD2 := Aside0.mk hD2; rw [HYS.out] at hcc2 hcut2 HD2; have HC2 := Aside0.mk (show Kd.C k44 w1 A2 ys.length ys from HD2.out w1 HC1.out); have HCC2 := Aside0.mk hcc2; rw [HJI.out] at hcut2; obtain ⟨_, hcut3, hT3⟩ := cutT (A := A2) hcc2 m HM.out; have HT3 := Aside0.mk hT3; rw [HZS.out] at hcut3 HT3; rw [HMI.out] at hcut3; clear hD2 hcc2 hT3;  clear ho hb hC1 hc1) | (at_builtin; refine Kd.R_append_rows k44 (w0 := w) w.heap.size rfl (.tmp 57) (.tmp 66) 39 44 (.agg #[(.int .i64 0), (.int .i64 0), (.int .i64 0), (.int .i64 0), (.int .i64 0), (.int .i64 0)]) 48 rfl Tryd.underlying39 info44 rfl (by decide) (by omega) (.slice none 0 0) [] zs _ _ _ (fun _ => True) (fun _ => False) rfl rfl (Kd.R_nil _ _ _ _ _) (HT3.out _ HC2.out) (fun x cs hK => by obtain rfl := k44_open hK; exact k44_mkM _ _ _ x) (fun _ h => h.elim) (fun _ _ => trivial) HB1.out HB1.out.size (by have := HZB.out; simp; omega) ?_; intro v9 w9 ho hb hg hat; have HR9 := Aside0.mk ho; have HB9 := Aside0.mk hb; clear ho hb hg hat))
            go_ret2
            rw [HGAP.out, HRES.out]
            rw [List.nil_append] at HR9
            exact ⟨_, rfl, HR9.out, HB9.out⟩
end Go.Proofs.YtbccjcdmpiolpaaDoor.T
end
