-- written by this session's own program (wip/tools/myprint.py), over the kit's print
import Derived.Test.YtoenogjedmnnlaaDoorQx0
import Derived.Test.YtoenogjedmnnlaaDoorQx2
import Derived.Test.YtoenogjedmnnlaaDoorQx3
import Derived.Test.YtoenogjedmnnlaaDoorMp
import Derived.Test.YtoenogjedmnnlaaDoorGl
import Derived.Test.YtoenogjedmnnlaaDoorShelf
import Derived.WalkSpells
namespace Go.Proofs.YtoenogjedmnnlaaDoor.Q
open Go.RowKit Go.Proofs.YtoenogjedmnnlaaDoorW.PrintWords Go.Proofs.YtoenogjedmnnlaaDoorW.PrintLast Go.Proofs.YtoenogjedmnnlaaDoorW.PrintMore
open Go.Proofs.YtoenogjedmnnlaaDoorV Go.Proofs.YtoenogjedmnnlaaDoorG
attribute [local go_sem] max2_int min2_int max_two min_two max_three min_three max_four min_four   -- for this text's walks alone
set_option linter.unusedVariables false
set_option linter.unusedSimpArgs false

/-! auto.Do: what an event does to an automaton: the table's actions, done one by one by methods that a map holds. -/
open Go.Proofs.YtoenogjedmnnlaaDoorM Go.Proofs.YtoenogjedmnnlaaDoorG
def auto_st (ends : Bool) (r : Int × Int × Int) (x : Int) : Int × Int × Int :=
  if x = 5 then ((if ends then 2 else 5), r.2.1, r.2.2) else if x = 6 then (0, 3, r.2.2) else if x = 7 ∨ x = 10 then (max (wrap64 (r.1 - 1)) 0, 3, (r.2.2 + 1) % 256) else r
def auto_Do.f (a0_0 : Int) (a0_1 : Int) (a0_2 : Int) (a0_3 : Int) (a1 : Int) : Option (Int × Int × Int × Int × List Int × Int) :=
  (fsm_Next.f a0_0 a1).bind fun t => if t.2.2 = true then (fsm_Timed.f t.2.1).bind fun b => some (t.2.1, (t.1.foldl (auto_st (t.1.contains 10)) (a0_1, a0_2, a0_3)).1, (if b = true then (t.1.foldl (auto_st (t.1.contains 10)) (a0_1, a0_2, a0_3)).2.1 else 0), (t.1.foldl (auto_st (t.1.contains 10)) (a0_1, a0_2, a0_3)).2.2, t.1, 0) else some (a0_0, a0_1, a0_2, a0_3, [], 1)
/-- A row of whole numbers of the call's own: nil, or a block. -/
theorem ints_shape {W : World} {base : Nat} {ok : Nat → Prop} {v : Value} {xs : List Int} (h : Kd.R (Kd.int .i64) 3 W base ok v xs) :
    (v = .slice none 0 0 ∧ xs = []) ∨ ∃ g c, v = .slice (some ⟨g, 0, none⟩) xs.length c ∧ base ≤ g ∧ g < W.heap.size ∧ xs.length ≤ 9223372036854775807 ∧ ∀ j, j < xs.length → W.cell? ⟨g, j, none⟩ = some (.int .i64 (xs.getD j 0)) := by
  have h' := h
  obtain ⟨h0, inner, ho, hr⟩ := h
  rcases ho.2 with ⟨rfl, hx⟩ | ⟨g, cap, cur, rfl, hg, hh, _⟩
  · refine Or.inl ⟨rfl, ?_⟩
    have := (Kd.R_reads' h').1
    exact List.eq_nil_of_length_eq_zero this.symm
  · have hR := Kd.R_reads' h'
    refine Or.inr ⟨g, cap, rfl, hg, blk_lt hh, hR.2.2.2.1, fun j hj => ?_⟩
    obtain ⟨ad, c, e1, e2, e3, e4⟩ := ReadsRow.get_ hR.2.2 (0 : Int) (j : Int) (by omega) (by omega)
    injection e1 with e1
    subst e1
    have e5 : c = [.int .i64 (xs.getD j 0)] := by simpa [Kd.int, Kd.scalar] using e3
    have := e4 0 (.int .i64 (xs.getD j 0)) (by rw [e5]; rfl)
    have e6 : (⟨g, 0, none⟩ : Addr).add (j * 1 + 0) = ⟨g, j, none⟩ := by rw [Nat.mul_one, Nat.add_zero]; unfold Addr.add; split <;> simp_all
    rw [← e6]
    simpa [Kd.int, Kd.scalar] using this
theorem auto_contains {W : World} {base : Nat} {ok : Nat → Prop} {v : Value} {xs : List Int} (h : Kd.R (Kd.int .i64) 3 W base ok v xs) (x : Int) :
    Calls Tryd.prog 31 #[v, .int .i64 x] W fun e w' => e = .returned (.bool (xs.contains x)) ∧ w' = W := by
  rcases ints_shape h with ⟨rfl, rfl⟩ | ⟨g, c, rfl, _, _, hl, hc⟩
  · exact Tryd.slices_Contains_int_empty none 0 x W
  · have := Tryd.slices_Contains_int g 0 xs.length c xs x W (Nat.le_refl _) hl (fun j hj => by rw [Nat.zero_add]; exact hc j hj)
    rw [List.take_length] at this
    exact this
/-! ### the methods -/
theorem auto_bs {B j : Nat} {v : Value} {W w' : World} (h : Below B W w') : Below B W (w'.setCell ⟨B, j, none⟩ v) := h.setCell (Nat.le_refl _) v
def auto_cs (s c l i : Int) (v : Value) : Array Value := #[.int .i64 s, .int .i64 c, .int .i64 l, .int .u8 i, v]
def auto_Post (B : Nat) (cs : Array Value) (W : World) (e : Ending) (w' : World) : Prop := e = .returned (.tuple #[]) ∧ w'.heap[B]? = some (.cells cs 48 (0, 0)) ∧ Below B W w' ∧ Nonempty (Off [B] W w')
set_option maxHeartbeats 1000000 in
theorem auto_nought (B : Nat) (s c l i : Int) (v : Value) (W : World) (h : W.heap[B]? = some (.cells (auto_cs s c l i v) 48 (0, 0))) :
    Calls Tryd.prog 25 #[.pointer (some ⟨B, 0, none⟩)] W (auto_Post B (auto_cs s 0 3 i v) W) := by
  have HB := Aside0.mk h
  obtain ⟨hc0, hc1, hc2, hc3, hc4, hf0, hf1, hf2, hf3, hf4⟩ := bk5 h
  clear h
  go_enter Tryd.func25, Tryd.ntmps25
  go_wp2
  go_end0
  exact ⟨rfl, blk_put (blk_put HB.out 1 _ rfl) 2 _ rfl, by repeat (first | exact Below.refl _ _ | apply auto_bs), inferInstance⟩
set_option maxHeartbeats 1000000 in
theorem auto_send (B : Nat) (s c l i : Int) (v : Value) (W : World) (h : W.heap[B]? = some (.cells (auto_cs s c l i v) 48 (0, 0))) :
    Calls Tryd.prog 26 #[.pointer (some ⟨B, 0, none⟩)] W (auto_Post B (auto_cs s (max (wrap64 (c - 1)) 0) 3 ((i + 1) % 256) v) W) := by
  have HB := Aside0.mk h
  obtain ⟨hc0, hc1, hc2, hc3, hc4, hf0, hf1, hf2, hf3, hf4⟩ := bk5 h
  clear h
  go_enter Tryd.func26, Tryd.ntmps26
  go_wp2
  · have h0 : wrap64 (c - 1) ≤ 0 := by omega
    rw [Int.max_eq_right h0]
    go_end0
    exact ⟨rfl, blk_put (blk_put (blk_put HB.out 1 _ rfl) 2 _ rfl) 3 _ rfl, by repeat (first | exact Below.refl _ _ | apply auto_bs), inferInstance⟩
  · have h0 : 0 ≤ wrap64 (c - 1) := by assumption
    rw [Int.max_eq_left h0]
    go_end0
    exact ⟨rfl, blk_put (blk_put (blk_put HB.out 1 _ rfl) 2 _ rfl) 3 _ rfl, by repeat (first | exact Below.refl _ _ | apply auto_bs), inferInstance⟩
set_option maxHeartbeats 1000000 in
theorem auto_begin (B : Nat) (s c l i : Int) (v : Value) (xs : List Int) (base : Nat) (ok : Nat → Prop) (W : World) (h : W.heap[B]? = some (.cells (auto_cs s c l i v) 48 (0, 0))) (hv : Kd.R (Kd.int .i64) 3 W base ok v xs) (hne : ∀ k, ok k → k ≠ B) :
    Calls Tryd.prog 24 #[.pointer (some ⟨B, 0, none⟩)] W (auto_Post B (auto_cs s (if xs.contains 10 then 2 else 5) l i v) W) := by
  have HB := Aside0.mk h
  have HV := Aside0.mk hv
  have HN := Aside0.mk hne
  obtain ⟨hc0, hc1, hc2, hc3, hc4, hf0, hf1, hf2, hf3, hf4⟩ := bk5 h
  clear h hv hne
  have hc1' : (W.setCell ⟨B, 1, none⟩ (.int .i64 5)).cell? ⟨B, 4, none⟩ = some v := (blk_cell (blk_put HB.out 1 (.int .i64 5) rfl) 4).trans rfl
  cases hb : xs.contains 10 with
  | true =>
    go_enter Tryd.func24, Tryd.ntmps24
    go_wp2_with (first | (go_at_call 31; refine (auto_contains (xs := xs) (Kd.R_step HV.out fun k h1 h2 => Below.heap_setCell _ _ _ k (HN.out k h1)) 10).mono ?_; rintro e w' ⟨rfl, rfl⟩; rw [hb]))
    go_end0
    exact ⟨rfl, blk_put (blk_put HB.out 1 _ rfl) 1 _ rfl, by repeat (first | exact Below.refl _ _ | apply auto_bs), inferInstance⟩
  | false =>
    go_enter Tryd.func24, Tryd.ntmps24
    go_wp2_with (first | (go_at_call 31; refine (auto_contains (xs := xs) (Kd.R_step HV.out fun k h1 h2 => Below.heap_setCell _ _ _ k (HN.out k h1)) 10).mono ?_; rintro e w' ⟨rfl, rfl⟩; rw [hb]))
    go_end0
    exact ⟨rfl, blk_put HB.out 1 _ rfl, by repeat (first | exact Below.refl _ _ | apply auto_bs), inferInstance⟩

/-! ### the map of the methods -/
def auto_fn (Bw f : Nat) : Value := .func (.func f) #[.pointer (some ⟨Bw, 0, none⟩)] #[]
def auto_es (Bw : Nat) : Array MapEntry := #[{ key := .int .i64 5, val := auto_fn Bw 24, born := 0 }, { key := .int .i64 6, val := auto_fn Bw 25, born := 1 }, { key := .int .i64 7, val := auto_fn Bw 26, born := 2 }, { key := .int .i64 10, val := auto_fn Bw 26, born := 3 }]
theorem auto_key (n : Int) : MapKept.IsKey (.int .i64) (.int .i64 n) := by simp [MapKept.IsKey]
theorem auto_map (Bw : Nat) (w : World) : ∃ W1 W2 W3 W4 : World, (Instr.mapUpdate 49 (.map (some w.heap.size)) (.int .i64 5) (auto_fn Bw 24)).run Tryd.prog (w.alloc (.map #[] 0)) = .ok () W1 ∧ (Instr.mapUpdate 49 (.map (some w.heap.size)) (.int .i64 6) (auto_fn Bw 25)).run Tryd.prog W1 = .ok () W2 ∧ (Instr.mapUpdate 49 (.map (some w.heap.size)) (.int .i64 7) (auto_fn Bw 26)).run Tryd.prog W2 = .ok () W3 ∧ (Instr.mapUpdate 49 (.map (some w.heap.size)) (.int .i64 10) (auto_fn Bw 26)).run Tryd.prog W3 = .ok () W4 ∧ W4.heap[w.heap.size]? = some (.map (auto_es Bw) 4) ∧ Below w.heap.size w W4 := by
  have hm : Tryd.prog.underlying 49 = some (.map 3 1) := Tryd.underlying49
  have hk : Tryd.prog.underlying 3 = some (.int .i64) := Tryd.underlying3
  have h0 : (w.alloc (.map #[] 0)).heap[w.heap.size]? = some (.map #[] 0) := (MapKept.heap_alloc w _).1
  obtain ⟨W1, r1, b1, g1⟩ := put_new (val := auto_fn Bw 24) hm hk h0 (auto_key 5) (by rfl)
  obtain ⟨W2, r2, b2, g2⟩ := put_new (val := auto_fn Bw 25) hm hk b1 (auto_key 6) (by rfl)
  obtain ⟨W3, r3, b3, g3⟩ := put_new (val := auto_fn Bw 26) hm hk b2 (auto_key 7) (by rfl)
  obtain ⟨W4, r4, b4, g4⟩ := put_new (val := auto_fn Bw 26) hm hk b3 (auto_key 10) (by rfl)
  have z := Nat.le_refl w.heap.size
  exact ⟨W1, W2, W3, W4, r1, r2, r3, r4, b4, g4 _ _ z (g3 _ _ z (g2 _ _ z (g1 _ _ z ((Below.refl w.heap.size w).alloc (Nat.le_refl _) (.map #[] 0)))))⟩
theorem auto_zero : ∃ z : Value, ∀ W : World, (zeroValue 1).run Tryd.prog W = .ok z W := ⟨_, fun W => by rfl⟩
theorem auto_at {W : World} {b Bw : Nat} (hb : W.heap[b]? = some (.map (auto_es Bw) 4)) (x : Int) (f : Nat) (hf : (x = 5 ∧ f = 24) ∨ (x = 6 ∧ f = 25) ∨ ((x = 7 ∨ x = 10) ∧ f = 26)) :
    (Instr.lookup 49 (.map (some b)) (.int .i64 x) true).run Tryd.prog W = .ok (.tuple #[auto_fn Bw f, .bool true]) W := by
  have hm : Tryd.prog.underlying 49 = some (.map 3 1) := Tryd.underlying49
  have hk : Tryd.prog.underlying 3 = some (.int .i64) := Tryd.underlying3
  rcases hf with ⟨rfl, rfl⟩ | ⟨rfl, rfl⟩ | ⟨rfl | rfl, rfl⟩ <;> exact get_there hm hk hb (auto_key _) (by rfl)
theorem auto_not {W : World} {b Bw : Nat} (hb : W.heap[b]? = some (.map (auto_es Bw) 4)) (x : Int) (h5 : x ≠ 5) (h6 : x ≠ 6) (h7 : x ≠ 7) (h10 : x ≠ 10) :
    ∃ z, (Instr.lookup 49 (.map (some b)) (.int .i64 x) true).run Tryd.prog W = .ok (.tuple #[z, .bool false]) W := by
  have hm : Tryd.prog.underlying 49 = some (.map 3 1) := Tryd.underlying49
  have hk : Tryd.prog.underlying 3 = some (.int .i64) := Tryd.underlying3
  obtain ⟨z, hz⟩ := auto_zero
  have e1 : ∀ y : Int, x ≠ y → (x == y) = false := fun y h => beq_eq_false_iff_ne.2 h
  have e2 : ∀ y : Int, x ≠ y → (y == x) = false := fun y h => beq_eq_false_iff_ne.2 (Ne.symm h)
  exact ⟨z, get_none hm hk hb (auto_key _) (by simp [auto_es, Instr.findNow, Instr.sameNow, e1 5 h5, e1 6 h6, e1 7 h7, e1 10 h10]) (hz W)⟩
/-! ### the walk -/
structure auto_At (s : Int) (v : Value) (xs : List Int) (gW gM : Nat) (R : Int × Int × Int) (w5 : World) (wr : World) (k : Nat) (c l i : Int) : Prop where
  bw : wr.heap[gW]? = some (.cells (auto_cs s c l i v) 48 (0, 0))
  mp : wr.heap[gM]? = some (.map (auto_es gW) 4)
  bel : Below w5.heap.size w5 wr
  rest : (xs.drop k).foldl (auto_st (xs.contains 10)) (c, l, i) = R
theorem auto_At.step {s : Int} {v : Value} {xs : List Int} {gW gM : Nat} {R : Int × Int × Int} {w5 wr w' : World} {k : Nat} {c l i : Int} (h : auto_At s v xs gW gM R w5 wr k c l i) {c2 l2 i2 : Int} {e : Ending} (hk : k < xs.length) (hW : w5.heap.size ≤ gW) (hne : gM ≠ gW) (hp : auto_Post gW (auto_cs s c2 l2 i2 v) wr e w') (hst : auto_st (xs.contains 10) (c, l, i) (xs.getD k 0) = (c2, l2, i2)) : auto_At s v xs gW gM R w5 w' (k + 1) c2 l2 i2 := by
  obtain ⟨_, h1, h2, ⟨h3⟩⟩ := hp
  refine ⟨h1, (h3.out gM (blk_lt h.mp) (by simpa using hne)).trans h.mp, h.bel.trans (h2.mono hW), ?_⟩
  rw [← h.rest, List.drop_eq_getElem_cons hk, List.foldl_cons, show xs[k] = xs.getD k 0 by simp [List.getD_eq_getElem?_getD, List.getElem?_eq_getElem hk], hst]
theorem auto_At.skip {s : Int} {v : Value} {xs : List Int} {gW gM : Nat} {R : Int × Int × Int} {w5 wr : World} {k : Nat} {c l i : Int} (h : auto_At s v xs gW gM R w5 wr k c l i) (hk : k < xs.length) (hst : auto_st (xs.contains 10) (c, l, i) (xs.getD k 0) = (c, l, i)) : auto_At s v xs gW gM R w5 wr (k + 1) c l i := by
  refine ⟨h.bw, h.mp, h.bel, ?_⟩
  rw [← h.rest, List.drop_eq_getElem_cons hk, List.foldl_cons, show xs[k] = xs.getD k 0 by simp [List.getD_eq_getElem?_getD, List.getElem?_eq_getElem hk], hst]
set_option maxHeartbeats 1000000 in
theorem auto_timed (nx : Int) (b : Bool) (w : World) (h : fsm_Timed.f nx = some b) : Calls Tryd.prog 22 #[.int .i64 nx] w fun e w' => e = .returned (.bool b) ∧ w' = w := by
  unfold fsm_Timed.f at h
  by_cases h4 : nx ≥ 4
  · rw [if_pos h4] at h
    obtain rfl := Option.some.inj h
    have d1 : (4 : Int) ≤ nx := h4
    clear h h4
    go_enter Tryd.func22, Tryd.ntmps22
    go_wp2
    go_ret
    exact ⟨rfl, rfl⟩
  · rw [if_neg h4] at h
    obtain rfl := Option.some.inj h
    have d1 : nx < (4 : Int) := by omega
    clear h h4
    go_enter Tryd.func22, Tryd.ntmps22
    go_wp2
    go_ret
    exact ⟨rfl, rfl⟩
def auto_DoPost (r1 r2 r3 r4 : Int) (r5 : List Int) (r6 : Int) (w : World) (e : Ending) (w' : World) : Prop := ∃ v4_ : Value, e = .returned (.tuple #[.agg #[.int .i64 r1, .int .i64 r2, .int .i64 r3, .int .u8 r4], v4_, .int .i64 r6]) ∧ Kd.R (Kd.int .i64) 3 w' w.heap.size (fun _ => True) v4_ r5 ∧ Below w.heap.size w w'
set_option maxHeartbeats 4000000 in
set_option maxRecDepth 100000 in
theorem auto_Do.never (s c l i ev : Int) (xs : List Int) (nx : Int) (w : World) (hgl : Gl w) (hn : fsm_Next.f s ev = some (xs, nx, false)) :
    Calls Tryd.prog 13 #[.agg #[.int .i64 s, .int .i64 c, .int .i64 l, .int .u8 i], .int .i64 ev] w (auto_DoPost s c l i [] 1 w) := by
  have GL := Aside0.mk hgl
  have HN := Aside0.mk hn
  clear hgl hn
  have hu := Tryd.underlying23
  go_enter Tryd.func13, Tryd.ntmps13
  go_wp2_with (first
    | ((with_reducible refine gate_dst (N := 2) rfl ?_); refine box_event ?hg (N := 2) ?hd (cs := #[.int .i64 s, .int .i64 c, .int .i64 l, .int .u8 i]) (t := 23) ?hr ?_; (case hd => rfl); (case hg => rfl); (case hr => first | (go_simp; done) | (go_simp; rfl)); intro g2 hg w3 hbox hb; have B2 := Aside0.mk hbox; have HB := Aside0.mk hb; have G2 := Aside0.mk hg; clear hbox hb hg)
    | ((with_reducible refine gate_dst (N := 4) rfl ?_); refine box_event ?hg (N := 4) ?hd (cs := #[.int .i64 0, .int .i64 0, .int .i64 0, .int .u8 0]) (t := 23) ?hr ?_; (case hd => rfl); (case hg => rfl); (case hr => first | (go_simp; done) | (go_simp; rfl)); intro g4 hg w4 hbox hb; have B4 := Aside0.mk hbox; have G4 := Aside0.mk (show w.heap.size ≤ g4 by rw [hg]; exact HB.out.size); have n0 := Aside0.mk ((hb.block g2 (blk_lt B2.out)).trans B2.out); have n1 := Aside0.mk (below_step HB.out hb); clear B2 HB; have B2 := n0; have HB := n1; clear n0 n1 hbox hb hg; obtain ⟨p0, p1, p2, p3, q0, q1, q2, q3⟩ := bk4 B2.out)
    | (go_at_call 23; refine (fsm_Next.calls s ev xs nx false _ (GL.out.below HB.out) HN.out).mono ?_; rintro e w5 ⟨v, rfl, hv, hb⟩; have n0 := Aside0.mk ((hb.block g2 (blk_lt B2.out)).trans B2.out); have n1 := Aside0.mk (below_step HB.out hb); have n2 := Aside0.mk ((hb.block g4 (blk_lt B4.out)).trans B4.out); clear B2 HB B4 p0 p1 p2 p3 q0 q1 q2 q3 hv hb; have B2 := n0; have HB := n1; have B4 := n2; clear n0 n1 n2; obtain ⟨p0, p1, p2, p3, q0, q1, q2, q3⟩ := bk4 B2.out; obtain ⟨p4, p5, p6, p7, q4, q5, q6, q7⟩ := bk4 B4.out))
  refine bodyPost_ret (results_ctt rfl _ _ g4 23 #[.int .i64 s, .int .i64 c, .int .i64 l, .int .u8 i] (0, 0) _ rfl (blk_put (blk_put (blk_put (blk_put B4.out 0 _ rfl) 1 _ rfl) 2 _ rfl) 3 _ rfl) Tryd.underlying23 rfl (by kernel_rfl)) rfl ?_
  exact ⟨_, rfl, Kd.R_nil _ _ _ _ _, by repeat (first | exact HB.out | refine pS ?_ G4.out)⟩
set_option maxHeartbeats 8000000 in
set_option maxRecDepth 100000 in
theorem auto_Do.does (s c l i ev : Int) (xs : List Int) (nx : Int) (b : Bool) (r1 r2 r3 : Int) (w : World) (hgl : Gl w) (hn : fsm_Next.f s ev = some (xs, nx, true)) (ht : fsm_Timed.f nx = some b) (hr : xs.foldl (auto_st (xs.contains 10)) (c, l, i) = (r1, r2, r3)) (q2 : Int) (hq : q2 = if b = true then r2 else 0) :
    Calls Tryd.prog 13 #[.agg #[.int .i64 s, .int .i64 c, .int .i64 l, .int .u8 i], .int .i64 ev] w (auto_DoPost nx r1 q2 r3 xs 0 w) := by
  have GL := Aside0.mk hgl
  have HN := Aside0.mk hn
  have HT := Aside0.mk ht
  have HR := Aside0.mk hr
  have HQ := Aside0.mk hq
  clear hgl hn ht hr hq
  have hu48 := Tryd.underlying48
  have hmm : ∀ W : World, (Instr.makeMap 49 none).run Tryd.prog W = .ok (.map (some W.heap.size)) (W.alloc (.map #[] 0)) := fun _ => rfl
  have hu := Tryd.underlying23
  go_enter Tryd.func13, Tryd.ntmps13
  go_wp2_with (first
    | ((with_reducible refine gate_dst (N := 2) rfl ?_); refine box_event ?hg (N := 2) ?hd (cs := #[.int .i64 s, .int .i64 c, .int .i64 l, .int .u8 i]) (t := 23) ?hr ?_; (case hd => rfl); (case hg => rfl); (case hr => first | (go_simp; done) | (go_simp; rfl)); intro g2 hg w3 hbox hb; have B2 := Aside0.mk hbox; have HB := Aside0.mk hb; have G2 := Aside0.mk hg; clear hbox hb hg)
    | ((with_reducible refine gate_dst (N := 4) rfl ?_); refine box_event ?hg (N := 4) ?hd (cs := #[.int .i64 0, .int .i64 0, .int .i64 0, .int .u8 0]) (t := 23) ?hr ?_; (case hd => rfl); (case hg => rfl); (case hr => first | (go_simp; done) | (go_simp; rfl)); intro g4 hg w4 hbox hb; have B4 := Aside0.mk hbox; have G4 := Aside0.mk (show w.heap.size ≤ g4 by rw [hg]; exact HB.out.size); have n0 := Aside0.mk ((hb.block g2 (blk_lt B2.out)).trans B2.out); have n1 := Aside0.mk (below_step HB.out hb); clear B2 HB; have B2 := n0; have HB := n1; clear n0 n1 hbox hb hg; obtain ⟨p0, p1, p2, p3, q0, q1, q2, q3⟩ := bk4 B2.out)
    | (go_at_call 23; refine (fsm_Next.calls s ev xs nx true _ (GL.out.below HB.out) HN.out).mono ?_; rintro e w5 ⟨v, rfl, hv, hb⟩; obtain ⟨A, cp, rfl⟩ := Kd.R_slice hv; have RV := Aside0.mk (Kd.R_lower (Kd.R_mono (ok' := fun k => k < w5.heap.size ∧ k ≠ g4) (Kd.R_bound hv) (fun k hk => ⟨hk.2.2.1, Nat.ne_of_gt (Nat.lt_of_lt_of_le (blk_lt B4.out) hk.2.1)⟩)) HB.out.size); have n0 := Aside0.mk ((hb.block g2 (blk_lt B2.out)).trans B2.out); have n1 := Aside0.mk (below_step HB.out hb); have n2 := Aside0.mk ((hb.block g4 (blk_lt B4.out)).trans B4.out); clear B2 HB B4 p0 p1 p2 p3 q0 q1 q2 q3 hv hb; have B2 := n0; have HB := n1; have B4 := n2; clear n0 n1 n2; obtain ⟨p0, p1, p2, p3, q0, q1, q2, q3⟩ := bk4 B2.out)
    | ((with_reducible refine gate_dst (N := 30) rfl ?_); refine box_event ?hg (N := 30) ?hd (cs := auto_cs s c l i (.slice A xs.length cp)) (t := 48) ?hr ?_; (case hd => rfl); (case hg => rfl); (case hr => first | (go_simp; done) | (go_simp; rfl)); intro gW hg w6 hbox hb; have GW := Aside0.mk (Nat.le_of_eq hg.symm); obtain ⟨W1, W2, W3, W4, m1, m2, m3, m4, hm, hb4⟩ := auto_map gW w6; simp only [auto_fn] at m1 m2 m3 m4; have AT := Aside0.mk (show auto_At s (.slice A xs.length cp) xs gW w6.heap.size (r1, r2, r3) w5 W4 0 c l i from ⟨(hb4.block gW (blk_lt hbox)).trans hbox, hm, hb.trans (hb4.mono hb.size), HR.out⟩); have NE := Aside0.mk (Nat.ne_of_gt (blk_lt hbox) : w6.heap.size ≠ gW); clear hbox hb hg hm hb4 p0 p1 p2 p3 q0 q1 q2 q3))
  go_loopw [43] (fun v43 wr => ∃ (k : Nat) (c' l' i' : Int), k ≤ xs.length ∧ v43 = .int .i64 k ∧ auto_At s (.slice A xs.length cp) xs gW w6.heap.size (r1, r2, r3) w5 wr k c' l' i') (fun v43 _ => xs.length - (intOf v43).toNat)
  case atStart => exact ⟨0, c, l, i, Nat.zero_le _, rfl, AT.out⟩
  case round =>
    obtain ⟨k, c', l', i', hk, rfl, hat⟩ := hrel
    have HA := Aside0.mk hat
    have hlen : xs.length ≤ 9223372036854775807 := (Kd.R_reads' RV.out).2.2.2.1
    clear hat m1 m2 m3 m4
    by_cases hlt : k < xs.length
    · rcases ints_shape RV.out with ⟨_, hx⟩ | ⟨g, c0, hv, _, hg5, _, hcell⟩
      · rw [hx] at hlt
        simp at hlt
      · injection hv with hA hn0 hc0
        subst hA
        have hc1 : wr.cell? ⟨g, k, none⟩ = some (.int .i64 (xs.getD k 0)) := (HA.out.bel.cell (p := ⟨g, k, none⟩) hg5).trans (hcell k hlt)
        obtain ⟨x, hx⟩ : ∃ x, xs.getD k 0 = x := ⟨_, rfl⟩
        rw [hx] at hc1
        have hkz : (k : Int) < (xs.length : Int) := by omega
        have RW := Aside0.mk (show Kd.R (Kd.int .i64) 3 wr w.heap.size (fun k => k < w5.heap.size) (.slice (some ⟨g, 0, none⟩) xs.length cp) xs from Kd.R_step (Kd.R_mono RV.out (fun k hk => hk.1)) (fun k h1 h2 => HA.out.bel.block k h1))
        clear hcell hg5 hc0 hn0
        have HX := Aside0.mk hx
        clear hx
        by_cases h5 : x = 5
        · have hlk := auto_at HA.out.mp x 24 (Or.inl ⟨h5, rfl⟩)
          simp only [auto_fn] at hlk
          subst h5
          go_wp2_with (first | (go_at_call 24; refine (auto_begin gW s c' l' i' _ xs _ _ wr HA.out.bw RW.out (fun k hk => Nat.ne_of_lt (Nat.lt_of_lt_of_le hk GW.out))).mono ?_; rintro e w' hp; obtain rfl := hp.1; have AT2 := Aside0.mk (HA.out.step hlt GW.out NE.out hp (by rw [HX.out]; simp [auto_st])); clear hp))
          go_roundw
          case rel => exact ⟨k + 1, _, _, _, hlt, by go_num, AT2.out⟩
          case measure => simp [intOf]; omega
        by_cases h6 : x = 6
        · have hlk := auto_at HA.out.mp x 25 (Or.inr (Or.inl ⟨h6, rfl⟩))
          simp only [auto_fn] at hlk
          subst h6
          clear h5
          go_wp2_with (first | (go_at_call 25; refine (auto_nought gW s c' l' i' _ wr HA.out.bw).mono ?_; rintro e w' hp; obtain rfl := hp.1; have AT2 := Aside0.mk (HA.out.step hlt GW.out NE.out hp (by rw [HX.out]; simp [auto_st])); clear hp))
          go_roundw
          case rel => exact ⟨k + 1, _, _, _, hlt, by go_num, AT2.out⟩
          case measure => simp [intOf]; omega
        by_cases h7 : x = 7 ∨ x = 10
        · have hlk := auto_at HA.out.mp x 26 (Or.inr (Or.inr ⟨h7, rfl⟩))
          simp only [auto_fn] at hlk
          have H7 := Aside0.mk h7
          have H5 := Aside0.mk h5
          have H6 := Aside0.mk h6
          clear h5 h6 h7
          go_wp2_with (first | (go_at_call 26; refine (auto_send gW s c' l' i' _ wr HA.out.bw).mono ?_; rintro e w' hp; obtain rfl := hp.1; have AT2 := Aside0.mk (HA.out.step hlt GW.out NE.out hp (by rw [HX.out]; unfold auto_st; rw [if_neg H5.out, if_neg H6.out, if_pos H7.out])); clear hp))
          go_roundw
          case rel => exact ⟨k + 1, _, _, _, hlt, by go_num, AT2.out⟩
          case measure => simp [intOf]; omega
        · obtain ⟨z, hlk⟩ := auto_not HA.out.mp x h5 h6 (fun e => h7 (Or.inl e)) (fun e => h7 (Or.inr e))
          have AT2 := Aside0.mk (HA.out.skip hlt (by rw [HX.out]; unfold auto_st; rw [if_neg h5, if_neg h6, if_neg h7]))
          clear h5 h6 h7
          go_wp2
          go_roundw
          case rel => exact ⟨k + 1, _, _, _, hlt, by go_num, AT2.out⟩
          case measure => simp [intOf]; omega
    · obtain rfl : k = xs.length := by omega
      have hrest := HA.out.rest
      rw [List.drop_length, List.foldl_nil] at hrest
      simp only [Prod.mk.injEq] at hrest
      obtain ⟨rfl, rfl, rfl⟩ := hrest
      have hbw := HA.out.bw
      obtain ⟨p0, p1, p2, p3, p4, q0, q1, q2', q3, q4⟩ := bk5 hbw
      have hB4 : wr.heap[g4]? = some (.cells #[.int .i64 0, .int .i64 0, .int .i64 0, .int .u8 0] 23 (0, 0)) := (HA.out.bel.block g4 (blk_lt B4.out)).trans B4.out
      have N4 := Aside0.mk (show g4 ≠ gW from Nat.ne_of_lt (Nat.lt_of_lt_of_le (blk_lt B4.out) GW.out))
      have BW := Aside0.mk hbw
      have HB4 := Aside0.mk hB4
      obtain ⟨p5, p6, p7, p8, q5, q6, q7, q8⟩ := bk4 hB4
      have BL := Aside0.mk (below_step HB.out HA.out.bel)
      have RW := Aside0.mk (show Kd.R (Kd.int .i64) 3 wr w.heap.size (fun k => k < w5.heap.size ∧ k ≠ g4) (.slice A xs.length cp) xs from Kd.R_step RV.out (fun k h1 h2 => HA.out.bel.block k h1.1))
      clear HA hbw hB4 hlt hk p0 p1 p2 p3 p4 q0 q1 q2' q3 q4 p5 p6 p7 p8 q5 q6 q7 q8
      obtain ⟨q0, q1, q2', q3, q4⟩ : wr.frozen? ⟨gW, 0, none⟩ = false ∧ wr.frozen? ⟨gW, 1, none⟩ = false ∧ wr.frozen? ⟨gW, 2, none⟩ = false ∧ wr.frozen? ⟨gW, 3, none⟩ = false ∧ wr.cell? ⟨gW, 0, none⟩ = some (.int .i64 s) := ⟨blk_frozen BW.out 0, blk_frozen BW.out 1, blk_frozen BW.out 2, blk_frozen BW.out 3, (blk_cell BW.out 0).trans rfl⟩
      have BWa := Aside0.mk (blk_put BW.out 0 (.int .i64 nx) rfl)
      have HBa := Aside0.mk (blk_far (p := ⟨gW, 0, none⟩) HB4.out N4.out (.int .i64 nx))
      obtain ⟨c0, c1, c2, c3, c4, f0, f1, f2, f3, f4⟩ := bk5 BWa.out
      cases b with
      | true =>
        obtain rfl := HQ.out
        obtain ⟨d0, d1, d2, d3, e0, e1, e2, e3⟩ := bk4 HBa.out
        go_wp2_with (first | (go_at_call 22; refine (auto_timed nx true _ HT.out).mono ?_; rintro e w' ⟨rfl, rfl⟩))
        refine bodyPost_ret (results_ctt rfl _ _ g4 23 #[.int .i64 nx, .int .i64 c', .int .i64 q2, .int .u8 i'] (0, 0) _ rfl (blk_put (blk_put (blk_put (blk_put HBa.out 0 _ rfl) 1 _ rfl) 2 _ rfl) 3 _ rfl) Tryd.underlying23 rfl (by kernel_rfl)) rfl ?_
        exact ⟨_, rfl, fR2 (g1 := gW) (g2 := g4) RW.out (fun k hk => ⟨hk, Nat.ne_of_lt (Nat.lt_of_lt_of_le hk.1 GW.out)⟩) (fun k hk => ⟨hk, hk.1.2⟩) (fun _ _ => trivial), by repeat (first | exact BL.out | refine pS ?_ G4.out | refine pS ?_ (Nat.le_trans (below_size HB.out) GW.out))⟩
      | false =>
        obtain rfl := HQ.out
        have BWb := Aside0.mk (blk_put BWa.out 2 (.int .i64 0) rfl)
        have HBb := Aside0.mk (blk_far (p := ⟨gW, 2, none⟩) HBa.out N4.out (.int .i64 0))
        obtain ⟨c0', c1', c2', c3', c4', f0', f1', f2', f3', f4'⟩ := bk5 BWb.out
        obtain ⟨d0, d1, d2, d3, e0, e1, e2, e3⟩ := bk4 HBb.out
        go_wp2_with (first | (go_at_call 22; refine (auto_timed nx false _ HT.out).mono ?_; rintro e w' ⟨rfl, rfl⟩))
        refine bodyPost_ret (results_ctt rfl _ _ g4 23 #[.int .i64 nx, .int .i64 c', .int .i64 0, .int .u8 i'] (0, 0) _ rfl (blk_put (blk_put (blk_put (blk_put HBb.out 0 _ rfl) 1 _ rfl) 2 _ rfl) 3 _ rfl) Tryd.underlying23 rfl (by kernel_rfl)) rfl ?_
        exact ⟨_, rfl, fR2 (g1 := gW) (g2 := g4) RW.out (fun k hk => ⟨hk, Nat.ne_of_lt (Nat.lt_of_lt_of_le hk.1 GW.out)⟩) (fun k hk => ⟨hk, hk.1.2⟩) (fun _ _ => trivial), by repeat (first | exact BL.out | refine pS ?_ G4.out | refine pS ?_ (Nat.le_trans (below_size HB.out) GW.out))⟩
theorem auto_Do.calls (a0_0 : Int) (a0_1 : Int) (a0_2 : Int) (a0_3 : Int) (a1 : Int) (r1 : Int) (r2 : Int) (r3 : Int) (r4 : Int) (r5 : List Int) (r6 : Int) (w : World) (hgl : Gl w) (h : auto_Do.f a0_0 a0_1 a0_2 a0_3 a1 = some (r1, r2, r3, r4, r5, r6)) :
    Calls Tryd.prog 13 #[.agg #[.int .i64 a0_0, .int .i64 a0_1, .int .i64 a0_2, .int .u8 a0_3], .int .i64 a1] w fun e w' => ∃ v4_ : Value, e = .returned (.tuple #[.agg #[.int .i64 r1, .int .i64 r2, .int .i64 r3, .int .u8 r4], v4_, .int .i64 r6]) ∧ Kd.R (Kd.int .i64) 3 w' w.heap.size (fun _ => True) v4_ r5 ∧ Below w.heap.size w w' := by
  obtain ⟨⟨xs, nx, is⟩, hn, H⟩ := Option.bind_eq_some_iff.1 h
  cases is with
  | false =>
    rw [if_neg (by simp)] at H
    simp only [Option.some.injEq, Prod.mk.injEq] at H
    obtain ⟨rfl, rfl, rfl, rfl, rfl, rfl⟩ := H
    exact auto_Do.never _ _ _ _ _ xs nx w hgl hn
  | true =>
    rw [if_pos rfl] at H
    obtain ⟨b, ht, H⟩ := Option.bind_eq_some_iff.1 H
    simp only [Option.some.injEq, Prod.mk.injEq] at H
    obtain ⟨rfl, rfl, rfl, rfl, rfl, rfl⟩ := H
    exact auto_Do.does _ _ _ _ _ xs nx b _ (xs.foldl (auto_st (xs.contains 10)) (a0_1, a0_2, a0_3)).2.1 _ w hgl hn ht rfl _ rfl

end Go.Proofs.YtoenogjedmnnlaaDoor.Q
