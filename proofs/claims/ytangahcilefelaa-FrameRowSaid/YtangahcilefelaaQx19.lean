-- written by this session's own program (wip/tools/myprint.py), over the kit's print
import Derived.Test.YtangahcilefelaaQx0
import Derived.Test.YtangahcilefelaaQx15
namespace Go.Proofs.Ytangahcilefelaa.Q
open Go.RowKit Go.Proofs.YtangahcilefelaaW.PrintWords Go.Proofs.YtangahcilefelaaW.PrintLast Go.Proofs.YtangahcilefelaaW.PrintMore
open Go.Proofs.YtangahcilefelaaV
attribute [local go_sem] max2_int min2_int max_two min_two max_three min_three max_four min_four   -- for this text's walks alone
set_option linter.unusedVariables false
set_option linter.unusedSimpArgs false

/-! ### portreevelaw08_taken: function 19 -/
def portreevelaw08_taken.l0 : Nat → List Int → List (S25) → Int → List Int → Bool → Option ((List (S25)))
 | 0, _, _, _, _, _ => none
 | k + 1, x0, x3, x5, x414000, x414001 => if x5 < (x0.length : Int) then (if 0 ≤ x5 then ((frame_Take.f k x414000 x414001 (rd x0 x5)).bind fun bt415 => (if bt415.2.2.2.2 = true then (if x3.length < 4398046511104 then (portreevelaw08_taken.l0 k x0 (x3 ++ [(⟨bt415.2.2.1, bt415.2.2.2.1⟩ : S25)]) (wrap64 (x5 + 1)) bt415.1 bt415.2.1) else (none)) else (portreevelaw08_taken.l0 k x0 x3 (wrap64 (x5 + 1)) bt415.1 bt415.2.1))) else (none)) else (some x3)
def portreevelaw08_taken.f (k : Nat) (l0 : List Int) : Option ((List (S25))) := portreevelaw08_taken.l0 k l0 ([] : List (S25)) 0 ([] : List Int) false
theorem portreevelaw08_taken.mono_l : ∀ k, (∀ y0 y1 y2 y3 y4, LeO (portreevelaw08_taken.l0 k y0 y1 y2 y3 y4) (portreevelaw08_taken.l0 (k + 1) y0 y1 y2 y3 y4))
 | 0 => fun _ _ _ _ _ r h => by simp [portreevelaw08_taken.l0] at h
 | k + 1 => by
  have ih0 := portreevelaw08_taken.mono_l k
  ·intro y0 y1 y2 y3 y4
   unfold portreevelaw08_taken.l0
   repeat' first
   | (with_reducible exact ih0 _ _ _ _ _)
   | (with_reducible exact frame_Take.mono _ _ _ _)
   | (with_reducible exact LeO.refl _)
   | (with_reducible exact LeO.none _)
   | (with_reducible refine LeO.ite ?_ ?_)
   | (with_reducible refine LeO.bind ?_ (fun _ => ?_))
   | exact ih0 _ _ _ _ _
   | exact frame_Take.mono _ _ _ _
   | exact LeO.none _
   | refine LeO.ite ?_ ?_
   | refine LeO.bind ?_ (fun _ => ?_)
theorem portreevelaw08_taken.mono : ∀ a0 k, LeO (portreevelaw08_taken.f k a0) (portreevelaw08_taken.f (k + 1) a0) := by
 intro a0 k
 have ih0 := portreevelaw08_taken.mono_l k
 unfold portreevelaw08_taken.f
 repeat' first
   | (with_reducible exact ih0 _ _ _ _ _)
   | (with_reducible exact frame_Take.mono _ _ _ _)
   | (with_reducible exact LeO.refl _)
   | (with_reducible exact LeO.none _)
   | (with_reducible refine LeO.ite ?_ ?_)
   | (with_reducible refine LeO.bind ?_ (fun _ => ?_))
   | exact ih0 _ _ _ _ _
   | exact frame_Take.mono _ _ _ _
   | exact LeO.none _
   | refine LeO.ite ?_ ?_
   | refine LeO.bind ?_ (fun _ => ?_)
def portreevelaw08_taken.T6 : Bool × List (List Nat × List Nat) := (true, [([], []), ([], []), ([], []), ([1, 2], [1, 2]), ([3], [3]), ([0, 4], [0, 4]), ([5], [5]), ([6], [6]), ([6], [6]), ([6], [6]), ([], []), ([], []), ([10, 7, 5, 0, 1, 2, 3, 4, 5, 6, 7, 10, 11], [7, 10]), ([11, 8, 12, 0, 1, 2, 3, 4, 5, 6, 7, 8, 10, 11, 12], [8, 11]), ([9, 13, 0, 1, 2, 3, 4, 5, 6, 7, 8, 9, 10, 11, 12, 13], [9])])
def portreevelaw08_taken.B6 : List Nat := [0, 0, 0, 6, 14, 31, 63, 127, 127, 127, 0, 0, 3327, 7679, 16383]
theorem portreevelaw08_taken.tab6 : rtab .any (opsOf Try.f19 6) = portreevelaw08_taken.T6 := by kernel_rfl
theorem portreevelaw08_taken.bits6 : waitsOk portreevelaw08_taken.T6.2 portreevelaw08_taken.B6 = true := by kernel_rfl
set_option maxHeartbeats 8000000 in
set_option maxRecDepth 100000 in
theorem portreevelaw08_taken.calls (k : Nat) (A0 : Option Addr) (c0 : Nat) (l0 : List Int) (r : List (S25)) (w : World) (hr0 : Kd.C (Kd.int .u8) w A0 l0.length l0) (hc0 : l0.length ≤ c0) (h : portreevelaw08_taken.f k l0 = some r) :
  Calls Try.prog 19 #[.slice A0 l0.length c0] w fun e w' => ∃ v0_ : Value, e = .returned (v0_) ∧ Kd.N k25 25 w' w.heap.size (fun k_ => (w.heap.size ≤ k_)) v0_ r ∧ Below w.heap.size w w' := by
 have hu38 := Try.underlying38
 have hu25 := Try.underlying25
 have HR0 := Aside0.mk hr0
 have HC0 := Aside0.mk hc0
 clear hr0 hc0
 have HB := Aside0.mk (Below.refl w.heap.size w)
 have H : (portreevelaw08_taken.l0 k l0 ([] : List (S25)) 0 ([] : List Int) false) = some r := h
 clear h
 have H' := Aside0.mk H
 clear H
 go_enter Try.func19, Try.ntmps19
 go_wp2_with (first | ((with_reducible refine gate_dst (N := 4) rfl ?_); refine box_event ?hg (N := 4) ?hd (cs := #[.slice none 0 0, .bool false]) (t := 38) ?hr ?_; (case hd => rfl); (case hg => rfl); (case hr => first | (go_simp; done) | (go_simp; rfl)); intro gb413 hg w2 hbox hb; have n0_ := Aside0.mk (below_step (zH HB.out) hb); have n1_ := Aside0.mk (hbox); have n2_ := Aside0.mk ((by rw [hg]; exact (below_size (zH HB.out)) : w.heap.size ≤ gb413)); have n3_ := Aside0.mk ((by rw [hg]; exact (below_size (zH HB.out)) : w.heap.size ≤ gb413)); clear HB; have HB := n0_; have BK413 := n1_; have GW413 := n2_; have GE413 := n3_; clear n0_ n1_ n2_ n3_; clear hb hbox hg; obtain ⟨hcz3_0, hcz3_1, hfz3_0, hfz3_1⟩ := bk2 BK413.out))
 go_loopg [3, 5] k (fun kq v3 v5 w' => ∃ (x3_1 : List (S25)) (x5_1 : Int) (x414000_1 : List Int) (x414001_1 : Bool) (u414000 : Value), v5 = .int .i64 x5_1 ∧ Aside0 (portreevelaw08_taken.l0 kq l0 x3_1 x5_1 x414000_1 x414001_1 = some r) ∧ Aside0 (kq ≤ k) ∧ Aside0 (Kd.N k25 25 w' w.heap.size (fun k_ => (w.heap.size ≤ k_) ∧ some k_ ≠ (u414000 : Value).ownBlock ∧ k_ ≠ gb413) v3 x3_1) ∧ Aside0 (Kd.R (Kd.int .u8) 5 w' w.heap.size (fun k_ => (w.heap.size ≤ k_)) u414000 x414000_1) ∧ Aside0 (w'.heap[gb413]? = some (.cells #[u414000, .bool x414001_1] 38 (0, 0))) ∧ Aside0 (Below w.heap.size w w'))
 case atStart => exact ⟨(([] : List (S25))), (0), (([] : List Int)), (false), (.slice none 0 0), (by first | rfl | (simp; done) | (simp [*]; done)), H', ⟨Nat.le_refl _⟩, ⟨by first | exact Kd.S_nil _ _ _ _ _ | exact Kd.N_nil _ _ _ _ _ | exact Kd.V_nil _ _ _ _ _ | exact Kd.Q_nil _ _ _ _ _ | exact Kd.R_nil _ _ _ _ _⟩, ⟨by first | exact Kd.R_nil _ _ _ _ _ | exact Kd.N_nil _ _ _ _ _ | exact Kd.V_nil _ _ _ _ _ | exact Kd.Q_nil _ _ _ _ _ | exact Kd.S_nil _ _ _ _ _⟩, ⟨by (with_reducible repeat (first | refine qN ?_ _ | refine qD ?_ | refine qA ?_ _)); refine blk_put (cs := #[.slice none 0 0, .bool false]) ?_ 1 _ rfl; (with_reducible repeat (first | refine qN ?_ _ | refine qD ?_ | refine qA ?_ _)); refine blk_put (cs := #[.slice none 0 0, .bool false]) ?_ 0 _ rfl; (with_reducible repeat (first | refine qN ?_ _ | refine qD ?_ | refine qA ?_ _)); exact BK413.out⟩, ⟨by repeat (first | (with_reducible first | exact HB.out | apply pA | apply pN | apply pD | refine pS ?_ GE413.out) | exact HB.out)⟩⟩
 case round =>
  clear H'
  try clear c1
  try clear p2
  try clear hcz3_0
  try clear hcz3_1
  try clear hfz3_0
  try clear hfz3_1
  obtain ⟨x3_1, x5_1, x414000_1, x414001_1, u414000, rfl, HA, HK1, HO_3, HO_414000, BK413, HB⟩ := hrel
  cases gk with
  | zero => exact absurd HA.out (by simp [portreevelaw08_taken.l0])
  | succ k1 =>
   have H := HA.out
   clear HA
   simp only [portreevelaw08_taken.l0] at H
   by_cases c4 : x5_1 < (l0.length : Int)
   ·rw [if_pos c4] at H
    have c4b0 : decide (x5_1 < (l0.length : Int)) = true := decide_eq_true c4
    clear c4
    by_cases c5 : 0 ≤ x5_1
    ·rw [if_pos c5] at H
     have c5b0 : decide (0 ≤ x5_1) = true := decide_eq_true c5
     clear c5
     replace H := Option.bind_eq_some_iff.mp H
     obtain ⟨⟨t415, t418, t419, t420, t423⟩, A60, H⟩ := H
     replace H : (if t423 = true then (if x3_1.length < 4398046511104 then (portreevelaw08_taken.l0 k1 l0 (x3_1 ++ [(⟨t419, t420⟩ : S25)]) (wrap64 (x5_1 + 1)) t415 t418) else (none)) else (portreevelaw08_taken.l0 k1 l0 x3_1 (wrap64 (x5_1 + 1)) t415 t418)) = some r := H
     have A6 := Aside0.mk A60
     clear A60
     by_cases c7 : t423 = true
     ·subst c7
      have H1 : (if x3_1.length < 4398046511104 then (portreevelaw08_taken.l0 k1 l0 (x3_1 ++ [(⟨t419, t420⟩ : S25)]) (wrap64 (x5_1 + 1)) t415 t418) else (none)) = some r := by rw [if_pos rfl] at H; exact H
      clear H
      have H := H1
      clear H1
      by_cases c8 : x3_1.length < 4398046511104
      ·rw [if_pos c8] at H
       have LMc8 := Aside0.mk c8
       clear c8
       obtain ⟨y426, hy426⟩ : ∃ y_ : List (S25), y_ = (x3_1 ++ [(⟨t419, t420⟩ : S25)]) := ⟨_, rfl⟩
       replace H : (portreevelaw08_taken.l0 k1 l0 y426 (wrap64 (x5_1 + 1)) t415 t418) = some r := by first | (rw [hy426]; with_reducible exact H) | (have H2_ := (Option.bind_some _ _).symm.trans H; rw [hy426]; with_reducible exact H2_) | (have H2_ := (Option.bind_some _ _).symm.trans H; with_reducible exact H2_) | with_reducible exact H | (rw [hy426]; exact H) | exact H
       have Ny426 := Aside0.mk hy426
       clear hy426
       have H' := Aside0.mk H
       clear H
       obtain ⟨Ao9, co9, eo9⟩ := Kd.R_slice HO_414000.out
       subst eo9
       try go_wp2
       have n0_ := Aside0.mk (Kd.N_drew HO_3.out)
       have n1_ := Aside0.mk (Kd.R_drew HO_414000.out)
       have n2_ := Aside0.mk (qD BK413.out)
       have n3_ := Aside0.mk (pD HB.out)
       clear HO_3
       clear HO_414000
       clear BK413
       clear HB
       have HO_3 := n0_
       have HO_414000 := n1_
       have BK413 := n2_
       have HB := n3_
       clear n0_ n1_ n2_ n3_
       have p414 : 0 ≤ (x5_1 : Int) := of_decide_eq_true (by first | (with_reducible assumption) | assumption)
       have q414 : x5_1 < (l0.length : Int) := of_decide_eq_true (by first | (with_reducible assumption) | assumption)
       obtain ⟨ad414, e414, hx414_0⟩ := Kd.at_int HR0.out x5_1 p414 q414
       have hw414_0 := hx414_0
       cases e414
       replace hx414_0 := (HB.out.cell (World.block_lt_of_cell? w _ hx414_0)).trans hx414_0
       replace p414 := eq_true p414
       replace q414 := eq_true q414
       refine start_ (n := 15) (S := fun w' => w'.cell? ⟨gb413, 0, none⟩ = some (.slice Ao9 x414000_1.length co9) ∧ w'.cell? ⟨gb413, 1, none⟩ = some (.bool x414001_1) ∧ w'.cell? (ad414.add (x5_1).toNat) = some (.int .u8 (rd l0 x5_1))) (ds := []) #[false, false, false, false, false, false, false, false, false, false, false, false, false, false, false] (by kernel_rfl) rfl rfl ⟨(blk_cell BK413.out 0).trans rfl, (blk_cell BK413.out 1).trans rfl, ((HB.out.cell (World.block_lt_of_cell? w _ hw414_0)).trans hw414_0)⟩ (fun hHeld => ?_); refine with_tabW portreevelaw08_taken.tab6 portreevelaw08_taken.bits6 (fun HT_ HW_ => ?_)
       generalize wr.drew = w10 at HO_3 HO_414000 BK413 HB hx414_0 hHeld ⊢
       refine pure_ (i := 1) (N := some 18) (v := ?_) (a' := ?_) #[false, true, false, false, false, false, false, false, false, false, false, false, false, false, false] rfl rfl (any_of HT_.out (by kernel_rfl)) (fun _ _ _ h => h) (Or.inl ⟨by rfl, ?_⟩) ?_ ?_
       rotate_left
       ·intro w'
        go_simp
        with_reducible rfl
       rotate_left
       ·simp only [Act.put, sT, s0, s1, i64_w, i32_w]
        rfl
       refine pure_ (i := 2) (N := some 19) (v := ?_) (a' := ?_) #[false, true, true, false, false, false, false, false, false, false, false, false, false, false, false] rfl rfl (any_of HT_.out (by kernel_rfl)) (fun _ _ _ h => h) (Or.inl ⟨by rfl, ?_⟩) ?_ ?_
       rotate_left
       ·intro w'
        go_simp
        with_reducible rfl
       rotate_left
       ·simp only [Act.put, sT, s0, s1, i64_w, i32_w]
        rfl
       refine pure_ (i := 3) (N := some 20) (v := ?_) (a' := ?_) #[false, true, true, true, false, false, false, false, false, false, false, false, false, false, false] rfl rfl (any_of HT_.out (by kernel_rfl)) (fun _ _ _ h => h) (Or.inl ⟨by rfl, ?_⟩) ?_ ?_
       rotate_left
       ·intro w'
        go_simp
        with_reducible rfl
       rotate_left
       ·simp only [Act.put, sT, s0, s1, i64_w, i32_w]
        rfl
       refine take_ (i := 0) (N := some 17) (v := ?_) (a' := ?_) #[true, true, true, true, false, false, false, false, false, false, false, false, false, false, false] rfl rfl (take_ofW HT_.out HW_.out (by kernel_rfl)) (fun _ _ _ h => h) (Or.inl ⟨by rfl, ?_⟩) hHeld ?_ ?_
       rotate_left
       ·rintro w' ⟨s0, s1, s2⟩
        go_simp
        with_reducible rfl
       rotate_left
       ·simp only [Act.put, sT, s0, s1, i64_w, i32_w]
        rfl
       refine take_ (i := 4) (N := some 21) (v := ?_) (a' := ?_) #[true, true, true, true, true, false, false, false, false, false, false, false, false, false, false] rfl rfl (take_ofW HT_.out HW_.out (by kernel_rfl)) (fun _ _ _ h => h) (Or.inl ⟨by rfl, ?_⟩) hHeld ?_ ?_
       rotate_left
       ·rintro w' ⟨s0, s1, s2⟩
        go_simp
        with_reducible rfl
       rotate_left
       ·simp only [Act.put, sT, s0, s1, i64_w, i32_w]
        rfl
       refine join_ (σ := Value × Value × Nat × Nat) 3 #[true, true, true, true, true, true, true, true, true, true, true, true, false, false, false] (fun s_ => [(22, .tuple #[.agg #[s_.1, .bool t418], .agg #[.int .u16 t419, s_.2.1], .bool true]), (6, .pointer (some ⟨s_.2.2.1, 0, none⟩)), (7, .pointer (some ⟨s_.2.2.2, 0, none⟩)), (16, .tuple #[.agg #[s_.1, .bool t418], .agg #[.int .u16 t419, s_.2.1], .bool true]), (23, .agg #[s_.1, .bool t418]), (24, .agg #[.int .u16 t419, s_.2.1]), (25, .bool true)]) (fun s_ w' => (w'.cell? ⟨gb413, 0, none⟩ = some (.slice Ao9 x414000_1.length co9) ∧ w'.cell? ⟨gb413, 1, none⟩ = some (.bool x414001_1) ∧ w'.cell? (ad414.add (x5_1).toNat) = some (.int .u8 (rd l0 x5_1))) ∧ (Kd.R (Kd.int .u8) 5 w' w.heap.size (fun k_ => (w.heap.size ≤ k_) ∧ some k_ ≠ (.slice Ao9 x414000_1.length co9 : Value).ownBlock) s_.1 t415) ∧ (Kd.V (Kd.int .u8) 5 w' w.heap.size (fun k_ => (w.heap.size ≤ k_) ∧ some k_ ≠ (s_.1 : Value).ownBlock ∧ some k_ ≠ (u3 : Value).ownBlock ∧ some k_ ≠ (.slice Ao9 x414000_1.length co9 : Value).ownBlock ∧ k_ ≠ gb413 ∧ k_ ≠ s_.2.2.1 ∧ k_ ≠ s_.2.2.2) s_.2.1 t420) ∧ (Kd.N k25 25 w' w.heap.size (fun k_ => (w.heap.size ≤ k_) ∧ some k_ ≠ (s_.1 : Value).ownBlock ∧ some k_ ≠ (.slice Ao9 x414000_1.length co9 : Value).ownBlock ∧ k_ ≠ gb413 ∧ k_ ≠ s_.2.2.1 ∧ k_ ≠ s_.2.2.2) u3 x3_1) ∧ (Kd.R (Kd.int .u8) 5 w' w.heap.size (fun k_ => (w.heap.size ≤ k_) ∧ some k_ ≠ (s_.1 : Value).ownBlock) (.slice Ao9 x414000_1.length co9) x414000_1) ∧ (w'.heap[gb413]? = some (.cells #[.slice Ao9 x414000_1.length co9, .bool x414001_1] 38 (0, 0))) ∧ (w'.heap[s_.2.2.1]? = some (.cells #[.slice none 0 0, .bool false] 38 (0, 0))) ∧ (w'.heap[s_.2.2.2]? = some (.cells #[.int .u16 0, .slice none 0 0] 25 (0, 0))) ∧ (w.heap.size ≤ s_.2.2.1) ∧ (w.heap.size ≤ s_.2.2.1) ∧ (gb413 ≠ s_.2.2.1) ∧ (s_.2.2.1 ≠ gb413) ∧ (s_.2.2.2 ≠ s_.2.2.1) ∧ (s_.2.2.1 ≠ s_.2.2.2) ∧ (w.heap.size ≤ s_.2.2.2) ∧ (w.heap.size ≤ s_.2.2.2) ∧ (gb413 ≠ s_.2.2.2) ∧ (s_.2.2.2 ≠ gb413) ∧ (Below w.heap.size w w')) ?_ ?_
       rotate_left
       ·intro hJ5_10_11
        refine join_ (σ := Value × Value × Nat) 4 #[true, true, true, true, true, true, true, true, true, true, true, false, false, false, false] (fun s_ => [(22, .tuple #[.agg #[s_.1, .bool t418], .agg #[.int .u16 t419, s_.2.1], .bool true]), (6, .pointer (some ⟨s_.2.2, 0, none⟩)), (16, .tuple #[.agg #[s_.1, .bool t418], .agg #[.int .u16 t419, s_.2.1], .bool true]), (23, .agg #[s_.1, .bool t418]), (24, .agg #[.int .u16 t419, s_.2.1]), (25, .bool true)]) (fun s_ w' => (w'.cell? ⟨gb413, 0, none⟩ = some (.slice Ao9 x414000_1.length co9) ∧ w'.cell? ⟨gb413, 1, none⟩ = some (.bool x414001_1) ∧ w'.cell? (ad414.add (x5_1).toNat) = some (.int .u8 (rd l0 x5_1))) ∧ (Kd.R (Kd.int .u8) 5 w' w.heap.size (fun k_ => (w.heap.size ≤ k_) ∧ some k_ ≠ (.slice Ao9 x414000_1.length co9 : Value).ownBlock) s_.1 t415) ∧ (Kd.V (Kd.int .u8) 5 w' w.heap.size (fun k_ => (w.heap.size ≤ k_) ∧ some k_ ≠ (s_.1 : Value).ownBlock ∧ some k_ ≠ (u3 : Value).ownBlock ∧ some k_ ≠ (.slice Ao9 x414000_1.length co9 : Value).ownBlock ∧ k_ ≠ gb413 ∧ k_ ≠ s_.2.2) s_.2.1 t420) ∧ (Kd.N k25 25 w' w.heap.size (fun k_ => (w.heap.size ≤ k_) ∧ some k_ ≠ (s_.1 : Value).ownBlock ∧ some k_ ≠ (.slice Ao9 x414000_1.length co9 : Value).ownBlock ∧ k_ ≠ gb413 ∧ k_ ≠ s_.2.2) u3 x3_1) ∧ (Kd.R (Kd.int .u8) 5 w' w.heap.size (fun k_ => (w.heap.size ≤ k_) ∧ some k_ ≠ (s_.1 : Value).ownBlock) (.slice Ao9 x414000_1.length co9) x414000_1) ∧ (w'.heap[gb413]? = some (.cells #[.slice Ao9 x414000_1.length co9, .bool x414001_1] 38 (0, 0))) ∧ (w'.heap[s_.2.2]? = some (.cells #[.slice none 0 0, .bool false] 38 (0, 0))) ∧ (w.heap.size ≤ s_.2.2) ∧ (w.heap.size ≤ s_.2.2) ∧ (gb413 ≠ s_.2.2) ∧ (s_.2.2 ≠ gb413) ∧ (Below w.heap.size w w')) ?_ ?_
        rotate_left
        ·intro hJ5_10
         refine join_ (σ := Value × Value × Nat) 4 #[true, true, true, true, true, true, true, true, true, true, false, true, false, false, false] (fun s_ => [(22, .tuple #[.agg #[s_.1, .bool t418], .agg #[.int .u16 t419, s_.2.1], .bool true]), (7, .pointer (some ⟨s_.2.2, 0, none⟩)), (16, .tuple #[.agg #[s_.1, .bool t418], .agg #[.int .u16 t419, s_.2.1], .bool true]), (23, .agg #[s_.1, .bool t418]), (24, .agg #[.int .u16 t419, s_.2.1]), (25, .bool true)]) (fun s_ w' => (w'.cell? ⟨gb413, 0, none⟩ = some (.slice Ao9 x414000_1.length co9) ∧ w'.cell? ⟨gb413, 1, none⟩ = some (.bool x414001_1) ∧ w'.cell? (ad414.add (x5_1).toNat) = some (.int .u8 (rd l0 x5_1))) ∧ (Kd.R (Kd.int .u8) 5 w' w.heap.size (fun k_ => (w.heap.size ≤ k_) ∧ some k_ ≠ (.slice Ao9 x414000_1.length co9 : Value).ownBlock) s_.1 t415) ∧ (Kd.V (Kd.int .u8) 5 w' w.heap.size (fun k_ => (w.heap.size ≤ k_) ∧ some k_ ≠ (s_.1 : Value).ownBlock ∧ some k_ ≠ (u3 : Value).ownBlock ∧ some k_ ≠ (.slice Ao9 x414000_1.length co9 : Value).ownBlock ∧ k_ ≠ gb413 ∧ k_ ≠ s_.2.2) s_.2.1 t420) ∧ (Kd.N k25 25 w' w.heap.size (fun k_ => (w.heap.size ≤ k_) ∧ some k_ ≠ (s_.1 : Value).ownBlock ∧ some k_ ≠ (.slice Ao9 x414000_1.length co9 : Value).ownBlock ∧ k_ ≠ gb413 ∧ k_ ≠ s_.2.2) u3 x3_1) ∧ (Kd.R (Kd.int .u8) 5 w' w.heap.size (fun k_ => (w.heap.size ≤ k_) ∧ some k_ ≠ (s_.1 : Value).ownBlock) (.slice Ao9 x414000_1.length co9) x414000_1) ∧ (w'.heap[gb413]? = some (.cells #[.slice Ao9 x414000_1.length co9, .bool x414001_1] 38 (0, 0))) ∧ (w'.heap[s_.2.2]? = some (.cells #[.int .u16 0, .slice none 0 0] 25 (0, 0))) ∧ (w.heap.size ≤ s_.2.2) ∧ (w.heap.size ≤ s_.2.2) ∧ (gb413 ≠ s_.2.2) ∧ (s_.2.2 ≠ gb413) ∧ (Below w.heap.size w w')) ?_ ?_
         rotate_left
         ·intro hJ5_11
          refine join_ (σ := Nat × Nat) 8 #[true, true, true, true, true, false, false, false, false, false, true, true, false, false, false] (fun s_ => [(6, .pointer (some ⟨s_.1, 0, none⟩)), (7, .pointer (some ⟨s_.2, 0, none⟩))]) (fun s_ w' => (w'.cell? ⟨gb413, 0, none⟩ = some (.slice Ao9 x414000_1.length co9) ∧ w'.cell? ⟨gb413, 1, none⟩ = some (.bool x414001_1) ∧ w'.cell? (ad414.add (x5_1).toNat) = some (.int .u8 (rd l0 x5_1))) ∧ (Kd.N k25 25 w' w.heap.size (fun k_ => (w.heap.size ≤ k_) ∧ some k_ ≠ (.slice Ao9 x414000_1.length co9 : Value).ownBlock ∧ k_ ≠ gb413 ∧ k_ ≠ s_.1 ∧ k_ ≠ s_.2) u3 x3_1) ∧ (Kd.R (Kd.int .u8) 5 w' w.heap.size (fun k_ => (w.heap.size ≤ k_)) (.slice Ao9 x414000_1.length co9) x414000_1) ∧ (w'.heap[gb413]? = some (.cells #[.slice Ao9 x414000_1.length co9, .bool x414001_1] 38 (0, 0))) ∧ (w'.heap[s_.1]? = some (.cells #[.slice none 0 0, .bool false] 38 (0, 0))) ∧ (w'.heap[s_.2]? = some (.cells #[.int .u16 0, .slice none 0 0] 25 (0, 0))) ∧ (w.heap.size ≤ s_.1) ∧ (w.heap.size ≤ s_.1) ∧ (gb413 ≠ s_.1) ∧ (s_.1 ≠ gb413) ∧ (s_.2 ≠ s_.1) ∧ (s_.1 ≠ s_.2) ∧ (w.heap.size ≤ s_.2) ∧ (w.heap.size ≤ s_.2) ∧ (gb413 ≠ s_.2) ∧ (s_.2 ≠ gb413) ∧ (Below w.heap.size w w')) ?_ ?_
          rotate_left
          ·intro hJ10_11
           refine join_ (σ := Value × Value) 5 #[true, true, true, true, true, true, true, true, true, true, false, false, false, false, false] (fun s_ => [(22, .tuple #[.agg #[s_.1, .bool t418], .agg #[.int .u16 t419, s_.2], .bool true]), (16, .tuple #[.agg #[s_.1, .bool t418], .agg #[.int .u16 t419, s_.2], .bool true]), (23, .agg #[s_.1, .bool t418]), (24, .agg #[.int .u16 t419, s_.2]), (25, .bool true)]) (fun s_ w' => (w'.cell? ⟨gb413, 0, none⟩ = some (.slice Ao9 x414000_1.length co9) ∧ w'.cell? ⟨gb413, 1, none⟩ = some (.bool x414001_1) ∧ w'.cell? (ad414.add (x5_1).toNat) = some (.int .u8 (rd l0 x5_1))) ∧ (Kd.R (Kd.int .u8) 5 w' w.heap.size (fun k_ => (w.heap.size ≤ k_) ∧ some k_ ≠ (.slice Ao9 x414000_1.length co9 : Value).ownBlock) s_.1 t415) ∧ (Kd.V (Kd.int .u8) 5 w' w.heap.size (fun k_ => (w.heap.size ≤ k_) ∧ some k_ ≠ (s_.1 : Value).ownBlock ∧ some k_ ≠ (u3 : Value).ownBlock ∧ some k_ ≠ (.slice Ao9 x414000_1.length co9 : Value).ownBlock ∧ k_ ≠ gb413) s_.2 t420) ∧ (Kd.N k25 25 w' w.heap.size (fun k_ => (w.heap.size ≤ k_) ∧ some k_ ≠ (s_.1 : Value).ownBlock ∧ some k_ ≠ (.slice Ao9 x414000_1.length co9 : Value).ownBlock ∧ k_ ≠ gb413) u3 x3_1) ∧ (Kd.R (Kd.int .u8) 5 w' w.heap.size (fun k_ => (w.heap.size ≤ k_) ∧ some k_ ≠ (s_.1 : Value).ownBlock) (.slice Ao9 x414000_1.length co9) x414000_1) ∧ (w'.heap[gb413]? = some (.cells #[.slice Ao9 x414000_1.length co9, .bool x414001_1] 38 (0, 0))) ∧ (Below w.heap.size w w')) ?_ ?_
           rotate_left
           ·intro hJ5
            refine join_ (σ := Nat) 9 #[true, true, true, true, true, false, false, false, false, false, true, false, false, false, false] (fun s_ => [(6, .pointer (some ⟨s_, 0, none⟩))]) (fun s_ w' => (w'.cell? ⟨gb413, 0, none⟩ = some (.slice Ao9 x414000_1.length co9) ∧ w'.cell? ⟨gb413, 1, none⟩ = some (.bool x414001_1) ∧ w'.cell? (ad414.add (x5_1).toNat) = some (.int .u8 (rd l0 x5_1))) ∧ (Kd.N k25 25 w' w.heap.size (fun k_ => (w.heap.size ≤ k_) ∧ some k_ ≠ (.slice Ao9 x414000_1.length co9 : Value).ownBlock ∧ k_ ≠ gb413 ∧ k_ ≠ s_) u3 x3_1) ∧ (Kd.R (Kd.int .u8) 5 w' w.heap.size (fun k_ => (w.heap.size ≤ k_)) (.slice Ao9 x414000_1.length co9) x414000_1) ∧ (w'.heap[gb413]? = some (.cells #[.slice Ao9 x414000_1.length co9, .bool x414001_1] 38 (0, 0))) ∧ (w'.heap[s_]? = some (.cells #[.slice none 0 0, .bool false] 38 (0, 0))) ∧ (w.heap.size ≤ s_) ∧ (w.heap.size ≤ s_) ∧ (gb413 ≠ s_) ∧ (s_ ≠ gb413) ∧ (Below w.heap.size w w')) ?_ ?_
            rotate_left
            ·intro hJ10
             refine join_ (σ := Nat) 9 #[true, true, true, true, true, false, false, false, false, false, false, true, false, false, false] (fun s_ => [(7, .pointer (some ⟨s_, 0, none⟩))]) (fun s_ w' => (w'.cell? ⟨gb413, 0, none⟩ = some (.slice Ao9 x414000_1.length co9) ∧ w'.cell? ⟨gb413, 1, none⟩ = some (.bool x414001_1) ∧ w'.cell? (ad414.add (x5_1).toNat) = some (.int .u8 (rd l0 x5_1))) ∧ (Kd.N k25 25 w' w.heap.size (fun k_ => (w.heap.size ≤ k_) ∧ some k_ ≠ (.slice Ao9 x414000_1.length co9 : Value).ownBlock ∧ k_ ≠ gb413 ∧ k_ ≠ s_) u3 x3_1) ∧ (Kd.R (Kd.int .u8) 5 w' w.heap.size (fun k_ => (w.heap.size ≤ k_)) (.slice Ao9 x414000_1.length co9) x414000_1) ∧ (w'.heap[gb413]? = some (.cells #[.slice Ao9 x414000_1.length co9, .bool x414001_1] 38 (0, 0))) ∧ (w'.heap[s_]? = some (.cells #[.int .u16 0, .slice none 0 0] 25 (0, 0))) ∧ (w.heap.size ≤ s_) ∧ (w.heap.size ≤ s_) ∧ (gb413 ≠ s_) ∧ (s_ ≠ gb413) ∧ (Below w.heap.size w w')) ?_ ?_
             rotate_left
             ·intro hJ11
              refine three_ (i := 5) (j := 10) (k := 11) (Ni := some 22) (Nj := some 6) (Nk := some 7) #[true, true, true, true, true, true, false, false, false, false, false, false, false, false, false] #[true, true, true, true, true, false, false, false, false, false, true, false, false, false, false] #[true, true, true, true, true, false, false, false, false, false, false, true, false, false, false] rfl rfl rfl rfl rfl rfl (three_of HT_.out (by kernel_rfl)) (by decide) (by decide) (by decide) (fun K hK => ?_) (fun K hK => ?_) (fun K hK => ?_)
              ·skip
               refine goes_ Try.func15 (by kernel_rfl) rfl #[.agg #[.slice Ao9 x414000_1.length co9, .bool x414001_1], .int .u8 (rd l0 x5_1)] (by rfl) rfl rfl (by (try simp only [List.map_toArray, List.map_cons, List.map_nil]); first | done | rfl | (simp only [List.length_drop, List.length_take]; rfl)) ?_
               with_reducible refine (frame_Take.calls k1 _ _ x414000_1 x414001_1 (rd l0 x5_1) t415 t418 t419 t420 true _ ?side1 ?side2 A6.out).mono ?_
               (case side1 => repeat (first | exact (Kd.R_reads' HO_414000.out).2.2 | (with_reducible refine Kd.C_alloc ?_ _) | (with_reducible refine Kd.C_drewN ?_ _) | (with_reducible refine Kd.C_drew ?_)))
               (case side2 => exact (Kd.R_reads' HO_414000.out).2.1)
               rintro e w11 ⟨v416, v421, rfl, ho0, ho1, hb⟩
               refine ⟨_, rfl, ?_⟩
               have n0_ := Aside0.mk (Kd.N_elder' (zN HO_3.out) (Kd.R_base ho0) hb)
               have n1_ := Aside0.mk (Kd.R_elder' (zR HO_414000.out) (Kd.R_base ho0) hb)
               have n2_ := Aside0.mk (Kd.R_lower (Kd.R_new' (Kd.R_newM (M := fun k_ => (w.heap.size ≤ k_)) (Kd.R_mono (ok' := fun k_ => True) ho0 (fun _ hk_ => trivial)) (below_size (by repeat (first | (with_reducible first | exact HB.out | apply pA | apply pN | apply pD | refine pS ?_ GE413.out) | exact HB.out))) (fun k_ h_ => h_)) (Kd.R_lt (zR HO_414000.out))) (below_size (by repeat (first | (with_reducible first | exact HB.out | apply pA | apply pN | apply pD | refine pS ?_ GE413.out) | exact HB.out))))
               have n3_ := Aside0.mk (Kd.V_lower (Kd.V_mono (ok' := fun k_ => (w.heap.size ≤ k_) ∧ some k_ ≠ (v416 : Value).ownBlock ∧ some k_ ≠ (u3 : Value).ownBlock ∧ some k_ ≠ (.slice Ao9 x414000_1.length co9 : Value).ownBlock ∧ k_ ≠ gb413) ho1 (fun k_ hk_ => ⟨(Nat.le_trans (below_size (by repeat (first | (with_reducible first | exact HB.out | apply pA | apply pN | apply pD | refine pS ?_ GE413.out) | exact HB.out))) hk_.1), hk_.2, (Kd.fresh' (Kd.N_lt (zN HO_3.out)) k_ hk_.1), (Kd.fresh' (Kd.R_lt (zR HO_414000.out)) k_ hk_.1), (Kd.freshB (g := gb413) (o := .cells #[.slice Ao9 x414000_1.length co9, .bool x414001_1] 38 (0, 0)) (zB BK413.out) k_ hk_.1)⟩)) (below_size (by repeat (first | (with_reducible first | exact HB.out | apply pA | apply pN | apply pD | refine pS ?_ GE413.out) | exact HB.out))))
               have n4_ := Aside0.mk (blk_below (g := gb413) (o := .cells #[.slice Ao9 x414000_1.length co9, .bool x414001_1] 38 (0, 0)) (zB BK413.out) hb)
               have n5_ := Aside0.mk (below_step (by repeat (first | (with_reducible first | exact HB.out | apply pA | apply pN | apply pD | refine pS ?_ GE413.out) | exact HB.out)) hb)
               clear HO_3
               clear HO_414000
               clear BK413
               clear HB
               have HO_3 := n0_
               have HO_414000 := n1_
               have HO417 := n2_
               have HO422 := n3_
               have BK413 := n4_
               have HB := n5_
               clear n0_ n1_ n2_ n3_ n4_ n5_
               (try clear hb)
               (try clear hb2)
               (try clear hk)
               (try clear hi)
               (try clear ho0)
               (try clear ho1)
               refine hK.out _ _ ⟨(blk_cell BK413.out 0).trans rfl, (blk_cell BK413.out 1).trans rfl, ((HB.out.cell (World.block_lt_of_cell? w _ hw414_0)).trans hw414_0)⟩ (fun hHeld => ?_)
               clear hK K
               refine norm_ (a' := ?_) ?_ ?_
               rotate_left
               ·show Act.put _ (some 22) _ = _
                simp only [Act.put, sT, s0, s1, i64_w, i32_w]
                rfl
               refine pure_ (i := 6) (N := some 16) (v := ?_) (a' := ?_) #[true, true, true, true, true, true, true, false, false, false, false, false, false, false, false] rfl rfl (any_of HT_.out (by kernel_rfl)) (fun _ _ _ h => h) (Or.inl ⟨by rfl, ?_⟩) ?_ ?_
               rotate_left
               ·intro w'
                go_simp
                with_reducible rfl
               rotate_left
               ·simp only [Act.put, sT, s0, s1, i64_w, i32_w]
                rfl
               refine pure_ (i := 7) (N := some 23) (v := ?_) (a' := ?_) #[true, true, true, true, true, true, true, true, false, false, false, false, false, false, false] rfl rfl (any_of HT_.out (by kernel_rfl)) (fun _ _ _ h => h) (Or.inl ⟨by rfl, ?_⟩) ?_ ?_
               rotate_left
               ·intro w'
                go_simp
                with_reducible rfl
               rotate_left
               ·simp only [Act.put, sT, s0, s1, i64_w, i32_w]
                rfl
               refine pure_ (i := 8) (N := some 24) (v := ?_) (a' := ?_) #[true, true, true, true, true, true, true, true, true, false, false, false, false, false, false] rfl rfl (any_of HT_.out (by kernel_rfl)) (fun _ _ _ h => h) (Or.inl ⟨by rfl, ?_⟩) ?_ ?_
               rotate_left
               ·intro w'
                go_simp
                with_reducible rfl
               rotate_left
               ·simp only [Act.put, sT, s0, s1, i64_w, i32_w]
                rfl
               refine pure_ (i := 9) (N := some 25) (v := ?_) (a' := ?_) #[true, true, true, true, true, true, true, true, true, true, false, false, false, false, false] rfl rfl (any_of HT_.out (by kernel_rfl)) (fun _ _ _ h => h) (Or.inl ⟨by rfl, ?_⟩) ?_ ?_
               rotate_left
               ·intro w'
                go_simp
                with_reducible rfl
               rotate_left
               ·simp only [Act.put, sT, s0, s1, i64_w, i32_w]
                rfl
               exact norm_ (by first | (simp only [putAll, Act.put, sT, s0, s1]; done) | (simp only [putAll, Act.put, sT, s0, s1]; rfl)) (hJ5 (v416, v421) _ ⟨hHeld, (zR (Kd.R_mono HO417.out (fun _ hk => ⟨hk.1.1, hk.2⟩))), (zV HO422.out), (zN (Kd.N_mono HO_3.out (fun _ hk => ⟨hk.1.1, ⟨hk.2, ⟨hk.1.2.1, hk.1.2.2⟩⟩⟩))), (zR HO_414000.out), (zB BK413.out), (by repeat (first | (with_reducible first | exact HB.out | apply pA | apply pN | apply pD | refine pS ?_ GE413.out) | exact HB.out))⟩)
              ·skip
               refine box_step ?hg (N := 6) ?hd (cs := #[.slice none 0 0, .bool false]) (t := 38) ?hr ?_; (case hd => rfl); (case hg => rfl); (case hr => first | (go_simp; done) | (go_simp; rfl))
               intro gb424 hg w11 hbox hb
               have n0_ := Aside0.mk (Kd.N_below (Kd.N_elderB (zN HO_3.out) gb424 (Nat.le_of_eq hg.symm)) hb)
               have n1_ := Aside0.mk (Kd.R_below (zR HO_414000.out) hb)
               have n2_ := Aside0.mk (blk_below (g := gb413) (o := .cells #[.slice Ao9 x414000_1.length co9, .bool x414001_1] 38 (0, 0)) (zB BK413.out) hb)
               have n3_ := Aside0.mk (below_step (by repeat (first | (with_reducible first | exact HB.out | apply pA | apply pN | apply pD | refine pS ?_ GE413.out) | exact HB.out)) hb)
               have n4_ := Aside0.mk (hbox)
               have n5_ := Aside0.mk ((by rw [hg]; exact (below_size (by repeat (first | (with_reducible first | exact HB.out | apply pA | apply pN | apply pD | refine pS ?_ GE413.out) | exact HB.out))) : w.heap.size ≤ gb424))
               have n6_ := Aside0.mk ((by rw [hg]; exact (below_size (by repeat (first | (with_reducible first | exact HB.out | apply pA | apply pN | apply pD | refine pS ?_ GE413.out) | exact HB.out))) : w.heap.size ≤ gb424))
               have n7_ := Aside0.mk ((by rw [hg]; exact Nat.ne_of_lt (blk_lt (g := gb413) (o := .cells #[.slice Ao9 x414000_1.length co9, .bool x414001_1] 38 (0, 0)) (zB BK413.out)) : gb413 ≠ gb424))
               have n8_ := Aside0.mk ((by rw [hg]; exact Nat.ne_of_gt (blk_lt (g := gb413) (o := .cells #[.slice Ao9 x414000_1.length co9, .bool x414001_1] 38 (0, 0)) (zB BK413.out)) : gb424 ≠ gb413))
               clear HO_3
               clear HO_414000
               clear BK413
               clear HB
               have HO_3 := n0_
               have HO_414000 := n1_
               have BK413 := n2_
               have HB := n3_
               have BK424 := n4_
               have GW424 := n5_
               have GE424 := n6_
               have NB413_424 := n7_
               have NB424_413 := n8_
               clear n0_ n1_ n2_ n3_ n4_ n5_ n6_ n7_ n8_
               clear hb hbox hg
               refine hK.out _ _ ⟨(blk_cell BK413.out 0).trans rfl, (blk_cell BK413.out 1).trans rfl, ((HB.out.cell (World.block_lt_of_cell? w _ hw414_0)).trans hw414_0)⟩ (fun hHeld => ?_)
               clear hK K
               refine norm_ (a' := ?_) ?_ ?_
               rotate_left
               ·show Act.put _ (some 6) _ = _
                simp only [Act.put, sT, s0, s1, i64_w, i32_w]
                rfl
               exact norm_ (by first | (simp only [putAll, Act.put, sT, s0, s1]; done) | (simp only [putAll, Act.put, sT, s0, s1]; rfl)) (hJ10 (gb424) _ ⟨hHeld, (zN (Kd.N_mono HO_3.out (fun _ hk => ⟨hk.1.1, ⟨hk.1.2.1, ⟨hk.1.2.2, hk.2⟩⟩⟩))), (zR HO_414000.out), (zB BK413.out), (zB BK424.out), GW424.out, GE424.out, NB413_424.out, NB424_413.out, (by repeat (first | (with_reducible first | exact HB.out | apply pA | apply pN | apply pD | refine pS ?_ GE413.out | refine pS ?_ GE424.out) | exact HB.out))⟩)
              ·skip
               refine box_step ?hg (N := 7) ?hd (cs := #[.int .u16 0, .slice none 0 0]) (t := 25) ?hr ?_; (case hd => rfl); (case hg => rfl); (case hr => first | (go_simp; done) | (go_simp; rfl))
               intro gb425 hg w11 hbox hb
               have n0_ := Aside0.mk (Kd.N_below (Kd.N_elderB (zN HO_3.out) gb425 (Nat.le_of_eq hg.symm)) hb)
               have n1_ := Aside0.mk (Kd.R_below (zR HO_414000.out) hb)
               have n2_ := Aside0.mk (blk_below (g := gb413) (o := .cells #[.slice Ao9 x414000_1.length co9, .bool x414001_1] 38 (0, 0)) (zB BK413.out) hb)
               have n3_ := Aside0.mk (below_step (by repeat (first | (with_reducible first | exact HB.out | apply pA | apply pN | apply pD | refine pS ?_ GE413.out) | exact HB.out)) hb)
               have n4_ := Aside0.mk (hbox)
               have n5_ := Aside0.mk ((by rw [hg]; exact (below_size (by repeat (first | (with_reducible first | exact HB.out | apply pA | apply pN | apply pD | refine pS ?_ GE413.out) | exact HB.out))) : w.heap.size ≤ gb425))
               have n6_ := Aside0.mk ((by rw [hg]; exact (below_size (by repeat (first | (with_reducible first | exact HB.out | apply pA | apply pN | apply pD | refine pS ?_ GE413.out) | exact HB.out))) : w.heap.size ≤ gb425))
               have n7_ := Aside0.mk ((by rw [hg]; exact Nat.ne_of_lt (blk_lt (g := gb413) (o := .cells #[.slice Ao9 x414000_1.length co9, .bool x414001_1] 38 (0, 0)) (zB BK413.out)) : gb413 ≠ gb425))
               have n8_ := Aside0.mk ((by rw [hg]; exact Nat.ne_of_gt (blk_lt (g := gb413) (o := .cells #[.slice Ao9 x414000_1.length co9, .bool x414001_1] 38 (0, 0)) (zB BK413.out)) : gb425 ≠ gb413))
               clear HO_3
               clear HO_414000
               clear BK413
               clear HB
               have HO_3 := n0_
               have HO_414000 := n1_
               have BK413 := n2_
               have HB := n3_
               have BK425 := n4_
               have GW425 := n5_
               have GE425 := n6_
               have NB413_425 := n7_
               have NB425_413 := n8_
               clear n0_ n1_ n2_ n3_ n4_ n5_ n6_ n7_ n8_
               clear hb hbox hg
               refine hK.out _ _ ⟨(blk_cell BK413.out 0).trans rfl, (blk_cell BK413.out 1).trans rfl, ((HB.out.cell (World.block_lt_of_cell? w _ hw414_0)).trans hw414_0)⟩ (fun hHeld => ?_)
               clear hK K
               refine norm_ (a' := ?_) ?_ ?_
               rotate_left
               ·show Act.put _ (some 7) _ = _
                simp only [Act.put, sT, s0, s1, i64_w, i32_w]
                rfl
               exact norm_ (by first | (simp only [putAll, Act.put, sT, s0, s1]; done) | (simp only [putAll, Act.put, sT, s0, s1]; rfl)) (hJ11 (gb425) _ ⟨hHeld, (zN (Kd.N_mono HO_3.out (fun _ hk => ⟨hk.1.1, ⟨hk.1.2.1, ⟨hk.1.2.2, hk.2⟩⟩⟩))), (zR HO_414000.out), (zB BK413.out), (zB BK425.out), GW425.out, GE425.out, NB413_425.out, NB425_413.out, (by repeat (first | (with_reducible first | exact HB.out | apply pA | apply pN | apply pD | refine pS ?_ GE413.out | refine pS ?_ GE425.out) | exact HB.out))⟩)
             ·skip
              rintro gb425 w12 ⟨hS_, h0_, h1_, h2_, h3_, h4_, h5_, h6_, h7_, h8_⟩
              have n0_ : Aside0 (Kd.N k25 25 w12 w.heap.size (fun k_ => (w.heap.size ≤ k_) ∧ some k_ ≠ (.slice Ao9 x414000_1.length co9 : Value).ownBlock ∧ k_ ≠ gb413 ∧ k_ ≠ gb425) u3 x3_1) := ⟨h0_⟩
              have n1_ : Aside0 (Kd.R (Kd.int .u8) 5 w12 w.heap.size (fun k_ => (w.heap.size ≤ k_)) (.slice Ao9 x414000_1.length co9) x414000_1) := ⟨h1_⟩
              have n2_ : Aside0 (w12.heap[gb413]? = some (.cells #[.slice Ao9 x414000_1.length co9, .bool x414001_1] 38 (0, 0))) := ⟨h2_⟩
              have n3_ : Aside0 (w12.heap[gb425]? = some (.cells #[.int .u16 0, .slice none 0 0] 25 (0, 0))) := ⟨h3_⟩
              have n4_ : Aside0 (w.heap.size ≤ gb425) := ⟨h4_⟩
              have n5_ : Aside0 (w.heap.size ≤ gb425) := ⟨h5_⟩
              have n6_ : Aside0 (gb413 ≠ gb425) := ⟨h6_⟩
              have n7_ : Aside0 (gb425 ≠ gb413) := ⟨h7_⟩
              have n8_ : Aside0 (Below w.heap.size w w12) := ⟨h8_⟩
              clear HO_3
              clear HO_414000
              clear BK413
              clear HB
              clear h0_ h1_ h2_ h3_ h4_ h5_ h6_ h7_ h8_
              have HO_3 := n0_
              have HO_414000 := n1_
              have BK413 := n2_
              have BK425 := n3_
              have GW425 := n4_
              have GE425 := n5_
              have NB413_425 := n6_
              have NB425_413 := n7_
              have HB := n8_
              clear n0_ n1_ n2_ n3_ n4_ n5_ n6_ n7_ n8_
              have hHeld : w12.cell? ⟨gb413, 0, none⟩ = some (.slice Ao9 x414000_1.length co9) ∧ w12.cell? ⟨gb413, 1, none⟩ = some (.bool x414001_1) ∧ w12.cell? (ad414.add (x5_1).toNat) = some (.int .u8 (rd l0 x5_1)) := hS_
              refine norm_ (a' := ?_) ?_ ?_
              rotate_left
              ·simp only [putAll, Act.put, sT, s0, s1]
               rfl
              refine two_ (i := 5) (j := 10) (Ni := some 22) (Nj := some 6) #[true, true, true, true, true, true, false, false, false, false, false, true, false, false, false] #[true, true, true, true, true, false, false, false, false, false, true, true, false, false, false] rfl rfl rfl rfl (two_of HT_.out (by kernel_rfl)) (by decide) (by decide) (fun K hK => ?_) (fun K hK => ?_)
              ·skip
               refine goes_ Try.func15 (by kernel_rfl) rfl #[.agg #[.slice Ao9 x414000_1.length co9, .bool x414001_1], .int .u8 (rd l0 x5_1)] (by rfl) rfl rfl (by (try simp only [List.map_toArray, List.map_cons, List.map_nil]); first | done | rfl | (simp only [List.length_drop, List.length_take]; rfl)) ?_
               with_reducible refine (frame_Take.calls k1 _ _ x414000_1 x414001_1 (rd l0 x5_1) t415 t418 t419 t420 true _ ?side1 ?side2 A6.out).mono ?_
               (case side1 => repeat (first | exact (Kd.R_reads' HO_414000.out).2.2 | (with_reducible refine Kd.C_alloc ?_ _) | (with_reducible refine Kd.C_drewN ?_ _) | (with_reducible refine Kd.C_drew ?_)))
               (case side2 => exact (Kd.R_reads' HO_414000.out).2.1)
               rintro e w13 ⟨v416, v421, rfl, ho0, ho1, hb⟩
               refine ⟨_, rfl, ?_⟩
               have n0_ := Aside0.mk (Kd.N_elder' (zN HO_3.out) (Kd.R_base ho0) hb)
               have n1_ := Aside0.mk (Kd.R_elder' (zR HO_414000.out) (Kd.R_base ho0) hb)
               have n2_ := Aside0.mk (Kd.R_lower (Kd.R_new' (Kd.R_newM (M := fun k_ => (w.heap.size ≤ k_)) (Kd.R_mono (ok' := fun k_ => True) ho0 (fun _ hk_ => trivial)) (below_size (by repeat (first | (with_reducible first | exact HB.out | apply pA | apply pN | apply pD | refine pS ?_ GE413.out | refine pS ?_ GE425.out) | exact HB.out))) (fun k_ h_ => h_)) (Kd.R_lt (zR HO_414000.out))) (below_size (by repeat (first | (with_reducible first | exact HB.out | apply pA | apply pN | apply pD | refine pS ?_ GE413.out | refine pS ?_ GE425.out) | exact HB.out))))
               have n3_ := Aside0.mk (Kd.V_lower (Kd.V_mono (ok' := fun k_ => (w.heap.size ≤ k_) ∧ some k_ ≠ (v416 : Value).ownBlock ∧ some k_ ≠ (u3 : Value).ownBlock ∧ some k_ ≠ (.slice Ao9 x414000_1.length co9 : Value).ownBlock ∧ k_ ≠ gb413 ∧ k_ ≠ gb425) ho1 (fun k_ hk_ => ⟨(Nat.le_trans (below_size (by repeat (first | (with_reducible first | exact HB.out | apply pA | apply pN | apply pD | refine pS ?_ GE413.out | refine pS ?_ GE425.out) | exact HB.out))) hk_.1), hk_.2, (Kd.fresh' (Kd.N_lt (zN HO_3.out)) k_ hk_.1), (Kd.fresh' (Kd.R_lt (zR HO_414000.out)) k_ hk_.1), (Kd.freshB (g := gb413) (o := .cells #[.slice Ao9 x414000_1.length co9, .bool x414001_1] 38 (0, 0)) (zB BK413.out) k_ hk_.1), (Kd.freshB (g := gb425) (o := .cells #[.int .u16 0, .slice none 0 0] 25 (0, 0)) (zB BK425.out) k_ hk_.1)⟩)) (below_size (by repeat (first | (with_reducible first | exact HB.out | apply pA | apply pN | apply pD | refine pS ?_ GE413.out | refine pS ?_ GE425.out) | exact HB.out))))
               have n4_ := Aside0.mk (blk_below (g := gb413) (o := .cells #[.slice Ao9 x414000_1.length co9, .bool x414001_1] 38 (0, 0)) (zB BK413.out) hb)
               have n5_ := Aside0.mk (blk_below (g := gb425) (o := .cells #[.int .u16 0, .slice none 0 0] 25 (0, 0)) (zB BK425.out) hb)
               have n6_ := Aside0.mk (below_step (by repeat (first | (with_reducible first | exact HB.out | apply pA | apply pN | apply pD | refine pS ?_ GE413.out | refine pS ?_ GE425.out) | exact HB.out)) hb)
               clear HO_3
               clear HO_414000
               clear BK413
               clear BK425
               clear HB
               have HO_3 := n0_
               have HO_414000 := n1_
               have HO417 := n2_
               have HO422 := n3_
               have BK413 := n4_
               have BK425 := n5_
               have HB := n6_
               clear n0_ n1_ n2_ n3_ n4_ n5_ n6_
               (try clear hb)
               (try clear hb2)
               (try clear hk)
               (try clear hi)
               (try clear ho0)
               (try clear ho1)
               refine hK.out _ _ ⟨(blk_cell BK413.out 0).trans rfl, (blk_cell BK413.out 1).trans rfl, ((HB.out.cell (World.block_lt_of_cell? w _ hw414_0)).trans hw414_0)⟩ (fun hHeld => ?_)
               clear hK K
               refine norm_ (a' := ?_) ?_ ?_
               rotate_left
               ·show Act.put _ (some 22) _ = _
                simp only [Act.put, sT, s0, s1, i64_w, i32_w]
                rfl
               refine pure_ (i := 6) (N := some 16) (v := ?_) (a' := ?_) #[true, true, true, true, true, true, true, false, false, false, false, true, false, false, false] rfl rfl (any_of HT_.out (by kernel_rfl)) (fun _ _ _ h => h) (Or.inl ⟨by rfl, ?_⟩) ?_ ?_
               rotate_left
               ·intro w'
                go_simp
                with_reducible rfl
               rotate_left
               ·simp only [Act.put, sT, s0, s1, i64_w, i32_w]
                rfl
               refine pure_ (i := 7) (N := some 23) (v := ?_) (a' := ?_) #[true, true, true, true, true, true, true, true, false, false, false, true, false, false, false] rfl rfl (any_of HT_.out (by kernel_rfl)) (fun _ _ _ h => h) (Or.inl ⟨by rfl, ?_⟩) ?_ ?_
               rotate_left
               ·intro w'
                go_simp
                with_reducible rfl
               rotate_left
               ·simp only [Act.put, sT, s0, s1, i64_w, i32_w]
                rfl
               refine pure_ (i := 8) (N := some 24) (v := ?_) (a' := ?_) #[true, true, true, true, true, true, true, true, true, false, false, true, false, false, false] rfl rfl (any_of HT_.out (by kernel_rfl)) (fun _ _ _ h => h) (Or.inl ⟨by rfl, ?_⟩) ?_ ?_
               rotate_left
               ·intro w'
                go_simp
                with_reducible rfl
               rotate_left
               ·simp only [Act.put, sT, s0, s1, i64_w, i32_w]
                rfl
               refine pure_ (i := 9) (N := some 25) (v := ?_) (a' := ?_) #[true, true, true, true, true, true, true, true, true, true, false, true, false, false, false] rfl rfl (any_of HT_.out (by kernel_rfl)) (fun _ _ _ h => h) (Or.inl ⟨by rfl, ?_⟩) ?_ ?_
               rotate_left
               ·intro w'
                go_simp
                with_reducible rfl
               rotate_left
               ·simp only [Act.put, sT, s0, s1, i64_w, i32_w]
                rfl
               exact norm_ (by first | (simp only [putAll, Act.put, sT, s0, s1]; done) | (simp only [putAll, Act.put, sT, s0, s1]; rfl)) (hJ5_11 (v416, v421, gb425) _ ⟨hHeld, (zR (Kd.R_mono HO417.out (fun _ hk => ⟨hk.1.1, hk.2⟩))), (zV HO422.out), (zN (Kd.N_mono HO_3.out (fun _ hk => ⟨hk.1.1, ⟨hk.2, ⟨hk.1.2.1, ⟨hk.1.2.2.1, hk.1.2.2.2⟩⟩⟩⟩))), (zR HO_414000.out), (zB BK413.out), (zB BK425.out), GW425.out, GE425.out, NB413_425.out, NB425_413.out, (by repeat (first | (with_reducible first | exact HB.out | apply pA | apply pN | apply pD | refine pS ?_ GE413.out | refine pS ?_ GE425.out) | exact HB.out))⟩)
              ·skip
               refine box_step ?hg (N := 6) ?hd (cs := #[.slice none 0 0, .bool false]) (t := 38) ?hr ?_; (case hd => rfl); (case hg => rfl); (case hr => first | (go_simp; done) | (go_simp; rfl))
               intro gb424 hg w13 hbox hb
               have n0_ := Aside0.mk (Kd.N_below (Kd.N_elderB (zN HO_3.out) gb424 (Nat.le_of_eq hg.symm)) hb)
               have n1_ := Aside0.mk (Kd.R_below (zR HO_414000.out) hb)
               have n2_ := Aside0.mk (blk_below (g := gb413) (o := .cells #[.slice Ao9 x414000_1.length co9, .bool x414001_1] 38 (0, 0)) (zB BK413.out) hb)
               have n3_ := Aside0.mk (blk_below (g := gb425) (o := .cells #[.int .u16 0, .slice none 0 0] 25 (0, 0)) (zB BK425.out) hb)
               have n4_ := Aside0.mk (below_step (by repeat (first | (with_reducible first | exact HB.out | apply pA | apply pN | apply pD | refine pS ?_ GE413.out | refine pS ?_ GE425.out) | exact HB.out)) hb)
               have n5_ := Aside0.mk (hbox)
               have n6_ := Aside0.mk ((by rw [hg]; exact (below_size (by repeat (first | (with_reducible first | exact HB.out | apply pA | apply pN | apply pD | refine pS ?_ GE413.out | refine pS ?_ GE425.out) | exact HB.out))) : w.heap.size ≤ gb424))
               have n7_ := Aside0.mk ((by rw [hg]; exact (below_size (by repeat (first | (with_reducible first | exact HB.out | apply pA | apply pN | apply pD | refine pS ?_ GE413.out | refine pS ?_ GE425.out) | exact HB.out))) : w.heap.size ≤ gb424))
               have n8_ := Aside0.mk ((by rw [hg]; exact Nat.ne_of_lt (blk_lt (g := gb413) (o := .cells #[.slice Ao9 x414000_1.length co9, .bool x414001_1] 38 (0, 0)) (zB BK413.out)) : gb413 ≠ gb424))
               have n9_ := Aside0.mk ((by rw [hg]; exact Nat.ne_of_gt (blk_lt (g := gb413) (o := .cells #[.slice Ao9 x414000_1.length co9, .bool x414001_1] 38 (0, 0)) (zB BK413.out)) : gb424 ≠ gb413))
               have n10_ := Aside0.mk ((by rw [hg]; exact Nat.ne_of_lt (blk_lt (g := gb425) (o := .cells #[.int .u16 0, .slice none 0 0] 25 (0, 0)) (zB BK425.out)) : gb425 ≠ gb424))
               have n11_ := Aside0.mk ((by rw [hg]; exact Nat.ne_of_gt (blk_lt (g := gb425) (o := .cells #[.int .u16 0, .slice none 0 0] 25 (0, 0)) (zB BK425.out)) : gb424 ≠ gb425))
               clear HO_3
               clear HO_414000
               clear BK413
               clear BK425
               clear HB
               have HO_3 := n0_
               have HO_414000 := n1_
               have BK413 := n2_
               have BK425 := n3_
               have HB := n4_
               have BK424 := n5_
               have GW424 := n6_
               have GE424 := n7_
               have NB413_424 := n8_
               have NB424_413 := n9_
               have NB425_424 := n10_
               have NB424_425 := n11_
               clear n0_ n1_ n2_ n3_ n4_ n5_ n6_ n7_ n8_ n9_ n10_ n11_
               clear hb hbox hg
               refine hK.out _ _ ⟨(blk_cell BK413.out 0).trans rfl, (blk_cell BK413.out 1).trans rfl, ((HB.out.cell (World.block_lt_of_cell? w _ hw414_0)).trans hw414_0)⟩ (fun hHeld => ?_)
               clear hK K
               refine norm_ (a' := ?_) ?_ ?_
               rotate_left
               ·show Act.put _ (some 6) _ = _
                simp only [Act.put, sT, s0, s1, i64_w, i32_w]
                rfl
               exact norm_ (by first | (simp only [putAll, Act.put, sT, s0, s1]; done) | (simp only [putAll, Act.put, sT, s0, s1]; rfl)) (hJ10_11 (gb424, gb425) _ ⟨hHeld, (zN (Kd.N_mono HO_3.out (fun _ hk => ⟨hk.1.1, ⟨hk.1.2.1, ⟨hk.1.2.2.1, ⟨hk.2, hk.1.2.2.2⟩⟩⟩⟩))), (zR HO_414000.out), (zB BK413.out), (zB BK424.out), (zB BK425.out), GW424.out, GE424.out, NB413_424.out, NB424_413.out, NB425_424.out, NB424_425.out, GW425.out, GE425.out, NB413_425.out, NB425_413.out, (by repeat (first | (with_reducible first | exact HB.out | apply pA | apply pN | apply pD | refine pS ?_ GE413.out | refine pS ?_ GE425.out | refine pS ?_ GE424.out) | exact HB.out))⟩)
            ·skip
             rintro gb424 w12 ⟨hS_, h0_, h1_, h2_, h3_, h4_, h5_, h6_, h7_, h8_⟩
             have n0_ : Aside0 (Kd.N k25 25 w12 w.heap.size (fun k_ => (w.heap.size ≤ k_) ∧ some k_ ≠ (.slice Ao9 x414000_1.length co9 : Value).ownBlock ∧ k_ ≠ gb413 ∧ k_ ≠ gb424) u3 x3_1) := ⟨h0_⟩
             have n1_ : Aside0 (Kd.R (Kd.int .u8) 5 w12 w.heap.size (fun k_ => (w.heap.size ≤ k_)) (.slice Ao9 x414000_1.length co9) x414000_1) := ⟨h1_⟩
             have n2_ : Aside0 (w12.heap[gb413]? = some (.cells #[.slice Ao9 x414000_1.length co9, .bool x414001_1] 38 (0, 0))) := ⟨h2_⟩
             have n3_ : Aside0 (w12.heap[gb424]? = some (.cells #[.slice none 0 0, .bool false] 38 (0, 0))) := ⟨h3_⟩
             have n4_ : Aside0 (w.heap.size ≤ gb424) := ⟨h4_⟩
             have n5_ : Aside0 (w.heap.size ≤ gb424) := ⟨h5_⟩
             have n6_ : Aside0 (gb413 ≠ gb424) := ⟨h6_⟩
             have n7_ : Aside0 (gb424 ≠ gb413) := ⟨h7_⟩
             have n8_ : Aside0 (Below w.heap.size w w12) := ⟨h8_⟩
             clear HO_3
             clear HO_414000
             clear BK413
             clear HB
             clear h0_ h1_ h2_ h3_ h4_ h5_ h6_ h7_ h8_
             have HO_3 := n0_
             have HO_414000 := n1_
             have BK413 := n2_
             have BK424 := n3_
             have GW424 := n4_
             have GE424 := n5_
             have NB413_424 := n6_
             have NB424_413 := n7_
             have HB := n8_
             clear n0_ n1_ n2_ n3_ n4_ n5_ n6_ n7_ n8_
             have hHeld : w12.cell? ⟨gb413, 0, none⟩ = some (.slice Ao9 x414000_1.length co9) ∧ w12.cell? ⟨gb413, 1, none⟩ = some (.bool x414001_1) ∧ w12.cell? (ad414.add (x5_1).toNat) = some (.int .u8 (rd l0 x5_1)) := hS_
             refine norm_ (a' := ?_) ?_ ?_
             rotate_left
             ·simp only [putAll, Act.put, sT, s0, s1]
              rfl
             refine two_ (i := 5) (j := 11) (Ni := some 22) (Nj := some 7) #[true, true, true, true, true, true, false, false, false, false, true, false, false, false, false] #[true, true, true, true, true, false, false, false, false, false, true, true, false, false, false] rfl rfl rfl rfl (two_of HT_.out (by kernel_rfl)) (by decide) (by decide) (fun K hK => ?_) (fun K hK => ?_)
             ·skip
              refine goes_ Try.func15 (by kernel_rfl) rfl #[.agg #[.slice Ao9 x414000_1.length co9, .bool x414001_1], .int .u8 (rd l0 x5_1)] (by rfl) rfl rfl (by (try simp only [List.map_toArray, List.map_cons, List.map_nil]); first | done | rfl | (simp only [List.length_drop, List.length_take]; rfl)) ?_
              with_reducible refine (frame_Take.calls k1 _ _ x414000_1 x414001_1 (rd l0 x5_1) t415 t418 t419 t420 true _ ?side1 ?side2 A6.out).mono ?_
              (case side1 => repeat (first | exact (Kd.R_reads' HO_414000.out).2.2 | (with_reducible refine Kd.C_alloc ?_ _) | (with_reducible refine Kd.C_drewN ?_ _) | (with_reducible refine Kd.C_drew ?_)))
              (case side2 => exact (Kd.R_reads' HO_414000.out).2.1)
              rintro e w13 ⟨v416, v421, rfl, ho0, ho1, hb⟩
              refine ⟨_, rfl, ?_⟩
              have n0_ := Aside0.mk (Kd.N_elder' (zN HO_3.out) (Kd.R_base ho0) hb)
              have n1_ := Aside0.mk (Kd.R_elder' (zR HO_414000.out) (Kd.R_base ho0) hb)
              have n2_ := Aside0.mk (Kd.R_lower (Kd.R_new' (Kd.R_newM (M := fun k_ => (w.heap.size ≤ k_)) (Kd.R_mono (ok' := fun k_ => True) ho0 (fun _ hk_ => trivial)) (below_size (by repeat (first | (with_reducible first | exact HB.out | apply pA | apply pN | apply pD | refine pS ?_ GE413.out | refine pS ?_ GE424.out) | exact HB.out))) (fun k_ h_ => h_)) (Kd.R_lt (zR HO_414000.out))) (below_size (by repeat (first | (with_reducible first | exact HB.out | apply pA | apply pN | apply pD | refine pS ?_ GE413.out | refine pS ?_ GE424.out) | exact HB.out))))
              have n3_ := Aside0.mk (Kd.V_lower (Kd.V_mono (ok' := fun k_ => (w.heap.size ≤ k_) ∧ some k_ ≠ (v416 : Value).ownBlock ∧ some k_ ≠ (u3 : Value).ownBlock ∧ some k_ ≠ (.slice Ao9 x414000_1.length co9 : Value).ownBlock ∧ k_ ≠ gb413 ∧ k_ ≠ gb424) ho1 (fun k_ hk_ => ⟨(Nat.le_trans (below_size (by repeat (first | (with_reducible first | exact HB.out | apply pA | apply pN | apply pD | refine pS ?_ GE413.out | refine pS ?_ GE424.out) | exact HB.out))) hk_.1), hk_.2, (Kd.fresh' (Kd.N_lt (zN HO_3.out)) k_ hk_.1), (Kd.fresh' (Kd.R_lt (zR HO_414000.out)) k_ hk_.1), (Kd.freshB (g := gb413) (o := .cells #[.slice Ao9 x414000_1.length co9, .bool x414001_1] 38 (0, 0)) (zB BK413.out) k_ hk_.1), (Kd.freshB (g := gb424) (o := .cells #[.slice none 0 0, .bool false] 38 (0, 0)) (zB BK424.out) k_ hk_.1)⟩)) (below_size (by repeat (first | (with_reducible first | exact HB.out | apply pA | apply pN | apply pD | refine pS ?_ GE413.out | refine pS ?_ GE424.out) | exact HB.out))))
              have n4_ := Aside0.mk (blk_below (g := gb413) (o := .cells #[.slice Ao9 x414000_1.length co9, .bool x414001_1] 38 (0, 0)) (zB BK413.out) hb)
              have n5_ := Aside0.mk (blk_below (g := gb424) (o := .cells #[.slice none 0 0, .bool false] 38 (0, 0)) (zB BK424.out) hb)
              have n6_ := Aside0.mk (below_step (by repeat (first | (with_reducible first | exact HB.out | apply pA | apply pN | apply pD | refine pS ?_ GE413.out | refine pS ?_ GE424.out) | exact HB.out)) hb)
              clear HO_3
              clear HO_414000
              clear BK413
              clear BK424
              clear HB
              have HO_3 := n0_
              have HO_414000 := n1_
              have HO417 := n2_
              have HO422 := n3_
              have BK413 := n4_
              have BK424 := n5_
              have HB := n6_
              clear n0_ n1_ n2_ n3_ n4_ n5_ n6_
              (try clear hb)
              (try clear hb2)
              (try clear hk)
              (try clear hi)
              (try clear ho0)
              (try clear ho1)
              refine hK.out _ _ ⟨(blk_cell BK413.out 0).trans rfl, (blk_cell BK413.out 1).trans rfl, ((HB.out.cell (World.block_lt_of_cell? w _ hw414_0)).trans hw414_0)⟩ (fun hHeld => ?_)
              clear hK K
              refine norm_ (a' := ?_) ?_ ?_
              rotate_left
              ·show Act.put _ (some 22) _ = _
               simp only [Act.put, sT, s0, s1, i64_w, i32_w]
               rfl
              refine pure_ (i := 6) (N := some 16) (v := ?_) (a' := ?_) #[true, true, true, true, true, true, true, false, false, false, true, false, false, false, false] rfl rfl (any_of HT_.out (by kernel_rfl)) (fun _ _ _ h => h) (Or.inl ⟨by rfl, ?_⟩) ?_ ?_
              rotate_left
              ·intro w'
               go_simp
               with_reducible rfl
              rotate_left
              ·simp only [Act.put, sT, s0, s1, i64_w, i32_w]
               rfl
              refine pure_ (i := 7) (N := some 23) (v := ?_) (a' := ?_) #[true, true, true, true, true, true, true, true, false, false, true, false, false, false, false] rfl rfl (any_of HT_.out (by kernel_rfl)) (fun _ _ _ h => h) (Or.inl ⟨by rfl, ?_⟩) ?_ ?_
              rotate_left
              ·intro w'
               go_simp
               with_reducible rfl
              rotate_left
              ·simp only [Act.put, sT, s0, s1, i64_w, i32_w]
               rfl
              refine pure_ (i := 8) (N := some 24) (v := ?_) (a' := ?_) #[true, true, true, true, true, true, true, true, true, false, true, false, false, false, false] rfl rfl (any_of HT_.out (by kernel_rfl)) (fun _ _ _ h => h) (Or.inl ⟨by rfl, ?_⟩) ?_ ?_
              rotate_left
              ·intro w'
               go_simp
               with_reducible rfl
              rotate_left
              ·simp only [Act.put, sT, s0, s1, i64_w, i32_w]
               rfl
              refine pure_ (i := 9) (N := some 25) (v := ?_) (a' := ?_) #[true, true, true, true, true, true, true, true, true, true, true, false, false, false, false] rfl rfl (any_of HT_.out (by kernel_rfl)) (fun _ _ _ h => h) (Or.inl ⟨by rfl, ?_⟩) ?_ ?_
              rotate_left
              ·intro w'
               go_simp
               with_reducible rfl
              rotate_left
              ·simp only [Act.put, sT, s0, s1, i64_w, i32_w]
               rfl
              exact norm_ (by first | (simp only [putAll, Act.put, sT, s0, s1]; done) | (simp only [putAll, Act.put, sT, s0, s1]; rfl)) (hJ5_10 (v416, v421, gb424) _ ⟨hHeld, (zR (Kd.R_mono HO417.out (fun _ hk => ⟨hk.1.1, hk.2⟩))), (zV HO422.out), (zN (Kd.N_mono HO_3.out (fun _ hk => ⟨hk.1.1, ⟨hk.2, ⟨hk.1.2.1, ⟨hk.1.2.2.1, hk.1.2.2.2⟩⟩⟩⟩))), (zR HO_414000.out), (zB BK413.out), (zB BK424.out), GW424.out, GE424.out, NB413_424.out, NB424_413.out, (by repeat (first | (with_reducible first | exact HB.out | apply pA | apply pN | apply pD | refine pS ?_ GE413.out | refine pS ?_ GE424.out) | exact HB.out))⟩)
             ·skip
              refine box_step ?hg (N := 7) ?hd (cs := #[.int .u16 0, .slice none 0 0]) (t := 25) ?hr ?_; (case hd => rfl); (case hg => rfl); (case hr => first | (go_simp; done) | (go_simp; rfl))
              intro gb425 hg w13 hbox hb
              have n0_ := Aside0.mk (Kd.N_below (Kd.N_elderB (zN HO_3.out) gb425 (Nat.le_of_eq hg.symm)) hb)
              have n1_ := Aside0.mk (Kd.R_below (zR HO_414000.out) hb)
              have n2_ := Aside0.mk (blk_below (g := gb413) (o := .cells #[.slice Ao9 x414000_1.length co9, .bool x414001_1] 38 (0, 0)) (zB BK413.out) hb)
              have n3_ := Aside0.mk (blk_below (g := gb424) (o := .cells #[.slice none 0 0, .bool false] 38 (0, 0)) (zB BK424.out) hb)
              have n4_ := Aside0.mk (below_step (by repeat (first | (with_reducible first | exact HB.out | apply pA | apply pN | apply pD | refine pS ?_ GE413.out | refine pS ?_ GE424.out) | exact HB.out)) hb)
              have n5_ := Aside0.mk (hbox)
              have n6_ := Aside0.mk ((by rw [hg]; exact (below_size (by repeat (first | (with_reducible first | exact HB.out | apply pA | apply pN | apply pD | refine pS ?_ GE413.out | refine pS ?_ GE424.out) | exact HB.out))) : w.heap.size ≤ gb425))
              have n7_ := Aside0.mk ((by rw [hg]; exact (below_size (by repeat (first | (with_reducible first | exact HB.out | apply pA | apply pN | apply pD | refine pS ?_ GE413.out | refine pS ?_ GE424.out) | exact HB.out))) : w.heap.size ≤ gb425))
              have n8_ := Aside0.mk ((by rw [hg]; exact Nat.ne_of_lt (blk_lt (g := gb413) (o := .cells #[.slice Ao9 x414000_1.length co9, .bool x414001_1] 38 (0, 0)) (zB BK413.out)) : gb413 ≠ gb425))
              have n9_ := Aside0.mk ((by rw [hg]; exact Nat.ne_of_gt (blk_lt (g := gb413) (o := .cells #[.slice Ao9 x414000_1.length co9, .bool x414001_1] 38 (0, 0)) (zB BK413.out)) : gb425 ≠ gb413))
              have n10_ := Aside0.mk ((by rw [hg]; exact Nat.ne_of_lt (blk_lt (g := gb424) (o := .cells #[.slice none 0 0, .bool false] 38 (0, 0)) (zB BK424.out)) : gb424 ≠ gb425))
              have n11_ := Aside0.mk ((by rw [hg]; exact Nat.ne_of_gt (blk_lt (g := gb424) (o := .cells #[.slice none 0 0, .bool false] 38 (0, 0)) (zB BK424.out)) : gb425 ≠ gb424))
              clear HO_3
              clear HO_414000
              clear BK413
              clear BK424
              clear HB
              have HO_3 := n0_
              have HO_414000 := n1_
              have BK413 := n2_
              have BK424 := n3_
              have HB := n4_
              have BK425 := n5_
              have GW425 := n6_
              have GE425 := n7_
              have NB413_425 := n8_
              have NB425_413 := n9_
              have NB424_425 := n10_
              have NB425_424 := n11_
              clear n0_ n1_ n2_ n3_ n4_ n5_ n6_ n7_ n8_ n9_ n10_ n11_
              clear hb hbox hg
              refine hK.out _ _ ⟨(blk_cell BK413.out 0).trans rfl, (blk_cell BK413.out 1).trans rfl, ((HB.out.cell (World.block_lt_of_cell? w _ hw414_0)).trans hw414_0)⟩ (fun hHeld => ?_)
              clear hK K
              refine norm_ (a' := ?_) ?_ ?_
              rotate_left
              ·show Act.put _ (some 7) _ = _
               simp only [Act.put, sT, s0, s1, i64_w, i32_w]
               rfl
              exact norm_ (by first | (simp only [putAll, Act.put, sT, s0, s1]; done) | (simp only [putAll, Act.put, sT, s0, s1]; rfl)) (hJ10_11 (gb424, gb425) _ ⟨hHeld, (zN (Kd.N_mono HO_3.out (fun _ hk => ⟨hk.1.1, ⟨hk.1.2.1, ⟨hk.1.2.2.1, ⟨hk.1.2.2.2, hk.2⟩⟩⟩⟩))), (zR HO_414000.out), (zB BK413.out), (zB BK424.out), (zB BK425.out), GW424.out, GE424.out, NB413_424.out, NB424_413.out, NB425_424.out, NB424_425.out, GW425.out, GE425.out, NB413_425.out, NB425_413.out, (by repeat (first | (with_reducible first | exact HB.out | apply pA | apply pN | apply pD | refine pS ?_ GE413.out | refine pS ?_ GE424.out | refine pS ?_ GE425.out) | exact HB.out))⟩)
           ·skip
            rintro ⟨v416, v421⟩ w12 ⟨hS_, h0_, h1_, h2_, h3_, h4_, h5_⟩
            have n0_ : Aside0 (Kd.R (Kd.int .u8) 5 w12 w.heap.size (fun k_ => (w.heap.size ≤ k_) ∧ some k_ ≠ (.slice Ao9 x414000_1.length co9 : Value).ownBlock) v416 t415) := ⟨h0_⟩
            have n1_ : Aside0 (Kd.V (Kd.int .u8) 5 w12 w.heap.size (fun k_ => (w.heap.size ≤ k_) ∧ some k_ ≠ (v416 : Value).ownBlock ∧ some k_ ≠ (u3 : Value).ownBlock ∧ some k_ ≠ (.slice Ao9 x414000_1.length co9 : Value).ownBlock ∧ k_ ≠ gb413) v421 t420) := ⟨h1_⟩
            have n2_ : Aside0 (Kd.N k25 25 w12 w.heap.size (fun k_ => (w.heap.size ≤ k_) ∧ some k_ ≠ (v416 : Value).ownBlock ∧ some k_ ≠ (.slice Ao9 x414000_1.length co9 : Value).ownBlock ∧ k_ ≠ gb413) u3 x3_1) := ⟨h2_⟩
            have n3_ : Aside0 (Kd.R (Kd.int .u8) 5 w12 w.heap.size (fun k_ => (w.heap.size ≤ k_) ∧ some k_ ≠ (v416 : Value).ownBlock) (.slice Ao9 x414000_1.length co9) x414000_1) := ⟨h3_⟩
            have n4_ : Aside0 (w12.heap[gb413]? = some (.cells #[.slice Ao9 x414000_1.length co9, .bool x414001_1] 38 (0, 0))) := ⟨h4_⟩
            have n5_ : Aside0 (Below w.heap.size w w12) := ⟨h5_⟩
            clear HO_3
            clear HO_414000
            clear BK413
            clear HB
            clear h0_ h1_ h2_ h3_ h4_ h5_
            have HO417 := n0_
            have HO422 := n1_
            have HO_3 := n2_
            have HO_414000 := n3_
            have BK413 := n4_
            have HB := n5_
            clear n0_ n1_ n2_ n3_ n4_ n5_
            have hHeld : w12.cell? ⟨gb413, 0, none⟩ = some (.slice Ao9 x414000_1.length co9) ∧ w12.cell? ⟨gb413, 1, none⟩ = some (.bool x414001_1) ∧ w12.cell? (ad414.add (x5_1).toNat) = some (.int .u8 (rd l0 x5_1)) := hS_
            refine norm_ (a' := ?_) ?_ ?_
            rotate_left
            ·simp only [putAll, Act.put, sT, s0, s1]
             rfl
            refine two_ (i := 10) (j := 11) (Ni := some 6) (Nj := some 7) #[true, true, true, true, true, true, true, true, true, true, true, false, false, false, false] #[true, true, true, true, true, true, true, true, true, true, false, true, false, false, false] rfl rfl rfl rfl (two_of HT_.out (by kernel_rfl)) (by decide) (by decide) (fun K hK => ?_) (fun K hK => ?_)
            ·skip
             refine box_step ?hg (N := 6) ?hd (cs := #[.slice none 0 0, .bool false]) (t := 38) ?hr ?_; (case hd => rfl); (case hg => rfl); (case hr => first | (go_simp; done) | (go_simp; rfl))
             intro gb424 hg w13 hbox hb
             have n0_ := Aside0.mk (Kd.N_below (Kd.N_elderB (zN HO_3.out) gb424 (Nat.le_of_eq hg.symm)) hb)
             have n1_ := Aside0.mk (Kd.R_below (zR HO_414000.out) hb)
             have n2_ := Aside0.mk (Kd.R_below (zR HO417.out) hb)
             have n3_ := Aside0.mk (Kd.V_below (Kd.V_elderB (zV HO422.out) gb424 (Nat.le_of_eq hg.symm)) hb)
             have n4_ := Aside0.mk (blk_below (g := gb413) (o := .cells #[.slice Ao9 x414000_1.length co9, .bool x414001_1] 38 (0, 0)) (zB BK413.out) hb)
             have n5_ := Aside0.mk (below_step (by repeat (first | (with_reducible first | exact HB.out | apply pA | apply pN | apply pD | refine pS ?_ GE413.out) | exact HB.out)) hb)
             have n6_ := Aside0.mk (hbox)
             have n7_ := Aside0.mk ((by rw [hg]; exact (below_size (by repeat (first | (with_reducible first | exact HB.out | apply pA | apply pN | apply pD | refine pS ?_ GE413.out) | exact HB.out))) : w.heap.size ≤ gb424))
             have n8_ := Aside0.mk ((by rw [hg]; exact (below_size (by repeat (first | (with_reducible first | exact HB.out | apply pA | apply pN | apply pD | refine pS ?_ GE413.out) | exact HB.out))) : w.heap.size ≤ gb424))
             have n9_ := Aside0.mk ((by rw [hg]; exact Nat.ne_of_lt (blk_lt (g := gb413) (o := .cells #[.slice Ao9 x414000_1.length co9, .bool x414001_1] 38 (0, 0)) (zB BK413.out)) : gb413 ≠ gb424))
             have n10_ := Aside0.mk ((by rw [hg]; exact Nat.ne_of_gt (blk_lt (g := gb413) (o := .cells #[.slice Ao9 x414000_1.length co9, .bool x414001_1] 38 (0, 0)) (zB BK413.out)) : gb424 ≠ gb413))
             clear HO_3
             clear HO_414000
             clear HO417
             clear HO422
             clear BK413
             clear HB
             have HO_3 := n0_
             have HO_414000 := n1_
             have HO417 := n2_
             have HO422 := n3_
             have BK413 := n4_
             have HB := n5_
             have BK424 := n6_
             have GW424 := n7_
             have GE424 := n8_
             have NB413_424 := n9_
             have NB424_413 := n10_
             clear n0_ n1_ n2_ n3_ n4_ n5_ n6_ n7_ n8_ n9_ n10_
             clear hb hbox hg
             refine hK.out _ _ ⟨(blk_cell BK413.out 0).trans rfl, (blk_cell BK413.out 1).trans rfl, ((HB.out.cell (World.block_lt_of_cell? w _ hw414_0)).trans hw414_0)⟩ (fun hHeld => ?_)
             clear hK K
             refine norm_ (a' := ?_) ?_ ?_
             rotate_left
             ·show Act.put _ (some 6) _ = _
              simp only [Act.put, sT, s0, s1, i64_w, i32_w]
              rfl
             exact norm_ (by first | (simp only [putAll, Act.put, sT, s0, s1]; done) | (simp only [putAll, Act.put, sT, s0, s1]; rfl)) (hJ5_10 (v416, v421, gb424) _ ⟨hHeld, (zR HO417.out), (zV (Kd.V_mono HO422.out (fun _ hk => ⟨hk.1.1, ⟨hk.1.2.1, ⟨hk.1.2.2.1, ⟨hk.1.2.2.2.1, ⟨hk.1.2.2.2.2, hk.2⟩⟩⟩⟩⟩))), (zN (Kd.N_mono HO_3.out (fun _ hk => ⟨hk.1.1, ⟨hk.1.2.1, ⟨hk.1.2.2.1, ⟨hk.1.2.2.2, hk.2⟩⟩⟩⟩))), (zR HO_414000.out), (zB BK413.out), (zB BK424.out), GW424.out, GE424.out, NB413_424.out, NB424_413.out, (by repeat (first | (with_reducible first | exact HB.out | apply pA | apply pN | apply pD | refine pS ?_ GE413.out | refine pS ?_ GE424.out) | exact HB.out))⟩)
            ·skip
             refine box_step ?hg (N := 7) ?hd (cs := #[.int .u16 0, .slice none 0 0]) (t := 25) ?hr ?_; (case hd => rfl); (case hg => rfl); (case hr => first | (go_simp; done) | (go_simp; rfl))
             intro gb425 hg w13 hbox hb
             have n0_ := Aside0.mk (Kd.N_below (Kd.N_elderB (zN HO_3.out) gb425 (Nat.le_of_eq hg.symm)) hb)
             have n1_ := Aside0.mk (Kd.R_below (zR HO_414000.out) hb)
             have n2_ := Aside0.mk (Kd.R_below (zR HO417.out) hb)
             have n3_ := Aside0.mk (Kd.V_below (Kd.V_elderB (zV HO422.out) gb425 (Nat.le_of_eq hg.symm)) hb)
             have n4_ := Aside0.mk (blk_below (g := gb413) (o := .cells #[.slice Ao9 x414000_1.length co9, .bool x414001_1] 38 (0, 0)) (zB BK413.out) hb)
             have n5_ := Aside0.mk (below_step (by repeat (first | (with_reducible first | exact HB.out | apply pA | apply pN | apply pD | refine pS ?_ GE413.out) | exact HB.out)) hb)
             have n6_ := Aside0.mk (hbox)
             have n7_ := Aside0.mk ((by rw [hg]; exact (below_size (by repeat (first | (with_reducible first | exact HB.out | apply pA | apply pN | apply pD | refine pS ?_ GE413.out) | exact HB.out))) : w.heap.size ≤ gb425))
             have n8_ := Aside0.mk ((by rw [hg]; exact (below_size (by repeat (first | (with_reducible first | exact HB.out | apply pA | apply pN | apply pD | refine pS ?_ GE413.out) | exact HB.out))) : w.heap.size ≤ gb425))
             have n9_ := Aside0.mk ((by rw [hg]; exact Nat.ne_of_lt (blk_lt (g := gb413) (o := .cells #[.slice Ao9 x414000_1.length co9, .bool x414001_1] 38 (0, 0)) (zB BK413.out)) : gb413 ≠ gb425))
             have n10_ := Aside0.mk ((by rw [hg]; exact Nat.ne_of_gt (blk_lt (g := gb413) (o := .cells #[.slice Ao9 x414000_1.length co9, .bool x414001_1] 38 (0, 0)) (zB BK413.out)) : gb425 ≠ gb413))
             clear HO_3
             clear HO_414000
             clear HO417
             clear HO422
             clear BK413
             clear HB
             have HO_3 := n0_
             have HO_414000 := n1_
             have HO417 := n2_
             have HO422 := n3_
             have BK413 := n4_
             have HB := n5_
             have BK425 := n6_
             have GW425 := n7_
             have GE425 := n8_
             have NB413_425 := n9_
             have NB425_413 := n10_
             clear n0_ n1_ n2_ n3_ n4_ n5_ n6_ n7_ n8_ n9_ n10_
             clear hb hbox hg
             refine hK.out _ _ ⟨(blk_cell BK413.out 0).trans rfl, (blk_cell BK413.out 1).trans rfl, ((HB.out.cell (World.block_lt_of_cell? w _ hw414_0)).trans hw414_0)⟩ (fun hHeld => ?_)
             clear hK K
             refine norm_ (a' := ?_) ?_ ?_
             rotate_left
             ·show Act.put _ (some 7) _ = _
              simp only [Act.put, sT, s0, s1, i64_w, i32_w]
              rfl
             exact norm_ (by first | (simp only [putAll, Act.put, sT, s0, s1]; done) | (simp only [putAll, Act.put, sT, s0, s1]; rfl)) (hJ5_11 (v416, v421, gb425) _ ⟨hHeld, (zR HO417.out), (zV (Kd.V_mono HO422.out (fun _ hk => ⟨hk.1.1, ⟨hk.1.2.1, ⟨hk.1.2.2.1, ⟨hk.1.2.2.2.1, ⟨hk.1.2.2.2.2, hk.2⟩⟩⟩⟩⟩))), (zN (Kd.N_mono HO_3.out (fun _ hk => ⟨hk.1.1, ⟨hk.1.2.1, ⟨hk.1.2.2.1, ⟨hk.1.2.2.2, hk.2⟩⟩⟩⟩))), (zR HO_414000.out), (zB BK413.out), (zB BK425.out), GW425.out, GE425.out, NB413_425.out, NB425_413.out, (by repeat (first | (with_reducible first | exact HB.out | apply pA | apply pN | apply pD | refine pS ?_ GE413.out | refine pS ?_ GE425.out) | exact HB.out))⟩)
          ·skip
           rintro ⟨gb424, gb425⟩ w13 ⟨hS_, h0_, h1_, h2_, h3_, h4_, h5_, h6_, h7_, h8_, h9_, h10_, h11_, h12_, h13_, h14_, h15_⟩
           have n0_ : Aside0 (Kd.N k25 25 w13 w.heap.size (fun k_ => (w.heap.size ≤ k_) ∧ some k_ ≠ (.slice Ao9 x414000_1.length co9 : Value).ownBlock ∧ k_ ≠ gb413 ∧ k_ ≠ gb424 ∧ k_ ≠ gb425) u3 x3_1) := ⟨h0_⟩
           have n1_ : Aside0 (Kd.R (Kd.int .u8) 5 w13 w.heap.size (fun k_ => (w.heap.size ≤ k_)) (.slice Ao9 x414000_1.length co9) x414000_1) := ⟨h1_⟩
           have n2_ : Aside0 (w13.heap[gb413]? = some (.cells #[.slice Ao9 x414000_1.length co9, .bool x414001_1] 38 (0, 0))) := ⟨h2_⟩
           have n3_ : Aside0 (w13.heap[gb424]? = some (.cells #[.slice none 0 0, .bool false] 38 (0, 0))) := ⟨h3_⟩
           have n4_ : Aside0 (w13.heap[gb425]? = some (.cells #[.int .u16 0, .slice none 0 0] 25 (0, 0))) := ⟨h4_⟩
           have n5_ : Aside0 (w.heap.size ≤ gb424) := ⟨h5_⟩
           have n6_ : Aside0 (w.heap.size ≤ gb424) := ⟨h6_⟩
           have n7_ : Aside0 (gb413 ≠ gb424) := ⟨h7_⟩
           have n8_ : Aside0 (gb424 ≠ gb413) := ⟨h8_⟩
           have n9_ : Aside0 (gb425 ≠ gb424) := ⟨h9_⟩
           have n10_ : Aside0 (gb424 ≠ gb425) := ⟨h10_⟩
           have n11_ : Aside0 (w.heap.size ≤ gb425) := ⟨h11_⟩
           have n12_ : Aside0 (w.heap.size ≤ gb425) := ⟨h12_⟩
           have n13_ : Aside0 (gb413 ≠ gb425) := ⟨h13_⟩
           have n14_ : Aside0 (gb425 ≠ gb413) := ⟨h14_⟩
           have n15_ : Aside0 (Below w.heap.size w w13) := ⟨h15_⟩
           clear HO_3
           clear HO_414000
           clear BK413
           clear HB
           clear h0_ h1_ h2_ h3_ h4_ h5_ h6_ h7_ h8_ h9_ h10_ h11_ h12_ h13_ h14_ h15_
           have HO_3 := n0_
           have HO_414000 := n1_
           have BK413 := n2_
           have BK424 := n3_
           have BK425 := n4_
           have GW424 := n5_
           have GE424 := n6_
           have NB413_424 := n7_
           have NB424_413 := n8_
           have NB425_424 := n9_
           have NB424_425 := n10_
           have GW425 := n11_
           have GE425 := n12_
           have NB413_425 := n13_
           have NB425_413 := n14_
           have HB := n15_
           clear n0_ n1_ n2_ n3_ n4_ n5_ n6_ n7_ n8_ n9_ n10_ n11_ n12_ n13_ n14_ n15_
           have hHeld : w13.cell? ⟨gb413, 0, none⟩ = some (.slice Ao9 x414000_1.length co9) ∧ w13.cell? ⟨gb413, 1, none⟩ = some (.bool x414001_1) ∧ w13.cell? (ad414.add (x5_1).toNat) = some (.int .u8 (rd l0 x5_1)) := hS_
           refine norm_ (a' := ?_) ?_ ?_
           rotate_left
           ·simp only [putAll, Act.put, sT, s0, s1]
            rfl
           refine one_ (i := 5) (N := some 22) #[true, true, true, true, true, true, false, false, false, false, true, true, false, false, false] rfl rfl (one_of HT_.out (by kernel_rfl)) (by decide) (fun K hK => ?_)
           refine goes_ Try.func15 (by kernel_rfl) rfl #[.agg #[.slice Ao9 x414000_1.length co9, .bool x414001_1], .int .u8 (rd l0 x5_1)] (by rfl) rfl rfl (by (try simp only [List.map_toArray, List.map_cons, List.map_nil]); first | done | rfl | (simp only [List.length_drop, List.length_take]; rfl)) ?_
           with_reducible refine (frame_Take.calls k1 _ _ x414000_1 x414001_1 (rd l0 x5_1) t415 t418 t419 t420 true _ ?side1 ?side2 A6.out).mono ?_
           (case side1 => repeat (first | exact (Kd.R_reads' HO_414000.out).2.2 | (with_reducible refine Kd.C_alloc ?_ _) | (with_reducible refine Kd.C_drewN ?_ _) | (with_reducible refine Kd.C_drew ?_)))
           (case side2 => exact (Kd.R_reads' HO_414000.out).2.1)
           rintro e w14 ⟨v416, v421, rfl, ho0, ho1, hb⟩
           refine ⟨_, rfl, ?_⟩
           have n0_ := Aside0.mk (Kd.N_elder' (zN HO_3.out) (Kd.R_base ho0) hb)
           have n1_ := Aside0.mk (Kd.R_elder' (zR HO_414000.out) (Kd.R_base ho0) hb)
           have n2_ := Aside0.mk (Kd.R_lower (Kd.R_new' (Kd.R_newM (M := fun k_ => (w.heap.size ≤ k_)) (Kd.R_mono (ok' := fun k_ => True) ho0 (fun _ hk_ => trivial)) (below_size (by repeat (first | (with_reducible first | exact HB.out | apply pA | apply pN | apply pD | refine pS ?_ GE413.out | refine pS ?_ GE424.out | refine pS ?_ GE425.out) | exact HB.out))) (fun k_ h_ => h_)) (Kd.R_lt (zR HO_414000.out))) (below_size (by repeat (first | (with_reducible first | exact HB.out | apply pA | apply pN | apply pD | refine pS ?_ GE413.out | refine pS ?_ GE424.out | refine pS ?_ GE425.out) | exact HB.out))))
           have n3_ := Aside0.mk (Kd.V_lower (Kd.V_mono (ok' := fun k_ => (w.heap.size ≤ k_) ∧ some k_ ≠ (v416 : Value).ownBlock ∧ some k_ ≠ (u3 : Value).ownBlock ∧ some k_ ≠ (.slice Ao9 x414000_1.length co9 : Value).ownBlock ∧ k_ ≠ gb413 ∧ k_ ≠ gb424 ∧ k_ ≠ gb425) ho1 (fun k_ hk_ => ⟨(Nat.le_trans (below_size (by repeat (first | (with_reducible first | exact HB.out | apply pA | apply pN | apply pD | refine pS ?_ GE413.out | refine pS ?_ GE424.out | refine pS ?_ GE425.out) | exact HB.out))) hk_.1), hk_.2, (Kd.fresh' (Kd.N_lt (zN HO_3.out)) k_ hk_.1), (Kd.fresh' (Kd.R_lt (zR HO_414000.out)) k_ hk_.1), (Kd.freshB (g := gb413) (o := .cells #[.slice Ao9 x414000_1.length co9, .bool x414001_1] 38 (0, 0)) (zB BK413.out) k_ hk_.1), (Kd.freshB (g := gb424) (o := .cells #[.slice none 0 0, .bool false] 38 (0, 0)) (zB BK424.out) k_ hk_.1), (Kd.freshB (g := gb425) (o := .cells #[.int .u16 0, .slice none 0 0] 25 (0, 0)) (zB BK425.out) k_ hk_.1)⟩)) (below_size (by repeat (first | (with_reducible first | exact HB.out | apply pA | apply pN | apply pD | refine pS ?_ GE413.out | refine pS ?_ GE424.out | refine pS ?_ GE425.out) | exact HB.out))))
           have n4_ := Aside0.mk (blk_below (g := gb413) (o := .cells #[.slice Ao9 x414000_1.length co9, .bool x414001_1] 38 (0, 0)) (zB BK413.out) hb)
           have n5_ := Aside0.mk (blk_below (g := gb424) (o := .cells #[.slice none 0 0, .bool false] 38 (0, 0)) (zB BK424.out) hb)
           have n6_ := Aside0.mk (blk_below (g := gb425) (o := .cells #[.int .u16 0, .slice none 0 0] 25 (0, 0)) (zB BK425.out) hb)
           have n7_ := Aside0.mk (below_step (by repeat (first | (with_reducible first | exact HB.out | apply pA | apply pN | apply pD | refine pS ?_ GE413.out | refine pS ?_ GE424.out | refine pS ?_ GE425.out) | exact HB.out)) hb)
           clear HO_3
           clear HO_414000
           clear BK413
           clear BK424
           clear BK425
           clear HB
           have HO_3 := n0_
           have HO_414000 := n1_
           have HO417 := n2_
           have HO422 := n3_
           have BK413 := n4_
           have BK424 := n5_
           have BK425 := n6_
           have HB := n7_
           clear n0_ n1_ n2_ n3_ n4_ n5_ n6_ n7_
           (try clear hb)
           (try clear hb2)
           (try clear hk)
           (try clear hi)
           (try clear ho0)
           (try clear ho1)
           refine hK.out _ _ ⟨(blk_cell BK413.out 0).trans rfl, (blk_cell BK413.out 1).trans rfl, ((HB.out.cell (World.block_lt_of_cell? w _ hw414_0)).trans hw414_0)⟩ (fun hHeld => ?_)
           clear hK K
           refine norm_ (a' := ?_) ?_ ?_
           rotate_left
           ·show Act.put _ (some 22) _ = _
            simp only [Act.put, sT, s0, s1, i64_w, i32_w]
            rfl
           refine pure_ (i := 6) (N := some 16) (v := ?_) (a' := ?_) #[true, true, true, true, true, true, true, false, false, false, true, true, false, false, false] rfl rfl (any_of HT_.out (by kernel_rfl)) (fun _ _ _ h => h) (Or.inl ⟨by rfl, ?_⟩) ?_ ?_
           rotate_left
           ·intro w'
            go_simp
            with_reducible rfl
           rotate_left
           ·simp only [Act.put, sT, s0, s1, i64_w, i32_w]
            rfl
           refine pure_ (i := 7) (N := some 23) (v := ?_) (a' := ?_) #[true, true, true, true, true, true, true, true, false, false, true, true, false, false, false] rfl rfl (any_of HT_.out (by kernel_rfl)) (fun _ _ _ h => h) (Or.inl ⟨by rfl, ?_⟩) ?_ ?_
           rotate_left
           ·intro w'
            go_simp
            with_reducible rfl
           rotate_left
           ·simp only [Act.put, sT, s0, s1, i64_w, i32_w]
            rfl
           refine pure_ (i := 8) (N := some 24) (v := ?_) (a' := ?_) #[true, true, true, true, true, true, true, true, true, false, true, true, false, false, false] rfl rfl (any_of HT_.out (by kernel_rfl)) (fun _ _ _ h => h) (Or.inl ⟨by rfl, ?_⟩) ?_ ?_
           rotate_left
           ·intro w'
            go_simp
            with_reducible rfl
           rotate_left
           ·simp only [Act.put, sT, s0, s1, i64_w, i32_w]
            rfl
           refine pure_ (i := 9) (N := some 25) (v := ?_) (a' := ?_) #[true, true, true, true, true, true, true, true, true, true, true, true, false, false, false] rfl rfl (any_of HT_.out (by kernel_rfl)) (fun _ _ _ h => h) (Or.inl ⟨by rfl, ?_⟩) ?_ ?_
           rotate_left
           ·intro w'
            go_simp
            with_reducible rfl
           rotate_left
           ·simp only [Act.put, sT, s0, s1, i64_w, i32_w]
            rfl
           exact norm_ (by first | (simp only [putAll, Act.put, sT, s0, s1]; done) | (simp only [putAll, Act.put, sT, s0, s1]; rfl)) (hJ5_10_11 (v416, v421, gb424, gb425) _ ⟨hHeld, (zR (Kd.R_mono HO417.out (fun _ hk => ⟨hk.1.1, hk.2⟩))), (zV HO422.out), (zN (Kd.N_mono HO_3.out (fun _ hk => ⟨hk.1.1, ⟨hk.2, ⟨hk.1.2.1, ⟨hk.1.2.2.1, ⟨hk.1.2.2.2.1, hk.1.2.2.2.2⟩⟩⟩⟩⟩))), (zR HO_414000.out), (zB BK413.out), (zB BK424.out), (zB BK425.out), GW424.out, GE424.out, NB413_424.out, NB424_413.out, NB425_424.out, NB424_425.out, GW425.out, GE425.out, NB413_425.out, NB425_413.out, (by repeat (first | (with_reducible first | exact HB.out | apply pA | apply pN | apply pD | refine pS ?_ GE413.out | refine pS ?_ GE424.out | refine pS ?_ GE425.out) | exact HB.out))⟩)
         ·skip
          rintro ⟨v416, v421, gb425⟩ w13 ⟨hS_, h0_, h1_, h2_, h3_, h4_, h5_, h6_, h7_, h8_, h9_, h10_⟩
          have n0_ : Aside0 (Kd.R (Kd.int .u8) 5 w13 w.heap.size (fun k_ => (w.heap.size ≤ k_) ∧ some k_ ≠ (.slice Ao9 x414000_1.length co9 : Value).ownBlock) v416 t415) := ⟨h0_⟩
          have n1_ : Aside0 (Kd.V (Kd.int .u8) 5 w13 w.heap.size (fun k_ => (w.heap.size ≤ k_) ∧ some k_ ≠ (v416 : Value).ownBlock ∧ some k_ ≠ (u3 : Value).ownBlock ∧ some k_ ≠ (.slice Ao9 x414000_1.length co9 : Value).ownBlock ∧ k_ ≠ gb413 ∧ k_ ≠ gb425) v421 t420) := ⟨h1_⟩
          have n2_ : Aside0 (Kd.N k25 25 w13 w.heap.size (fun k_ => (w.heap.size ≤ k_) ∧ some k_ ≠ (v416 : Value).ownBlock ∧ some k_ ≠ (.slice Ao9 x414000_1.length co9 : Value).ownBlock ∧ k_ ≠ gb413 ∧ k_ ≠ gb425) u3 x3_1) := ⟨h2_⟩
          have n3_ : Aside0 (Kd.R (Kd.int .u8) 5 w13 w.heap.size (fun k_ => (w.heap.size ≤ k_) ∧ some k_ ≠ (v416 : Value).ownBlock) (.slice Ao9 x414000_1.length co9) x414000_1) := ⟨h3_⟩
          have n4_ : Aside0 (w13.heap[gb413]? = some (.cells #[.slice Ao9 x414000_1.length co9, .bool x414001_1] 38 (0, 0))) := ⟨h4_⟩
          have n5_ : Aside0 (w13.heap[gb425]? = some (.cells #[.int .u16 0, .slice none 0 0] 25 (0, 0))) := ⟨h5_⟩
          have n6_ : Aside0 (w.heap.size ≤ gb425) := ⟨h6_⟩
          have n7_ : Aside0 (w.heap.size ≤ gb425) := ⟨h7_⟩
          have n8_ : Aside0 (gb413 ≠ gb425) := ⟨h8_⟩
          have n9_ : Aside0 (gb425 ≠ gb413) := ⟨h9_⟩
          have n10_ : Aside0 (Below w.heap.size w w13) := ⟨h10_⟩
          clear HO_3
          clear HO_414000
          clear BK413
          clear HB
          clear h0_ h1_ h2_ h3_ h4_ h5_ h6_ h7_ h8_ h9_ h10_
          have HO417 := n0_
          have HO422 := n1_
          have HO_3 := n2_
          have HO_414000 := n3_
          have BK413 := n4_
          have BK425 := n5_
          have GW425 := n6_
          have GE425 := n7_
          have NB413_425 := n8_
          have NB425_413 := n9_
          have HB := n10_
          clear n0_ n1_ n2_ n3_ n4_ n5_ n6_ n7_ n8_ n9_ n10_
          have hHeld : w13.cell? ⟨gb413, 0, none⟩ = some (.slice Ao9 x414000_1.length co9) ∧ w13.cell? ⟨gb413, 1, none⟩ = some (.bool x414001_1) ∧ w13.cell? (ad414.add (x5_1).toNat) = some (.int .u8 (rd l0 x5_1)) := hS_
          refine norm_ (a' := ?_) ?_ ?_
          rotate_left
          ·simp only [putAll, Act.put, sT, s0, s1]
           rfl
          refine one_ (i := 10) (N := some 6) #[true, true, true, true, true, true, true, true, true, true, true, true, false, false, false] rfl rfl (one_of HT_.out (by kernel_rfl)) (by decide) (fun K hK => ?_)
          refine box_step ?hg (N := 6) ?hd (cs := #[.slice none 0 0, .bool false]) (t := 38) ?hr ?_; (case hd => rfl); (case hg => rfl); (case hr => first | (go_simp; done) | (go_simp; rfl))
          intro gb424 hg w14 hbox hb
          have n0_ := Aside0.mk (Kd.N_below (Kd.N_elderB (zN HO_3.out) gb424 (Nat.le_of_eq hg.symm)) hb)
          have n1_ := Aside0.mk (Kd.R_below (zR HO_414000.out) hb)
          have n2_ := Aside0.mk (Kd.R_below (zR HO417.out) hb)
          have n3_ := Aside0.mk (Kd.V_below (Kd.V_elderB (zV HO422.out) gb424 (Nat.le_of_eq hg.symm)) hb)
          have n4_ := Aside0.mk (blk_below (g := gb413) (o := .cells #[.slice Ao9 x414000_1.length co9, .bool x414001_1] 38 (0, 0)) (zB BK413.out) hb)
          have n5_ := Aside0.mk (blk_below (g := gb425) (o := .cells #[.int .u16 0, .slice none 0 0] 25 (0, 0)) (zB BK425.out) hb)
          have n6_ := Aside0.mk (below_step (by repeat (first | (with_reducible first | exact HB.out | apply pA | apply pN | apply pD | refine pS ?_ GE413.out | refine pS ?_ GE425.out) | exact HB.out)) hb)
          have n7_ := Aside0.mk (hbox)
          have n8_ := Aside0.mk ((by rw [hg]; exact (below_size (by repeat (first | (with_reducible first | exact HB.out | apply pA | apply pN | apply pD | refine pS ?_ GE413.out | refine pS ?_ GE425.out) | exact HB.out))) : w.heap.size ≤ gb424))
          have n9_ := Aside0.mk ((by rw [hg]; exact (below_size (by repeat (first | (with_reducible first | exact HB.out | apply pA | apply pN | apply pD | refine pS ?_ GE413.out | refine pS ?_ GE425.out) | exact HB.out))) : w.heap.size ≤ gb424))
          have n10_ := Aside0.mk ((by rw [hg]; exact Nat.ne_of_lt (blk_lt (g := gb413) (o := .cells #[.slice Ao9 x414000_1.length co9, .bool x414001_1] 38 (0, 0)) (zB BK413.out)) : gb413 ≠ gb424))
          have n11_ := Aside0.mk ((by rw [hg]; exact Nat.ne_of_gt (blk_lt (g := gb413) (o := .cells #[.slice Ao9 x414000_1.length co9, .bool x414001_1] 38 (0, 0)) (zB BK413.out)) : gb424 ≠ gb413))
          have n12_ := Aside0.mk ((by rw [hg]; exact Nat.ne_of_lt (blk_lt (g := gb425) (o := .cells #[.int .u16 0, .slice none 0 0] 25 (0, 0)) (zB BK425.out)) : gb425 ≠ gb424))
          have n13_ := Aside0.mk ((by rw [hg]; exact Nat.ne_of_gt (blk_lt (g := gb425) (o := .cells #[.int .u16 0, .slice none 0 0] 25 (0, 0)) (zB BK425.out)) : gb424 ≠ gb425))
          clear HO_3
          clear HO_414000
          clear HO417
          clear HO422
          clear BK413
          clear BK425
          clear HB
          have HO_3 := n0_
          have HO_414000 := n1_
          have HO417 := n2_
          have HO422 := n3_
          have BK413 := n4_
          have BK425 := n5_
          have HB := n6_
          have BK424 := n7_
          have GW424 := n8_
          have GE424 := n9_
          have NB413_424 := n10_
          have NB424_413 := n11_
          have NB425_424 := n12_
          have NB424_425 := n13_
          clear n0_ n1_ n2_ n3_ n4_ n5_ n6_ n7_ n8_ n9_ n10_ n11_ n12_ n13_
          clear hb hbox hg
          refine hK.out _ _ ⟨(blk_cell BK413.out 0).trans rfl, (blk_cell BK413.out 1).trans rfl, ((HB.out.cell (World.block_lt_of_cell? w _ hw414_0)).trans hw414_0)⟩ (fun hHeld => ?_)
          clear hK K
          refine norm_ (a' := ?_) ?_ ?_
          rotate_left
          ·show Act.put _ (some 6) _ = _
           simp only [Act.put, sT, s0, s1, i64_w, i32_w]
           rfl
          exact norm_ (by first | (simp only [putAll, Act.put, sT, s0, s1]; done) | (simp only [putAll, Act.put, sT, s0, s1]; rfl)) (hJ5_10_11 (v416, v421, gb424, gb425) _ ⟨hHeld, (zR HO417.out), (zV (Kd.V_mono HO422.out (fun _ hk => ⟨hk.1.1, ⟨hk.1.2.1, ⟨hk.1.2.2.1, ⟨hk.1.2.2.2.1, ⟨hk.1.2.2.2.2.1, ⟨hk.2, hk.1.2.2.2.2.2⟩⟩⟩⟩⟩⟩))), (zN (Kd.N_mono HO_3.out (fun _ hk => ⟨hk.1.1, ⟨hk.1.2.1, ⟨hk.1.2.2.1, ⟨hk.1.2.2.2.1, ⟨hk.2, hk.1.2.2.2.2⟩⟩⟩⟩⟩))), (zR HO_414000.out), (zB BK413.out), (zB BK424.out), (zB BK425.out), GW424.out, GE424.out, NB413_424.out, NB424_413.out, NB425_424.out, NB424_425.out, GW425.out, GE425.out, NB413_425.out, NB425_413.out, (by repeat (first | (with_reducible first | exact HB.out | apply pA | apply pN | apply pD | refine pS ?_ GE413.out | refine pS ?_ GE425.out | refine pS ?_ GE424.out) | exact HB.out))⟩)
        ·skip
         rintro ⟨v416, v421, gb424⟩ w13 ⟨hS_, h0_, h1_, h2_, h3_, h4_, h5_, h6_, h7_, h8_, h9_, h10_⟩
         have n0_ : Aside0 (Kd.R (Kd.int .u8) 5 w13 w.heap.size (fun k_ => (w.heap.size ≤ k_) ∧ some k_ ≠ (.slice Ao9 x414000_1.length co9 : Value).ownBlock) v416 t415) := ⟨h0_⟩
         have n1_ : Aside0 (Kd.V (Kd.int .u8) 5 w13 w.heap.size (fun k_ => (w.heap.size ≤ k_) ∧ some k_ ≠ (v416 : Value).ownBlock ∧ some k_ ≠ (u3 : Value).ownBlock ∧ some k_ ≠ (.slice Ao9 x414000_1.length co9 : Value).ownBlock ∧ k_ ≠ gb413 ∧ k_ ≠ gb424) v421 t420) := ⟨h1_⟩
         have n2_ : Aside0 (Kd.N k25 25 w13 w.heap.size (fun k_ => (w.heap.size ≤ k_) ∧ some k_ ≠ (v416 : Value).ownBlock ∧ some k_ ≠ (.slice Ao9 x414000_1.length co9 : Value).ownBlock ∧ k_ ≠ gb413 ∧ k_ ≠ gb424) u3 x3_1) := ⟨h2_⟩
         have n3_ : Aside0 (Kd.R (Kd.int .u8) 5 w13 w.heap.size (fun k_ => (w.heap.size ≤ k_) ∧ some k_ ≠ (v416 : Value).ownBlock) (.slice Ao9 x414000_1.length co9) x414000_1) := ⟨h3_⟩
         have n4_ : Aside0 (w13.heap[gb413]? = some (.cells #[.slice Ao9 x414000_1.length co9, .bool x414001_1] 38 (0, 0))) := ⟨h4_⟩
         have n5_ : Aside0 (w13.heap[gb424]? = some (.cells #[.slice none 0 0, .bool false] 38 (0, 0))) := ⟨h5_⟩
         have n6_ : Aside0 (w.heap.size ≤ gb424) := ⟨h6_⟩
         have n7_ : Aside0 (w.heap.size ≤ gb424) := ⟨h7_⟩
         have n8_ : Aside0 (gb413 ≠ gb424) := ⟨h8_⟩
         have n9_ : Aside0 (gb424 ≠ gb413) := ⟨h9_⟩
         have n10_ : Aside0 (Below w.heap.size w w13) := ⟨h10_⟩
         clear HO_3
         clear HO_414000
         clear BK413
         clear HB
         clear h0_ h1_ h2_ h3_ h4_ h5_ h6_ h7_ h8_ h9_ h10_
         have HO417 := n0_
         have HO422 := n1_
         have HO_3 := n2_
         have HO_414000 := n3_
         have BK413 := n4_
         have BK424 := n5_
         have GW424 := n6_
         have GE424 := n7_
         have NB413_424 := n8_
         have NB424_413 := n9_
         have HB := n10_
         clear n0_ n1_ n2_ n3_ n4_ n5_ n6_ n7_ n8_ n9_ n10_
         have hHeld : w13.cell? ⟨gb413, 0, none⟩ = some (.slice Ao9 x414000_1.length co9) ∧ w13.cell? ⟨gb413, 1, none⟩ = some (.bool x414001_1) ∧ w13.cell? (ad414.add (x5_1).toNat) = some (.int .u8 (rd l0 x5_1)) := hS_
         refine norm_ (a' := ?_) ?_ ?_
         rotate_left
         ·simp only [putAll, Act.put, sT, s0, s1]
          rfl
         refine one_ (i := 11) (N := some 7) #[true, true, true, true, true, true, true, true, true, true, true, true, false, false, false] rfl rfl (one_of HT_.out (by kernel_rfl)) (by decide) (fun K hK => ?_)
         refine box_step ?hg (N := 7) ?hd (cs := #[.int .u16 0, .slice none 0 0]) (t := 25) ?hr ?_; (case hd => rfl); (case hg => rfl); (case hr => first | (go_simp; done) | (go_simp; rfl))
         intro gb425 hg w14 hbox hb
         have n0_ := Aside0.mk (Kd.N_below (Kd.N_elderB (zN HO_3.out) gb425 (Nat.le_of_eq hg.symm)) hb)
         have n1_ := Aside0.mk (Kd.R_below (zR HO_414000.out) hb)
         have n2_ := Aside0.mk (Kd.R_below (zR HO417.out) hb)
         have n3_ := Aside0.mk (Kd.V_below (Kd.V_elderB (zV HO422.out) gb425 (Nat.le_of_eq hg.symm)) hb)
         have n4_ := Aside0.mk (blk_below (g := gb413) (o := .cells #[.slice Ao9 x414000_1.length co9, .bool x414001_1] 38 (0, 0)) (zB BK413.out) hb)
         have n5_ := Aside0.mk (blk_below (g := gb424) (o := .cells #[.slice none 0 0, .bool false] 38 (0, 0)) (zB BK424.out) hb)
         have n6_ := Aside0.mk (below_step (by repeat (first | (with_reducible first | exact HB.out | apply pA | apply pN | apply pD | refine pS ?_ GE413.out | refine pS ?_ GE424.out) | exact HB.out)) hb)
         have n7_ := Aside0.mk (hbox)
         have n8_ := Aside0.mk ((by rw [hg]; exact (below_size (by repeat (first | (with_reducible first | exact HB.out | apply pA | apply pN | apply pD | refine pS ?_ GE413.out | refine pS ?_ GE424.out) | exact HB.out))) : w.heap.size ≤ gb425))
         have n9_ := Aside0.mk ((by rw [hg]; exact (below_size (by repeat (first | (with_reducible first | exact HB.out | apply pA | apply pN | apply pD | refine pS ?_ GE413.out | refine pS ?_ GE424.out) | exact HB.out))) : w.heap.size ≤ gb425))
         have n10_ := Aside0.mk ((by rw [hg]; exact Nat.ne_of_lt (blk_lt (g := gb413) (o := .cells #[.slice Ao9 x414000_1.length co9, .bool x414001_1] 38 (0, 0)) (zB BK413.out)) : gb413 ≠ gb425))
         have n11_ := Aside0.mk ((by rw [hg]; exact Nat.ne_of_gt (blk_lt (g := gb413) (o := .cells #[.slice Ao9 x414000_1.length co9, .bool x414001_1] 38 (0, 0)) (zB BK413.out)) : gb425 ≠ gb413))
         have n12_ := Aside0.mk ((by rw [hg]; exact Nat.ne_of_lt (blk_lt (g := gb424) (o := .cells #[.slice none 0 0, .bool false] 38 (0, 0)) (zB BK424.out)) : gb424 ≠ gb425))
         have n13_ := Aside0.mk ((by rw [hg]; exact Nat.ne_of_gt (blk_lt (g := gb424) (o := .cells #[.slice none 0 0, .bool false] 38 (0, 0)) (zB BK424.out)) : gb425 ≠ gb424))
         clear HO_3
         clear HO_414000
         clear HO417
         clear HO422
         clear BK413
         clear BK424
         clear HB
         have HO_3 := n0_
         have HO_414000 := n1_
         have HO417 := n2_
         have HO422 := n3_
         have BK413 := n4_
         have BK424 := n5_
         have HB := n6_
         have BK425 := n7_
         have GW425 := n8_
         have GE425 := n9_
         have NB413_425 := n10_
         have NB425_413 := n11_
         have NB424_425 := n12_
         have NB425_424 := n13_
         clear n0_ n1_ n2_ n3_ n4_ n5_ n6_ n7_ n8_ n9_ n10_ n11_ n12_ n13_
         clear hb hbox hg
         refine hK.out _ _ ⟨(blk_cell BK413.out 0).trans rfl, (blk_cell BK413.out 1).trans rfl, ((HB.out.cell (World.block_lt_of_cell? w _ hw414_0)).trans hw414_0)⟩ (fun hHeld => ?_)
         clear hK K
         refine norm_ (a' := ?_) ?_ ?_
         rotate_left
         ·show Act.put _ (some 7) _ = _
          simp only [Act.put, sT, s0, s1, i64_w, i32_w]
          rfl
         exact norm_ (by first | (simp only [putAll, Act.put, sT, s0, s1]; done) | (simp only [putAll, Act.put, sT, s0, s1]; rfl)) (hJ5_10_11 (v416, v421, gb424, gb425) _ ⟨hHeld, (zR HO417.out), (zV (Kd.V_mono HO422.out (fun _ hk => ⟨hk.1.1, ⟨hk.1.2.1, ⟨hk.1.2.2.1, ⟨hk.1.2.2.2.1, ⟨hk.1.2.2.2.2.1, ⟨hk.1.2.2.2.2.2, hk.2⟩⟩⟩⟩⟩⟩))), (zN (Kd.N_mono HO_3.out (fun _ hk => ⟨hk.1.1, ⟨hk.1.2.1, ⟨hk.1.2.2.1, ⟨hk.1.2.2.2.1, ⟨hk.1.2.2.2.2, hk.2⟩⟩⟩⟩⟩))), (zR HO_414000.out), (zB BK413.out), (zB BK424.out), (zB BK425.out), GW424.out, GE424.out, NB413_424.out, NB424_413.out, NB425_424.out, NB424_425.out, GW425.out, GE425.out, NB413_425.out, NB425_413.out, (by repeat (first | (with_reducible first | exact HB.out | apply pA | apply pN | apply pD | refine pS ?_ GE413.out | refine pS ?_ GE424.out | refine pS ?_ GE425.out) | exact HB.out))⟩)
       rintro ⟨v416, v421, gb424, gb425⟩ w14 ⟨hS_, h0_, h1_, h2_, h3_, h4_, h5_, h6_, h7_, h8_, h9_, h10_, h11_, h12_, h13_, h14_, h15_, h16_, h17_⟩
       have n0_ : Aside0 (Kd.R (Kd.int .u8) 5 w14 w.heap.size (fun k_ => (w.heap.size ≤ k_) ∧ some k_ ≠ (.slice Ao9 x414000_1.length co9 : Value).ownBlock) v416 t415) := ⟨h0_⟩
       have n1_ : Aside0 (Kd.V (Kd.int .u8) 5 w14 w.heap.size (fun k_ => (w.heap.size ≤ k_) ∧ some k_ ≠ (v416 : Value).ownBlock ∧ some k_ ≠ (u3 : Value).ownBlock ∧ some k_ ≠ (.slice Ao9 x414000_1.length co9 : Value).ownBlock ∧ k_ ≠ gb413 ∧ k_ ≠ gb424 ∧ k_ ≠ gb425) v421 t420) := ⟨h1_⟩
       have n2_ : Aside0 (Kd.N k25 25 w14 w.heap.size (fun k_ => (w.heap.size ≤ k_) ∧ some k_ ≠ (v416 : Value).ownBlock ∧ some k_ ≠ (.slice Ao9 x414000_1.length co9 : Value).ownBlock ∧ k_ ≠ gb413 ∧ k_ ≠ gb424 ∧ k_ ≠ gb425) u3 x3_1) := ⟨h2_⟩
       have n3_ : Aside0 (Kd.R (Kd.int .u8) 5 w14 w.heap.size (fun k_ => (w.heap.size ≤ k_) ∧ some k_ ≠ (v416 : Value).ownBlock) (.slice Ao9 x414000_1.length co9) x414000_1) := ⟨h3_⟩
       have n4_ : Aside0 (w14.heap[gb413]? = some (.cells #[.slice Ao9 x414000_1.length co9, .bool x414001_1] 38 (0, 0))) := ⟨h4_⟩
       have n5_ : Aside0 (w14.heap[gb424]? = some (.cells #[.slice none 0 0, .bool false] 38 (0, 0))) := ⟨h5_⟩
       have n6_ : Aside0 (w14.heap[gb425]? = some (.cells #[.int .u16 0, .slice none 0 0] 25 (0, 0))) := ⟨h6_⟩
       have n7_ : Aside0 (w.heap.size ≤ gb424) := ⟨h7_⟩
       have n8_ : Aside0 (w.heap.size ≤ gb424) := ⟨h8_⟩
       have n9_ : Aside0 (gb413 ≠ gb424) := ⟨h9_⟩
       have n10_ : Aside0 (gb424 ≠ gb413) := ⟨h10_⟩
       have n11_ : Aside0 (gb425 ≠ gb424) := ⟨h11_⟩
       have n12_ : Aside0 (gb424 ≠ gb425) := ⟨h12_⟩
       have n13_ : Aside0 (w.heap.size ≤ gb425) := ⟨h13_⟩
       have n14_ : Aside0 (w.heap.size ≤ gb425) := ⟨h14_⟩
       have n15_ : Aside0 (gb413 ≠ gb425) := ⟨h15_⟩
       have n16_ : Aside0 (gb425 ≠ gb413) := ⟨h16_⟩
       have n17_ : Aside0 (Below w.heap.size w w14) := ⟨h17_⟩
       clear HO_3
       clear HO_414000
       clear BK413
       clear HB
       clear h0_ h1_ h2_ h3_ h4_ h5_ h6_ h7_ h8_ h9_ h10_ h11_ h12_ h13_ h14_ h15_ h16_ h17_
       have HO417 := n0_
       have HO422 := n1_
       have HO_3 := n2_
       have HO_414000 := n3_
       have BK413 := n4_
       have BK424 := n5_
       have BK425 := n6_
       have GW424 := n7_
       have GE424 := n8_
       have NB413_424 := n9_
       have NB424_413 := n10_
       have NB425_424 := n11_
       have NB424_425 := n12_
       have GW425 := n13_
       have GE425 := n14_
       have NB413_425 := n15_
       have NB425_413 := n16_
       have HB := n17_
       clear n0_ n1_ n2_ n3_ n4_ n5_ n6_ n7_ n8_ n9_ n10_ n11_ n12_ n13_ n14_ n15_ n16_ n17_
       have hHeld : w14.cell? ⟨gb413, 0, none⟩ = some (.slice Ao9 x414000_1.length co9) ∧ w14.cell? ⟨gb413, 1, none⟩ = some (.bool x414001_1) ∧ w14.cell? (ad414.add (x5_1).toNat) = some (.int .u8 (rd l0 x5_1)) := hS_
       obtain ⟨Ao15, co15, eo15⟩ := Kd.R_slice HO417.out
       (first | subst eo15 | (injection eo15 with f1_ f2_ f3_; have f4_ := f1_.symm; have f5_ := f3_.symm; clear f1_ f2_ f3_; subst f4_; subst f5_))
       obtain ⟨Ao19, co19, eo19⟩ := Kd.V_slice HO422.out
       (first | subst eo19 | (injection eo19 with f1_ f2_ f3_; have f4_ := f1_.symm; have f5_ := f3_.symm; clear f1_ f2_ f3_; subst f4_; subst f5_))
       refine norm_ (a' := ?_) ?_ ?_
       rotate_left
       ·simp only [putAll, Act.put, sT, s0, s1]
        rfl
       refine one_ (i := 12) (N := none) #[true, true, true, true, true, true, true, true, true, true, true, true, true, false, false] rfl rfl (one_of HT_.out (by kernel_rfl)) (by decide) (fun K hK => ?_)
       have hs16 : w14.cell? ⟨gb424, 0, none⟩ = some (.slice none 0 0) := (blk_cell BK424.out 0).trans rfl
       have hfs16 := blk_frozen BK424.out 0
       have hns16_0 := NB413_424.out
       have hns16_2 := NB425_424.out
       have hms16_0 := NB424_413.out
       have hms16_2 := NB424_425.out
       have hs17 : w14.cell? ⟨gb424, 1, none⟩ = some (.bool false) := (blk_cell BK424.out 1).trans rfl
       have hfs17 := blk_frozen BK424.out 1
       have hns17_0 := NB413_424.out
       have hns17_2 := NB425_424.out
       have hms17_0 := NB424_413.out
       have hms17_2 := NB424_425.out
       refine skip_ (w1 := ?_) (by rfl) rfl ?_ ?_
       rotate_left
       ·go_simp
        rfl
       refine hK.out _ _ ⟨((cell_far (p := ⟨gb424, _, none⟩) NB413_424.out _).trans (((cell_far (p := ⟨gb424, _, none⟩) NB413_424.out _).trans (hHeld.1)))), ((cell_far (p := ⟨gb424, _, none⟩) NB413_424.out _).trans (((cell_far (p := ⟨gb424, _, none⟩) NB413_424.out _).trans (hHeld.2.1)))), ((cell_far (p := ⟨gb424, _, none⟩) (by first | exact Nat.ne_of_lt (Nat.lt_of_lt_of_le (by have := World.block_lt_of_cell? _ _ hw414_0; first | rwa [add_block] at this | exact this) GW424.out) | (rw [add_block]; exact Nat.ne_of_lt (Nat.lt_of_lt_of_le (by have := World.block_lt_of_cell? _ _ hw414_0; first | rwa [add_block] at this | exact this) GW424.out)) | (show (Addr.add _ _).block ≠ _; rw [add_block]; exact Nat.ne_of_lt (Nat.lt_of_lt_of_le (by have := World.block_lt_of_cell? _ _ hw414_0; first | rwa [add_block] at this | exact this) GW424.out)) | (dsimp only; exact Nat.ne_of_lt (Nat.lt_of_lt_of_le (by have := World.block_lt_of_cell? _ _ hw414_0; first | rwa [add_block] at this | exact this) GW424.out))) _).trans (((cell_far (p := ⟨gb424, _, none⟩) (by first | exact Nat.ne_of_lt (Nat.lt_of_lt_of_le (by have := World.block_lt_of_cell? _ _ hw414_0; first | rwa [add_block] at this | exact this) GW424.out) | (rw [add_block]; exact Nat.ne_of_lt (Nat.lt_of_lt_of_le (by have := World.block_lt_of_cell? _ _ hw414_0; first | rwa [add_block] at this | exact this) GW424.out)) | (show (Addr.add _ _).block ≠ _; rw [add_block]; exact Nat.ne_of_lt (Nat.lt_of_lt_of_le (by have := World.block_lt_of_cell? _ _ hw414_0; first | rwa [add_block] at this | exact this) GW424.out)) | (dsimp only; exact Nat.ne_of_lt (Nat.lt_of_lt_of_le (by have := World.block_lt_of_cell? _ _ hw414_0; first | rwa [add_block] at this | exact this) GW424.out))) _).trans (hHeld.2.2))))⟩ (fun hHeld => ?_)
       clear hK K
       refine one_ (i := 13) (N := none) #[true, true, true, true, true, true, true, true, true, true, true, true, true, true, false] rfl rfl (one_of HT_.out (by kernel_rfl)) (by decide) (fun K hK => ?_)
       have hs18 : w14.cell? ⟨gb425, 0, none⟩ = some (.int .u16 0) := (blk_cell BK425.out 0).trans rfl
       have hfs18 := blk_frozen BK425.out 0
       have hns18_0 := NB413_425.out
       have hns18_1 := NB424_425.out
       have hms18_0 := NB425_413.out
       have hms18_1 := NB425_424.out
       have hs20 : w14.cell? ⟨gb425, 1, none⟩ = some (.slice none 0 0) := (blk_cell BK425.out 1).trans rfl
       have hfs20 := blk_frozen BK425.out 1
       have hns20_0 := NB413_425.out
       have hns20_1 := NB424_425.out
       have hms20_0 := NB425_413.out
       have hms20_1 := NB425_424.out
       refine skip_ (w1 := ?_) (by rfl) rfl ?_ ?_
       rotate_left
       ·go_simp
        rfl
       refine hK.out _ _ ⟨((cell_far (p := ⟨gb425, _, none⟩) NB413_425.out _).trans (((cell_far (p := ⟨gb425, _, none⟩) NB413_425.out _).trans (hHeld.1)))), ((cell_far (p := ⟨gb425, _, none⟩) NB413_425.out _).trans (((cell_far (p := ⟨gb425, _, none⟩) NB413_425.out _).trans (hHeld.2.1)))), ((cell_far (p := ⟨gb425, _, none⟩) (by first | exact Nat.ne_of_lt (Nat.lt_of_lt_of_le (by have := World.block_lt_of_cell? _ _ hw414_0; first | rwa [add_block] at this | exact this) GW425.out) | (rw [add_block]; exact Nat.ne_of_lt (Nat.lt_of_lt_of_le (by have := World.block_lt_of_cell? _ _ hw414_0; first | rwa [add_block] at this | exact this) GW425.out)) | (show (Addr.add _ _).block ≠ _; rw [add_block]; exact Nat.ne_of_lt (Nat.lt_of_lt_of_le (by have := World.block_lt_of_cell? _ _ hw414_0; first | rwa [add_block] at this | exact this) GW425.out)) | (dsimp only; exact Nat.ne_of_lt (Nat.lt_of_lt_of_le (by have := World.block_lt_of_cell? _ _ hw414_0; first | rwa [add_block] at this | exact this) GW425.out))) _).trans (((cell_far (p := ⟨gb425, _, none⟩) (by first | exact Nat.ne_of_lt (Nat.lt_of_lt_of_le (by have := World.block_lt_of_cell? _ _ hw414_0; first | rwa [add_block] at this | exact this) GW425.out) | (rw [add_block]; exact Nat.ne_of_lt (Nat.lt_of_lt_of_le (by have := World.block_lt_of_cell? _ _ hw414_0; first | rwa [add_block] at this | exact this) GW425.out)) | (show (Addr.add _ _).block ≠ _; rw [add_block]; exact Nat.ne_of_lt (Nat.lt_of_lt_of_le (by have := World.block_lt_of_cell? _ _ hw414_0; first | rwa [add_block] at this | exact this) GW425.out)) | (dsimp only; exact Nat.ne_of_lt (Nat.lt_of_lt_of_le (by have := World.block_lt_of_cell? _ _ hw414_0; first | rwa [add_block] at this | exact this) GW425.out))) _).trans (hHeld.2.2))))⟩ (fun hHeld => ?_)
       clear hK K
       refine pure_ (i := 14) (N := some 8) (v := ?_) (a' := ?_) #[true, true, true, true, true, true, true, true, true, true, true, true, true, true, true] rfl rfl (any_of HT_.out (by kernel_rfl)) (fun _ _ _ h => h) (Or.inl ⟨by rfl, ?_⟩) ?_ ?_
       rotate_left
       ·intro w'
        go_simp
        with_reducible rfl
       rotate_left
       ·simp only [Act.put, sT, s0, s1, i64_w, i32_w]
        rfl
       refine done_ (done_of HT_.out (by kernel_rfl)) ?_
       have n0_ : Aside0 (Kd.N k25 25 ((((w14.setCell ⟨gb424, 0, none⟩ (.slice Ao15 t415.length co15)).setCell ⟨gb424, 1, none⟩ (.bool t418)).setCell ⟨gb425, 0, none⟩ (.int .u16 t419)).setCell ⟨gb425, 1, none⟩ (.slice Ao19 t420.length co19)) w.heap.size (fun k_ => (w.heap.size ≤ k_) ∧ some k_ ≠ (.slice Ao9 x414000_1.length co9 : Value).ownBlock ∧ some k_ ≠ (.slice Ao15 t415.length co15 : Value).ownBlock ∧ k_ ≠ gb413 ∧ k_ ≠ gb424 ∧ k_ ≠ gb425) u3 x3_1) := ⟨zN (Kd.N_mono (Kd.N_far (p := ⟨gb425, 1, none⟩) (Kd.N_far (p := ⟨gb425, 0, none⟩) (Kd.N_far (p := ⟨gb424, 1, none⟩) (Kd.N_far (p := ⟨gb424, 0, none⟩) (Kd.N_mono (Kd.N_mono HO_3.out (fun k_ hk => (⟨hk, hk.2.2.2.2.1⟩ : _ ∧ k_ ≠ gb424))) (fun k_ hk => (⟨hk, hk.1.2.2.2.2.2⟩ : _ ∧ k_ ≠ gb425))) (fun _ hk => hk.1.2) (.slice Ao15 t415.length co15)) (fun _ hk => hk.1.2) (.bool t418)) (fun _ hk => hk.2) (.int .u16 t419)) (fun _ hk => hk.2) (.slice Ao19 t420.length co19)) (fun _ hk => ⟨hk.1.1.1, ⟨hk.1.1.2.2.1, ⟨hk.1.1.2.1, ⟨hk.1.1.2.2.2.1, ⟨hk.1.1.2.2.2.2.1, hk.1.1.2.2.2.2.2⟩⟩⟩⟩⟩))⟩
       have n1_ : Aside0 (Kd.R (Kd.int .u8) 5 ((((w14.setCell ⟨gb424, 0, none⟩ (.slice Ao15 t415.length co15)).setCell ⟨gb424, 1, none⟩ (.bool t418)).setCell ⟨gb425, 0, none⟩ (.int .u16 t419)).setCell ⟨gb425, 1, none⟩ (.slice Ao19 t420.length co19)) w.heap.size (fun k_ => (w.heap.size ≤ k_) ∧ some k_ ≠ (.slice Ao15 t415.length co15 : Value).ownBlock) (.slice Ao9 x414000_1.length co9) x414000_1) := ⟨zR (Kd.R_mono (Kd.R_far (p := ⟨gb425, 1, none⟩) (Kd.R_far (p := ⟨gb425, 0, none⟩) (Kd.R_far (p := ⟨gb424, 1, none⟩) (Kd.R_far (p := ⟨gb424, 0, none⟩) (Kd.R_types (Kd.R_types HO_414000.out BK424.out (by decide)) BK425.out (by decide)) (fun _ hk => hk.1.2) (.slice Ao15 t415.length co15)) (fun _ hk => hk.1.2) (.bool t418)) (fun _ hk => hk.2) (.int .u16 t419)) (fun _ hk => hk.2) (.slice Ao19 t420.length co19)) (fun _ hk => ⟨hk.1.1.1, hk.1.1.2⟩))⟩
       have n2_ : Aside0 (Kd.R (Kd.int .u8) 5 ((((w14.setCell ⟨gb424, 0, none⟩ (.slice Ao15 t415.length co15)).setCell ⟨gb424, 1, none⟩ (.bool t418)).setCell ⟨gb425, 0, none⟩ (.int .u16 t419)).setCell ⟨gb425, 1, none⟩ (.slice Ao19 t420.length co19)) w.heap.size (fun k_ => (w.heap.size ≤ k_) ∧ some k_ ≠ (.slice Ao9 x414000_1.length co9 : Value).ownBlock) (.slice Ao15 t415.length co15) t415) := ⟨zR (Kd.R_mono (Kd.R_far (p := ⟨gb425, 1, none⟩) (Kd.R_far (p := ⟨gb425, 0, none⟩) (Kd.R_far (p := ⟨gb424, 1, none⟩) (Kd.R_far (p := ⟨gb424, 0, none⟩) (Kd.R_types (Kd.R_types HO417.out BK424.out (by decide)) BK425.out (by decide)) (fun _ hk => hk.1.2) (.slice Ao15 t415.length co15)) (fun _ hk => hk.1.2) (.bool t418)) (fun _ hk => hk.2) (.int .u16 t419)) (fun _ hk => hk.2) (.slice Ao19 t420.length co19)) (fun _ hk => ⟨hk.1.1.1, hk.1.1.2⟩))⟩
       have n3_ : Aside0 (Kd.V (Kd.int .u8) 5 ((((w14.setCell ⟨gb424, 0, none⟩ (.slice Ao15 t415.length co15)).setCell ⟨gb424, 1, none⟩ (.bool t418)).setCell ⟨gb425, 0, none⟩ (.int .u16 t419)).setCell ⟨gb425, 1, none⟩ (.slice Ao19 t420.length co19)) w.heap.size (fun k_ => (w.heap.size ≤ k_) ∧ some k_ ≠ (u3 : Value).ownBlock ∧ some k_ ≠ (.slice Ao9 x414000_1.length co9 : Value).ownBlock ∧ some k_ ≠ (.slice Ao15 t415.length co15 : Value).ownBlock ∧ k_ ≠ gb413 ∧ k_ ≠ gb424 ∧ k_ ≠ gb425) (.slice Ao19 t420.length co19) t420) := ⟨zV (Kd.V_mono (Kd.V_far (p := ⟨gb425, 1, none⟩) (Kd.V_far (p := ⟨gb425, 0, none⟩) (Kd.V_far (p := ⟨gb424, 1, none⟩) (Kd.V_far (p := ⟨gb424, 0, none⟩) (Kd.V_mono (Kd.V_mono HO422.out (fun k_ hk => (⟨hk, hk.2.2.2.2.2.1⟩ : _ ∧ k_ ≠ gb424))) (fun k_ hk => (⟨hk, hk.1.2.2.2.2.2.2⟩ : _ ∧ k_ ≠ gb425))) (fun _ hk => hk.1.2) (.slice Ao15 t415.length co15)) (fun _ hk => hk.1.2) (.bool t418)) (fun _ hk => hk.2) (.int .u16 t419)) (fun _ hk => hk.2) (.slice Ao19 t420.length co19)) (fun _ hk => ⟨hk.1.1.1, ⟨hk.1.1.2.2.1, ⟨hk.1.1.2.2.2.1, ⟨hk.1.1.2.1, ⟨hk.1.1.2.2.2.2.1, ⟨hk.1.1.2.2.2.2.2.1, hk.1.1.2.2.2.2.2.2⟩⟩⟩⟩⟩⟩))⟩
       have n4_ : Aside0 (((((w14.setCell ⟨gb424, 0, none⟩ (.slice Ao15 t415.length co15)).setCell ⟨gb424, 1, none⟩ (.bool t418)).setCell ⟨gb425, 0, none⟩ (.int .u16 t419)).setCell ⟨gb425, 1, none⟩ (.slice Ao19 t420.length co19)).heap[gb413]? = some (.cells #[.slice Ao9 x414000_1.length co9, .bool x414001_1] 38 (0, 0))) := ⟨by (with_reducible repeat (first | refine qN ?_ _ | refine qD ?_ | refine qA ?_ _)); refine blk_far ?_ NB413_425.out _; (with_reducible repeat (first | refine qN ?_ _ | refine qD ?_ | refine qA ?_ _)); refine blk_far ?_ NB413_425.out _; (with_reducible repeat (first | refine qN ?_ _ | refine qD ?_ | refine qA ?_ _)); refine blk_far ?_ NB413_424.out _; (with_reducible repeat (first | refine qN ?_ _ | refine qD ?_ | refine qA ?_ _)); refine blk_far ?_ NB413_424.out _; (with_reducible repeat (first | refine qN ?_ _ | refine qD ?_ | refine qA ?_ _)); exact BK413.out⟩
       have n5_ : Aside0 (((((w14.setCell ⟨gb424, 0, none⟩ (.slice Ao15 t415.length co15)).setCell ⟨gb424, 1, none⟩ (.bool t418)).setCell ⟨gb425, 0, none⟩ (.int .u16 t419)).setCell ⟨gb425, 1, none⟩ (.slice Ao19 t420.length co19)).heap[gb424]? = some (.cells #[.slice Ao15 t415.length co15, .bool t418] 38 (0, 0))) := ⟨by (with_reducible repeat (first | refine qN ?_ _ | refine qD ?_ | refine qA ?_ _)); refine blk_far ?_ NB424_425.out _; (with_reducible repeat (first | refine qN ?_ _ | refine qD ?_ | refine qA ?_ _)); refine blk_far ?_ NB424_425.out _; (with_reducible repeat (first | refine qN ?_ _ | refine qD ?_ | refine qA ?_ _)); refine blk_put (cs := #[.slice Ao15 t415.length co15, .bool false]) ?_ 1 _ rfl; (with_reducible repeat (first | refine qN ?_ _ | refine qD ?_ | refine qA ?_ _)); refine blk_put (cs := #[.slice none 0 0, .bool false]) ?_ 0 _ rfl; (with_reducible repeat (first | refine qN ?_ _ | refine qD ?_ | refine qA ?_ _)); exact BK424.out⟩
       have n6_ : Aside0 (((((w14.setCell ⟨gb424, 0, none⟩ (.slice Ao15 t415.length co15)).setCell ⟨gb424, 1, none⟩ (.bool t418)).setCell ⟨gb425, 0, none⟩ (.int .u16 t419)).setCell ⟨gb425, 1, none⟩ (.slice Ao19 t420.length co19)).heap[gb425]? = some (.cells #[.int .u16 t419, .slice Ao19 t420.length co19] 25 (0, 0))) := ⟨by (with_reducible repeat (first | refine qN ?_ _ | refine qD ?_ | refine qA ?_ _)); refine blk_put (cs := #[.int .u16 t419, .slice none 0 0]) ?_ 1 _ rfl; (with_reducible repeat (first | refine qN ?_ _ | refine qD ?_ | refine qA ?_ _)); refine blk_put (cs := #[.int .u16 0, .slice none 0 0]) ?_ 0 _ rfl; (with_reducible repeat (first | refine qN ?_ _ | refine qD ?_ | refine qA ?_ _)); refine blk_far ?_ NB425_424.out _; (with_reducible repeat (first | refine qN ?_ _ | refine qD ?_ | refine qA ?_ _)); refine blk_far ?_ NB425_424.out _; (with_reducible repeat (first | refine qN ?_ _ | refine qD ?_ | refine qA ?_ _)); exact BK425.out⟩
       have n7_ : Aside0 (Below w.heap.size w ((((w14.setCell ⟨gb424, 0, none⟩ (.slice Ao15 t415.length co15)).setCell ⟨gb424, 1, none⟩ (.bool t418)).setCell ⟨gb425, 0, none⟩ (.int .u16 t419)).setCell ⟨gb425, 1, none⟩ (.slice Ao19 t420.length co19))) := ⟨by repeat (first | (with_reducible first | exact HB.out | apply pA | apply pN | apply pD | refine pS ?_ GE413.out | refine pS ?_ GE424.out | refine pS ?_ GE425.out) | exact HB.out)⟩
       (try clear HO_3)
       (try clear HO_414000)
       (try clear HO417)
       (try clear HO422)
       (try clear BK413)
       (try clear BK424)
       (try clear BK425)
       (try clear HB)
       generalize ((((w14.setCell ⟨gb424, 0, none⟩ (.slice Ao15 t415.length co15)).setCell ⟨gb424, 1, none⟩ (.bool t418)).setCell ⟨gb425, 0, none⟩ (.int .u16 t419)).setCell ⟨gb425, 1, none⟩ (.slice Ao19 t420.length co19)) = w21 at n0_ n1_ n2_ n3_ n4_ n5_ n6_ n7_ ⊢
       have HO_3 := n0_
       have HO_414000 := n1_
       have HO417 := n2_
       have HO422 := n3_
       have BK413 := n4_
       have BK424 := n5_
       have BK425 := n6_
       have HB := n7_
       clear n0_ n1_ n2_ n3_ n4_ n5_ n6_ n7_
       have hnb22 := NB425_413.out
       have hnc22 := NB413_425.out
       have hnb23 := NB425_424.out
       have hnc23 := NB424_425.out
       obtain ⟨hcz24_0, hcz24_1, hfz24_0, hfz24_1⟩ := bk2 BK425.out
       try go_wp2_with (first | ((with_reducible refine gate_builtin (b := .append) (xs := #[.tmp 27, .tmp 29]) rfl ?_); at_builtin; refine Kd.N_append k25 (w0 := w) w.heap.size rfl (.tmp 27) (.tmp 29) 48 25 (.agg #[(.int .u16 0), (.slice none 0 0)]) 32 rfl Try.underlying48 info25 rfl (by decide) (by omega) u3 x3_1 (⟨t419, t420⟩ : S25) [.int .u16 t419, .slice Ao19 t420.length co19] (fun k_ => (w.heap.size ≤ k_) ∧ some k_ ≠ (.slice Ao9 x414000_1.length co9 : Value).ownBlock ∧ some k_ ≠ (.slice Ao15 t415.length co15 : Value).ownBlock ∧ k_ ≠ gb413 ∧ k_ ≠ gb424 ∧ k_ ≠ gb425) (fun k_ => ((fun k_ => (w.heap.size ≤ k_) ∧ some k_ ≠ (.slice Ao9 x414000_1.length co9 : Value).ownBlock ∧ some k_ ≠ (.slice Ao15 t415.length co15 : Value).ownBlock ∧ k_ ≠ gb413 ∧ k_ ≠ gb424 ∧ k_ ≠ gb425)) k_ ∧ some k_ ≠ (u3 : Value).ownBlock) rfl rfl ?aP (fun _ hk => hk) ?aF ?aO ?aB ?aS ?aL ?_; (case aP => exact (k25_mkF _ _ (⟨t419, t420⟩ : S25) (Kd.V_reads' (Kd.V_mono (ok' := (fun k_ => ((fun k_ => (w.heap.size ≤ k_) ∧ some k_ ≠ (.slice Ao9 x414000_1.length co9 : Value).ownBlock ∧ some k_ ≠ (.slice Ao15 t415.length co15 : Value).ownBlock ∧ k_ ≠ gb413 ∧ k_ ≠ gb424 ∧ k_ ≠ gb425)) k_ ∧ some k_ ≠ (u3 : Value).ownBlock)) (HO422.out) (fun k_ hk => ⟨⟨hk.1, ⟨hk.2.2.1, ⟨hk.2.2.2.1, ⟨hk.2.2.2.2.1, ⟨hk.2.2.2.2.2.1, hk.2.2.2.2.2.2⟩⟩⟩⟩⟩, hk.2.1⟩))).2.1 (Kd.V_F (Kd.V_mono (ok' := (fun k_ => ((fun k_ => (w.heap.size ≤ k_) ∧ some k_ ≠ (.slice Ao9 x414000_1.length co9 : Value).ownBlock ∧ some k_ ≠ (.slice Ao15 t415.length co15 : Value).ownBlock ∧ k_ ≠ gb413 ∧ k_ ≠ gb424 ∧ k_ ≠ gb425)) k_ ∧ some k_ ≠ (u3 : Value).ownBlock)) (HO422.out) (fun k_ hk => ⟨⟨hk.1, ⟨hk.2.2.1, ⟨hk.2.2.2.1, ⟨hk.2.2.2.2.1, ⟨hk.2.2.2.2.2.1, hk.2.2.2.2.2.2⟩⟩⟩⟩⟩, hk.2.1⟩))))); (case aB => exact (by repeat (first | (with_reducible first | exact HB.out | apply pA | apply pN | apply pD | refine pS ?_ GE413.out | refine pS ?_ GE424.out | refine pS ?_ GE425.out) | exact HB.out))); (case aF => exact (fun k_ hk => ⟨(Nat.le_trans (below_size (by repeat (first | (with_reducible first | exact HB.out | apply pA | apply pN | apply pD | refine pS ?_ GE413.out | refine pS ?_ GE424.out | refine pS ?_ GE425.out) | exact HB.out))) hk), Kd.fresh' (Kd.R_lt (zR HO_414000.out)) k_ hk, Kd.fresh' (Kd.R_lt (zR HO417.out)) k_ hk, Kd.freshB (g := gb413) (o := .cells #[.slice Ao9 x414000_1.length co9, .bool x414001_1] 38 (0, 0)) (zB BK413.out) k_ hk, Kd.freshB (g := gb424) (o := .cells #[.slice Ao15 t415.length co15, .bool t418] 38 (0, 0)) (zB BK424.out) k_ hk, Kd.freshB (g := gb425) (o := .cells #[.int .u16 t419, .slice Ao19 t420.length co19] 25 (0, 0)) (zB BK425.out) k_ hk⟩)); (case aO => exact (zN HO_3.out)); (case aS => exact (below_size (by repeat (first | (with_reducible first | exact HB.out | apply pA | apply pN | apply pD | refine pS ?_ GE413.out | refine pS ?_ GE424.out | refine pS ?_ GE425.out) | exact HB.out)))); (case aL => have := LMc8.out; omega); intro v427 w25 ho hb hg hat; rw [← Ny426.out] at ho; have n0_ := Aside0.mk (Kd.R_over' (zR HO_414000.out) (Kd.N_typed (zN HO_3.out)) (by decide) hg); have n1_ := Aside0.mk (blk_grown (g := gb413) (o := .cells #[.slice Ao9 x414000_1.length co9, .bool x414001_1] 38 (0, 0)) (zB BK413.out) hg (Kd.N_ne HO_3.out BK413.out (by decide))); have n2_ := Aside0.mk (Kd.R_over' (zR HO417.out) (Kd.N_typed (zN HO_3.out)) (by decide) hg); have n3_ := Aside0.mk (Kd.V_afterv (ok := (fun k_ => (w.heap.size ≤ k_) ∧ some k_ ≠ (.slice Ao9 x414000_1.length co9 : Value).ownBlock ∧ some k_ ≠ (.slice Ao15 t415.length co15 : Value).ownBlock ∧ k_ ≠ gb413 ∧ k_ ≠ gb424 ∧ k_ ≠ gb425)) (zV (Kd.V_mono HO422.out (fun _ hk => ⟨⟨hk.1, ⟨hk.2.2.1, ⟨hk.2.2.2.1, ⟨hk.2.2.2.2.1, ⟨hk.2.2.2.2.2.1, hk.2.2.2.2.2.2⟩⟩⟩⟩⟩, hk.2.1⟩))) hg hat); have n4_ := Aside0.mk (blk_grown (g := gb424) (o := .cells #[.slice Ao15 t415.length co15, .bool t418] 38 (0, 0)) (zB BK424.out) hg (Kd.N_ne HO_3.out BK424.out (by decide))); have n5_ := Aside0.mk (blk_grown (g := gb425) (o := .cells #[.int .u16 t419, .slice Ao19 t420.length co19] 25 (0, 0)) (zB BK425.out) hg (Kd.N_away HO_3.out (fun _ hk => hk.2.2.2.2.2))); have n6_ := Aside0.mk (hb); have n7_ := Aside0.mk (ho); clear HO_414000; clear BK413; clear HO417; clear HO422; clear BK424; clear BK425; clear HB; clear HO_3; have HO_414000 := n0_; have BK413 := n1_; have HO417 := n2_; have HO422 := n3_; have BK424 := n4_; have BK425 := n5_; have HB := n6_; have HO428 := n7_; clear n0_ n1_ n2_ n3_ n4_ n5_ n6_ n7_; clear ho hb hg hat; have hnb26 := NB424_413.out; have hnc26 := NB413_424.out; obtain ⟨hcz27_0, hcz27_1, hfz27_0, hfz27_1⟩ := bk2 BK424.out; obtain ⟨hcz28_0, hcz28_1, hfz28_0, hfz28_1⟩ := bk2 BK413.out))
       go_roundg k1
       case measure => have := HK1.out; omega
       case rel => exact ⟨(y426), (wrap64 (x5_1 + 1)), (t415), (t418), (.slice Ao15 t415.length co15), (by first | rfl | (simp; done) | (simp [*]; done)), H', ⟨by have := HK1.out; omega⟩, ⟨zN (Kd.N_mono (Kd.N_far (p := ⟨gb413, 1, none⟩) (Kd.N_far (p := ⟨gb413, 0, none⟩) (Kd.N_mono HO428.out (fun k_ hk => (⟨hk, hk.2.2.2.1⟩ : _ ∧ k_ ≠ gb413))) (fun _ hk => hk.2) (.slice Ao15 t415.length co15)) (fun _ hk => hk.2) (.bool t418)) (fun _ hk => ⟨hk.1.1, ⟨hk.1.2.2.1, hk.1.2.2.2.1⟩⟩))⟩, ⟨zR (Kd.R_mono (Kd.R_far (p := ⟨gb413, 1, none⟩) (Kd.R_far (p := ⟨gb413, 0, none⟩) (Kd.R_types HO417.out BK413.out (by decide)) (fun _ hk => hk.2) (.slice Ao15 t415.length co15)) (fun _ hk => hk.2) (.bool t418)) (fun _ hk => hk.1.1))⟩, ⟨by (with_reducible repeat (first | refine qN ?_ _ | refine qD ?_ | refine qA ?_ _)); refine blk_put (cs := #[.slice Ao15 t415.length co15, .bool x414001_1]) ?_ 1 _ rfl; (with_reducible repeat (first | refine qN ?_ _ | refine qD ?_ | refine qA ?_ _)); refine blk_put (cs := #[.slice Ao9 x414000_1.length co9, .bool x414001_1]) ?_ 0 _ rfl; (with_reducible repeat (first | refine qN ?_ _ | refine qD ?_ | refine qA ?_ _)); exact BK413.out⟩, ⟨by repeat (first | (with_reducible first | exact HB.out | apply pA | apply pN | apply pD | refine pS ?_ GE413.out | refine pS ?_ GE424.out | refine pS ?_ GE425.out) | exact HB.out)⟩⟩
      ·rw [if_neg c8] at H
       exact absurd H (by simp)
     ·replace c7 := Bool.eq_false_iff.mpr c7
      subst c7
      have H1 : (portreevelaw08_taken.l0 k1 l0 x3_1 (wrap64 (x5_1 + 1)) t415 t418) = some r := by rw [if_neg (show ¬ (false = true) by decide)] at H; exact H
      clear H
      have H := H1
      clear H1
      have H' := Aside0.mk H
      clear H
      obtain ⟨Ao29, co29, eo29⟩ := Kd.R_slice HO_414000.out
      subst eo29
      try go_wp2
      have n0_ := Aside0.mk (Kd.N_drew HO_3.out)
      have n1_ := Aside0.mk (Kd.R_drew HO_414000.out)
      have n2_ := Aside0.mk (qD BK413.out)
      have n3_ := Aside0.mk (pD HB.out)
      clear HO_3
      clear HO_414000
      clear BK413
      clear HB
      have HO_3 := n0_
      have HO_414000 := n1_
      have BK413 := n2_
      have HB := n3_
      clear n0_ n1_ n2_ n3_
      have p414 : 0 ≤ (x5_1 : Int) := of_decide_eq_true (by first | (with_reducible assumption) | assumption)
      have q414 : x5_1 < (l0.length : Int) := of_decide_eq_true (by first | (with_reducible assumption) | assumption)
      obtain ⟨ad414, e414, hx414_0⟩ := Kd.at_int HR0.out x5_1 p414 q414
      have hw414_0 := hx414_0
      cases e414
      replace hx414_0 := (HB.out.cell (World.block_lt_of_cell? w _ hx414_0)).trans hx414_0
      replace p414 := eq_true p414
      replace q414 := eq_true q414
      refine start_ (n := 15) (S := fun w' => w'.cell? ⟨gb413, 0, none⟩ = some (.slice Ao29 x414000_1.length co29) ∧ w'.cell? ⟨gb413, 1, none⟩ = some (.bool x414001_1) ∧ w'.cell? (ad414.add (x5_1).toNat) = some (.int .u8 (rd l0 x5_1))) (ds := []) #[false, false, false, false, false, false, false, false, false, false, false, false, false, false, false] (by kernel_rfl) rfl rfl ⟨(blk_cell BK413.out 0).trans rfl, (blk_cell BK413.out 1).trans rfl, ((HB.out.cell (World.block_lt_of_cell? w _ hw414_0)).trans hw414_0)⟩ (fun hHeld => ?_); refine with_tabW portreevelaw08_taken.tab6 portreevelaw08_taken.bits6 (fun HT_ HW_ => ?_)
      generalize wr.drew = w30 at HO_3 HO_414000 BK413 HB hx414_0 hHeld ⊢
      refine pure_ (i := 1) (N := some 18) (v := ?_) (a' := ?_) #[false, true, false, false, false, false, false, false, false, false, false, false, false, false, false] rfl rfl (any_of HT_.out (by kernel_rfl)) (fun _ _ _ h => h) (Or.inl ⟨by rfl, ?_⟩) ?_ ?_
      rotate_left
      ·intro w'
       go_simp
       with_reducible rfl
      rotate_left
      ·simp only [Act.put, sT, s0, s1, i64_w, i32_w]
       rfl
      refine pure_ (i := 2) (N := some 19) (v := ?_) (a' := ?_) #[false, true, true, false, false, false, false, false, false, false, false, false, false, false, false] rfl rfl (any_of HT_.out (by kernel_rfl)) (fun _ _ _ h => h) (Or.inl ⟨by rfl, ?_⟩) ?_ ?_
      rotate_left
      ·intro w'
       go_simp
       with_reducible rfl
      rotate_left
      ·simp only [Act.put, sT, s0, s1, i64_w, i32_w]
       rfl
      refine pure_ (i := 3) (N := some 20) (v := ?_) (a' := ?_) #[false, true, true, true, false, false, false, false, false, false, false, false, false, false, false] rfl rfl (any_of HT_.out (by kernel_rfl)) (fun _ _ _ h => h) (Or.inl ⟨by rfl, ?_⟩) ?_ ?_
      rotate_left
      ·intro w'
       go_simp
       with_reducible rfl
      rotate_left
      ·simp only [Act.put, sT, s0, s1, i64_w, i32_w]
       rfl
      refine take_ (i := 0) (N := some 17) (v := ?_) (a' := ?_) #[true, true, true, true, false, false, false, false, false, false, false, false, false, false, false] rfl rfl (take_ofW HT_.out HW_.out (by kernel_rfl)) (fun _ _ _ h => h) (Or.inl ⟨by rfl, ?_⟩) hHeld ?_ ?_
      rotate_left
      ·rintro w' ⟨s0, s1, s2⟩
       go_simp
       with_reducible rfl
      rotate_left
      ·simp only [Act.put, sT, s0, s1, i64_w, i32_w]
       rfl
      refine take_ (i := 4) (N := some 21) (v := ?_) (a' := ?_) #[true, true, true, true, true, false, false, false, false, false, false, false, false, false, false] rfl rfl (take_ofW HT_.out HW_.out (by kernel_rfl)) (fun _ _ _ h => h) (Or.inl ⟨by rfl, ?_⟩) hHeld ?_ ?_
      rotate_left
      ·rintro w' ⟨s0, s1, s2⟩
       go_simp
       with_reducible rfl
      rotate_left
      ·simp only [Act.put, sT, s0, s1, i64_w, i32_w]
       rfl
      refine join_ (σ := Value × Value × Nat × Nat) 3 #[true, true, true, true, true, true, true, true, true, true, true, true, false, false, false] (fun s_ => [(22, .tuple #[.agg #[s_.1, .bool t418], .agg #[.int .u16 t419, s_.2.1], .bool false]), (6, .pointer (some ⟨s_.2.2.1, 0, none⟩)), (7, .pointer (some ⟨s_.2.2.2, 0, none⟩)), (16, .tuple #[.agg #[s_.1, .bool t418], .agg #[.int .u16 t419, s_.2.1], .bool false]), (23, .agg #[s_.1, .bool t418]), (24, .agg #[.int .u16 t419, s_.2.1]), (25, .bool false)]) (fun s_ w' => (w'.cell? ⟨gb413, 0, none⟩ = some (.slice Ao29 x414000_1.length co29) ∧ w'.cell? ⟨gb413, 1, none⟩ = some (.bool x414001_1) ∧ w'.cell? (ad414.add (x5_1).toNat) = some (.int .u8 (rd l0 x5_1))) ∧ (Kd.R (Kd.int .u8) 5 w' w.heap.size (fun k_ => (w.heap.size ≤ k_) ∧ some k_ ≠ (.slice Ao29 x414000_1.length co29 : Value).ownBlock) s_.1 t415) ∧ (Kd.V (Kd.int .u8) 5 w' w.heap.size (fun k_ => (w.heap.size ≤ k_) ∧ some k_ ≠ (s_.1 : Value).ownBlock ∧ some k_ ≠ (u3 : Value).ownBlock ∧ some k_ ≠ (.slice Ao29 x414000_1.length co29 : Value).ownBlock ∧ k_ ≠ gb413 ∧ k_ ≠ s_.2.2.1 ∧ k_ ≠ s_.2.2.2) s_.2.1 t420) ∧ (Kd.N k25 25 w' w.heap.size (fun k_ => (w.heap.size ≤ k_) ∧ some k_ ≠ (s_.1 : Value).ownBlock ∧ some k_ ≠ (.slice Ao29 x414000_1.length co29 : Value).ownBlock ∧ k_ ≠ gb413 ∧ k_ ≠ s_.2.2.1 ∧ k_ ≠ s_.2.2.2) u3 x3_1) ∧ (Kd.R (Kd.int .u8) 5 w' w.heap.size (fun k_ => (w.heap.size ≤ k_) ∧ some k_ ≠ (s_.1 : Value).ownBlock) (.slice Ao29 x414000_1.length co29) x414000_1) ∧ (w'.heap[gb413]? = some (.cells #[.slice Ao29 x414000_1.length co29, .bool x414001_1] 38 (0, 0))) ∧ (w'.heap[s_.2.2.1]? = some (.cells #[.slice none 0 0, .bool false] 38 (0, 0))) ∧ (w'.heap[s_.2.2.2]? = some (.cells #[.int .u16 0, .slice none 0 0] 25 (0, 0))) ∧ (w.heap.size ≤ s_.2.2.1) ∧ (w.heap.size ≤ s_.2.2.1) ∧ (gb413 ≠ s_.2.2.1) ∧ (s_.2.2.1 ≠ gb413) ∧ (s_.2.2.2 ≠ s_.2.2.1) ∧ (s_.2.2.1 ≠ s_.2.2.2) ∧ (w.heap.size ≤ s_.2.2.2) ∧ (w.heap.size ≤ s_.2.2.2) ∧ (gb413 ≠ s_.2.2.2) ∧ (s_.2.2.2 ≠ gb413) ∧ (Below w.heap.size w w')) ?_ ?_
      rotate_left
      ·intro hJ5_10_11
       refine join_ (σ := Value × Value × Nat) 4 #[true, true, true, true, true, true, true, true, true, true, true, false, false, false, false] (fun s_ => [(22, .tuple #[.agg #[s_.1, .bool t418], .agg #[.int .u16 t419, s_.2.1], .bool false]), (6, .pointer (some ⟨s_.2.2, 0, none⟩)), (16, .tuple #[.agg #[s_.1, .bool t418], .agg #[.int .u16 t419, s_.2.1], .bool false]), (23, .agg #[s_.1, .bool t418]), (24, .agg #[.int .u16 t419, s_.2.1]), (25, .bool false)]) (fun s_ w' => (w'.cell? ⟨gb413, 0, none⟩ = some (.slice Ao29 x414000_1.length co29) ∧ w'.cell? ⟨gb413, 1, none⟩ = some (.bool x414001_1) ∧ w'.cell? (ad414.add (x5_1).toNat) = some (.int .u8 (rd l0 x5_1))) ∧ (Kd.R (Kd.int .u8) 5 w' w.heap.size (fun k_ => (w.heap.size ≤ k_) ∧ some k_ ≠ (.slice Ao29 x414000_1.length co29 : Value).ownBlock) s_.1 t415) ∧ (Kd.V (Kd.int .u8) 5 w' w.heap.size (fun k_ => (w.heap.size ≤ k_) ∧ some k_ ≠ (s_.1 : Value).ownBlock ∧ some k_ ≠ (u3 : Value).ownBlock ∧ some k_ ≠ (.slice Ao29 x414000_1.length co29 : Value).ownBlock ∧ k_ ≠ gb413 ∧ k_ ≠ s_.2.2) s_.2.1 t420) ∧ (Kd.N k25 25 w' w.heap.size (fun k_ => (w.heap.size ≤ k_) ∧ some k_ ≠ (s_.1 : Value).ownBlock ∧ some k_ ≠ (.slice Ao29 x414000_1.length co29 : Value).ownBlock ∧ k_ ≠ gb413 ∧ k_ ≠ s_.2.2) u3 x3_1) ∧ (Kd.R (Kd.int .u8) 5 w' w.heap.size (fun k_ => (w.heap.size ≤ k_) ∧ some k_ ≠ (s_.1 : Value).ownBlock) (.slice Ao29 x414000_1.length co29) x414000_1) ∧ (w'.heap[gb413]? = some (.cells #[.slice Ao29 x414000_1.length co29, .bool x414001_1] 38 (0, 0))) ∧ (w'.heap[s_.2.2]? = some (.cells #[.slice none 0 0, .bool false] 38 (0, 0))) ∧ (w.heap.size ≤ s_.2.2) ∧ (w.heap.size ≤ s_.2.2) ∧ (gb413 ≠ s_.2.2) ∧ (s_.2.2 ≠ gb413) ∧ (Below w.heap.size w w')) ?_ ?_
       rotate_left
       ·intro hJ5_10
        refine join_ (σ := Value × Value × Nat) 4 #[true, true, true, true, true, true, true, true, true, true, false, true, false, false, false] (fun s_ => [(22, .tuple #[.agg #[s_.1, .bool t418], .agg #[.int .u16 t419, s_.2.1], .bool false]), (7, .pointer (some ⟨s_.2.2, 0, none⟩)), (16, .tuple #[.agg #[s_.1, .bool t418], .agg #[.int .u16 t419, s_.2.1], .bool false]), (23, .agg #[s_.1, .bool t418]), (24, .agg #[.int .u16 t419, s_.2.1]), (25, .bool false)]) (fun s_ w' => (w'.cell? ⟨gb413, 0, none⟩ = some (.slice Ao29 x414000_1.length co29) ∧ w'.cell? ⟨gb413, 1, none⟩ = some (.bool x414001_1) ∧ w'.cell? (ad414.add (x5_1).toNat) = some (.int .u8 (rd l0 x5_1))) ∧ (Kd.R (Kd.int .u8) 5 w' w.heap.size (fun k_ => (w.heap.size ≤ k_) ∧ some k_ ≠ (.slice Ao29 x414000_1.length co29 : Value).ownBlock) s_.1 t415) ∧ (Kd.V (Kd.int .u8) 5 w' w.heap.size (fun k_ => (w.heap.size ≤ k_) ∧ some k_ ≠ (s_.1 : Value).ownBlock ∧ some k_ ≠ (u3 : Value).ownBlock ∧ some k_ ≠ (.slice Ao29 x414000_1.length co29 : Value).ownBlock ∧ k_ ≠ gb413 ∧ k_ ≠ s_.2.2) s_.2.1 t420) ∧ (Kd.N k25 25 w' w.heap.size (fun k_ => (w.heap.size ≤ k_) ∧ some k_ ≠ (s_.1 : Value).ownBlock ∧ some k_ ≠ (.slice Ao29 x414000_1.length co29 : Value).ownBlock ∧ k_ ≠ gb413 ∧ k_ ≠ s_.2.2) u3 x3_1) ∧ (Kd.R (Kd.int .u8) 5 w' w.heap.size (fun k_ => (w.heap.size ≤ k_) ∧ some k_ ≠ (s_.1 : Value).ownBlock) (.slice Ao29 x414000_1.length co29) x414000_1) ∧ (w'.heap[gb413]? = some (.cells #[.slice Ao29 x414000_1.length co29, .bool x414001_1] 38 (0, 0))) ∧ (w'.heap[s_.2.2]? = some (.cells #[.int .u16 0, .slice none 0 0] 25 (0, 0))) ∧ (w.heap.size ≤ s_.2.2) ∧ (w.heap.size ≤ s_.2.2) ∧ (gb413 ≠ s_.2.2) ∧ (s_.2.2 ≠ gb413) ∧ (Below w.heap.size w w')) ?_ ?_
        rotate_left
        ·intro hJ5_11
         refine join_ (σ := Nat × Nat) 8 #[true, true, true, true, true, false, false, false, false, false, true, true, false, false, false] (fun s_ => [(6, .pointer (some ⟨s_.1, 0, none⟩)), (7, .pointer (some ⟨s_.2, 0, none⟩))]) (fun s_ w' => (w'.cell? ⟨gb413, 0, none⟩ = some (.slice Ao29 x414000_1.length co29) ∧ w'.cell? ⟨gb413, 1, none⟩ = some (.bool x414001_1) ∧ w'.cell? (ad414.add (x5_1).toNat) = some (.int .u8 (rd l0 x5_1))) ∧ (Kd.N k25 25 w' w.heap.size (fun k_ => (w.heap.size ≤ k_) ∧ some k_ ≠ (.slice Ao29 x414000_1.length co29 : Value).ownBlock ∧ k_ ≠ gb413 ∧ k_ ≠ s_.1 ∧ k_ ≠ s_.2) u3 x3_1) ∧ (Kd.R (Kd.int .u8) 5 w' w.heap.size (fun k_ => (w.heap.size ≤ k_)) (.slice Ao29 x414000_1.length co29) x414000_1) ∧ (w'.heap[gb413]? = some (.cells #[.slice Ao29 x414000_1.length co29, .bool x414001_1] 38 (0, 0))) ∧ (w'.heap[s_.1]? = some (.cells #[.slice none 0 0, .bool false] 38 (0, 0))) ∧ (w'.heap[s_.2]? = some (.cells #[.int .u16 0, .slice none 0 0] 25 (0, 0))) ∧ (w.heap.size ≤ s_.1) ∧ (w.heap.size ≤ s_.1) ∧ (gb413 ≠ s_.1) ∧ (s_.1 ≠ gb413) ∧ (s_.2 ≠ s_.1) ∧ (s_.1 ≠ s_.2) ∧ (w.heap.size ≤ s_.2) ∧ (w.heap.size ≤ s_.2) ∧ (gb413 ≠ s_.2) ∧ (s_.2 ≠ gb413) ∧ (Below w.heap.size w w')) ?_ ?_
         rotate_left
         ·intro hJ10_11
          refine join_ (σ := Value × Value) 5 #[true, true, true, true, true, true, true, true, true, true, false, false, false, false, false] (fun s_ => [(22, .tuple #[.agg #[s_.1, .bool t418], .agg #[.int .u16 t419, s_.2], .bool false]), (16, .tuple #[.agg #[s_.1, .bool t418], .agg #[.int .u16 t419, s_.2], .bool false]), (23, .agg #[s_.1, .bool t418]), (24, .agg #[.int .u16 t419, s_.2]), (25, .bool false)]) (fun s_ w' => (w'.cell? ⟨gb413, 0, none⟩ = some (.slice Ao29 x414000_1.length co29) ∧ w'.cell? ⟨gb413, 1, none⟩ = some (.bool x414001_1) ∧ w'.cell? (ad414.add (x5_1).toNat) = some (.int .u8 (rd l0 x5_1))) ∧ (Kd.R (Kd.int .u8) 5 w' w.heap.size (fun k_ => (w.heap.size ≤ k_) ∧ some k_ ≠ (.slice Ao29 x414000_1.length co29 : Value).ownBlock) s_.1 t415) ∧ (Kd.V (Kd.int .u8) 5 w' w.heap.size (fun k_ => (w.heap.size ≤ k_) ∧ some k_ ≠ (s_.1 : Value).ownBlock ∧ some k_ ≠ (u3 : Value).ownBlock ∧ some k_ ≠ (.slice Ao29 x414000_1.length co29 : Value).ownBlock ∧ k_ ≠ gb413) s_.2 t420) ∧ (Kd.N k25 25 w' w.heap.size (fun k_ => (w.heap.size ≤ k_) ∧ some k_ ≠ (s_.1 : Value).ownBlock ∧ some k_ ≠ (.slice Ao29 x414000_1.length co29 : Value).ownBlock ∧ k_ ≠ gb413) u3 x3_1) ∧ (Kd.R (Kd.int .u8) 5 w' w.heap.size (fun k_ => (w.heap.size ≤ k_) ∧ some k_ ≠ (s_.1 : Value).ownBlock) (.slice Ao29 x414000_1.length co29) x414000_1) ∧ (w'.heap[gb413]? = some (.cells #[.slice Ao29 x414000_1.length co29, .bool x414001_1] 38 (0, 0))) ∧ (Below w.heap.size w w')) ?_ ?_
          rotate_left
          ·intro hJ5
           refine join_ (σ := Nat) 9 #[true, true, true, true, true, false, false, false, false, false, true, false, false, false, false] (fun s_ => [(6, .pointer (some ⟨s_, 0, none⟩))]) (fun s_ w' => (w'.cell? ⟨gb413, 0, none⟩ = some (.slice Ao29 x414000_1.length co29) ∧ w'.cell? ⟨gb413, 1, none⟩ = some (.bool x414001_1) ∧ w'.cell? (ad414.add (x5_1).toNat) = some (.int .u8 (rd l0 x5_1))) ∧ (Kd.N k25 25 w' w.heap.size (fun k_ => (w.heap.size ≤ k_) ∧ some k_ ≠ (.slice Ao29 x414000_1.length co29 : Value).ownBlock ∧ k_ ≠ gb413 ∧ k_ ≠ s_) u3 x3_1) ∧ (Kd.R (Kd.int .u8) 5 w' w.heap.size (fun k_ => (w.heap.size ≤ k_)) (.slice Ao29 x414000_1.length co29) x414000_1) ∧ (w'.heap[gb413]? = some (.cells #[.slice Ao29 x414000_1.length co29, .bool x414001_1] 38 (0, 0))) ∧ (w'.heap[s_]? = some (.cells #[.slice none 0 0, .bool false] 38 (0, 0))) ∧ (w.heap.size ≤ s_) ∧ (w.heap.size ≤ s_) ∧ (gb413 ≠ s_) ∧ (s_ ≠ gb413) ∧ (Below w.heap.size w w')) ?_ ?_
           rotate_left
           ·intro hJ10
            refine join_ (σ := Nat) 9 #[true, true, true, true, true, false, false, false, false, false, false, true, false, false, false] (fun s_ => [(7, .pointer (some ⟨s_, 0, none⟩))]) (fun s_ w' => (w'.cell? ⟨gb413, 0, none⟩ = some (.slice Ao29 x414000_1.length co29) ∧ w'.cell? ⟨gb413, 1, none⟩ = some (.bool x414001_1) ∧ w'.cell? (ad414.add (x5_1).toNat) = some (.int .u8 (rd l0 x5_1))) ∧ (Kd.N k25 25 w' w.heap.size (fun k_ => (w.heap.size ≤ k_) ∧ some k_ ≠ (.slice Ao29 x414000_1.length co29 : Value).ownBlock ∧ k_ ≠ gb413 ∧ k_ ≠ s_) u3 x3_1) ∧ (Kd.R (Kd.int .u8) 5 w' w.heap.size (fun k_ => (w.heap.size ≤ k_)) (.slice Ao29 x414000_1.length co29) x414000_1) ∧ (w'.heap[gb413]? = some (.cells #[.slice Ao29 x414000_1.length co29, .bool x414001_1] 38 (0, 0))) ∧ (w'.heap[s_]? = some (.cells #[.int .u16 0, .slice none 0 0] 25 (0, 0))) ∧ (w.heap.size ≤ s_) ∧ (w.heap.size ≤ s_) ∧ (gb413 ≠ s_) ∧ (s_ ≠ gb413) ∧ (Below w.heap.size w w')) ?_ ?_
            rotate_left
            ·intro hJ11
             refine three_ (i := 5) (j := 10) (k := 11) (Ni := some 22) (Nj := some 6) (Nk := some 7) #[true, true, true, true, true, true, false, false, false, false, false, false, false, false, false] #[true, true, true, true, true, false, false, false, false, false, true, false, false, false, false] #[true, true, true, true, true, false, false, false, false, false, false, true, false, false, false] rfl rfl rfl rfl rfl rfl (three_of HT_.out (by kernel_rfl)) (by decide) (by decide) (by decide) (fun K hK => ?_) (fun K hK => ?_) (fun K hK => ?_)
             ·skip
              refine goes_ Try.func15 (by kernel_rfl) rfl #[.agg #[.slice Ao29 x414000_1.length co29, .bool x414001_1], .int .u8 (rd l0 x5_1)] (by rfl) rfl rfl (by (try simp only [List.map_toArray, List.map_cons, List.map_nil]); first | done | rfl | (simp only [List.length_drop, List.length_take]; rfl)) ?_
              with_reducible refine (frame_Take.calls k1 _ _ x414000_1 x414001_1 (rd l0 x5_1) t415 t418 t419 t420 false _ ?side1 ?side2 A6.out).mono ?_
              (case side1 => repeat (first | exact (Kd.R_reads' HO_414000.out).2.2 | (with_reducible refine Kd.C_alloc ?_ _) | (with_reducible refine Kd.C_drewN ?_ _) | (with_reducible refine Kd.C_drew ?_)))
              (case side2 => exact (Kd.R_reads' HO_414000.out).2.1)
              rintro e w31 ⟨v416, v421, rfl, ho0, ho1, hb⟩
              refine ⟨_, rfl, ?_⟩
              have n0_ := Aside0.mk (Kd.N_elder' (zN HO_3.out) (Kd.R_base ho0) hb)
              have n1_ := Aside0.mk (Kd.R_elder' (zR HO_414000.out) (Kd.R_base ho0) hb)
              have n2_ := Aside0.mk (Kd.R_lower (Kd.R_new' (Kd.R_newM (M := fun k_ => (w.heap.size ≤ k_)) (Kd.R_mono (ok' := fun k_ => True) ho0 (fun _ hk_ => trivial)) (below_size (by repeat (first | (with_reducible first | exact HB.out | apply pA | apply pN | apply pD | refine pS ?_ GE413.out) | exact HB.out))) (fun k_ h_ => h_)) (Kd.R_lt (zR HO_414000.out))) (below_size (by repeat (first | (with_reducible first | exact HB.out | apply pA | apply pN | apply pD | refine pS ?_ GE413.out) | exact HB.out))))
              have n3_ := Aside0.mk (Kd.V_lower (Kd.V_mono (ok' := fun k_ => (w.heap.size ≤ k_) ∧ some k_ ≠ (v416 : Value).ownBlock ∧ some k_ ≠ (u3 : Value).ownBlock ∧ some k_ ≠ (.slice Ao29 x414000_1.length co29 : Value).ownBlock ∧ k_ ≠ gb413) ho1 (fun k_ hk_ => ⟨(Nat.le_trans (below_size (by repeat (first | (with_reducible first | exact HB.out | apply pA | apply pN | apply pD | refine pS ?_ GE413.out) | exact HB.out))) hk_.1), hk_.2, (Kd.fresh' (Kd.N_lt (zN HO_3.out)) k_ hk_.1), (Kd.fresh' (Kd.R_lt (zR HO_414000.out)) k_ hk_.1), (Kd.freshB (g := gb413) (o := .cells #[.slice Ao29 x414000_1.length co29, .bool x414001_1] 38 (0, 0)) (zB BK413.out) k_ hk_.1)⟩)) (below_size (by repeat (first | (with_reducible first | exact HB.out | apply pA | apply pN | apply pD | refine pS ?_ GE413.out) | exact HB.out))))
              have n4_ := Aside0.mk (blk_below (g := gb413) (o := .cells #[.slice Ao29 x414000_1.length co29, .bool x414001_1] 38 (0, 0)) (zB BK413.out) hb)
              have n5_ := Aside0.mk (below_step (by repeat (first | (with_reducible first | exact HB.out | apply pA | apply pN | apply pD | refine pS ?_ GE413.out) | exact HB.out)) hb)
              clear HO_3
              clear HO_414000
              clear BK413
              clear HB
              have HO_3 := n0_
              have HO_414000 := n1_
              have HO417 := n2_
              have HO422 := n3_
              have BK413 := n4_
              have HB := n5_
              clear n0_ n1_ n2_ n3_ n4_ n5_
              (try clear hb)
              (try clear hb2)
              (try clear hk)
              (try clear hi)
              (try clear ho0)
              (try clear ho1)
              refine hK.out _ _ ⟨(blk_cell BK413.out 0).trans rfl, (blk_cell BK413.out 1).trans rfl, ((HB.out.cell (World.block_lt_of_cell? w _ hw414_0)).trans hw414_0)⟩ (fun hHeld => ?_)
              clear hK K
              refine norm_ (a' := ?_) ?_ ?_
              rotate_left
              ·show Act.put _ (some 22) _ = _
               simp only [Act.put, sT, s0, s1, i64_w, i32_w]
               rfl
              refine pure_ (i := 6) (N := some 16) (v := ?_) (a' := ?_) #[true, true, true, true, true, true, true, false, false, false, false, false, false, false, false] rfl rfl (any_of HT_.out (by kernel_rfl)) (fun _ _ _ h => h) (Or.inl ⟨by rfl, ?_⟩) ?_ ?_
              rotate_left
              ·intro w'
               go_simp
               with_reducible rfl
              rotate_left
              ·simp only [Act.put, sT, s0, s1, i64_w, i32_w]
               rfl
              refine pure_ (i := 7) (N := some 23) (v := ?_) (a' := ?_) #[true, true, true, true, true, true, true, true, false, false, false, false, false, false, false] rfl rfl (any_of HT_.out (by kernel_rfl)) (fun _ _ _ h => h) (Or.inl ⟨by rfl, ?_⟩) ?_ ?_
              rotate_left
              ·intro w'
               go_simp
               with_reducible rfl
              rotate_left
              ·simp only [Act.put, sT, s0, s1, i64_w, i32_w]
               rfl
              refine pure_ (i := 8) (N := some 24) (v := ?_) (a' := ?_) #[true, true, true, true, true, true, true, true, true, false, false, false, false, false, false] rfl rfl (any_of HT_.out (by kernel_rfl)) (fun _ _ _ h => h) (Or.inl ⟨by rfl, ?_⟩) ?_ ?_
              rotate_left
              ·intro w'
               go_simp
               with_reducible rfl
              rotate_left
              ·simp only [Act.put, sT, s0, s1, i64_w, i32_w]
               rfl
              refine pure_ (i := 9) (N := some 25) (v := ?_) (a' := ?_) #[true, true, true, true, true, true, true, true, true, true, false, false, false, false, false] rfl rfl (any_of HT_.out (by kernel_rfl)) (fun _ _ _ h => h) (Or.inl ⟨by rfl, ?_⟩) ?_ ?_
              rotate_left
              ·intro w'
               go_simp
               with_reducible rfl
              rotate_left
              ·simp only [Act.put, sT, s0, s1, i64_w, i32_w]
               rfl
              exact norm_ (by first | (simp only [putAll, Act.put, sT, s0, s1]; done) | (simp only [putAll, Act.put, sT, s0, s1]; rfl)) (hJ5 (v416, v421) _ ⟨hHeld, (zR (Kd.R_mono HO417.out (fun _ hk => ⟨hk.1.1, hk.2⟩))), (zV HO422.out), (zN (Kd.N_mono HO_3.out (fun _ hk => ⟨hk.1.1, ⟨hk.2, ⟨hk.1.2.1, hk.1.2.2⟩⟩⟩))), (zR HO_414000.out), (zB BK413.out), (by repeat (first | (with_reducible first | exact HB.out | apply pA | apply pN | apply pD | refine pS ?_ GE413.out) | exact HB.out))⟩)
             ·skip
              refine box_step ?hg (N := 6) ?hd (cs := #[.slice none 0 0, .bool false]) (t := 38) ?hr ?_; (case hd => rfl); (case hg => rfl); (case hr => first | (go_simp; done) | (go_simp; rfl))
              intro gb424 hg w31 hbox hb
              have n0_ := Aside0.mk (Kd.N_below (Kd.N_elderB (zN HO_3.out) gb424 (Nat.le_of_eq hg.symm)) hb)
              have n1_ := Aside0.mk (Kd.R_below (zR HO_414000.out) hb)
              have n2_ := Aside0.mk (blk_below (g := gb413) (o := .cells #[.slice Ao29 x414000_1.length co29, .bool x414001_1] 38 (0, 0)) (zB BK413.out) hb)
              have n3_ := Aside0.mk (below_step (by repeat (first | (with_reducible first | exact HB.out | apply pA | apply pN | apply pD | refine pS ?_ GE413.out) | exact HB.out)) hb)
              have n4_ := Aside0.mk (hbox)
              have n5_ := Aside0.mk ((by rw [hg]; exact (below_size (by repeat (first | (with_reducible first | exact HB.out | apply pA | apply pN | apply pD | refine pS ?_ GE413.out) | exact HB.out))) : w.heap.size ≤ gb424))
              have n6_ := Aside0.mk ((by rw [hg]; exact (below_size (by repeat (first | (with_reducible first | exact HB.out | apply pA | apply pN | apply pD | refine pS ?_ GE413.out) | exact HB.out))) : w.heap.size ≤ gb424))
              have n7_ := Aside0.mk ((by rw [hg]; exact Nat.ne_of_lt (blk_lt (g := gb413) (o := .cells #[.slice Ao29 x414000_1.length co29, .bool x414001_1] 38 (0, 0)) (zB BK413.out)) : gb413 ≠ gb424))
              have n8_ := Aside0.mk ((by rw [hg]; exact Nat.ne_of_gt (blk_lt (g := gb413) (o := .cells #[.slice Ao29 x414000_1.length co29, .bool x414001_1] 38 (0, 0)) (zB BK413.out)) : gb424 ≠ gb413))
              clear HO_3
              clear HO_414000
              clear BK413
              clear HB
              have HO_3 := n0_
              have HO_414000 := n1_
              have BK413 := n2_
              have HB := n3_
              have BK424 := n4_
              have GW424 := n5_
              have GE424 := n6_
              have NB413_424 := n7_
              have NB424_413 := n8_
              clear n0_ n1_ n2_ n3_ n4_ n5_ n6_ n7_ n8_
              clear hb hbox hg
              refine hK.out _ _ ⟨(blk_cell BK413.out 0).trans rfl, (blk_cell BK413.out 1).trans rfl, ((HB.out.cell (World.block_lt_of_cell? w _ hw414_0)).trans hw414_0)⟩ (fun hHeld => ?_)
              clear hK K
              refine norm_ (a' := ?_) ?_ ?_
              rotate_left
              ·show Act.put _ (some 6) _ = _
               simp only [Act.put, sT, s0, s1, i64_w, i32_w]
               rfl
              exact norm_ (by first | (simp only [putAll, Act.put, sT, s0, s1]; done) | (simp only [putAll, Act.put, sT, s0, s1]; rfl)) (hJ10 (gb424) _ ⟨hHeld, (zN (Kd.N_mono HO_3.out (fun _ hk => ⟨hk.1.1, ⟨hk.1.2.1, ⟨hk.1.2.2, hk.2⟩⟩⟩))), (zR HO_414000.out), (zB BK413.out), (zB BK424.out), GW424.out, GE424.out, NB413_424.out, NB424_413.out, (by repeat (first | (with_reducible first | exact HB.out | apply pA | apply pN | apply pD | refine pS ?_ GE413.out | refine pS ?_ GE424.out) | exact HB.out))⟩)
             ·skip
              refine box_step ?hg (N := 7) ?hd (cs := #[.int .u16 0, .slice none 0 0]) (t := 25) ?hr ?_; (case hd => rfl); (case hg => rfl); (case hr => first | (go_simp; done) | (go_simp; rfl))
              intro gb425 hg w31 hbox hb
              have n0_ := Aside0.mk (Kd.N_below (Kd.N_elderB (zN HO_3.out) gb425 (Nat.le_of_eq hg.symm)) hb)
              have n1_ := Aside0.mk (Kd.R_below (zR HO_414000.out) hb)
              have n2_ := Aside0.mk (blk_below (g := gb413) (o := .cells #[.slice Ao29 x414000_1.length co29, .bool x414001_1] 38 (0, 0)) (zB BK413.out) hb)
              have n3_ := Aside0.mk (below_step (by repeat (first | (with_reducible first | exact HB.out | apply pA | apply pN | apply pD | refine pS ?_ GE413.out) | exact HB.out)) hb)
              have n4_ := Aside0.mk (hbox)
              have n5_ := Aside0.mk ((by rw [hg]; exact (below_size (by repeat (first | (with_reducible first | exact HB.out | apply pA | apply pN | apply pD | refine pS ?_ GE413.out) | exact HB.out))) : w.heap.size ≤ gb425))
              have n6_ := Aside0.mk ((by rw [hg]; exact (below_size (by repeat (first | (with_reducible first | exact HB.out | apply pA | apply pN | apply pD | refine pS ?_ GE413.out) | exact HB.out))) : w.heap.size ≤ gb425))
              have n7_ := Aside0.mk ((by rw [hg]; exact Nat.ne_of_lt (blk_lt (g := gb413) (o := .cells #[.slice Ao29 x414000_1.length co29, .bool x414001_1] 38 (0, 0)) (zB BK413.out)) : gb413 ≠ gb425))
              have n8_ := Aside0.mk ((by rw [hg]; exact Nat.ne_of_gt (blk_lt (g := gb413) (o := .cells #[.slice Ao29 x414000_1.length co29, .bool x414001_1] 38 (0, 0)) (zB BK413.out)) : gb425 ≠ gb413))
              clear HO_3
              clear HO_414000
              clear BK413
              clear HB
              have HO_3 := n0_
              have HO_414000 := n1_
              have BK413 := n2_
              have HB := n3_
              have BK425 := n4_
              have GW425 := n5_
              have GE425 := n6_
              have NB413_425 := n7_
              have NB425_413 := n8_
              clear n0_ n1_ n2_ n3_ n4_ n5_ n6_ n7_ n8_
              clear hb hbox hg
              refine hK.out _ _ ⟨(blk_cell BK413.out 0).trans rfl, (blk_cell BK413.out 1).trans rfl, ((HB.out.cell (World.block_lt_of_cell? w _ hw414_0)).trans hw414_0)⟩ (fun hHeld => ?_)
              clear hK K
              refine norm_ (a' := ?_) ?_ ?_
              rotate_left
              ·show Act.put _ (some 7) _ = _
               simp only [Act.put, sT, s0, s1, i64_w, i32_w]
               rfl
              exact norm_ (by first | (simp only [putAll, Act.put, sT, s0, s1]; done) | (simp only [putAll, Act.put, sT, s0, s1]; rfl)) (hJ11 (gb425) _ ⟨hHeld, (zN (Kd.N_mono HO_3.out (fun _ hk => ⟨hk.1.1, ⟨hk.1.2.1, ⟨hk.1.2.2, hk.2⟩⟩⟩))), (zR HO_414000.out), (zB BK413.out), (zB BK425.out), GW425.out, GE425.out, NB413_425.out, NB425_413.out, (by repeat (first | (with_reducible first | exact HB.out | apply pA | apply pN | apply pD | refine pS ?_ GE413.out | refine pS ?_ GE425.out) | exact HB.out))⟩)
            ·skip
             rintro gb425 w32 ⟨hS_, h0_, h1_, h2_, h3_, h4_, h5_, h6_, h7_, h8_⟩
             have n0_ : Aside0 (Kd.N k25 25 w32 w.heap.size (fun k_ => (w.heap.size ≤ k_) ∧ some k_ ≠ (.slice Ao29 x414000_1.length co29 : Value).ownBlock ∧ k_ ≠ gb413 ∧ k_ ≠ gb425) u3 x3_1) := ⟨h0_⟩
             have n1_ : Aside0 (Kd.R (Kd.int .u8) 5 w32 w.heap.size (fun k_ => (w.heap.size ≤ k_)) (.slice Ao29 x414000_1.length co29) x414000_1) := ⟨h1_⟩
             have n2_ : Aside0 (w32.heap[gb413]? = some (.cells #[.slice Ao29 x414000_1.length co29, .bool x414001_1] 38 (0, 0))) := ⟨h2_⟩
             have n3_ : Aside0 (w32.heap[gb425]? = some (.cells #[.int .u16 0, .slice none 0 0] 25 (0, 0))) := ⟨h3_⟩
             have n4_ : Aside0 (w.heap.size ≤ gb425) := ⟨h4_⟩
             have n5_ : Aside0 (w.heap.size ≤ gb425) := ⟨h5_⟩
             have n6_ : Aside0 (gb413 ≠ gb425) := ⟨h6_⟩
             have n7_ : Aside0 (gb425 ≠ gb413) := ⟨h7_⟩
             have n8_ : Aside0 (Below w.heap.size w w32) := ⟨h8_⟩
             clear HO_3
             clear HO_414000
             clear BK413
             clear HB
             clear h0_ h1_ h2_ h3_ h4_ h5_ h6_ h7_ h8_
             have HO_3 := n0_
             have HO_414000 := n1_
             have BK413 := n2_
             have BK425 := n3_
             have GW425 := n4_
             have GE425 := n5_
             have NB413_425 := n6_
             have NB425_413 := n7_
             have HB := n8_
             clear n0_ n1_ n2_ n3_ n4_ n5_ n6_ n7_ n8_
             have hHeld : w32.cell? ⟨gb413, 0, none⟩ = some (.slice Ao29 x414000_1.length co29) ∧ w32.cell? ⟨gb413, 1, none⟩ = some (.bool x414001_1) ∧ w32.cell? (ad414.add (x5_1).toNat) = some (.int .u8 (rd l0 x5_1)) := hS_
             refine norm_ (a' := ?_) ?_ ?_
             rotate_left
             ·simp only [putAll, Act.put, sT, s0, s1]
              rfl
             refine two_ (i := 5) (j := 10) (Ni := some 22) (Nj := some 6) #[true, true, true, true, true, true, false, false, false, false, false, true, false, false, false] #[true, true, true, true, true, false, false, false, false, false, true, true, false, false, false] rfl rfl rfl rfl (two_of HT_.out (by kernel_rfl)) (by decide) (by decide) (fun K hK => ?_) (fun K hK => ?_)
             ·skip
              refine goes_ Try.func15 (by kernel_rfl) rfl #[.agg #[.slice Ao29 x414000_1.length co29, .bool x414001_1], .int .u8 (rd l0 x5_1)] (by rfl) rfl rfl (by (try simp only [List.map_toArray, List.map_cons, List.map_nil]); first | done | rfl | (simp only [List.length_drop, List.length_take]; rfl)) ?_
              with_reducible refine (frame_Take.calls k1 _ _ x414000_1 x414001_1 (rd l0 x5_1) t415 t418 t419 t420 false _ ?side1 ?side2 A6.out).mono ?_
              (case side1 => repeat (first | exact (Kd.R_reads' HO_414000.out).2.2 | (with_reducible refine Kd.C_alloc ?_ _) | (with_reducible refine Kd.C_drewN ?_ _) | (with_reducible refine Kd.C_drew ?_)))
              (case side2 => exact (Kd.R_reads' HO_414000.out).2.1)
              rintro e w33 ⟨v416, v421, rfl, ho0, ho1, hb⟩
              refine ⟨_, rfl, ?_⟩
              have n0_ := Aside0.mk (Kd.N_elder' (zN HO_3.out) (Kd.R_base ho0) hb)
              have n1_ := Aside0.mk (Kd.R_elder' (zR HO_414000.out) (Kd.R_base ho0) hb)
              have n2_ := Aside0.mk (Kd.R_lower (Kd.R_new' (Kd.R_newM (M := fun k_ => (w.heap.size ≤ k_)) (Kd.R_mono (ok' := fun k_ => True) ho0 (fun _ hk_ => trivial)) (below_size (by repeat (first | (with_reducible first | exact HB.out | apply pA | apply pN | apply pD | refine pS ?_ GE413.out | refine pS ?_ GE425.out) | exact HB.out))) (fun k_ h_ => h_)) (Kd.R_lt (zR HO_414000.out))) (below_size (by repeat (first | (with_reducible first | exact HB.out | apply pA | apply pN | apply pD | refine pS ?_ GE413.out | refine pS ?_ GE425.out) | exact HB.out))))
              have n3_ := Aside0.mk (Kd.V_lower (Kd.V_mono (ok' := fun k_ => (w.heap.size ≤ k_) ∧ some k_ ≠ (v416 : Value).ownBlock ∧ some k_ ≠ (u3 : Value).ownBlock ∧ some k_ ≠ (.slice Ao29 x414000_1.length co29 : Value).ownBlock ∧ k_ ≠ gb413 ∧ k_ ≠ gb425) ho1 (fun k_ hk_ => ⟨(Nat.le_trans (below_size (by repeat (first | (with_reducible first | exact HB.out | apply pA | apply pN | apply pD | refine pS ?_ GE413.out | refine pS ?_ GE425.out) | exact HB.out))) hk_.1), hk_.2, (Kd.fresh' (Kd.N_lt (zN HO_3.out)) k_ hk_.1), (Kd.fresh' (Kd.R_lt (zR HO_414000.out)) k_ hk_.1), (Kd.freshB (g := gb413) (o := .cells #[.slice Ao29 x414000_1.length co29, .bool x414001_1] 38 (0, 0)) (zB BK413.out) k_ hk_.1), (Kd.freshB (g := gb425) (o := .cells #[.int .u16 0, .slice none 0 0] 25 (0, 0)) (zB BK425.out) k_ hk_.1)⟩)) (below_size (by repeat (first | (with_reducible first | exact HB.out | apply pA | apply pN | apply pD | refine pS ?_ GE413.out | refine pS ?_ GE425.out) | exact HB.out))))
              have n4_ := Aside0.mk (blk_below (g := gb413) (o := .cells #[.slice Ao29 x414000_1.length co29, .bool x414001_1] 38 (0, 0)) (zB BK413.out) hb)
              have n5_ := Aside0.mk (blk_below (g := gb425) (o := .cells #[.int .u16 0, .slice none 0 0] 25 (0, 0)) (zB BK425.out) hb)
              have n6_ := Aside0.mk (below_step (by repeat (first | (with_reducible first | exact HB.out | apply pA | apply pN | apply pD | refine pS ?_ GE413.out | refine pS ?_ GE425.out) | exact HB.out)) hb)
              clear HO_3
              clear HO_414000
              clear BK413
              clear BK425
              clear HB
              have HO_3 := n0_
              have HO_414000 := n1_
              have HO417 := n2_
              have HO422 := n3_
              have BK413 := n4_
              have BK425 := n5_
              have HB := n6_
              clear n0_ n1_ n2_ n3_ n4_ n5_ n6_
              (try clear hb)
              (try clear hb2)
              (try clear hk)
              (try clear hi)
              (try clear ho0)
              (try clear ho1)
              refine hK.out _ _ ⟨(blk_cell BK413.out 0).trans rfl, (blk_cell BK413.out 1).trans rfl, ((HB.out.cell (World.block_lt_of_cell? w _ hw414_0)).trans hw414_0)⟩ (fun hHeld => ?_)
              clear hK K
              refine norm_ (a' := ?_) ?_ ?_
              rotate_left
              ·show Act.put _ (some 22) _ = _
               simp only [Act.put, sT, s0, s1, i64_w, i32_w]
               rfl
              refine pure_ (i := 6) (N := some 16) (v := ?_) (a' := ?_) #[true, true, true, true, true, true, true, false, false, false, false, true, false, false, false] rfl rfl (any_of HT_.out (by kernel_rfl)) (fun _ _ _ h => h) (Or.inl ⟨by rfl, ?_⟩) ?_ ?_
              rotate_left
              ·intro w'
               go_simp
               with_reducible rfl
              rotate_left
              ·simp only [Act.put, sT, s0, s1, i64_w, i32_w]
               rfl
              refine pure_ (i := 7) (N := some 23) (v := ?_) (a' := ?_) #[true, true, true, true, true, true, true, true, false, false, false, true, false, false, false] rfl rfl (any_of HT_.out (by kernel_rfl)) (fun _ _ _ h => h) (Or.inl ⟨by rfl, ?_⟩) ?_ ?_
              rotate_left
              ·intro w'
               go_simp
               with_reducible rfl
              rotate_left
              ·simp only [Act.put, sT, s0, s1, i64_w, i32_w]
               rfl
              refine pure_ (i := 8) (N := some 24) (v := ?_) (a' := ?_) #[true, true, true, true, true, true, true, true, true, false, false, true, false, false, false] rfl rfl (any_of HT_.out (by kernel_rfl)) (fun _ _ _ h => h) (Or.inl ⟨by rfl, ?_⟩) ?_ ?_
              rotate_left
              ·intro w'
               go_simp
               with_reducible rfl
              rotate_left
              ·simp only [Act.put, sT, s0, s1, i64_w, i32_w]
               rfl
              refine pure_ (i := 9) (N := some 25) (v := ?_) (a' := ?_) #[true, true, true, true, true, true, true, true, true, true, false, true, false, false, false] rfl rfl (any_of HT_.out (by kernel_rfl)) (fun _ _ _ h => h) (Or.inl ⟨by rfl, ?_⟩) ?_ ?_
              rotate_left
              ·intro w'
               go_simp
               with_reducible rfl
              rotate_left
              ·simp only [Act.put, sT, s0, s1, i64_w, i32_w]
               rfl
              exact norm_ (by first | (simp only [putAll, Act.put, sT, s0, s1]; done) | (simp only [putAll, Act.put, sT, s0, s1]; rfl)) (hJ5_11 (v416, v421, gb425) _ ⟨hHeld, (zR (Kd.R_mono HO417.out (fun _ hk => ⟨hk.1.1, hk.2⟩))), (zV HO422.out), (zN (Kd.N_mono HO_3.out (fun _ hk => ⟨hk.1.1, ⟨hk.2, ⟨hk.1.2.1, ⟨hk.1.2.2.1, hk.1.2.2.2⟩⟩⟩⟩))), (zR HO_414000.out), (zB BK413.out), (zB BK425.out), GW425.out, GE425.out, NB413_425.out, NB425_413.out, (by repeat (first | (with_reducible first | exact HB.out | apply pA | apply pN | apply pD | refine pS ?_ GE413.out | refine pS ?_ GE425.out) | exact HB.out))⟩)
             ·skip
              refine box_step ?hg (N := 6) ?hd (cs := #[.slice none 0 0, .bool false]) (t := 38) ?hr ?_; (case hd => rfl); (case hg => rfl); (case hr => first | (go_simp; done) | (go_simp; rfl))
              intro gb424 hg w33 hbox hb
              have n0_ := Aside0.mk (Kd.N_below (Kd.N_elderB (zN HO_3.out) gb424 (Nat.le_of_eq hg.symm)) hb)
              have n1_ := Aside0.mk (Kd.R_below (zR HO_414000.out) hb)
              have n2_ := Aside0.mk (blk_below (g := gb413) (o := .cells #[.slice Ao29 x414000_1.length co29, .bool x414001_1] 38 (0, 0)) (zB BK413.out) hb)
              have n3_ := Aside0.mk (blk_below (g := gb425) (o := .cells #[.int .u16 0, .slice none 0 0] 25 (0, 0)) (zB BK425.out) hb)
              have n4_ := Aside0.mk (below_step (by repeat (first | (with_reducible first | exact HB.out | apply pA | apply pN | apply pD | refine pS ?_ GE413.out | refine pS ?_ GE425.out) | exact HB.out)) hb)
              have n5_ := Aside0.mk (hbox)
              have n6_ := Aside0.mk ((by rw [hg]; exact (below_size (by repeat (first | (with_reducible first | exact HB.out | apply pA | apply pN | apply pD | refine pS ?_ GE413.out | refine pS ?_ GE425.out) | exact HB.out))) : w.heap.size ≤ gb424))
              have n7_ := Aside0.mk ((by rw [hg]; exact (below_size (by repeat (first | (with_reducible first | exact HB.out | apply pA | apply pN | apply pD | refine pS ?_ GE413.out | refine pS ?_ GE425.out) | exact HB.out))) : w.heap.size ≤ gb424))
              have n8_ := Aside0.mk ((by rw [hg]; exact Nat.ne_of_lt (blk_lt (g := gb413) (o := .cells #[.slice Ao29 x414000_1.length co29, .bool x414001_1] 38 (0, 0)) (zB BK413.out)) : gb413 ≠ gb424))
              have n9_ := Aside0.mk ((by rw [hg]; exact Nat.ne_of_gt (blk_lt (g := gb413) (o := .cells #[.slice Ao29 x414000_1.length co29, .bool x414001_1] 38 (0, 0)) (zB BK413.out)) : gb424 ≠ gb413))
              have n10_ := Aside0.mk ((by rw [hg]; exact Nat.ne_of_lt (blk_lt (g := gb425) (o := .cells #[.int .u16 0, .slice none 0 0] 25 (0, 0)) (zB BK425.out)) : gb425 ≠ gb424))
              have n11_ := Aside0.mk ((by rw [hg]; exact Nat.ne_of_gt (blk_lt (g := gb425) (o := .cells #[.int .u16 0, .slice none 0 0] 25 (0, 0)) (zB BK425.out)) : gb424 ≠ gb425))
              clear HO_3
              clear HO_414000
              clear BK413
              clear BK425
              clear HB
              have HO_3 := n0_
              have HO_414000 := n1_
              have BK413 := n2_
              have BK425 := n3_
              have HB := n4_
              have BK424 := n5_
              have GW424 := n6_
              have GE424 := n7_
              have NB413_424 := n8_
              have NB424_413 := n9_
              have NB425_424 := n10_
              have NB424_425 := n11_
              clear n0_ n1_ n2_ n3_ n4_ n5_ n6_ n7_ n8_ n9_ n10_ n11_
              clear hb hbox hg
              refine hK.out _ _ ⟨(blk_cell BK413.out 0).trans rfl, (blk_cell BK413.out 1).trans rfl, ((HB.out.cell (World.block_lt_of_cell? w _ hw414_0)).trans hw414_0)⟩ (fun hHeld => ?_)
              clear hK K
              refine norm_ (a' := ?_) ?_ ?_
              rotate_left
              ·show Act.put _ (some 6) _ = _
               simp only [Act.put, sT, s0, s1, i64_w, i32_w]
               rfl
              exact norm_ (by first | (simp only [putAll, Act.put, sT, s0, s1]; done) | (simp only [putAll, Act.put, sT, s0, s1]; rfl)) (hJ10_11 (gb424, gb425) _ ⟨hHeld, (zN (Kd.N_mono HO_3.out (fun _ hk => ⟨hk.1.1, ⟨hk.1.2.1, ⟨hk.1.2.2.1, ⟨hk.2, hk.1.2.2.2⟩⟩⟩⟩))), (zR HO_414000.out), (zB BK413.out), (zB BK424.out), (zB BK425.out), GW424.out, GE424.out, NB413_424.out, NB424_413.out, NB425_424.out, NB424_425.out, GW425.out, GE425.out, NB413_425.out, NB425_413.out, (by repeat (first | (with_reducible first | exact HB.out | apply pA | apply pN | apply pD | refine pS ?_ GE413.out | refine pS ?_ GE425.out | refine pS ?_ GE424.out) | exact HB.out))⟩)
           ·skip
            rintro gb424 w32 ⟨hS_, h0_, h1_, h2_, h3_, h4_, h5_, h6_, h7_, h8_⟩
            have n0_ : Aside0 (Kd.N k25 25 w32 w.heap.size (fun k_ => (w.heap.size ≤ k_) ∧ some k_ ≠ (.slice Ao29 x414000_1.length co29 : Value).ownBlock ∧ k_ ≠ gb413 ∧ k_ ≠ gb424) u3 x3_1) := ⟨h0_⟩
            have n1_ : Aside0 (Kd.R (Kd.int .u8) 5 w32 w.heap.size (fun k_ => (w.heap.size ≤ k_)) (.slice Ao29 x414000_1.length co29) x414000_1) := ⟨h1_⟩
            have n2_ : Aside0 (w32.heap[gb413]? = some (.cells #[.slice Ao29 x414000_1.length co29, .bool x414001_1] 38 (0, 0))) := ⟨h2_⟩
            have n3_ : Aside0 (w32.heap[gb424]? = some (.cells #[.slice none 0 0, .bool false] 38 (0, 0))) := ⟨h3_⟩
            have n4_ : Aside0 (w.heap.size ≤ gb424) := ⟨h4_⟩
            have n5_ : Aside0 (w.heap.size ≤ gb424) := ⟨h5_⟩
            have n6_ : Aside0 (gb413 ≠ gb424) := ⟨h6_⟩
            have n7_ : Aside0 (gb424 ≠ gb413) := ⟨h7_⟩
            have n8_ : Aside0 (Below w.heap.size w w32) := ⟨h8_⟩
            clear HO_3
            clear HO_414000
            clear BK413
            clear HB
            clear h0_ h1_ h2_ h3_ h4_ h5_ h6_ h7_ h8_
            have HO_3 := n0_
            have HO_414000 := n1_
            have BK413 := n2_
            have BK424 := n3_
            have GW424 := n4_
            have GE424 := n5_
            have NB413_424 := n6_
            have NB424_413 := n7_
            have HB := n8_
            clear n0_ n1_ n2_ n3_ n4_ n5_ n6_ n7_ n8_
            have hHeld : w32.cell? ⟨gb413, 0, none⟩ = some (.slice Ao29 x414000_1.length co29) ∧ w32.cell? ⟨gb413, 1, none⟩ = some (.bool x414001_1) ∧ w32.cell? (ad414.add (x5_1).toNat) = some (.int .u8 (rd l0 x5_1)) := hS_
            refine norm_ (a' := ?_) ?_ ?_
            rotate_left
            ·simp only [putAll, Act.put, sT, s0, s1]
             rfl
            refine two_ (i := 5) (j := 11) (Ni := some 22) (Nj := some 7) #[true, true, true, true, true, true, false, false, false, false, true, false, false, false, false] #[true, true, true, true, true, false, false, false, false, false, true, true, false, false, false] rfl rfl rfl rfl (two_of HT_.out (by kernel_rfl)) (by decide) (by decide) (fun K hK => ?_) (fun K hK => ?_)
            ·skip
             refine goes_ Try.func15 (by kernel_rfl) rfl #[.agg #[.slice Ao29 x414000_1.length co29, .bool x414001_1], .int .u8 (rd l0 x5_1)] (by rfl) rfl rfl (by (try simp only [List.map_toArray, List.map_cons, List.map_nil]); first | done | rfl | (simp only [List.length_drop, List.length_take]; rfl)) ?_
             with_reducible refine (frame_Take.calls k1 _ _ x414000_1 x414001_1 (rd l0 x5_1) t415 t418 t419 t420 false _ ?side1 ?side2 A6.out).mono ?_
             (case side1 => repeat (first | exact (Kd.R_reads' HO_414000.out).2.2 | (with_reducible refine Kd.C_alloc ?_ _) | (with_reducible refine Kd.C_drewN ?_ _) | (with_reducible refine Kd.C_drew ?_)))
             (case side2 => exact (Kd.R_reads' HO_414000.out).2.1)
             rintro e w33 ⟨v416, v421, rfl, ho0, ho1, hb⟩
             refine ⟨_, rfl, ?_⟩
             have n0_ := Aside0.mk (Kd.N_elder' (zN HO_3.out) (Kd.R_base ho0) hb)
             have n1_ := Aside0.mk (Kd.R_elder' (zR HO_414000.out) (Kd.R_base ho0) hb)
             have n2_ := Aside0.mk (Kd.R_lower (Kd.R_new' (Kd.R_newM (M := fun k_ => (w.heap.size ≤ k_)) (Kd.R_mono (ok' := fun k_ => True) ho0 (fun _ hk_ => trivial)) (below_size (by repeat (first | (with_reducible first | exact HB.out | apply pA | apply pN | apply pD | refine pS ?_ GE413.out | refine pS ?_ GE424.out) | exact HB.out))) (fun k_ h_ => h_)) (Kd.R_lt (zR HO_414000.out))) (below_size (by repeat (first | (with_reducible first | exact HB.out | apply pA | apply pN | apply pD | refine pS ?_ GE413.out | refine pS ?_ GE424.out) | exact HB.out))))
             have n3_ := Aside0.mk (Kd.V_lower (Kd.V_mono (ok' := fun k_ => (w.heap.size ≤ k_) ∧ some k_ ≠ (v416 : Value).ownBlock ∧ some k_ ≠ (u3 : Value).ownBlock ∧ some k_ ≠ (.slice Ao29 x414000_1.length co29 : Value).ownBlock ∧ k_ ≠ gb413 ∧ k_ ≠ gb424) ho1 (fun k_ hk_ => ⟨(Nat.le_trans (below_size (by repeat (first | (with_reducible first | exact HB.out | apply pA | apply pN | apply pD | refine pS ?_ GE413.out | refine pS ?_ GE424.out) | exact HB.out))) hk_.1), hk_.2, (Kd.fresh' (Kd.N_lt (zN HO_3.out)) k_ hk_.1), (Kd.fresh' (Kd.R_lt (zR HO_414000.out)) k_ hk_.1), (Kd.freshB (g := gb413) (o := .cells #[.slice Ao29 x414000_1.length co29, .bool x414001_1] 38 (0, 0)) (zB BK413.out) k_ hk_.1), (Kd.freshB (g := gb424) (o := .cells #[.slice none 0 0, .bool false] 38 (0, 0)) (zB BK424.out) k_ hk_.1)⟩)) (below_size (by repeat (first | (with_reducible first | exact HB.out | apply pA | apply pN | apply pD | refine pS ?_ GE413.out | refine pS ?_ GE424.out) | exact HB.out))))
             have n4_ := Aside0.mk (blk_below (g := gb413) (o := .cells #[.slice Ao29 x414000_1.length co29, .bool x414001_1] 38 (0, 0)) (zB BK413.out) hb)
             have n5_ := Aside0.mk (blk_below (g := gb424) (o := .cells #[.slice none 0 0, .bool false] 38 (0, 0)) (zB BK424.out) hb)
             have n6_ := Aside0.mk (below_step (by repeat (first | (with_reducible first | exact HB.out | apply pA | apply pN | apply pD | refine pS ?_ GE413.out | refine pS ?_ GE424.out) | exact HB.out)) hb)
             clear HO_3
             clear HO_414000
             clear BK413
             clear BK424
             clear HB
             have HO_3 := n0_
             have HO_414000 := n1_
             have HO417 := n2_
             have HO422 := n3_
             have BK413 := n4_
             have BK424 := n5_
             have HB := n6_
             clear n0_ n1_ n2_ n3_ n4_ n5_ n6_
             (try clear hb)
             (try clear hb2)
             (try clear hk)
             (try clear hi)
             (try clear ho0)
             (try clear ho1)
             refine hK.out _ _ ⟨(blk_cell BK413.out 0).trans rfl, (blk_cell BK413.out 1).trans rfl, ((HB.out.cell (World.block_lt_of_cell? w _ hw414_0)).trans hw414_0)⟩ (fun hHeld => ?_)
             clear hK K
             refine norm_ (a' := ?_) ?_ ?_
             rotate_left
             ·show Act.put _ (some 22) _ = _
              simp only [Act.put, sT, s0, s1, i64_w, i32_w]
              rfl
             refine pure_ (i := 6) (N := some 16) (v := ?_) (a' := ?_) #[true, true, true, true, true, true, true, false, false, false, true, false, false, false, false] rfl rfl (any_of HT_.out (by kernel_rfl)) (fun _ _ _ h => h) (Or.inl ⟨by rfl, ?_⟩) ?_ ?_
             rotate_left
             ·intro w'
              go_simp
              with_reducible rfl
             rotate_left
             ·simp only [Act.put, sT, s0, s1, i64_w, i32_w]
              rfl
             refine pure_ (i := 7) (N := some 23) (v := ?_) (a' := ?_) #[true, true, true, true, true, true, true, true, false, false, true, false, false, false, false] rfl rfl (any_of HT_.out (by kernel_rfl)) (fun _ _ _ h => h) (Or.inl ⟨by rfl, ?_⟩) ?_ ?_
             rotate_left
             ·intro w'
              go_simp
              with_reducible rfl
             rotate_left
             ·simp only [Act.put, sT, s0, s1, i64_w, i32_w]
              rfl
             refine pure_ (i := 8) (N := some 24) (v := ?_) (a' := ?_) #[true, true, true, true, true, true, true, true, true, false, true, false, false, false, false] rfl rfl (any_of HT_.out (by kernel_rfl)) (fun _ _ _ h => h) (Or.inl ⟨by rfl, ?_⟩) ?_ ?_
             rotate_left
             ·intro w'
              go_simp
              with_reducible rfl
             rotate_left
             ·simp only [Act.put, sT, s0, s1, i64_w, i32_w]
              rfl
             refine pure_ (i := 9) (N := some 25) (v := ?_) (a' := ?_) #[true, true, true, true, true, true, true, true, true, true, true, false, false, false, false] rfl rfl (any_of HT_.out (by kernel_rfl)) (fun _ _ _ h => h) (Or.inl ⟨by rfl, ?_⟩) ?_ ?_
             rotate_left
             ·intro w'
              go_simp
              with_reducible rfl
             rotate_left
             ·simp only [Act.put, sT, s0, s1, i64_w, i32_w]
              rfl
             exact norm_ (by first | (simp only [putAll, Act.put, sT, s0, s1]; done) | (simp only [putAll, Act.put, sT, s0, s1]; rfl)) (hJ5_10 (v416, v421, gb424) _ ⟨hHeld, (zR (Kd.R_mono HO417.out (fun _ hk => ⟨hk.1.1, hk.2⟩))), (zV HO422.out), (zN (Kd.N_mono HO_3.out (fun _ hk => ⟨hk.1.1, ⟨hk.2, ⟨hk.1.2.1, ⟨hk.1.2.2.1, hk.1.2.2.2⟩⟩⟩⟩))), (zR HO_414000.out), (zB BK413.out), (zB BK424.out), GW424.out, GE424.out, NB413_424.out, NB424_413.out, (by repeat (first | (with_reducible first | exact HB.out | apply pA | apply pN | apply pD | refine pS ?_ GE413.out | refine pS ?_ GE424.out) | exact HB.out))⟩)
            ·skip
             refine box_step ?hg (N := 7) ?hd (cs := #[.int .u16 0, .slice none 0 0]) (t := 25) ?hr ?_; (case hd => rfl); (case hg => rfl); (case hr => first | (go_simp; done) | (go_simp; rfl))
             intro gb425 hg w33 hbox hb
             have n0_ := Aside0.mk (Kd.N_below (Kd.N_elderB (zN HO_3.out) gb425 (Nat.le_of_eq hg.symm)) hb)
             have n1_ := Aside0.mk (Kd.R_below (zR HO_414000.out) hb)
             have n2_ := Aside0.mk (blk_below (g := gb413) (o := .cells #[.slice Ao29 x414000_1.length co29, .bool x414001_1] 38 (0, 0)) (zB BK413.out) hb)
             have n3_ := Aside0.mk (blk_below (g := gb424) (o := .cells #[.slice none 0 0, .bool false] 38 (0, 0)) (zB BK424.out) hb)
             have n4_ := Aside0.mk (below_step (by repeat (first | (with_reducible first | exact HB.out | apply pA | apply pN | apply pD | refine pS ?_ GE413.out | refine pS ?_ GE424.out) | exact HB.out)) hb)
             have n5_ := Aside0.mk (hbox)
             have n6_ := Aside0.mk ((by rw [hg]; exact (below_size (by repeat (first | (with_reducible first | exact HB.out | apply pA | apply pN | apply pD | refine pS ?_ GE413.out | refine pS ?_ GE424.out) | exact HB.out))) : w.heap.size ≤ gb425))
             have n7_ := Aside0.mk ((by rw [hg]; exact (below_size (by repeat (first | (with_reducible first | exact HB.out | apply pA | apply pN | apply pD | refine pS ?_ GE413.out | refine pS ?_ GE424.out) | exact HB.out))) : w.heap.size ≤ gb425))
             have n8_ := Aside0.mk ((by rw [hg]; exact Nat.ne_of_lt (blk_lt (g := gb413) (o := .cells #[.slice Ao29 x414000_1.length co29, .bool x414001_1] 38 (0, 0)) (zB BK413.out)) : gb413 ≠ gb425))
             have n9_ := Aside0.mk ((by rw [hg]; exact Nat.ne_of_gt (blk_lt (g := gb413) (o := .cells #[.slice Ao29 x414000_1.length co29, .bool x414001_1] 38 (0, 0)) (zB BK413.out)) : gb425 ≠ gb413))
             have n10_ := Aside0.mk ((by rw [hg]; exact Nat.ne_of_lt (blk_lt (g := gb424) (o := .cells #[.slice none 0 0, .bool false] 38 (0, 0)) (zB BK424.out)) : gb424 ≠ gb425))
             have n11_ := Aside0.mk ((by rw [hg]; exact Nat.ne_of_gt (blk_lt (g := gb424) (o := .cells #[.slice none 0 0, .bool false] 38 (0, 0)) (zB BK424.out)) : gb425 ≠ gb424))
             clear HO_3
             clear HO_414000
             clear BK413
             clear BK424
             clear HB
             have HO_3 := n0_
             have HO_414000 := n1_
             have BK413 := n2_
             have BK424 := n3_
             have HB := n4_
             have BK425 := n5_
             have GW425 := n6_
             have GE425 := n7_
             have NB413_425 := n8_
             have NB425_413 := n9_
             have NB424_425 := n10_
             have NB425_424 := n11_
             clear n0_ n1_ n2_ n3_ n4_ n5_ n6_ n7_ n8_ n9_ n10_ n11_
             clear hb hbox hg
             refine hK.out _ _ ⟨(blk_cell BK413.out 0).trans rfl, (blk_cell BK413.out 1).trans rfl, ((HB.out.cell (World.block_lt_of_cell? w _ hw414_0)).trans hw414_0)⟩ (fun hHeld => ?_)
             clear hK K
             refine norm_ (a' := ?_) ?_ ?_
             rotate_left
             ·show Act.put _ (some 7) _ = _
              simp only [Act.put, sT, s0, s1, i64_w, i32_w]
              rfl
             exact norm_ (by first | (simp only [putAll, Act.put, sT, s0, s1]; done) | (simp only [putAll, Act.put, sT, s0, s1]; rfl)) (hJ10_11 (gb424, gb425) _ ⟨hHeld, (zN (Kd.N_mono HO_3.out (fun _ hk => ⟨hk.1.1, ⟨hk.1.2.1, ⟨hk.1.2.2.1, ⟨hk.1.2.2.2, hk.2⟩⟩⟩⟩))), (zR HO_414000.out), (zB BK413.out), (zB BK424.out), (zB BK425.out), GW424.out, GE424.out, NB413_424.out, NB424_413.out, NB425_424.out, NB424_425.out, GW425.out, GE425.out, NB413_425.out, NB425_413.out, (by repeat (first | (with_reducible first | exact HB.out | apply pA | apply pN | apply pD | refine pS ?_ GE413.out | refine pS ?_ GE424.out | refine pS ?_ GE425.out) | exact HB.out))⟩)
          ·skip
           rintro ⟨v416, v421⟩ w32 ⟨hS_, h0_, h1_, h2_, h3_, h4_, h5_⟩
           have n0_ : Aside0 (Kd.R (Kd.int .u8) 5 w32 w.heap.size (fun k_ => (w.heap.size ≤ k_) ∧ some k_ ≠ (.slice Ao29 x414000_1.length co29 : Value).ownBlock) v416 t415) := ⟨h0_⟩
           have n1_ : Aside0 (Kd.V (Kd.int .u8) 5 w32 w.heap.size (fun k_ => (w.heap.size ≤ k_) ∧ some k_ ≠ (v416 : Value).ownBlock ∧ some k_ ≠ (u3 : Value).ownBlock ∧ some k_ ≠ (.slice Ao29 x414000_1.length co29 : Value).ownBlock ∧ k_ ≠ gb413) v421 t420) := ⟨h1_⟩
           have n2_ : Aside0 (Kd.N k25 25 w32 w.heap.size (fun k_ => (w.heap.size ≤ k_) ∧ some k_ ≠ (v416 : Value).ownBlock ∧ some k_ ≠ (.slice Ao29 x414000_1.length co29 : Value).ownBlock ∧ k_ ≠ gb413) u3 x3_1) := ⟨h2_⟩
           have n3_ : Aside0 (Kd.R (Kd.int .u8) 5 w32 w.heap.size (fun k_ => (w.heap.size ≤ k_) ∧ some k_ ≠ (v416 : Value).ownBlock) (.slice Ao29 x414000_1.length co29) x414000_1) := ⟨h3_⟩
           have n4_ : Aside0 (w32.heap[gb413]? = some (.cells #[.slice Ao29 x414000_1.length co29, .bool x414001_1] 38 (0, 0))) := ⟨h4_⟩
           have n5_ : Aside0 (Below w.heap.size w w32) := ⟨h5_⟩
           clear HO_3
           clear HO_414000
           clear BK413
           clear HB
           clear h0_ h1_ h2_ h3_ h4_ h5_
           have HO417 := n0_
           have HO422 := n1_
           have HO_3 := n2_
           have HO_414000 := n3_
           have BK413 := n4_
           have HB := n5_
           clear n0_ n1_ n2_ n3_ n4_ n5_
           have hHeld : w32.cell? ⟨gb413, 0, none⟩ = some (.slice Ao29 x414000_1.length co29) ∧ w32.cell? ⟨gb413, 1, none⟩ = some (.bool x414001_1) ∧ w32.cell? (ad414.add (x5_1).toNat) = some (.int .u8 (rd l0 x5_1)) := hS_
           refine norm_ (a' := ?_) ?_ ?_
           rotate_left
           ·simp only [putAll, Act.put, sT, s0, s1]
            rfl
           refine two_ (i := 10) (j := 11) (Ni := some 6) (Nj := some 7) #[true, true, true, true, true, true, true, true, true, true, true, false, false, false, false] #[true, true, true, true, true, true, true, true, true, true, false, true, false, false, false] rfl rfl rfl rfl (two_of HT_.out (by kernel_rfl)) (by decide) (by decide) (fun K hK => ?_) (fun K hK => ?_)
           ·skip
            refine box_step ?hg (N := 6) ?hd (cs := #[.slice none 0 0, .bool false]) (t := 38) ?hr ?_; (case hd => rfl); (case hg => rfl); (case hr => first | (go_simp; done) | (go_simp; rfl))
            intro gb424 hg w33 hbox hb
            have n0_ := Aside0.mk (Kd.N_below (Kd.N_elderB (zN HO_3.out) gb424 (Nat.le_of_eq hg.symm)) hb)
            have n1_ := Aside0.mk (Kd.R_below (zR HO_414000.out) hb)
            have n2_ := Aside0.mk (Kd.R_below (zR HO417.out) hb)
            have n3_ := Aside0.mk (Kd.V_below (Kd.V_elderB (zV HO422.out) gb424 (Nat.le_of_eq hg.symm)) hb)
            have n4_ := Aside0.mk (blk_below (g := gb413) (o := .cells #[.slice Ao29 x414000_1.length co29, .bool x414001_1] 38 (0, 0)) (zB BK413.out) hb)
            have n5_ := Aside0.mk (below_step (by repeat (first | (with_reducible first | exact HB.out | apply pA | apply pN | apply pD | refine pS ?_ GE413.out) | exact HB.out)) hb)
            have n6_ := Aside0.mk (hbox)
            have n7_ := Aside0.mk ((by rw [hg]; exact (below_size (by repeat (first | (with_reducible first | exact HB.out | apply pA | apply pN | apply pD | refine pS ?_ GE413.out) | exact HB.out))) : w.heap.size ≤ gb424))
            have n8_ := Aside0.mk ((by rw [hg]; exact (below_size (by repeat (first | (with_reducible first | exact HB.out | apply pA | apply pN | apply pD | refine pS ?_ GE413.out) | exact HB.out))) : w.heap.size ≤ gb424))
            have n9_ := Aside0.mk ((by rw [hg]; exact Nat.ne_of_lt (blk_lt (g := gb413) (o := .cells #[.slice Ao29 x414000_1.length co29, .bool x414001_1] 38 (0, 0)) (zB BK413.out)) : gb413 ≠ gb424))
            have n10_ := Aside0.mk ((by rw [hg]; exact Nat.ne_of_gt (blk_lt (g := gb413) (o := .cells #[.slice Ao29 x414000_1.length co29, .bool x414001_1] 38 (0, 0)) (zB BK413.out)) : gb424 ≠ gb413))
            clear HO_3
            clear HO_414000
            clear HO417
            clear HO422
            clear BK413
            clear HB
            have HO_3 := n0_
            have HO_414000 := n1_
            have HO417 := n2_
            have HO422 := n3_
            have BK413 := n4_
            have HB := n5_
            have BK424 := n6_
            have GW424 := n7_
            have GE424 := n8_
            have NB413_424 := n9_
            have NB424_413 := n10_
            clear n0_ n1_ n2_ n3_ n4_ n5_ n6_ n7_ n8_ n9_ n10_
            clear hb hbox hg
            refine hK.out _ _ ⟨(blk_cell BK413.out 0).trans rfl, (blk_cell BK413.out 1).trans rfl, ((HB.out.cell (World.block_lt_of_cell? w _ hw414_0)).trans hw414_0)⟩ (fun hHeld => ?_)
            clear hK K
            refine norm_ (a' := ?_) ?_ ?_
            rotate_left
            ·show Act.put _ (some 6) _ = _
             simp only [Act.put, sT, s0, s1, i64_w, i32_w]
             rfl
            exact norm_ (by first | (simp only [putAll, Act.put, sT, s0, s1]; done) | (simp only [putAll, Act.put, sT, s0, s1]; rfl)) (hJ5_10 (v416, v421, gb424) _ ⟨hHeld, (zR HO417.out), (zV (Kd.V_mono HO422.out (fun _ hk => ⟨hk.1.1, ⟨hk.1.2.1, ⟨hk.1.2.2.1, ⟨hk.1.2.2.2.1, ⟨hk.1.2.2.2.2, hk.2⟩⟩⟩⟩⟩))), (zN (Kd.N_mono HO_3.out (fun _ hk => ⟨hk.1.1, ⟨hk.1.2.1, ⟨hk.1.2.2.1, ⟨hk.1.2.2.2, hk.2⟩⟩⟩⟩))), (zR HO_414000.out), (zB BK413.out), (zB BK424.out), GW424.out, GE424.out, NB413_424.out, NB424_413.out, (by repeat (first | (with_reducible first | exact HB.out | apply pA | apply pN | apply pD | refine pS ?_ GE413.out | refine pS ?_ GE424.out) | exact HB.out))⟩)
           ·skip
            refine box_step ?hg (N := 7) ?hd (cs := #[.int .u16 0, .slice none 0 0]) (t := 25) ?hr ?_; (case hd => rfl); (case hg => rfl); (case hr => first | (go_simp; done) | (go_simp; rfl))
            intro gb425 hg w33 hbox hb
            have n0_ := Aside0.mk (Kd.N_below (Kd.N_elderB (zN HO_3.out) gb425 (Nat.le_of_eq hg.symm)) hb)
            have n1_ := Aside0.mk (Kd.R_below (zR HO_414000.out) hb)
            have n2_ := Aside0.mk (Kd.R_below (zR HO417.out) hb)
            have n3_ := Aside0.mk (Kd.V_below (Kd.V_elderB (zV HO422.out) gb425 (Nat.le_of_eq hg.symm)) hb)
            have n4_ := Aside0.mk (blk_below (g := gb413) (o := .cells #[.slice Ao29 x414000_1.length co29, .bool x414001_1] 38 (0, 0)) (zB BK413.out) hb)
            have n5_ := Aside0.mk (below_step (by repeat (first | (with_reducible first | exact HB.out | apply pA | apply pN | apply pD | refine pS ?_ GE413.out) | exact HB.out)) hb)
            have n6_ := Aside0.mk (hbox)
            have n7_ := Aside0.mk ((by rw [hg]; exact (below_size (by repeat (first | (with_reducible first | exact HB.out | apply pA | apply pN | apply pD | refine pS ?_ GE413.out) | exact HB.out))) : w.heap.size ≤ gb425))
            have n8_ := Aside0.mk ((by rw [hg]; exact (below_size (by repeat (first | (with_reducible first | exact HB.out | apply pA | apply pN | apply pD | refine pS ?_ GE413.out) | exact HB.out))) : w.heap.size ≤ gb425))
            have n9_ := Aside0.mk ((by rw [hg]; exact Nat.ne_of_lt (blk_lt (g := gb413) (o := .cells #[.slice Ao29 x414000_1.length co29, .bool x414001_1] 38 (0, 0)) (zB BK413.out)) : gb413 ≠ gb425))
            have n10_ := Aside0.mk ((by rw [hg]; exact Nat.ne_of_gt (blk_lt (g := gb413) (o := .cells #[.slice Ao29 x414000_1.length co29, .bool x414001_1] 38 (0, 0)) (zB BK413.out)) : gb425 ≠ gb413))
            clear HO_3
            clear HO_414000
            clear HO417
            clear HO422
            clear BK413
            clear HB
            have HO_3 := n0_
            have HO_414000 := n1_
            have HO417 := n2_
            have HO422 := n3_
            have BK413 := n4_
            have HB := n5_
            have BK425 := n6_
            have GW425 := n7_
            have GE425 := n8_
            have NB413_425 := n9_
            have NB425_413 := n10_
            clear n0_ n1_ n2_ n3_ n4_ n5_ n6_ n7_ n8_ n9_ n10_
            clear hb hbox hg
            refine hK.out _ _ ⟨(blk_cell BK413.out 0).trans rfl, (blk_cell BK413.out 1).trans rfl, ((HB.out.cell (World.block_lt_of_cell? w _ hw414_0)).trans hw414_0)⟩ (fun hHeld => ?_)
            clear hK K
            refine norm_ (a' := ?_) ?_ ?_
            rotate_left
            ·show Act.put _ (some 7) _ = _
             simp only [Act.put, sT, s0, s1, i64_w, i32_w]
             rfl
            exact norm_ (by first | (simp only [putAll, Act.put, sT, s0, s1]; done) | (simp only [putAll, Act.put, sT, s0, s1]; rfl)) (hJ5_11 (v416, v421, gb425) _ ⟨hHeld, (zR HO417.out), (zV (Kd.V_mono HO422.out (fun _ hk => ⟨hk.1.1, ⟨hk.1.2.1, ⟨hk.1.2.2.1, ⟨hk.1.2.2.2.1, ⟨hk.1.2.2.2.2, hk.2⟩⟩⟩⟩⟩))), (zN (Kd.N_mono HO_3.out (fun _ hk => ⟨hk.1.1, ⟨hk.1.2.1, ⟨hk.1.2.2.1, ⟨hk.1.2.2.2, hk.2⟩⟩⟩⟩))), (zR HO_414000.out), (zB BK413.out), (zB BK425.out), GW425.out, GE425.out, NB413_425.out, NB425_413.out, (by repeat (first | (with_reducible first | exact HB.out | apply pA | apply pN | apply pD | refine pS ?_ GE413.out | refine pS ?_ GE425.out) | exact HB.out))⟩)
         ·skip
          rintro ⟨gb424, gb425⟩ w33 ⟨hS_, h0_, h1_, h2_, h3_, h4_, h5_, h6_, h7_, h8_, h9_, h10_, h11_, h12_, h13_, h14_, h15_⟩
          have n0_ : Aside0 (Kd.N k25 25 w33 w.heap.size (fun k_ => (w.heap.size ≤ k_) ∧ some k_ ≠ (.slice Ao29 x414000_1.length co29 : Value).ownBlock ∧ k_ ≠ gb413 ∧ k_ ≠ gb424 ∧ k_ ≠ gb425) u3 x3_1) := ⟨h0_⟩
          have n1_ : Aside0 (Kd.R (Kd.int .u8) 5 w33 w.heap.size (fun k_ => (w.heap.size ≤ k_)) (.slice Ao29 x414000_1.length co29) x414000_1) := ⟨h1_⟩
          have n2_ : Aside0 (w33.heap[gb413]? = some (.cells #[.slice Ao29 x414000_1.length co29, .bool x414001_1] 38 (0, 0))) := ⟨h2_⟩
          have n3_ : Aside0 (w33.heap[gb424]? = some (.cells #[.slice none 0 0, .bool false] 38 (0, 0))) := ⟨h3_⟩
          have n4_ : Aside0 (w33.heap[gb425]? = some (.cells #[.int .u16 0, .slice none 0 0] 25 (0, 0))) := ⟨h4_⟩
          have n5_ : Aside0 (w.heap.size ≤ gb424) := ⟨h5_⟩
          have n6_ : Aside0 (w.heap.size ≤ gb424) := ⟨h6_⟩
          have n7_ : Aside0 (gb413 ≠ gb424) := ⟨h7_⟩
          have n8_ : Aside0 (gb424 ≠ gb413) := ⟨h8_⟩
          have n9_ : Aside0 (gb425 ≠ gb424) := ⟨h9_⟩
          have n10_ : Aside0 (gb424 ≠ gb425) := ⟨h10_⟩
          have n11_ : Aside0 (w.heap.size ≤ gb425) := ⟨h11_⟩
          have n12_ : Aside0 (w.heap.size ≤ gb425) := ⟨h12_⟩
          have n13_ : Aside0 (gb413 ≠ gb425) := ⟨h13_⟩
          have n14_ : Aside0 (gb425 ≠ gb413) := ⟨h14_⟩
          have n15_ : Aside0 (Below w.heap.size w w33) := ⟨h15_⟩
          clear HO_3
          clear HO_414000
          clear BK413
          clear HB
          clear h0_ h1_ h2_ h3_ h4_ h5_ h6_ h7_ h8_ h9_ h10_ h11_ h12_ h13_ h14_ h15_
          have HO_3 := n0_
          have HO_414000 := n1_
          have BK413 := n2_
          have BK424 := n3_
          have BK425 := n4_
          have GW424 := n5_
          have GE424 := n6_
          have NB413_424 := n7_
          have NB424_413 := n8_
          have NB425_424 := n9_
          have NB424_425 := n10_
          have GW425 := n11_
          have GE425 := n12_
          have NB413_425 := n13_
          have NB425_413 := n14_
          have HB := n15_
          clear n0_ n1_ n2_ n3_ n4_ n5_ n6_ n7_ n8_ n9_ n10_ n11_ n12_ n13_ n14_ n15_
          have hHeld : w33.cell? ⟨gb413, 0, none⟩ = some (.slice Ao29 x414000_1.length co29) ∧ w33.cell? ⟨gb413, 1, none⟩ = some (.bool x414001_1) ∧ w33.cell? (ad414.add (x5_1).toNat) = some (.int .u8 (rd l0 x5_1)) := hS_
          refine norm_ (a' := ?_) ?_ ?_
          rotate_left
          ·simp only [putAll, Act.put, sT, s0, s1]
           rfl
          refine one_ (i := 5) (N := some 22) #[true, true, true, true, true, true, false, false, false, false, true, true, false, false, false] rfl rfl (one_of HT_.out (by kernel_rfl)) (by decide) (fun K hK => ?_)
          refine goes_ Try.func15 (by kernel_rfl) rfl #[.agg #[.slice Ao29 x414000_1.length co29, .bool x414001_1], .int .u8 (rd l0 x5_1)] (by rfl) rfl rfl (by (try simp only [List.map_toArray, List.map_cons, List.map_nil]); first | done | rfl | (simp only [List.length_drop, List.length_take]; rfl)) ?_
          with_reducible refine (frame_Take.calls k1 _ _ x414000_1 x414001_1 (rd l0 x5_1) t415 t418 t419 t420 false _ ?side1 ?side2 A6.out).mono ?_
          (case side1 => repeat (first | exact (Kd.R_reads' HO_414000.out).2.2 | (with_reducible refine Kd.C_alloc ?_ _) | (with_reducible refine Kd.C_drewN ?_ _) | (with_reducible refine Kd.C_drew ?_)))
          (case side2 => exact (Kd.R_reads' HO_414000.out).2.1)
          rintro e w34 ⟨v416, v421, rfl, ho0, ho1, hb⟩
          refine ⟨_, rfl, ?_⟩
          have n0_ := Aside0.mk (Kd.N_elder' (zN HO_3.out) (Kd.R_base ho0) hb)
          have n1_ := Aside0.mk (Kd.R_elder' (zR HO_414000.out) (Kd.R_base ho0) hb)
          have n2_ := Aside0.mk (Kd.R_lower (Kd.R_new' (Kd.R_newM (M := fun k_ => (w.heap.size ≤ k_)) (Kd.R_mono (ok' := fun k_ => True) ho0 (fun _ hk_ => trivial)) (below_size (by repeat (first | (with_reducible first | exact HB.out | apply pA | apply pN | apply pD | refine pS ?_ GE413.out | refine pS ?_ GE424.out | refine pS ?_ GE425.out) | exact HB.out))) (fun k_ h_ => h_)) (Kd.R_lt (zR HO_414000.out))) (below_size (by repeat (first | (with_reducible first | exact HB.out | apply pA | apply pN | apply pD | refine pS ?_ GE413.out | refine pS ?_ GE424.out | refine pS ?_ GE425.out) | exact HB.out))))
          have n3_ := Aside0.mk (Kd.V_lower (Kd.V_mono (ok' := fun k_ => (w.heap.size ≤ k_) ∧ some k_ ≠ (v416 : Value).ownBlock ∧ some k_ ≠ (u3 : Value).ownBlock ∧ some k_ ≠ (.slice Ao29 x414000_1.length co29 : Value).ownBlock ∧ k_ ≠ gb413 ∧ k_ ≠ gb424 ∧ k_ ≠ gb425) ho1 (fun k_ hk_ => ⟨(Nat.le_trans (below_size (by repeat (first | (with_reducible first | exact HB.out | apply pA | apply pN | apply pD | refine pS ?_ GE413.out | refine pS ?_ GE424.out | refine pS ?_ GE425.out) | exact HB.out))) hk_.1), hk_.2, (Kd.fresh' (Kd.N_lt (zN HO_3.out)) k_ hk_.1), (Kd.fresh' (Kd.R_lt (zR HO_414000.out)) k_ hk_.1), (Kd.freshB (g := gb413) (o := .cells #[.slice Ao29 x414000_1.length co29, .bool x414001_1] 38 (0, 0)) (zB BK413.out) k_ hk_.1), (Kd.freshB (g := gb424) (o := .cells #[.slice none 0 0, .bool false] 38 (0, 0)) (zB BK424.out) k_ hk_.1), (Kd.freshB (g := gb425) (o := .cells #[.int .u16 0, .slice none 0 0] 25 (0, 0)) (zB BK425.out) k_ hk_.1)⟩)) (below_size (by repeat (first | (with_reducible first | exact HB.out | apply pA | apply pN | apply pD | refine pS ?_ GE413.out | refine pS ?_ GE424.out | refine pS ?_ GE425.out) | exact HB.out))))
          have n4_ := Aside0.mk (blk_below (g := gb413) (o := .cells #[.slice Ao29 x414000_1.length co29, .bool x414001_1] 38 (0, 0)) (zB BK413.out) hb)
          have n5_ := Aside0.mk (blk_below (g := gb424) (o := .cells #[.slice none 0 0, .bool false] 38 (0, 0)) (zB BK424.out) hb)
          have n6_ := Aside0.mk (blk_below (g := gb425) (o := .cells #[.int .u16 0, .slice none 0 0] 25 (0, 0)) (zB BK425.out) hb)
          have n7_ := Aside0.mk (below_step (by repeat (first | (with_reducible first | exact HB.out | apply pA | apply pN | apply pD | refine pS ?_ GE413.out | refine pS ?_ GE424.out | refine pS ?_ GE425.out) | exact HB.out)) hb)
          clear HO_3
          clear HO_414000
          clear BK413
          clear BK424
          clear BK425
          clear HB
          have HO_3 := n0_
          have HO_414000 := n1_
          have HO417 := n2_
          have HO422 := n3_
          have BK413 := n4_
          have BK424 := n5_
          have BK425 := n6_
          have HB := n7_
          clear n0_ n1_ n2_ n3_ n4_ n5_ n6_ n7_
          (try clear hb)
          (try clear hb2)
          (try clear hk)
          (try clear hi)
          (try clear ho0)
          (try clear ho1)
          refine hK.out _ _ ⟨(blk_cell BK413.out 0).trans rfl, (blk_cell BK413.out 1).trans rfl, ((HB.out.cell (World.block_lt_of_cell? w _ hw414_0)).trans hw414_0)⟩ (fun hHeld => ?_)
          clear hK K
          refine norm_ (a' := ?_) ?_ ?_
          rotate_left
          ·show Act.put _ (some 22) _ = _
           simp only [Act.put, sT, s0, s1, i64_w, i32_w]
           rfl
          refine pure_ (i := 6) (N := some 16) (v := ?_) (a' := ?_) #[true, true, true, true, true, true, true, false, false, false, true, true, false, false, false] rfl rfl (any_of HT_.out (by kernel_rfl)) (fun _ _ _ h => h) (Or.inl ⟨by rfl, ?_⟩) ?_ ?_
          rotate_left
          ·intro w'
           go_simp
           with_reducible rfl
          rotate_left
          ·simp only [Act.put, sT, s0, s1, i64_w, i32_w]
           rfl
          refine pure_ (i := 7) (N := some 23) (v := ?_) (a' := ?_) #[true, true, true, true, true, true, true, true, false, false, true, true, false, false, false] rfl rfl (any_of HT_.out (by kernel_rfl)) (fun _ _ _ h => h) (Or.inl ⟨by rfl, ?_⟩) ?_ ?_
          rotate_left
          ·intro w'
           go_simp
           with_reducible rfl
          rotate_left
          ·simp only [Act.put, sT, s0, s1, i64_w, i32_w]
           rfl
          refine pure_ (i := 8) (N := some 24) (v := ?_) (a' := ?_) #[true, true, true, true, true, true, true, true, true, false, true, true, false, false, false] rfl rfl (any_of HT_.out (by kernel_rfl)) (fun _ _ _ h => h) (Or.inl ⟨by rfl, ?_⟩) ?_ ?_
          rotate_left
          ·intro w'
           go_simp
           with_reducible rfl
          rotate_left
          ·simp only [Act.put, sT, s0, s1, i64_w, i32_w]
           rfl
          refine pure_ (i := 9) (N := some 25) (v := ?_) (a' := ?_) #[true, true, true, true, true, true, true, true, true, true, true, true, false, false, false] rfl rfl (any_of HT_.out (by kernel_rfl)) (fun _ _ _ h => h) (Or.inl ⟨by rfl, ?_⟩) ?_ ?_
          rotate_left
          ·intro w'
           go_simp
           with_reducible rfl
          rotate_left
          ·simp only [Act.put, sT, s0, s1, i64_w, i32_w]
           rfl
          exact norm_ (by first | (simp only [putAll, Act.put, sT, s0, s1]; done) | (simp only [putAll, Act.put, sT, s0, s1]; rfl)) (hJ5_10_11 (v416, v421, gb424, gb425) _ ⟨hHeld, (zR (Kd.R_mono HO417.out (fun _ hk => ⟨hk.1.1, hk.2⟩))), (zV HO422.out), (zN (Kd.N_mono HO_3.out (fun _ hk => ⟨hk.1.1, ⟨hk.2, ⟨hk.1.2.1, ⟨hk.1.2.2.1, ⟨hk.1.2.2.2.1, hk.1.2.2.2.2⟩⟩⟩⟩⟩))), (zR HO_414000.out), (zB BK413.out), (zB BK424.out), (zB BK425.out), GW424.out, GE424.out, NB413_424.out, NB424_413.out, NB425_424.out, NB424_425.out, GW425.out, GE425.out, NB413_425.out, NB425_413.out, (by repeat (first | (with_reducible first | exact HB.out | apply pA | apply pN | apply pD | refine pS ?_ GE413.out | refine pS ?_ GE424.out | refine pS ?_ GE425.out) | exact HB.out))⟩)
        ·skip
         rintro ⟨v416, v421, gb425⟩ w33 ⟨hS_, h0_, h1_, h2_, h3_, h4_, h5_, h6_, h7_, h8_, h9_, h10_⟩
         have n0_ : Aside0 (Kd.R (Kd.int .u8) 5 w33 w.heap.size (fun k_ => (w.heap.size ≤ k_) ∧ some k_ ≠ (.slice Ao29 x414000_1.length co29 : Value).ownBlock) v416 t415) := ⟨h0_⟩
         have n1_ : Aside0 (Kd.V (Kd.int .u8) 5 w33 w.heap.size (fun k_ => (w.heap.size ≤ k_) ∧ some k_ ≠ (v416 : Value).ownBlock ∧ some k_ ≠ (u3 : Value).ownBlock ∧ some k_ ≠ (.slice Ao29 x414000_1.length co29 : Value).ownBlock ∧ k_ ≠ gb413 ∧ k_ ≠ gb425) v421 t420) := ⟨h1_⟩
         have n2_ : Aside0 (Kd.N k25 25 w33 w.heap.size (fun k_ => (w.heap.size ≤ k_) ∧ some k_ ≠ (v416 : Value).ownBlock ∧ some k_ ≠ (.slice Ao29 x414000_1.length co29 : Value).ownBlock ∧ k_ ≠ gb413 ∧ k_ ≠ gb425) u3 x3_1) := ⟨h2_⟩
         have n3_ : Aside0 (Kd.R (Kd.int .u8) 5 w33 w.heap.size (fun k_ => (w.heap.size ≤ k_) ∧ some k_ ≠ (v416 : Value).ownBlock) (.slice Ao29 x414000_1.length co29) x414000_1) := ⟨h3_⟩
         have n4_ : Aside0 (w33.heap[gb413]? = some (.cells #[.slice Ao29 x414000_1.length co29, .bool x414001_1] 38 (0, 0))) := ⟨h4_⟩
         have n5_ : Aside0 (w33.heap[gb425]? = some (.cells #[.int .u16 0, .slice none 0 0] 25 (0, 0))) := ⟨h5_⟩
         have n6_ : Aside0 (w.heap.size ≤ gb425) := ⟨h6_⟩
         have n7_ : Aside0 (w.heap.size ≤ gb425) := ⟨h7_⟩
         have n8_ : Aside0 (gb413 ≠ gb425) := ⟨h8_⟩
         have n9_ : Aside0 (gb425 ≠ gb413) := ⟨h9_⟩
         have n10_ : Aside0 (Below w.heap.size w w33) := ⟨h10_⟩
         clear HO_3
         clear HO_414000
         clear BK413
         clear HB
         clear h0_ h1_ h2_ h3_ h4_ h5_ h6_ h7_ h8_ h9_ h10_
         have HO417 := n0_
         have HO422 := n1_
         have HO_3 := n2_
         have HO_414000 := n3_
         have BK413 := n4_
         have BK425 := n5_
         have GW425 := n6_
         have GE425 := n7_
         have NB413_425 := n8_
         have NB425_413 := n9_
         have HB := n10_
         clear n0_ n1_ n2_ n3_ n4_ n5_ n6_ n7_ n8_ n9_ n10_
         have hHeld : w33.cell? ⟨gb413, 0, none⟩ = some (.slice Ao29 x414000_1.length co29) ∧ w33.cell? ⟨gb413, 1, none⟩ = some (.bool x414001_1) ∧ w33.cell? (ad414.add (x5_1).toNat) = some (.int .u8 (rd l0 x5_1)) := hS_
         refine norm_ (a' := ?_) ?_ ?_
         rotate_left
         ·simp only [putAll, Act.put, sT, s0, s1]
          rfl
         refine one_ (i := 10) (N := some 6) #[true, true, true, true, true, true, true, true, true, true, true, true, false, false, false] rfl rfl (one_of HT_.out (by kernel_rfl)) (by decide) (fun K hK => ?_)
         refine box_step ?hg (N := 6) ?hd (cs := #[.slice none 0 0, .bool false]) (t := 38) ?hr ?_; (case hd => rfl); (case hg => rfl); (case hr => first | (go_simp; done) | (go_simp; rfl))
         intro gb424 hg w34 hbox hb
         have n0_ := Aside0.mk (Kd.N_below (Kd.N_elderB (zN HO_3.out) gb424 (Nat.le_of_eq hg.symm)) hb)
         have n1_ := Aside0.mk (Kd.R_below (zR HO_414000.out) hb)
         have n2_ := Aside0.mk (Kd.R_below (zR HO417.out) hb)
         have n3_ := Aside0.mk (Kd.V_below (Kd.V_elderB (zV HO422.out) gb424 (Nat.le_of_eq hg.symm)) hb)
         have n4_ := Aside0.mk (blk_below (g := gb413) (o := .cells #[.slice Ao29 x414000_1.length co29, .bool x414001_1] 38 (0, 0)) (zB BK413.out) hb)
         have n5_ := Aside0.mk (blk_below (g := gb425) (o := .cells #[.int .u16 0, .slice none 0 0] 25 (0, 0)) (zB BK425.out) hb)
         have n6_ := Aside0.mk (below_step (by repeat (first | (with_reducible first | exact HB.out | apply pA | apply pN | apply pD | refine pS ?_ GE413.out | refine pS ?_ GE425.out) | exact HB.out)) hb)
         have n7_ := Aside0.mk (hbox)
         have n8_ := Aside0.mk ((by rw [hg]; exact (below_size (by repeat (first | (with_reducible first | exact HB.out | apply pA | apply pN | apply pD | refine pS ?_ GE413.out | refine pS ?_ GE425.out) | exact HB.out))) : w.heap.size ≤ gb424))
         have n9_ := Aside0.mk ((by rw [hg]; exact (below_size (by repeat (first | (with_reducible first | exact HB.out | apply pA | apply pN | apply pD | refine pS ?_ GE413.out | refine pS ?_ GE425.out) | exact HB.out))) : w.heap.size ≤ gb424))
         have n10_ := Aside0.mk ((by rw [hg]; exact Nat.ne_of_lt (blk_lt (g := gb413) (o := .cells #[.slice Ao29 x414000_1.length co29, .bool x414001_1] 38 (0, 0)) (zB BK413.out)) : gb413 ≠ gb424))
         have n11_ := Aside0.mk ((by rw [hg]; exact Nat.ne_of_gt (blk_lt (g := gb413) (o := .cells #[.slice Ao29 x414000_1.length co29, .bool x414001_1] 38 (0, 0)) (zB BK413.out)) : gb424 ≠ gb413))
         have n12_ := Aside0.mk ((by rw [hg]; exact Nat.ne_of_lt (blk_lt (g := gb425) (o := .cells #[.int .u16 0, .slice none 0 0] 25 (0, 0)) (zB BK425.out)) : gb425 ≠ gb424))
         have n13_ := Aside0.mk ((by rw [hg]; exact Nat.ne_of_gt (blk_lt (g := gb425) (o := .cells #[.int .u16 0, .slice none 0 0] 25 (0, 0)) (zB BK425.out)) : gb424 ≠ gb425))
         clear HO_3
         clear HO_414000
         clear HO417
         clear HO422
         clear BK413
         clear BK425
         clear HB
         have HO_3 := n0_
         have HO_414000 := n1_
         have HO417 := n2_
         have HO422 := n3_
         have BK413 := n4_
         have BK425 := n5_
         have HB := n6_
         have BK424 := n7_
         have GW424 := n8_
         have GE424 := n9_
         have NB413_424 := n10_
         have NB424_413 := n11_
         have NB425_424 := n12_
         have NB424_425 := n13_
         clear n0_ n1_ n2_ n3_ n4_ n5_ n6_ n7_ n8_ n9_ n10_ n11_ n12_ n13_
         clear hb hbox hg
         refine hK.out _ _ ⟨(blk_cell BK413.out 0).trans rfl, (blk_cell BK413.out 1).trans rfl, ((HB.out.cell (World.block_lt_of_cell? w _ hw414_0)).trans hw414_0)⟩ (fun hHeld => ?_)
         clear hK K
         refine norm_ (a' := ?_) ?_ ?_
         rotate_left
         ·show Act.put _ (some 6) _ = _
          simp only [Act.put, sT, s0, s1, i64_w, i32_w]
          rfl
         exact norm_ (by first | (simp only [putAll, Act.put, sT, s0, s1]; done) | (simp only [putAll, Act.put, sT, s0, s1]; rfl)) (hJ5_10_11 (v416, v421, gb424, gb425) _ ⟨hHeld, (zR HO417.out), (zV (Kd.V_mono HO422.out (fun _ hk => ⟨hk.1.1, ⟨hk.1.2.1, ⟨hk.1.2.2.1, ⟨hk.1.2.2.2.1, ⟨hk.1.2.2.2.2.1, ⟨hk.2, hk.1.2.2.2.2.2⟩⟩⟩⟩⟩⟩))), (zN (Kd.N_mono HO_3.out (fun _ hk => ⟨hk.1.1, ⟨hk.1.2.1, ⟨hk.1.2.2.1, ⟨hk.1.2.2.2.1, ⟨hk.2, hk.1.2.2.2.2⟩⟩⟩⟩⟩))), (zR HO_414000.out), (zB BK413.out), (zB BK424.out), (zB BK425.out), GW424.out, GE424.out, NB413_424.out, NB424_413.out, NB425_424.out, NB424_425.out, GW425.out, GE425.out, NB413_425.out, NB425_413.out, (by repeat (first | (with_reducible first | exact HB.out | apply pA | apply pN | apply pD | refine pS ?_ GE413.out | refine pS ?_ GE425.out | refine pS ?_ GE424.out) | exact HB.out))⟩)
       ·skip
        rintro ⟨v416, v421, gb424⟩ w33 ⟨hS_, h0_, h1_, h2_, h3_, h4_, h5_, h6_, h7_, h8_, h9_, h10_⟩
        have n0_ : Aside0 (Kd.R (Kd.int .u8) 5 w33 w.heap.size (fun k_ => (w.heap.size ≤ k_) ∧ some k_ ≠ (.slice Ao29 x414000_1.length co29 : Value).ownBlock) v416 t415) := ⟨h0_⟩
        have n1_ : Aside0 (Kd.V (Kd.int .u8) 5 w33 w.heap.size (fun k_ => (w.heap.size ≤ k_) ∧ some k_ ≠ (v416 : Value).ownBlock ∧ some k_ ≠ (u3 : Value).ownBlock ∧ some k_ ≠ (.slice Ao29 x414000_1.length co29 : Value).ownBlock ∧ k_ ≠ gb413 ∧ k_ ≠ gb424) v421 t420) := ⟨h1_⟩
        have n2_ : Aside0 (Kd.N k25 25 w33 w.heap.size (fun k_ => (w.heap.size ≤ k_) ∧ some k_ ≠ (v416 : Value).ownBlock ∧ some k_ ≠ (.slice Ao29 x414000_1.length co29 : Value).ownBlock ∧ k_ ≠ gb413 ∧ k_ ≠ gb424) u3 x3_1) := ⟨h2_⟩
        have n3_ : Aside0 (Kd.R (Kd.int .u8) 5 w33 w.heap.size (fun k_ => (w.heap.size ≤ k_) ∧ some k_ ≠ (v416 : Value).ownBlock) (.slice Ao29 x414000_1.length co29) x414000_1) := ⟨h3_⟩
        have n4_ : Aside0 (w33.heap[gb413]? = some (.cells #[.slice Ao29 x414000_1.length co29, .bool x414001_1] 38 (0, 0))) := ⟨h4_⟩
        have n5_ : Aside0 (w33.heap[gb424]? = some (.cells #[.slice none 0 0, .bool false] 38 (0, 0))) := ⟨h5_⟩
        have n6_ : Aside0 (w.heap.size ≤ gb424) := ⟨h6_⟩
        have n7_ : Aside0 (w.heap.size ≤ gb424) := ⟨h7_⟩
        have n8_ : Aside0 (gb413 ≠ gb424) := ⟨h8_⟩
        have n9_ : Aside0 (gb424 ≠ gb413) := ⟨h9_⟩
        have n10_ : Aside0 (Below w.heap.size w w33) := ⟨h10_⟩
        clear HO_3
        clear HO_414000
        clear BK413
        clear HB
        clear h0_ h1_ h2_ h3_ h4_ h5_ h6_ h7_ h8_ h9_ h10_
        have HO417 := n0_
        have HO422 := n1_
        have HO_3 := n2_
        have HO_414000 := n3_
        have BK413 := n4_
        have BK424 := n5_
        have GW424 := n6_
        have GE424 := n7_
        have NB413_424 := n8_
        have NB424_413 := n9_
        have HB := n10_
        clear n0_ n1_ n2_ n3_ n4_ n5_ n6_ n7_ n8_ n9_ n10_
        have hHeld : w33.cell? ⟨gb413, 0, none⟩ = some (.slice Ao29 x414000_1.length co29) ∧ w33.cell? ⟨gb413, 1, none⟩ = some (.bool x414001_1) ∧ w33.cell? (ad414.add (x5_1).toNat) = some (.int .u8 (rd l0 x5_1)) := hS_
        refine norm_ (a' := ?_) ?_ ?_
        rotate_left
        ·simp only [putAll, Act.put, sT, s0, s1]
         rfl
        refine one_ (i := 11) (N := some 7) #[true, true, true, true, true, true, true, true, true, true, true, true, false, false, false] rfl rfl (one_of HT_.out (by kernel_rfl)) (by decide) (fun K hK => ?_)
        refine box_step ?hg (N := 7) ?hd (cs := #[.int .u16 0, .slice none 0 0]) (t := 25) ?hr ?_; (case hd => rfl); (case hg => rfl); (case hr => first | (go_simp; done) | (go_simp; rfl))
        intro gb425 hg w34 hbox hb
        have n0_ := Aside0.mk (Kd.N_below (Kd.N_elderB (zN HO_3.out) gb425 (Nat.le_of_eq hg.symm)) hb)
        have n1_ := Aside0.mk (Kd.R_below (zR HO_414000.out) hb)
        have n2_ := Aside0.mk (Kd.R_below (zR HO417.out) hb)
        have n3_ := Aside0.mk (Kd.V_below (Kd.V_elderB (zV HO422.out) gb425 (Nat.le_of_eq hg.symm)) hb)
        have n4_ := Aside0.mk (blk_below (g := gb413) (o := .cells #[.slice Ao29 x414000_1.length co29, .bool x414001_1] 38 (0, 0)) (zB BK413.out) hb)
        have n5_ := Aside0.mk (blk_below (g := gb424) (o := .cells #[.slice none 0 0, .bool false] 38 (0, 0)) (zB BK424.out) hb)
        have n6_ := Aside0.mk (below_step (by repeat (first | (with_reducible first | exact HB.out | apply pA | apply pN | apply pD | refine pS ?_ GE413.out | refine pS ?_ GE424.out) | exact HB.out)) hb)
        have n7_ := Aside0.mk (hbox)
        have n8_ := Aside0.mk ((by rw [hg]; exact (below_size (by repeat (first | (with_reducible first | exact HB.out | apply pA | apply pN | apply pD | refine pS ?_ GE413.out | refine pS ?_ GE424.out) | exact HB.out))) : w.heap.size ≤ gb425))
        have n9_ := Aside0.mk ((by rw [hg]; exact (below_size (by repeat (first | (with_reducible first | exact HB.out | apply pA | apply pN | apply pD | refine pS ?_ GE413.out | refine pS ?_ GE424.out) | exact HB.out))) : w.heap.size ≤ gb425))
        have n10_ := Aside0.mk ((by rw [hg]; exact Nat.ne_of_lt (blk_lt (g := gb413) (o := .cells #[.slice Ao29 x414000_1.length co29, .bool x414001_1] 38 (0, 0)) (zB BK413.out)) : gb413 ≠ gb425))
        have n11_ := Aside0.mk ((by rw [hg]; exact Nat.ne_of_gt (blk_lt (g := gb413) (o := .cells #[.slice Ao29 x414000_1.length co29, .bool x414001_1] 38 (0, 0)) (zB BK413.out)) : gb425 ≠ gb413))
        have n12_ := Aside0.mk ((by rw [hg]; exact Nat.ne_of_lt (blk_lt (g := gb424) (o := .cells #[.slice none 0 0, .bool false] 38 (0, 0)) (zB BK424.out)) : gb424 ≠ gb425))
        have n13_ := Aside0.mk ((by rw [hg]; exact Nat.ne_of_gt (blk_lt (g := gb424) (o := .cells #[.slice none 0 0, .bool false] 38 (0, 0)) (zB BK424.out)) : gb425 ≠ gb424))
        clear HO_3
        clear HO_414000
        clear HO417
        clear HO422
        clear BK413
        clear BK424
        clear HB
        have HO_3 := n0_
        have HO_414000 := n1_
        have HO417 := n2_
        have HO422 := n3_
        have BK413 := n4_
        have BK424 := n5_
        have HB := n6_
        have BK425 := n7_
        have GW425 := n8_
        have GE425 := n9_
        have NB413_425 := n10_
        have NB425_413 := n11_
        have NB424_425 := n12_
        have NB425_424 := n13_
        clear n0_ n1_ n2_ n3_ n4_ n5_ n6_ n7_ n8_ n9_ n10_ n11_ n12_ n13_
        clear hb hbox hg
        refine hK.out _ _ ⟨(blk_cell BK413.out 0).trans rfl, (blk_cell BK413.out 1).trans rfl, ((HB.out.cell (World.block_lt_of_cell? w _ hw414_0)).trans hw414_0)⟩ (fun hHeld => ?_)
        clear hK K
        refine norm_ (a' := ?_) ?_ ?_
        rotate_left
        ·show Act.put _ (some 7) _ = _
         simp only [Act.put, sT, s0, s1, i64_w, i32_w]
         rfl
        exact norm_ (by first | (simp only [putAll, Act.put, sT, s0, s1]; done) | (simp only [putAll, Act.put, sT, s0, s1]; rfl)) (hJ5_10_11 (v416, v421, gb424, gb425) _ ⟨hHeld, (zR HO417.out), (zV (Kd.V_mono HO422.out (fun _ hk => ⟨hk.1.1, ⟨hk.1.2.1, ⟨hk.1.2.2.1, ⟨hk.1.2.2.2.1, ⟨hk.1.2.2.2.2.1, ⟨hk.1.2.2.2.2.2, hk.2⟩⟩⟩⟩⟩⟩))), (zN (Kd.N_mono HO_3.out (fun _ hk => ⟨hk.1.1, ⟨hk.1.2.1, ⟨hk.1.2.2.1, ⟨hk.1.2.2.2.1, ⟨hk.1.2.2.2.2, hk.2⟩⟩⟩⟩⟩))), (zR HO_414000.out), (zB BK413.out), (zB BK424.out), (zB BK425.out), GW424.out, GE424.out, NB413_424.out, NB424_413.out, NB425_424.out, NB424_425.out, GW425.out, GE425.out, NB413_425.out, NB425_413.out, (by repeat (first | (with_reducible first | exact HB.out | apply pA | apply pN | apply pD | refine pS ?_ GE413.out | refine pS ?_ GE424.out | refine pS ?_ GE425.out) | exact HB.out))⟩)
      rintro ⟨v416, v421, gb424, gb425⟩ w34 ⟨hS_, h0_, h1_, h2_, h3_, h4_, h5_, h6_, h7_, h8_, h9_, h10_, h11_, h12_, h13_, h14_, h15_, h16_, h17_⟩
      have n0_ : Aside0 (Kd.R (Kd.int .u8) 5 w34 w.heap.size (fun k_ => (w.heap.size ≤ k_) ∧ some k_ ≠ (.slice Ao29 x414000_1.length co29 : Value).ownBlock) v416 t415) := ⟨h0_⟩
      have n1_ : Aside0 (Kd.V (Kd.int .u8) 5 w34 w.heap.size (fun k_ => (w.heap.size ≤ k_) ∧ some k_ ≠ (v416 : Value).ownBlock ∧ some k_ ≠ (u3 : Value).ownBlock ∧ some k_ ≠ (.slice Ao29 x414000_1.length co29 : Value).ownBlock ∧ k_ ≠ gb413 ∧ k_ ≠ gb424 ∧ k_ ≠ gb425) v421 t420) := ⟨h1_⟩
      have n2_ : Aside0 (Kd.N k25 25 w34 w.heap.size (fun k_ => (w.heap.size ≤ k_) ∧ some k_ ≠ (v416 : Value).ownBlock ∧ some k_ ≠ (.slice Ao29 x414000_1.length co29 : Value).ownBlock ∧ k_ ≠ gb413 ∧ k_ ≠ gb424 ∧ k_ ≠ gb425) u3 x3_1) := ⟨h2_⟩
      have n3_ : Aside0 (Kd.R (Kd.int .u8) 5 w34 w.heap.size (fun k_ => (w.heap.size ≤ k_) ∧ some k_ ≠ (v416 : Value).ownBlock) (.slice Ao29 x414000_1.length co29) x414000_1) := ⟨h3_⟩
      have n4_ : Aside0 (w34.heap[gb413]? = some (.cells #[.slice Ao29 x414000_1.length co29, .bool x414001_1] 38 (0, 0))) := ⟨h4_⟩
      have n5_ : Aside0 (w34.heap[gb424]? = some (.cells #[.slice none 0 0, .bool false] 38 (0, 0))) := ⟨h5_⟩
      have n6_ : Aside0 (w34.heap[gb425]? = some (.cells #[.int .u16 0, .slice none 0 0] 25 (0, 0))) := ⟨h6_⟩
      have n7_ : Aside0 (w.heap.size ≤ gb424) := ⟨h7_⟩
      have n8_ : Aside0 (w.heap.size ≤ gb424) := ⟨h8_⟩
      have n9_ : Aside0 (gb413 ≠ gb424) := ⟨h9_⟩
      have n10_ : Aside0 (gb424 ≠ gb413) := ⟨h10_⟩
      have n11_ : Aside0 (gb425 ≠ gb424) := ⟨h11_⟩
      have n12_ : Aside0 (gb424 ≠ gb425) := ⟨h12_⟩
      have n13_ : Aside0 (w.heap.size ≤ gb425) := ⟨h13_⟩
      have n14_ : Aside0 (w.heap.size ≤ gb425) := ⟨h14_⟩
      have n15_ : Aside0 (gb413 ≠ gb425) := ⟨h15_⟩
      have n16_ : Aside0 (gb425 ≠ gb413) := ⟨h16_⟩
      have n17_ : Aside0 (Below w.heap.size w w34) := ⟨h17_⟩
      clear HO_3
      clear HO_414000
      clear BK413
      clear HB
      clear h0_ h1_ h2_ h3_ h4_ h5_ h6_ h7_ h8_ h9_ h10_ h11_ h12_ h13_ h14_ h15_ h16_ h17_
      have HO417 := n0_
      have HO422 := n1_
      have HO_3 := n2_
      have HO_414000 := n3_
      have BK413 := n4_
      have BK424 := n5_
      have BK425 := n6_
      have GW424 := n7_
      have GE424 := n8_
      have NB413_424 := n9_
      have NB424_413 := n10_
      have NB425_424 := n11_
      have NB424_425 := n12_
      have GW425 := n13_
      have GE425 := n14_
      have NB413_425 := n15_
      have NB425_413 := n16_
      have HB := n17_
      clear n0_ n1_ n2_ n3_ n4_ n5_ n6_ n7_ n8_ n9_ n10_ n11_ n12_ n13_ n14_ n15_ n16_ n17_
      have hHeld : w34.cell? ⟨gb413, 0, none⟩ = some (.slice Ao29 x414000_1.length co29) ∧ w34.cell? ⟨gb413, 1, none⟩ = some (.bool x414001_1) ∧ w34.cell? (ad414.add (x5_1).toNat) = some (.int .u8 (rd l0 x5_1)) := hS_
      obtain ⟨Ao35, co35, eo35⟩ := Kd.R_slice HO417.out
      (first | subst eo35 | (injection eo35 with f1_ f2_ f3_; have f4_ := f1_.symm; have f5_ := f3_.symm; clear f1_ f2_ f3_; subst f4_; subst f5_))
      obtain ⟨Ao39, co39, eo39⟩ := Kd.V_slice HO422.out
      (first | subst eo39 | (injection eo39 with f1_ f2_ f3_; have f4_ := f1_.symm; have f5_ := f3_.symm; clear f1_ f2_ f3_; subst f4_; subst f5_))
      refine norm_ (a' := ?_) ?_ ?_
      rotate_left
      ·simp only [putAll, Act.put, sT, s0, s1]
       rfl
      refine one_ (i := 12) (N := none) #[true, true, true, true, true, true, true, true, true, true, true, true, true, false, false] rfl rfl (one_of HT_.out (by kernel_rfl)) (by decide) (fun K hK => ?_)
      have hs36 : w34.cell? ⟨gb424, 0, none⟩ = some (.slice none 0 0) := (blk_cell BK424.out 0).trans rfl
      have hfs36 := blk_frozen BK424.out 0
      have hns36_0 := NB413_424.out
      have hns36_2 := NB425_424.out
      have hms36_0 := NB424_413.out
      have hms36_2 := NB424_425.out
      have hs37 : w34.cell? ⟨gb424, 1, none⟩ = some (.bool false) := (blk_cell BK424.out 1).trans rfl
      have hfs37 := blk_frozen BK424.out 1
      have hns37_0 := NB413_424.out
      have hns37_2 := NB425_424.out
      have hms37_0 := NB424_413.out
      have hms37_2 := NB424_425.out
      refine skip_ (w1 := ?_) (by rfl) rfl ?_ ?_
      rotate_left
      ·go_simp
       rfl
      refine hK.out _ _ ⟨((cell_far (p := ⟨gb424, _, none⟩) NB413_424.out _).trans (((cell_far (p := ⟨gb424, _, none⟩) NB413_424.out _).trans (hHeld.1)))), ((cell_far (p := ⟨gb424, _, none⟩) NB413_424.out _).trans (((cell_far (p := ⟨gb424, _, none⟩) NB413_424.out _).trans (hHeld.2.1)))), ((cell_far (p := ⟨gb424, _, none⟩) (by first | exact Nat.ne_of_lt (Nat.lt_of_lt_of_le (by have := World.block_lt_of_cell? _ _ hw414_0; first | rwa [add_block] at this | exact this) GW424.out) | (rw [add_block]; exact Nat.ne_of_lt (Nat.lt_of_lt_of_le (by have := World.block_lt_of_cell? _ _ hw414_0; first | rwa [add_block] at this | exact this) GW424.out)) | (show (Addr.add _ _).block ≠ _; rw [add_block]; exact Nat.ne_of_lt (Nat.lt_of_lt_of_le (by have := World.block_lt_of_cell? _ _ hw414_0; first | rwa [add_block] at this | exact this) GW424.out)) | (dsimp only; exact Nat.ne_of_lt (Nat.lt_of_lt_of_le (by have := World.block_lt_of_cell? _ _ hw414_0; first | rwa [add_block] at this | exact this) GW424.out))) _).trans (((cell_far (p := ⟨gb424, _, none⟩) (by first | exact Nat.ne_of_lt (Nat.lt_of_lt_of_le (by have := World.block_lt_of_cell? _ _ hw414_0; first | rwa [add_block] at this | exact this) GW424.out) | (rw [add_block]; exact Nat.ne_of_lt (Nat.lt_of_lt_of_le (by have := World.block_lt_of_cell? _ _ hw414_0; first | rwa [add_block] at this | exact this) GW424.out)) | (show (Addr.add _ _).block ≠ _; rw [add_block]; exact Nat.ne_of_lt (Nat.lt_of_lt_of_le (by have := World.block_lt_of_cell? _ _ hw414_0; first | rwa [add_block] at this | exact this) GW424.out)) | (dsimp only; exact Nat.ne_of_lt (Nat.lt_of_lt_of_le (by have := World.block_lt_of_cell? _ _ hw414_0; first | rwa [add_block] at this | exact this) GW424.out))) _).trans (hHeld.2.2))))⟩ (fun hHeld => ?_)
      clear hK K
      refine one_ (i := 13) (N := none) #[true, true, true, true, true, true, true, true, true, true, true, true, true, true, false] rfl rfl (one_of HT_.out (by kernel_rfl)) (by decide) (fun K hK => ?_)
      have hs38 : w34.cell? ⟨gb425, 0, none⟩ = some (.int .u16 0) := (blk_cell BK425.out 0).trans rfl
      have hfs38 := blk_frozen BK425.out 0
      have hns38_0 := NB413_425.out
      have hns38_1 := NB424_425.out
      have hms38_0 := NB425_413.out
      have hms38_1 := NB425_424.out
      have hs40 : w34.cell? ⟨gb425, 1, none⟩ = some (.slice none 0 0) := (blk_cell BK425.out 1).trans rfl
      have hfs40 := blk_frozen BK425.out 1
      have hns40_0 := NB413_425.out
      have hns40_1 := NB424_425.out
      have hms40_0 := NB425_413.out
      have hms40_1 := NB425_424.out
      refine skip_ (w1 := ?_) (by rfl) rfl ?_ ?_
      rotate_left
      ·go_simp
       rfl
      refine hK.out _ _ ⟨((cell_far (p := ⟨gb425, _, none⟩) NB413_425.out _).trans (((cell_far (p := ⟨gb425, _, none⟩) NB413_425.out _).trans (hHeld.1)))), ((cell_far (p := ⟨gb425, _, none⟩) NB413_425.out _).trans (((cell_far (p := ⟨gb425, _, none⟩) NB413_425.out _).trans (hHeld.2.1)))), ((cell_far (p := ⟨gb425, _, none⟩) (by first | exact Nat.ne_of_lt (Nat.lt_of_lt_of_le (by have := World.block_lt_of_cell? _ _ hw414_0; first | rwa [add_block] at this | exact this) GW425.out) | (rw [add_block]; exact Nat.ne_of_lt (Nat.lt_of_lt_of_le (by have := World.block_lt_of_cell? _ _ hw414_0; first | rwa [add_block] at this | exact this) GW425.out)) | (show (Addr.add _ _).block ≠ _; rw [add_block]; exact Nat.ne_of_lt (Nat.lt_of_lt_of_le (by have := World.block_lt_of_cell? _ _ hw414_0; first | rwa [add_block] at this | exact this) GW425.out)) | (dsimp only; exact Nat.ne_of_lt (Nat.lt_of_lt_of_le (by have := World.block_lt_of_cell? _ _ hw414_0; first | rwa [add_block] at this | exact this) GW425.out))) _).trans (((cell_far (p := ⟨gb425, _, none⟩) (by first | exact Nat.ne_of_lt (Nat.lt_of_lt_of_le (by have := World.block_lt_of_cell? _ _ hw414_0; first | rwa [add_block] at this | exact this) GW425.out) | (rw [add_block]; exact Nat.ne_of_lt (Nat.lt_of_lt_of_le (by have := World.block_lt_of_cell? _ _ hw414_0; first | rwa [add_block] at this | exact this) GW425.out)) | (show (Addr.add _ _).block ≠ _; rw [add_block]; exact Nat.ne_of_lt (Nat.lt_of_lt_of_le (by have := World.block_lt_of_cell? _ _ hw414_0; first | rwa [add_block] at this | exact this) GW425.out)) | (dsimp only; exact Nat.ne_of_lt (Nat.lt_of_lt_of_le (by have := World.block_lt_of_cell? _ _ hw414_0; first | rwa [add_block] at this | exact this) GW425.out))) _).trans (hHeld.2.2))))⟩ (fun hHeld => ?_)
      clear hK K
      refine pure_ (i := 14) (N := some 8) (v := ?_) (a' := ?_) #[true, true, true, true, true, true, true, true, true, true, true, true, true, true, true] rfl rfl (any_of HT_.out (by kernel_rfl)) (fun _ _ _ h => h) (Or.inl ⟨by rfl, ?_⟩) ?_ ?_
      rotate_left
      ·intro w'
       go_simp
       with_reducible rfl
      rotate_left
      ·simp only [Act.put, sT, s0, s1, i64_w, i32_w]
       rfl
      refine done_ (done_of HT_.out (by kernel_rfl)) ?_
      have hnb41 := NB424_413.out
      have hnc41 := NB413_424.out
      have hnb42 := NB424_425.out
      have hnc42 := NB425_424.out
      obtain ⟨hcz43_0, hcz43_1, hfz43_0, hfz43_1⟩ := bk2 BK424.out
      have hnb44 := NB413_425.out
      have hnc44 := NB425_413.out
      obtain ⟨hcz45_0, hcz45_1, hfz45_0, hfz45_1⟩ := bk2 BK413.out
      try go_wp2
      go_roundg k1
      case measure => have := HK1.out; omega
      case rel => exact ⟨(x3_1), (wrap64 (x5_1 + 1)), (t415), (t418), (.slice Ao35 t415.length co35), (by first | rfl | (simp; done) | (simp [*]; done)), H', ⟨by have := HK1.out; omega⟩, ⟨zN (Kd.N_mono (Kd.N_far (p := ⟨gb413, 1, none⟩) (Kd.N_far (p := ⟨gb413, 0, none⟩) (Kd.N_far (p := ⟨gb425, 1, none⟩) (Kd.N_far (p := ⟨gb425, 0, none⟩) (Kd.N_far (p := ⟨gb424, 1, none⟩) (Kd.N_far (p := ⟨gb424, 0, none⟩) (Kd.N_mono (Kd.N_mono (Kd.N_mono HO_3.out (fun k_ hk => (⟨hk, hk.2.2.2.2.1⟩ : _ ∧ k_ ≠ gb424))) (fun k_ hk => (⟨hk, hk.1.2.2.2.2.2⟩ : _ ∧ k_ ≠ gb425))) (fun k_ hk => (⟨hk, hk.1.1.2.2.2.1⟩ : _ ∧ k_ ≠ gb413))) (fun _ hk => hk.1.1.2) (.slice Ao35 t415.length co35)) (fun _ hk => hk.1.1.2) (.bool t418)) (fun _ hk => hk.1.2) (.int .u16 t419)) (fun _ hk => hk.1.2) (.slice Ao39 t420.length co39)) (fun _ hk => hk.2) (.slice Ao35 t415.length co35)) (fun _ hk => hk.2) (.bool t418)) (fun _ hk => ⟨hk.1.1.1.1, ⟨hk.1.1.1.2.1, hk.1.1.1.2.2.2.1⟩⟩))⟩, ⟨zR (Kd.R_mono (Kd.R_far (p := ⟨gb413, 1, none⟩) (Kd.R_far (p := ⟨gb413, 0, none⟩) (Kd.R_far (p := ⟨gb425, 1, none⟩) (Kd.R_far (p := ⟨gb425, 0, none⟩) (Kd.R_far (p := ⟨gb424, 1, none⟩) (Kd.R_far (p := ⟨gb424, 0, none⟩) (Kd.R_types (Kd.R_types (Kd.R_types HO417.out BK424.out (by decide)) BK425.out (by decide)) BK413.out (by decide)) (fun _ hk => hk.1.1.2) (.slice Ao35 t415.length co35)) (fun _ hk => hk.1.1.2) (.bool t418)) (fun _ hk => hk.1.2) (.int .u16 t419)) (fun _ hk => hk.1.2) (.slice Ao39 t420.length co39)) (fun _ hk => hk.2) (.slice Ao35 t415.length co35)) (fun _ hk => hk.2) (.bool t418)) (fun _ hk => hk.1.1.1.1))⟩, ⟨by (with_reducible repeat (first | refine qN ?_ _ | refine qD ?_ | refine qA ?_ _)); refine blk_put (cs := #[.slice Ao35 t415.length co35, .bool x414001_1]) ?_ 1 _ rfl; (with_reducible repeat (first | refine qN ?_ _ | refine qD ?_ | refine qA ?_ _)); refine blk_put (cs := #[.slice Ao29 x414000_1.length co29, .bool x414001_1]) ?_ 0 _ rfl; (with_reducible repeat (first | refine qN ?_ _ | refine qD ?_ | refine qA ?_ _)); refine blk_far ?_ NB413_425.out _; (with_reducible repeat (first | refine qN ?_ _ | refine qD ?_ | refine qA ?_ _)); refine blk_far ?_ NB413_425.out _; (with_reducible repeat (first | refine qN ?_ _ | refine qD ?_ | refine qA ?_ _)); refine blk_far ?_ NB413_424.out _; (with_reducible repeat (first | refine qN ?_ _ | refine qD ?_ | refine qA ?_ _)); refine blk_far ?_ NB413_424.out _; (with_reducible repeat (first | refine qN ?_ _ | refine qD ?_ | refine qA ?_ _)); exact BK413.out⟩, ⟨by repeat (first | (with_reducible first | exact HB.out | apply pA | apply pN | apply pD | refine pS ?_ GE413.out | refine pS ?_ GE424.out | refine pS ?_ GE425.out) | exact HB.out)⟩⟩
    ·rw [if_neg c5] at H
     exact absurd H (by simp)
   ·rw [if_neg c4] at H
    have c4b0 : decide (x5_1 < (l0.length : Int)) = false := decide_eq_false c4
    clear c4
    obtain rfl := Option.some.inj H
    go_wp2
    go_ret
    exact ⟨_, by first | rfl | (simp [errW_none, errW_some] <;> rfl) | (simp [*, errW_none, errW_some] <;> rfl), zN (Kd.N_mono HO_3.out (fun _ hk => hk.1)), by repeat (first | (with_reducible first | exact HB.out | apply pA | apply pN | apply pD | refine pS ?_ GE413.out) | exact HB.out)⟩

end Go.Proofs.Ytangahcilefelaa.Q
