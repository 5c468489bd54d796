/- chap.ask: the next challenge. -/
import Derived.Test.YtpbkdphilcodmaaDigest
import Derived.Lib.UnsafeStr
namespace Go.Proofs.Ytpbkdphilcodmaa.Q
open Go Go.RowKit Go.Proofs.YtpbkdphilcodmaaW.PrintWords Go.Proofs.YtpbkdphilcodmaaW.PrintLast Go.Proofs.YtpbkdphilcodmaaW.PrintMore
open Go.Proofs.YtpbkdphilcodmaaV Go.Proofs.Ytpbkdphilcodmaa.Pure
set_option linter.unusedVariables false
set_option linter.unusedSimpArgs false
def askI (id : Int) : Int := IntKind.u8.wrap (id + 1)
def askA (a : Au) (v : List Int) : Au := { a with st := 1, tr := wrap64 (a.tr + 1), lf := 4, id := askI a.id, val := v }
def ownL : List Int := [112, 111, 114, 116, 114, 101, 101, 118, 101]
theorem mark_run {W : World} {g : Nat} {cs : List Value} (h : Blk W g 5 cs) (n c : Nat) : (convert 26 26 (.slice (some ⟨g, 0, none⟩) n c)).run Try.prog W = .ok (.slice (some ⟨g, 0, none⟩) n c) (W.freeze ⟨g, cs.length, none⟩ 1) := by
  have hsh : W.shape? g = some (5, cs.length) := by
    unfold World.shape?
    rw [show W.heap[g]? = _ from h]
    simp
  simp [convert, run_underlying Try.underlying26, run_underlying Try.underlying5, markStringish, hsh]
theorem mark_event {o : Oper} {a : Act} {W : World} {x : Operand} {g n c : Nat} {cs : List Value} (ho : o.op = .convert 26 26 x) (hx : a.eval x = .slice (some ⟨g, 0, none⟩) n c) (h : Blk W g 5 cs) : (execOp a.eval o).run Try.prog W = .ok (.value (.slice (some ⟨g, 0, none⟩) n c)) (W.freeze ⟨g, cs.length, none⟩ 1) := by
  unfold execOp
  simp only [ho, hx, Sem.run_bind, mark_run h n c, Result.andThen_ok, Sem.run_pure]
theorem mark_far {W : World} {g g2 : Nat} {t : TypeId} {xs : List Value} (h : Blk W g t xs) (hn : g ≠ g2) (k : Nat) : Blk (W.freeze ⟨g2, k, none⟩ 1) g t xs := by
  unfold Blk World.freeze at *
  rw [if_neg (by decide)]
  show (W.heap.modify g2 _)[g]? = _
  rw [Array.getElem?_modify, if_neg (fun h => hn h.symm)]
  exact h
theorem mark_C {W : World} {g : Nat} {xs : List Int} (h : Blk W g 5 (ints xs)) (hl : xs.length ≤ 9223372036854775807) (k : Nat) : Kd.C (Kd.int .u8) (W.freeze ⟨g, k, none⟩ 1) (some ⟨g, 0, none⟩) xs.length xs := by
  have hb : (W.freeze ⟨g, k, none⟩ 1).heap[g]? = some (.cells (ints xs).toArray 5 (k, k + 1)) := by
    unfold World.freeze
    rw [if_neg (by decide)]
    show (W.heap.modify g _)[g]? = _
    rw [Array.getElem?_modify, if_pos rfl, show W.heap[g]? = _ from h]
    rfl
  refine Kd.C_of_reads (d := (0 : Int)) (h1 := fun _ => rfl) ⟨rfl, hl, fun _ => ⟨_, rfl, fun i hi => ?_⟩⟩
  rw [Addr.add_mid, Nat.zero_add, cell_of_row _ _ _ _ _ _ hb, List.getElem?_toArray]
  unfold ints
  rw [List.getElem?_map, List.getElem?_eq_getElem hi, List.getD_eq_getElem?_getD, List.getElem?_eq_getElem hi]
  rfl
theorem end_M.mark {w W : World} {g4 g6 g8 g9 g2 : Nat} {a : Au} {p : List Int} {rc kc : List Value} (h : end_M w g4 g6 g8 g9 a p rc kc W) (hg : g9 < g2) (k : Nat) : end_M w g4 g6 g8 g9 a p rc kc (W.freeze ⟨g2, k, none⟩ 1) :=
  ⟨Go.Lib.below_freeze h.bel (show w.heap.size ≤ g2 by have := h.n1; have := h.n2; have := h.n3; have := h.lo; omega) 1, mark_far h.A (by have := h.n1; have := h.n2; have := h.n3; omega) k, mark_far h.P (by have := h.n2; have := h.n3; omega) k, mark_far h.R (by have := h.n3; omega) k, mark_far h.K (by omega) k, h.lo, h.n1, h.n2, h.n3⟩
theorem end_M.alloc {w W : World} {g4 g6 g8 g9 : Nat} {a : Au} {p : List Int} {rc kc : List Value} (h : end_M w g4 g6 g8 g9 a p rc kc W) (ob : Obj) : end_M w g4 g6 g8 g9 a p rc kc (W.alloc ob) := h.keep (pA (Below.refl _ _) _)
set_option maxHeartbeats 8000000 in
set_option maxRecDepth 100000 in
theorem ask_calls (a : Au) (ha : a.wf) (p : List Int) (hp : p.length = 16) (w : World) :
    Calls Try.prog 24 #[.agg a.cells.toArray, .agg (ints p).toArray] w fun e w' => ∃ (A : Option Addr) (c : Nat), e = .returned (.tuple #[.agg (askA a p).cells.toArray, .agg (pk 1 (askI a.id) (.slice A 26 c)).toArray]) ∧ Below w.heap.size w w' := by
  have HA := Aside0.mk ha
  have HP := Aside0.mk hp
  clear ha hp
  obtain ⟨cs, hcs⟩ : ∃ cs, cs = a.cells.toArray := ⟨_, rfl⟩
  obtain ⟨ps, hps⟩ : ∃ ps, ps = (ints p).toArray := ⟨_, rfl⟩
  rw [← hcs, ← hps]
  have HCS := Aside0.mk hcs
  have HPS := Aside0.mk hps
  clear hcs hps
  obtain ⟨id1, hid1⟩ : ∃ id1, IntKind.u8.wrap (a.id + 1) = id1 := ⟨_, rfl⟩
  obtain ⟨tr1, htr1⟩ : ∃ tr1, wrap64 (a.tr + 1) = tr1 := ⟨_, rfl⟩
  have HID := Aside0.mk hid1
  have HTR := Aside0.mk htr1
  clear htr1
  go_enter Try.func24, Try.ntmps24
  go_upto_region 1 with (first
    | ((with_reducible refine gate_dst (N := 2) rfl ?_); refine box_event ?hg (N := 2) ?hd (cs := cs) (t := 24) ?hr ?_; (case hd => rfl); (case hg => rfl); (case hr => first | (go_simp; done) | (go_simp; rfl)); intro g4 hg w1 hbox hb; rw [HCS.out] at hbox; have B4 := Aside0.mk (show Blk w1 g4 24 a.cells from hbox); have HL := Aside0.mk hb; have L4 := Aside0.mk (show w.heap.size ≤ g4 by rw [hg]; exact Nat.le_refl _); clear hbox hb hg)
    | ((with_reducible refine gate_dst (N := 3) rfl ?_); refine box_event ?hg (N := 3) ?hd (cs := ps) (t := 22) ?hr ?_; (case hd => rfl); (case hg => rfl); (case hr => first | (go_simp; done) | (go_simp; rfl)); intro g6 hg w2 hbox hb; rw [HPS.out] at hbox; have B6 := Aside0.mk (show Blk w2 g6 22 (ints p) from hbox); have N1 := Aside0.mk (show g4 < g6 by rw [hg]; exact B4.out.lt); have B4' := Aside0.mk (B4.out.keep hb); have HL' := Aside0.mk (below_step HL.out hb); clear hbox hb hg B4 HL)
    | ((with_reducible refine gate_dst (N := 4) rfl ?_); refine box_event ?hg (N := 4) ?hd (cs := Au.zero.cells.toArray) (t := 24) ?hr ?_; (case hd => rfl); (case hg => rfl); (case hr => first | (go_simp; done) | (go_simp; rfl)); intro g8 hg w3 hbox hb; have B8 := Aside0.mk (show Blk w3 g8 24 Au.zero.cells from hbox); have N2 := Aside0.mk (show g6 < g8 by rw [hg]; exact B6.out.lt); have B4 := Aside0.mk (B4'.out.keep hb); have B6' := Aside0.mk (B6.out.keep hb); have HL := Aside0.mk (below_step HL'.out hb); clear hbox hb hg B4' B6 HL')
    | ((with_reducible refine gate_dst (N := 5) rfl ?_); refine box_event ?hg (N := 5) ?hd (cs := zP.toArray) (t := 28) ?hr ?_; (case hd => rfl); (case hg => rfl); (case hr => first | (go_simp; done) | (go_simp; rfl)); intro g9 hg w4 hbox hb; have HM := Aside0.mk (show end_M w g4 g6 g8 g9 a p Au.zero.cells zP w4 from ⟨below_step HL.out hb, B4.out.keep hb, B6'.out.keep hb, B8.out.keep hb, hbox, L4.out, N1.out, N2.out, by rw [hg]; exact B8.out.lt⟩); clear hbox hb hg B4 B6' B8 HL L4 N1 N2))
  have hc3 := Au.at3 HM.out.A
  go_upto_region 2 with (first
    | ((with_reducible refine wpList_store_cell (t := 24) rfl rfl 5 (.tmp 9) _ rfl g4 3 (.int .u8 id1) ?hx ?hy HM.out.A ?h6 ?h7 ?h8 ?h9 ?_); (case hx => rfl); (case hy => rfl); (case h6 => exact Au.lt (by omega) HA.out.val HA.out.prf); (case h7 => rfl); (case h8 => rfl); (case h9 => kernel_rfl); have HM1 := Aside0.mk (HM.out.setA (Au.put3 HM.out.A (x := id1))); clear HM hc3))
  generalize w4.setCell _ _ = w5 at HM1 ⊢
  have hc1 : w5.cell? ⟨g4, 1, none⟩ = some (.int .i64 a.tr) := by have h := Au.at1 HM1.out.A; exact h
  go_upto_region 3 with (first
    | ((with_reducible refine wpList_store_cell (t := 24) rfl rfl 3 (.tmp 13) _ rfl g4 1 (.int .i64 (wrap64 (a.tr + 1))) ?hx ?hy HM1.out.A ?h6 ?h7 ?h8 ?h9 ?_); (case hx => rfl); (case hy => rfl); (case h6 => exact Au.lt (by omega) HA.out.val HA.out.prf); (case h7 => rfl); (case h8 => rfl); (case h9 => kernel_rfl); have HM2 := Aside0.mk (HM1.out.setA (Au.put1 HM1.out.A (x := wrap64 (a.tr + 1)))); clear HM1 hc1))
  generalize w5.setCell _ _ = w6 at HM2 ⊢
  rw [HTR.out] at HM2
  refine start_ (n := 7) (S := fun w' => Blk w' g6 22 (ints p)) (ds := []) #[false, false, false, false, false, false, false] (by kernel_rfl) rfl rfl HM2.out.P.drew (fun hHeld => ?_)
  have HM8 := Aside0.mk (HM2.out.keep (pD (Below.refl _ _)))
  clear HM2
  generalize World.drew _ = w8 at HM8 hHeld ⊢
  refine take_ (i := 0) (N := some 14) (v := .agg (ints p).toArray) (a' := ?_) #[true, false, false, false, false, false, false] rfl rfl (by kernel_rfl) (fun _ _ _ h => h) (yieldsIf_load_mid (by rfl) 22 (.tmp 3) rfl g6 0 rfl _ _ (fun w' h => h.whole) Try.underlying22 rfl (i22 HP.out)) hHeld ?_ ?_
  rotate_left
  · simp only [Act.put, sT, s0, s1]
    rfl
  refine pure_ (i := 1) (N := some 15) (v := ?_) (a' := ?_) #[true, true, false, false, false, false, false] rfl rfl (by kernel_rfl) (fun _ _ _ h => h) (Or.inl ⟨by rfl, ?_⟩) ?_ ?_
  rotate_left
  · intro w'
    go_simp
    with_reducible rfl
  rotate_left
  · simp only [Act.put, sT, s0, s1, i64_w, i32_w]
    rfl
  refine one_ (i := 2) (N := none) #[true, true, true, false, false, false, false] rfl rfl (by kernel_rfl) (by decide) (fun K hK => ?_)
  refine skip_ (by rfl) rfl (store_runC (ty := 3) (v := .int .i64 1) rfl rfl rfl HM8.out.A (Au.lt (by omega) HA.out.val HA.out.prf) rfl rfl (by kernel_rfl)) ?_
  have HM9 := Aside0.mk (HM8.out.setA (Au.put0 HM8.out.A (x := 1)))
  clear HM8
  refine hK.out _ _ (HM9.out.P) (fun hHeld => ?_)
  clear hK K
  refine pure_ (i := 3) (N := some 16) (v := ?_) (a' := ?_) #[true, true, true, true, false, false, false] rfl rfl (by kernel_rfl) (fun _ _ _ h => h) (Or.inl ⟨by rfl, ?_⟩) ?_ ?_
  rotate_left
  · intro w'
    go_simp
    with_reducible rfl
  rotate_left
  · simp only [Act.put, sT, s0, s1, i64_w, i32_w]
    rfl
  refine one_ (i := 4) (N := none) #[true, true, true, true, true, false, false] rfl rfl (by kernel_rfl) (by decide) (fun K hK => ?_)
  refine skip_ (by rfl) rfl (store_runC (ty := 3) (v := .int .i64 4) rfl rfl rfl HM9.out.A (Au.lt (by omega) HA.out.val HA.out.prf) rfl rfl (by kernel_rfl)) ?_
  have HM10 := Aside0.mk (HM9.out.setA (Au.put2 HM9.out.A (x := 4)))
  clear HM9
  refine hK.out _ _ (HM10.out.P) (fun hHeld => ?_)
  clear hK K
  refine pure_ (i := 5) (N := some 17) (v := ?_) (a' := ?_) #[true, true, true, true, true, true, false] rfl rfl (by kernel_rfl) (fun _ _ _ h => h) (Or.inl ⟨by rfl, ?_⟩) ?_ ?_
  rotate_left
  · intro w'
    go_simp
    with_reducible rfl
  rotate_left
  · simp only [Act.put, sT, s0, s1, i64_w, i32_w]
    rfl
  refine one_ (i := 6) (N := none) #[true, true, true, true, true, true, true] rfl rfl (by kernel_rfl) (by decide) (fun K hK => ?_)
  refine skip_ (by rfl) rfl (store_runM (ty := 22) (new := ints p) (off := 4) rfl rfl rfl HM10.out.A (Au.le (by rw [ints_length, HP.out]; omega) HA.out.val HA.out.prf) (i22 HP.out) (ints_one _)) ?_
  have HM11 := Aside0.mk (HM10.out.setsA (Au.putVal HM10.out.A ⟨HA.out.val, HA.out.prf⟩ HP.out))
  clear HM10
  refine hK.out _ _ (HM11.out.P) (fun hHeld => ?_)
  clear hK K
  refine done_ (by kernel_rfl) ?_
  clear hHeld
  have HM1_ := Aside0.mk (show end_M w g4 g6 g8 g9 { a with st := 1, tr := tr1, lf := 4, id := id1, val := p } p Au.zero.cells zP _ from HM11.out)
  clear HM11
  obtain ⟨a1, ha1⟩ : ∃ a1, a1 = askA a p := ⟨_, rfl⟩
  have HAE := Aside0.mk (show a1 = { a with st := 1, tr := tr1, lf := 4, id := id1, val := p } by rw [ha1, ← HID.out, ← HTR.out]; rfl)
  rw [← HAE.out] at HM1_
  have HW := Aside0.mk (show a1.wf by rw [ha1]; exact ⟨HP.out, HA.out.prf⟩)
  have HE := Aside0.mk ha1
  have HI := Aside0.mk (show a1.id = id1 by rw [HAE.out])
  clear ha1 HAE hid1
  go_upto_region 4 with (fail)
  refine start_ (n := 12) (S := fun w' => Blk w' g4 24 a1.cells) (ds := []) #[false, false, false, false, false, false, false, false, false, false, false, false] (by kernel_rfl) rfl rfl HM1_.out.A.drew (fun hHeld => ?_)
  have HM8 := Aside0.mk (HM1_.out.keep (pD (Below.refl _ _)))
  clear HM1_
  generalize World.drew _ = w8 at HM8 hHeld ⊢
  refine take_ (i := 0) (N := some 18) (v := .agg a1.cells.toArray) (a' := ?_) #[true, false, false, false, false, false, false, false, false, false, false, false] rfl rfl (by kernel_rfl) (fun _ _ _ h => h) (yieldsIf_load_mid (by rfl) 24 (.tmp 2) rfl g4 0 rfl _ _ (fun w' h => h.whole) Try.underlying24 rfl (i24 HW.out)) hHeld ?_ ?_
  rotate_left
  · simp only [Act.put, sT, s0, s1]
    rfl
  refine pure_ (i := 1) (N := some 19) (v := ?_) (a' := ?_) #[true, true, false, false, false, false, false, false, false, false, false, false] rfl rfl (by kernel_rfl) (fun _ _ _ h => h) (Or.inl ⟨by rfl, ?_⟩) ?_ ?_
  rotate_left
  · intro w'
    go_simp
    with_reducible rfl
  rotate_left
  · simp only [Act.put, sT, s0, s1, i64_w, i32_w]
    rfl
  refine take_ (i := 2) (N := some 20) (v := ?_) (a' := ?_) #[true, true, true, false, false, false, false, false, false, false, false, false] rfl rfl (by kernel_rfl) (fun _ _ _ h => h) (Or.inl ⟨by rfl, ?_⟩) hHeld ?_ ?_
  rotate_left
  · intro w' h
    have hc_ := Au.at3 h
    go_simp
    with_reducible rfl
  rotate_left
  · simp only [Act.put, sT, s0, s1]
    rfl
  refine pure_ (i := 4) (N := some 22) (v := ?_) (a' := ?_) #[true, true, true, false, true, false, false, false, false, false, false, false] rfl rfl (by kernel_rfl) (fun _ _ _ h => h) (Or.inl ⟨by rfl, ?_⟩) ?_ ?_
  rotate_left
  · intro w'
    go_simp
    with_reducible rfl
  rotate_left
  · simp only [Act.put, sT, s0, s1, i64_w, i32_w]
    rfl
  refine join_ (σ := Nat × Nat) 5 #[true, true, true, true, true, true, true, false, false, false, false, false] (fun s_ => [(21, .slice (some ⟨s_.1, 0, none⟩) 1 1), (23, .slice (some ⟨s_.2, 0, none⟩) 9 9), (24, .slice (some ⟨s_.2, 0, none⟩) 9 9)]) (fun s_ w' => end_M w g4 g6 g8 g9 a1 p Au.zero.cells zP w' ∧ Kd.C (Kd.int .u8) w' (some ⟨s_.1, 0, none⟩) 1 [16] ∧ Kd.C (Kd.int .u8) w' (some ⟨s_.2, 0, none⟩) 9 ownL) ?_ ?_
  rotate_left
  · intro hJ
    refine two_ (i := 3) (j := 5) (Ni := some 21) (Nj := some 23) #[true, true, true, true, true, false, false, false, false, false, false, false] #[true, true, true, false, true, true, false, false, false, false, false, false] rfl rfl rfl rfl (by kernel_rfl) (by decide) (by decide) (fun K hK => ?_) (fun K hK => ?_)
    · skip
      refine value_ (by rfl) rfl (show (execOp _ _).run Try.prog _ = .ok (.value (.slice (some ⟨w8.heap.size, 0, none⟩) 1 1)) (w8.alloc (.cells (ints [16]).toArray 5)) by first | (go_simp; done) | (go_simp; rfl)) ?_
      have HM9 := Aside0.mk (HM8.out.alloc (.cells (ints [16]).toArray 5))
      have BX := Aside0.mk (Blk.new (w := w8) (t := 5) (cs := ints [16]))
      have HG := Aside0.mk HM8.out.K.lt
      clear HM8
      generalize hg_ : w8.heap.size = g1 at BX HG ⊢
      clear hg_
      generalize w8.alloc _ = w9 at HM9 BX ⊢
      refine hK.out _ _ HM9.out.A (fun hHeld => ?_)
      clear hK K
      refine norm_ (a' := ?_) ?_ ?_
      rotate_left
      · show Act.put _ (some 21) _ = _
        simp only [Act.put, sT, s0, s1, i64_w, i32_w]
        rfl
      refine one_ (i := 5) (N := some 23) #[true, true, true, true, true, true, false, false, false, false, false, false] rfl rfl (by kernel_rfl) (by decide) (fun K hK => ?_)
      refine value_ (by rfl) rfl (show (execOp _ _).run Try.prog _ = .ok (.value (.slice (some ⟨w9.heap.size, 0, none⟩) 9 9)) (w9.alloc (.cells (ints ownL).toArray 5)) by first | (go_simp; done) | (go_simp; rfl)) ?_
      have HM10 := Aside0.mk (HM9.out.alloc (.cells (ints ownL).toArray 5))
      have BX' := Aside0.mk (BX.out.alloc (.cells (ints ownL).toArray 5))
      have BY := Aside0.mk (Blk.new (w := w9) (t := 5) (cs := ints ownL))
      have HG2 := Aside0.mk HM9.out.K.lt
      have HN := Aside0.mk BX.out.lt
      clear HM9 BX HG
      generalize hg_ : w9.heap.size = g2 at BY HG2 HN ⊢
      clear hg_
      generalize w9.alloc _ = w10 at HM10 BX' BY ⊢
      refine hK.out _ _ (HM10.out.A) (fun hHeld => ?_)
      clear hK K
      refine norm_ (a' := ?_) ?_ ?_
      rotate_left
      · show Act.put _ (some 23) _ = _
        simp only [Act.put, sT, s0, s1, i64_w, i32_w]
        rfl
      refine one_ (i := 6) (N := some 24) #[true, true, true, true, true, true, true, false, false, false, false, false] rfl rfl (by kernel_rfl) (by decide) (fun K hK => ?_)
      refine value_ (by rfl) rfl (mark_event (g := g2) (n := 9) (c := 9) rfl rfl BY.out) ?_
      have HM11 := Aside0.mk (HM10.out.mark HG2.out 9)
      have HY := Aside0.mk (mark_C BY.out (by decide) 9)
      have HX := Aside0.mk (blk_C (mark_far (g2 := g2) BX'.out (by have := HN.out; omega) 9) (by decide))
      clear HM10 BY BX'
      rw [show (ints ownL).length = 9 from rfl]
      generalize World.freeze _ _ _ = w11 at HM11 HX HY ⊢
      refine hK.out _ _ (HM11.out.A) (fun hHeld => ?_)
      clear hK K
      refine norm_ (a' := ?_) ?_ ?_
      rotate_left
      · show Act.put _ (some 24) _ = _
        simp only [Act.put, sT, s0, s1, i64_w, i32_w]
        rfl
      exact norm_ (by first | (simp only [putAll, Act.put, sT, s0, s1]; done) | (simp only [putAll, Act.put, sT, s0, s1]; rfl)) (hJ (g1, g2) _ ⟨HM11.out, HX.out, HY.out⟩)
    · skip
      refine value_ (by rfl) rfl (show (execOp _ _).run Try.prog _ = .ok (.value (.slice (some ⟨w8.heap.size, 0, none⟩) 9 9)) (w8.alloc (.cells (ints ownL).toArray 5)) by first | (go_simp; done) | (go_simp; rfl)) ?_
      have HM9 := Aside0.mk (HM8.out.alloc (.cells (ints ownL).toArray 5))
      have BY := Aside0.mk (Blk.new (w := w8) (t := 5) (cs := ints ownL))
      have HG := Aside0.mk HM8.out.K.lt
      clear HM8
      generalize hg_ : w8.heap.size = g2 at BY HG ⊢
      clear hg_
      generalize w8.alloc _ = w9 at HM9 BY ⊢
      refine hK.out _ _ HM9.out.A (fun hHeld => ?_)
      clear hK K
      refine norm_ (a' := ?_) ?_ ?_
      rotate_left
      · show Act.put _ (some 23) _ = _
        simp only [Act.put, sT, s0, s1, i64_w, i32_w]
        rfl
      have HG2 := HG
      clear HG
      refine two_ (i := 3) (j := 6) (Ni := some 21) (Nj := some 24) #[true, true, true, true, true, true, false, false, false, false, false, false] #[true, true, true, false, true, true, true, false, false, false, false, false] rfl rfl rfl rfl (by kernel_rfl) (by decide) (by decide) (fun K hK => ?_) (fun K hK => ?_)
      · skip
        refine value_ (by rfl) rfl (show (execOp _ _).run Try.prog _ = .ok (.value (.slice (some ⟨w9.heap.size, 0, none⟩) 1 1)) (w9.alloc (.cells (ints [16]).toArray 5)) by first | (go_simp; done) | (go_simp; rfl)) ?_
        have HM10 := Aside0.mk (HM9.out.alloc (.cells (ints [16]).toArray 5))
        have BY' := Aside0.mk (BY.out.alloc (.cells (ints [16]).toArray 5))
        have BX := Aside0.mk (Blk.new (w := w9) (t := 5) (cs := ints [16]))
        have HN := Aside0.mk BY.out.lt
        clear HM9 BY
        generalize hg_ : w9.heap.size = g1 at BX HN ⊢
        clear hg_
        generalize w9.alloc _ = w10 at HM10 BX BY' ⊢
        refine hK.out _ _ HM10.out.A (fun hHeld => ?_)
        clear hK K
        refine norm_ (a' := ?_) ?_ ?_
        rotate_left
        · show Act.put _ (some 21) _ = _
          simp only [Act.put, sT, s0, s1, i64_w, i32_w]
          rfl
        refine one_ (i := 6) (N := some 24) #[true, true, true, true, true, true, true, false, false, false, false, false] rfl rfl (by kernel_rfl) (by decide) (fun K hK => ?_)
        refine value_ (by rfl) rfl (mark_event (g := g2) (n := 9) (c := 9) rfl rfl BY'.out) ?_
        have HM11 := Aside0.mk (HM10.out.mark HG2.out 9)
        have HY := Aside0.mk (mark_C BY'.out (by decide) 9)
        have HX := Aside0.mk (blk_C (mark_far (g2 := g2) BX.out (by have := HN.out; omega) 9) (by decide))
        clear HM10 BY' BX
        rw [show (ints ownL).length = 9 from rfl]
        generalize World.freeze _ _ _ = w11 at HM11 HX HY ⊢
        refine hK.out _ _ (HM11.out.A) (fun hHeld => ?_)
        clear hK K
        refine norm_ (a' := ?_) ?_ ?_
        rotate_left
        · show Act.put _ (some 24) _ = _
          simp only [Act.put, sT, s0, s1, i64_w, i32_w]
          rfl
        exact norm_ (by first | (simp only [putAll, Act.put, sT, s0, s1]; done) | (simp only [putAll, Act.put, sT, s0, s1]; rfl)) (hJ (g1, g2) _ ⟨HM11.out, HX.out, HY.out⟩)
      · skip
        refine value_ (by rfl) rfl (mark_event (g := g2) (n := 9) (c := 9) rfl rfl BY.out) ?_
        have HM10 := Aside0.mk (HM9.out.mark HG2.out 9)
        have HY := Aside0.mk (mark_C BY.out (by decide) 9)
        clear HM9 BY
        rw [show (ints ownL).length = 9 from rfl]
        generalize World.freeze _ _ _ = w10 at HM10 HY ⊢
        refine hK.out _ _ HM10.out.A (fun hHeld => ?_)
        clear hK K
        refine norm_ (a' := ?_) ?_ ?_
        rotate_left
        · show Act.put _ (some 24) _ = _
          simp only [Act.put, sT, s0, s1, i64_w, i32_w]
          rfl
        refine one_ (i := 3) (N := some 21) #[true, true, true, true, true, true, true, false, false, false, false, false] rfl rfl (by kernel_rfl) (by decide) (fun K hK => ?_)
        refine value_ (by rfl) rfl (show (execOp _ _).run Try.prog _ = .ok (.value (.slice (some ⟨w10.heap.size, 0, none⟩) 1 1)) (w10.alloc (.cells (ints [16]).toArray 5)) by first | (go_simp; done) | (go_simp; rfl)) ?_
        have HM11 := Aside0.mk (HM10.out.alloc (.cells (ints [16]).toArray 5))
        have HY' := Aside0.mk (Kd.C_alloc HY.out (.cells (ints [16]).toArray 5))
        have HX := Aside0.mk (blk_C (Blk.new (w := w10) (t := 5) (cs := ints [16])) (by decide))
        clear HM10 HY
        generalize hg_ : w10.heap.size = g1 at HX ⊢
        clear hg_
        generalize w10.alloc _ = w11 at HM11 HX HY' ⊢
        refine hK.out _ _ (HM11.out.A) (fun hHeld => ?_)
        clear hK K
        refine norm_ (a' := ?_) ?_ ?_
        rotate_left
        · show Act.put _ (some 21) _ = _
          simp only [Act.put, sT, s0, s1, i64_w, i32_w]
          rfl
        exact norm_ (by first | (simp only [putAll, Act.put, sT, s0, s1]; done) | (simp only [putAll, Act.put, sT, s0, s1]; rfl)) (hJ (g1, g2) _ ⟨HM11.out, HX.out, HY'.out⟩)
  rintro ⟨g1, g2⟩ w9 ⟨hm, hx, hy⟩
  clear HM8 hHeld
  have HM9 := Aside0.mk hm
  have HX := Aside0.mk hx
  have HY := Aside0.mk hy
  clear hm hx hy
  refine norm_ (a' := ?_) ?_ ?_
  rotate_left
  · simp only [putAll, Act.put, sT, s0, s1]
    rfl
  refine one_ (i := 7) (N := some 25) #[true, true, true, true, true, true, true, true, false, false, false, false] rfl rfl (by kernel_rfl) (by decide) (fun K hK => ?_)
  refine value_ (by rfl) rfl (show (execOp _ _).run Try.prog _ = .ok (.value (.slice (some ⟨w9.heap.size, 0, none⟩) 3 3)) (w9.alloc (.cells #[.slice (some ⟨g1, 0, none⟩) 1 1, .slice (some ⟨g6, 0, none⟩) 16 16, .slice (some ⟨g2, 0, none⟩) 9 9] 26)) by first | (go_simp; done) | (go_simp; rfl)) ?_
  have HW3 := Aside0.mk (rows3 (g := w9.heap.size) (t := 26) (A0 := some ⟨g1, 0, none⟩) (A1 := some ⟨g6, 0, none⟩) (A2 := some ⟨g2, 0, none⟩) (c0 := 1) (c1 := 16) (c2 := 9) (l0 := [16]) (l1 := p) (l2 := ownL) (by rw [HP.out]; exact Blk.new (w := w9) (t := 26) (cs := [.slice (some ⟨g1, 0, none⟩) 1 1, .slice (some ⟨g6, 0, none⟩) 16 16, .slice (some ⟨g2, 0, none⟩) 9 9])) (Kd.C_alloc HX.out _) (Kd.C_alloc (blk_C HM9.out.P (by have := HP.out; omega)) _) (Kd.C_alloc HY.out _) (by decide) (by rw [HP.out]; exact Nat.le_refl _) (by decide))
  have HM10 := Aside0.mk (HM9.out.alloc (.cells #[.slice (some ⟨g1, 0, none⟩) 1 1, .slice (some ⟨g6, 0, none⟩) 16 16, .slice (some ⟨g2, 0, none⟩) 9 9] 26))
  clear HM9 HX HY
  generalize hg7 : w9.heap.size = g7 at HW3 ⊢
  clear hg7
  generalize w9.alloc _ = w10 at HM10 HW3 ⊢
  refine hK.out _ _ (HM10.out.A) (fun hHeld => ?_)
  clear hK K
  refine norm_ (a' := ?_) ?_ ?_
  rotate_left
  · show Act.put _ (some 25) _ = _
    simp only [Act.put, sT, s0, s1, i64_w, i32_w]
    rfl
  refine one_ (i := 8) (N := some 26) #[true, true, true, true, true, true, true, true, true, false, false, false] rfl rfl (by kernel_rfl) (by decide) (fun K hK => ?_)
  refine goes_ Try.func28 (by kernel_rfl) rfl #[.slice (some ⟨g7, 0, none⟩) 3 3] (by rfl) rfl rfl (by (try simp only [List.map_toArray, List.map_cons, List.map_nil]); first | done | rfl) ?_
  refine (slices_Concat_byte_byte.calls 10 (some ⟨g7, 0, none⟩) 3 [[16], p, ownL] _ _ HW3.out (Nat.le_refl _) (concat3 [16] p ownL (by rw [HP.out]; decide))).mono ?_
  rintro e w11 ⟨v13, rfl, hr, hb⟩
  obtain ⟨q, hq⟩ : ∃ q, [16] ++ p ++ ownL = q := ⟨_, rfl⟩
  rw [hq] at hr
  have hql : q.length = 26 := by rw [← hq, List.length_append, List.length_append, HP.out]; rfl
  obtain ⟨A26, c26, rfl⟩ := Kd.R_slice hr
  rw [hql]
  refine ⟨_, rfl, ?_⟩
  have HM11 := Aside0.mk (HM10.out.keep hb)
  clear HM10 HW3 hr hq hql hb
  refine hK.out _ _ HM11.out.A (fun hHeld => ?_)
  clear hK K
  refine norm_ (a' := ?_) ?_ ?_
  rotate_left
  · show Act.put _ (some 26) _ = _
    simp only [Act.put, sT, s0, s1, i64_w, i32_w]
    rfl
  refine pure_ (i := 9) (N := some 27) (v := ?_) (a' := ?_) #[true, true, true, true, true, true, true, true, true, true, false, false] rfl rfl (by kernel_rfl) (fun _ _ _ h => h) (Or.inl ⟨by rfl, ?_⟩) ?_ ?_
  rotate_left
  · intro w'
    go_simp
    with_reducible rfl
  rotate_left
  · simp only [Act.put, sT, s0, s1, i64_w, i32_w]
    rfl
  refine one_ (i := 10) (N := none) #[true, true, true, true, true, true, true, true, true, true, true, false] rfl rfl (by kernel_rfl) (by decide) (fun K hK => ?_)
  refine skip_ (by rfl) rfl (store_run (ty := 24) rfl rfl rfl HM11.out.R (by rw [Au.length HW.out]; rfl) (i24 HW.out) (Au.one _)) ?_
  have HM9 := Aside0.mk (HM11.out.overR (new := a1.cells) (by rw [Au.length HW.out]; rfl))
  clear HM11
  refine hK.out _ _ (HM9.out.A) (fun hHeld => ?_)
  clear hK K
  refine one_ (i := 11) (N := none) #[true, true, true, true, true, true, true, true, true, true, true, true] rfl rfl (by kernel_rfl) (by decide) (fun K hK => ?_)
  refine skip_ (by rfl) rfl (store_run (ty := 28) (new := pk 1 a1.id (.slice A26 26 c26)) rfl rfl rfl HM9.out.K rfl (by kernel_rfl) (by simp [pk, Value.oneCell'])) ?_
  have HM10 := Aside0.mk (HM9.out.overK (new := pk 1 a1.id (.slice A26 26 c26)) rfl)
  clear HM9
  refine hK.out _ _ (HM10.out.A) (fun hHeld => ?_)
  clear hK K
  refine done_ (by kernel_rfl) ?_
  clear hHeld
  go_wp2
  refine bodyPost_ret (results_two rfl _ _ g8 g9 (.agg a1.cells.toArray) (.agg (pk 1 a1.id (.slice A26 26 c26)).toArray) rfl rfl (loadVar_blk HM10.out.R Try.underlying24 rfl (i24 HW.out)) (loadVar_blk HM10.out.K Try.underlying28 rfl (by kernel_rfl))) rfl ?_
  exact ⟨A26, c26, by rw [HI.out, ← HID.out, HE.out] <;> rfl, HM10.out.bel⟩
end Go.Proofs.Ytpbkdphilcodmaa.Q
