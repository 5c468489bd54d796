import Derived.Test.YtpbkdphilcodmaaBlk
import Derived.Test.YtpbkdphilcodmaaQx0
import Derived.Laws.BytesString
import Derived.Laws.IdiomStrings
import Derived.Laws.AppendOwn
/- Authentications as lists of cells. -/
namespace Go.Proofs.Ytpbkdphilcodmaa.Q
open Go Go.RowKit Go.Proofs.YtpbkdphilcodmaaW.PrintWords Go.Proofs.YtpbkdphilcodmaaW.PrintLast Go.Proofs.YtpbkdphilcodmaaW.PrintMore
open Go.Proofs.YtpbkdphilcodmaaV
set_option linter.unusedVariables false
/-- An authentication. -/
structure Au where
  st : Int
  tr : Int
  lf : Int
  id : Int
  val : List Int
  who : ByteArray
  prf : List Int
def ints (xs : List Int) : List Value := xs.map (Value.int .u8)
theorem ints_length (xs : List Int) : (ints xs).length = xs.length := List.length_map ..
def Au.cells (a : Au) : List Value := [.int .i64 a.st, .int .i64 a.tr, .int .i64 a.lf, .int .u8 a.id] ++ (ints a.val ++ ([.string a.who] ++ ints a.prf))
def Au.v (a : Au) : Value := .agg a.cells.toArray
def row16 (xs : List Int) : Value := .agg (ints xs).toArray
structure Au.wf (a : Au) : Prop where
  val : a.val.length = 16
  prf : a.prf.length = 16
def no16 : List Int := List.replicate 16 0
def Au.zero : Au := ⟨0, 0, 0, 0, no16, ⟨#[]⟩, no16⟩
theorem Au.length {a : Au} (h : a.wf) : a.cells.length = 37 := by
  unfold Au.cells
  simp only [List.length_append, ints_length, List.length_cons, List.length_nil, h.val, h.prf]
theorem Au.len {a : Au} (hv : a.val.length = 16) (hp : a.prf.length = 16) : a.cells.length = 37 := Au.length ⟨hv, hp⟩
theorem Au.lt {a : Au} {i : Nat} (hi : i < 37) (hv : a.val.length = 16) (hp : a.prf.length = 16) : i < a.cells.length := by rw [Au.len hv hp]; exact hi
theorem Au.le {a : Au} {i : Nat} (hi : i ≤ 37) (hv : a.val.length = 16) (hp : a.prf.length = 16) : i ≤ a.cells.length := by rw [Au.len hv hp]; exact hi
theorem Au.get20 {a : Au} (h : a.wf) : a.cells[20]? = some (.string a.who) := by
  unfold Au.cells
  rw [List.getElem?_append_right (by simp), List.getElem?_append_right (by rw [ints_length, h.val]; simp), ints_length, h.val]
  rfl
section
variable {a : Au} {w : World} {g : Nat} {t : TypeId}
theorem Au.at0 (h : Blk w g t a.cells) : w.cell? ⟨g, 0, none⟩ = some (.int .i64 a.st) := h.at_ rfl
theorem Au.at1 (h : Blk w g t a.cells) : w.cell? ⟨g, 1, none⟩ = some (.int .i64 a.tr) := h.at_ rfl
theorem Au.at2 (h : Blk w g t a.cells) : w.cell? ⟨g, 2, none⟩ = some (.int .i64 a.lf) := h.at_ rfl
theorem Au.at3 (h : Blk w g t a.cells) : w.cell? ⟨g, 3, none⟩ = some (.int .u8 a.id) := h.at_ rfl
theorem Au.at20 (h : Blk w g t a.cells) (hw : a.wf) : w.cell? ⟨g, 20, none⟩ = some (.string a.who) := h.at_ (Au.get20 hw)
theorem Au.atVal (h : Blk w g t a.cells) : w.rangeAt g 4 (ints a.val) := Blk.range (pre := [.int .i64 a.st, .int .i64 a.tr, .int .i64 a.lf, .int .u8 a.id]) (post := [.string a.who] ++ ints a.prf) (by unfold Au.cells at h; rwa [List.append_assoc]) rfl
theorem Au.atPrf (h : Blk w g t a.cells) (hw : a.wf) : w.rangeAt g 21 (ints a.prf) :=
  Blk.range (pre := [.int .i64 a.st, .int .i64 a.tr, .int .i64 a.lf, .int .u8 a.id] ++ (ints a.val ++ [.string a.who])) (post := []) (by unfold Au.cells at h; simpa only [List.append_assoc, List.append_nil] using h) (by simp only [List.length_append, ints_length, hw.val]; rfl)
theorem Au.put0 (h : Blk w g t a.cells) {x : Int} : Blk (w.setCell ⟨g, 0, none⟩ (.int .i64 x)) g t ({ a with st := x } : Au).cells := h.set
theorem Au.put1 (h : Blk w g t a.cells) {x : Int} : Blk (w.setCell ⟨g, 1, none⟩ (.int .i64 x)) g t ({ a with tr := x } : Au).cells := h.set
theorem Au.put2 (h : Blk w g t a.cells) {x : Int} : Blk (w.setCell ⟨g, 2, none⟩ (.int .i64 x)) g t ({ a with lf := x } : Au).cells := h.set
theorem Au.put3 (h : Blk w g t a.cells) {x : Int} : Blk (w.setCell ⟨g, 3, none⟩ (.int .u8 x)) g t ({ a with id := x } : Au).cells := h.set
theorem Au.put20 (h : Blk w g t a.cells) (hw : a.wf) {s : ByteArray} : Blk (w.setCell ⟨g, 20, none⟩ (.string s)) g t ({ a with who := s } : Au).cells := by
  have h1 := Blk.store (g := g) (t := t) [.string a.who] [.string s] (w := w) (pre := [.int .i64 a.st, .int .i64 a.tr, .int .i64 a.lf, .int .u8 a.id] ++ ints a.val) (post := ints a.prf) (by unfold Au.cells at h; simpa only [List.append_assoc] using h) rfl
  rw [show ([.int .i64 a.st, .int .i64 a.tr, .int .i64 a.lf, .int .u8 a.id] ++ ints a.val : List Value).length = 20 by rw [List.length_append, ints_length, hw.val]; rfl] at h1
  have h2 : Blk (w.setCell ⟨g, 20, none⟩ (.string s)) g t ([.int .i64 a.st, .int .i64 a.tr, .int .i64 a.lf, .int .u8 a.id] ++ ints a.val ++ [.string s] ++ ints a.prf) := h1
  unfold Au.cells
  simpa only [List.append_assoc] using h2
theorem Au.putVal (h : Blk w g t a.cells) (hw : a.wf) {xs : List Int} (hx : xs.length = 16) : Blk (w.setCells g 4 (ints xs)) g t ({ a with val := xs } : Au).cells := by
  have h1 := Blk.store (g := g) (t := t) (ints a.val) (ints xs) (w := w) (pre := [.int .i64 a.st, .int .i64 a.tr, .int .i64 a.lf, .int .u8 a.id]) (post := [.string a.who] ++ ints a.prf) (by unfold Au.cells at h; rwa [List.append_assoc]) (by rw [ints_length, ints_length, hw.val, hx])
  unfold Au.cells
  rwa [List.append_assoc] at h1
theorem Au.putPrf (h : Blk w g t a.cells) (hw : a.wf) {xs : List Int} (hx : xs.length = 16) : Blk (w.setCells g 21 (ints xs)) g t ({ a with prf := xs } : Au).cells := by
  have h1 := Blk.store (g := g) (t := t) (ints a.prf) (ints xs) (w := w) (pre := [.int .i64 a.st, .int .i64 a.tr, .int .i64 a.lf, .int .u8 a.id] ++ (ints a.val ++ [.string a.who])) (post := []) (by unfold Au.cells at h; simpa only [List.append_assoc, List.append_nil] using h) (by rw [ints_length, ints_length, hw.prf, hx])
  rw [show ([.int .i64 a.st, .int .i64 a.tr, .int .i64 a.lf, .int .u8 a.id] ++ (ints a.val ++ [.string a.who]) : List Value).length = 21 by simp only [List.length_append, ints_length, hw.val]; rfl] at h1
  unfold Au.cells
  simpa only [List.append_assoc, List.append_nil] using h1
end
theorem ints_one (xs : List Int) : (ints xs).toArray.all (·.oneCell') = true := one_ints .u8 xs
theorem Au.one (a : Au) : a.cells.toArray.all (·.oneCell') = true := all_oneCell_toArray (fun v hv => by
  unfold Au.cells ints at hv
  simp only [List.mem_append, List.mem_cons, List.mem_map, List.not_mem_nil, or_false] at hv
  rcases hv with (rfl | rfl | rfl | rfl) | ⟨_, _, rfl⟩ | rfl | ⟨_, _, rfl⟩ <;> rfl)
end Go.Proofs.Ytpbkdphilcodmaa.Q
/- chap.End: an authentication ends. -/
namespace Go.Proofs.Ytpbkdphilcodmaa.Q
open Go Go.RowKit Go.Proofs.YtpbkdphilcodmaaW.PrintWords Go.Proofs.YtpbkdphilcodmaaW.PrintLast Go.Proofs.YtpbkdphilcodmaaW.PrintMore
open Go.Proofs.YtpbkdphilcodmaaV
set_option linter.unusedVariables false
set_option linter.unusedSimpArgs false
def endA (a : Au) (who : ByteArray) (p : List Int) (good : Bool) : Au := if good then { a with lf := 0, st := 2, who := who, prf := p } else { a with lf := 0, st := 3, who := ⟨#[]⟩, prf := no16 }
def zP : List Value := [.int .u8 0, .int .u8 0, .slice none 0 0]
def pk (code id : Int) (d : Value) : List Value := [.int .u8 code, .int .u8 id, d]
structure end_M (w : World) (g4 g6 g8 g9 : Nat) (a : Au) (p : List Int) (rc kc : List Value) (W : World) : Prop where
  bel : Below w.heap.size w W
  A : Blk W g4 24 a.cells
  P : Blk W g6 22 (ints p)
  R : Blk W g8 24 rc
  K : Blk W g9 28 kc
  lo : w.heap.size ≤ g4
  n1 : g4 < g6
  n2 : g6 < g8
  n3 : g8 < g9
section
variable {w W W' : World} {g4 g6 g8 g9 : Nat} {a a' : Au} {p : List Int} {rc kc new : List Value}
theorem end_M.keep (h : end_M w g4 g6 g8 g9 a p rc kc W) (hb : Below W.heap.size W W') : end_M w g4 g6 g8 g9 a p rc kc W' := ⟨below_step h.bel hb, h.A.keep hb, h.P.keep hb, h.R.keep hb, h.K.keep hb, h.lo, h.n1, h.n2, h.n3⟩
theorem end_M.setA (h : end_M w g4 g6 g8 g9 a p rc kc W) {i : Nat} {u : Value} (hA : Blk (W.setCell ⟨g4, i, none⟩ u) g4 24 a'.cells) : end_M w g4 g6 g8 g9 a' p rc kc (W.setCell ⟨g4, i, none⟩ u) :=
  ⟨below_set h.bel h.lo, hA, h.P.far (by have := h.n1; omega), h.R.far (by have := h.n1; have := h.n2; omega), h.K.far (by have := h.n1; have := h.n2; have := h.n3; omega), h.lo, h.n1, h.n2, h.n3⟩
theorem end_M.setsA (h : end_M w g4 g6 g8 g9 a p rc kc W) {o : Nat} {vs : List Value} (hA : Blk (W.setCells g4 o vs) g4 24 a'.cells) : end_M w g4 g6 g8 g9 a' p rc kc (W.setCells g4 o vs) :=
  ⟨below_setCells h.bel h.lo vs o, hA, h.P.fars (by have := h.n1; omega) vs o, h.R.fars (by have := h.n1; have := h.n2; omega) vs o, h.K.fars (by have := h.n1; have := h.n2; have := h.n3; omega) vs o, h.lo, h.n1, h.n2, h.n3⟩
theorem end_M.overR (h : end_M w g4 g6 g8 g9 a p rc kc W) (hl : rc.length = new.length) : end_M w g4 g6 g8 g9 a p new kc (W.setCells g8 0 new) :=
  ⟨below_setCells h.bel (by have := h.n1; have := h.n2; have := h.lo; omega) new 0, h.A.fars (by have := h.n1; have := h.n2; omega) new 0, h.P.fars (by have := h.n2; omega) new 0, h.R.over hl, h.K.fars (by have := h.n3; omega) new 0, h.lo, h.n1, h.n2, h.n3⟩
theorem end_M.overK (h : end_M w g4 g6 g8 g9 a p rc kc W) (hl : kc.length = new.length) : end_M w g4 g6 g8 g9 a p rc new (W.setCells g9 0 new) :=
  ⟨below_setCells h.bel (by have := h.n1; have := h.n2; have := h.n3; have := h.lo; omega) new 0, h.A.fars (by have := h.n1; have := h.n2; have := h.n3; omega) new 0, h.P.fars (by have := h.n2; have := h.n3; omega) new 0, h.R.fars (by have := h.n3; omega) new 0, h.K.over hl, h.lo, h.n1, h.n2, h.n3⟩
end
theorem i24 {a : Au} (h : a.wf) : (Try.prog.info? 24).map (·.size) = some a.cells.length := by rw [Au.length h]; kernel_rfl
theorem i22 {p : List Int} (h : p.length = 16) : (Try.prog.info? 22).map (·.size) = some (ints p).length := by rw [ints_length, h]; kernel_rfl
set_option maxHeartbeats 8000000 in
set_option maxRecDepth 100000 in
theorem End_calls (a : Au) (ha : a.wf) (who : ByteArray) (p : List Int) (hp : p.length = 16) (good : Bool) (w : World) :
    Calls Try.prog 14 #[.agg a.cells.toArray, .string who, .agg (ints p).toArray, .bool good] w fun e w' => e = .returned (.tuple #[.agg (endA a who p good).cells.toArray, .agg (pk (if good then 3 else 4) a.id (.slice none 0 0)).toArray]) ∧ Below w.heap.size w w' := by
  have HA := Aside0.mk ha
  have HP := Aside0.mk hp
  clear ha hp
  obtain ⟨cs, hcs⟩ : ∃ cs, cs = a.cells.toArray := ⟨_, rfl⟩
  obtain ⟨ps, hps⟩ : ∃ ps, ps = (ints p).toArray := ⟨_, rfl⟩
  rw [← hcs, ← hps]
  have HCS := Aside0.mk hcs
  have HPS := Aside0.mk hps
  clear hcs hps
  go_enter Try.func14, Try.ntmps14
  go_upto_region 1 with (first
    | ((with_reducible refine gate_dst (N := 4) rfl ?_); refine box_event ?hg (N := 4) ?hd (cs := cs) (t := 24) ?hr ?_; (case hd => rfl); (case hg => rfl); (case hr => first | (go_simp; done) | (go_simp; rfl)); intro g4 hg w1 hbox hb; rw [HCS.out] at hbox; have B4 := Aside0.mk (show Blk w1 g4 24 a.cells from hbox); have HL := Aside0.mk hb; have L4 := Aside0.mk (show w.heap.size ≤ g4 by rw [hg]; exact Nat.le_refl _); clear hbox hb hg)
    | ((with_reducible refine gate_dst (N := 6) rfl ?_); refine box_event ?hg (N := 6) ?hd (cs := ps) (t := 22) ?hr ?_; (case hd => rfl); (case hg => rfl); (case hr => first | (go_simp; done) | (go_simp; rfl)); intro g6 hg w2 hbox hb; rw [HPS.out] at hbox; have B6 := Aside0.mk (show Blk w2 g6 22 (ints p) from hbox); have N1 := Aside0.mk (show g4 < g6 by rw [hg]; exact B4.out.lt); have B4' := Aside0.mk (B4.out.keep hb); have HL' := Aside0.mk (below_step HL.out hb); clear hbox hb hg B4 HL)
    | ((with_reducible refine gate_dst (N := 8) rfl ?_); refine box_event ?hg (N := 8) ?hd (cs := Au.zero.cells.toArray) (t := 24) ?hr ?_; (case hd => rfl); (case hg => rfl); (case hr => first | (go_simp; done) | (go_simp; rfl)); intro g8 hg w3 hbox hb; have B8 := Aside0.mk (show Blk w3 g8 24 Au.zero.cells from hbox); have N2 := Aside0.mk (show g6 < g8 by rw [hg]; exact B6.out.lt); have B4 := Aside0.mk (B4'.out.keep hb); have B6' := Aside0.mk (B6.out.keep hb); have HL := Aside0.mk (below_step HL'.out hb); clear hbox hb hg B4' B6 HL')
    | ((with_reducible refine gate_dst (N := 9) rfl ?_); refine box_event ?hg (N := 9) ?hd (cs := zP.toArray) (t := 28) ?hr ?_; (case hd => rfl); (case hg => rfl); (case hr => first | (go_simp; done) | (go_simp; rfl)); intro g9 hg w4 hbox hb; have HM := Aside0.mk (show end_M w g4 g6 g8 g9 a p Au.zero.cells zP w4 from ⟨below_step HL.out hb, B4.out.keep hb, B6'.out.keep hb, B8.out.keep hb, hbox, L4.out, N1.out, N2.out, by rw [hg]; exact B8.out.lt⟩); clear hbox hb hg B4 B6' B8 HL L4 N1 N2))
  have HL0 := Aside0.mk (show w.heap.size ≤ g4 from HM.out.lo)
  cases good with
  | false =>
    go_upto_region 4 with (first
      | ((with_reducible refine wpList_store_cell (t := 24) rfl rfl 3 (.tmp 10) _ rfl g4 2 (.int .i64 0) ?hx ?hy HM.out.A ?h6 ?h7 ?h8 ?h9 ?_); (case hx => rfl); (case hy => rfl); (case h6 => exact Au.lt (by omega) HA.out.val HA.out.prf); (case h7 => rfl); (case h8 => rfl); (case h9 => kernel_rfl); have HM1 := Aside0.mk (HM.out.setA (Au.put2 HM.out.A (x := 0))); clear HM)
      | ((with_reducible refine wpList_store_cell (t := 24) rfl rfl 3 (.tmp 14) _ rfl g4 0 (.int .i64 3) ?hx ?hy HM1.out.A ?h6 ?h7 ?h8 ?h9 ?_); (case hx => rfl); (case hy => rfl); (case h6 => exact Au.lt (by omega) HA.out.val HA.out.prf); (case h7 => rfl); (case h8 => rfl); (case h9 => kernel_rfl); have HM2 := Aside0.mk (HM1.out.setA (Au.put0 HM1.out.A (x := 3))); clear HM1)
      | ((with_reducible refine wpList_store_cell (t := 24) rfl rfl 9 (.tmp 15) _ rfl g4 20 (.string ⟨#[]⟩) ?hx ?hy HM2.out.A ?h6 ?h7 ?h8 ?h9 ?_); (case hx => rfl); (case hy => rfl); (case h6 => exact Au.lt (by omega) HA.out.val HA.out.prf); (case h7 => rfl); (case h8 => rfl); (case h9 => kernel_rfl); have HM3 := Aside0.mk (HM2.out.setA (Au.put20 HM2.out.A ⟨HA.out.val, HA.out.prf⟩ (s := ⟨#[]⟩))); clear HM2)
      | ((with_reducible refine wpList_store_mid rfl 22 (.tmp 16) (.tmp 13) rfl g4 21 (ints no16).toArray ?hx ?hy ?h5 ?h6 ?h7 ?_); (case hx => rfl); (case hy => rfl); (case h5 => exact HM3.out.A.there (Au.le (by decide) HA.out.val HA.out.prf)); (case h6 => kernel_rfl); (case h7 => exact ints_one _); have HM1 := Aside0.mk (HM3.out.setsA (Au.putPrf HM3.out.A ⟨HA.out.val, HA.out.prf⟩ (xs := no16) rfl)); clear HM3))
    have HM1_ := Aside0.mk (show end_M w g4 g6 g8 g9 (endA a who p false) p Au.zero.cells zP _ from HM1.out)
    clear HM1
    obtain ⟨a1, ha1⟩ : ∃ a1, a1 = endA a who p false := ⟨_, rfl⟩
    rw [← ha1] at HM1_
    have HW := Aside0.mk (show a1.wf by rw [ha1]; exact ⟨HA.out.val, rfl⟩)
    have HE := Aside0.mk ha1
    have HI := Aside0.mk (show a1.id = a.id by rw [ha1]; rfl)
    clear ha1
    refine start_ (n := 6) (S := fun w' => Blk w' g4 24 a1.cells) (ds := []) #[false, false, false, false, false, false] (by kernel_rfl) rfl rfl HM1_.out.A.drew (fun hHeld => ?_)
    have HM8 := Aside0.mk (HM1_.out.keep (pD (Below.refl _ _)))
    clear HM1_
    generalize World.drew _ = w8 at HM8 hHeld ⊢
    refine take_ (i := 0) (N := some 17) (v := .agg a1.cells.toArray) (a' := ?_) #[true, false, false, false, false, false] rfl rfl (by kernel_rfl) (fun _ _ _ h => h) (yieldsIf_load_mid (by rfl) 24 (.tmp 4) rfl g4 0 rfl _ _ (fun w' h => h.whole) Try.underlying24 rfl (i24 HW.out)) hHeld ?_ ?_
    rotate_left
    · simp only [Act.put, sT, s0, s1]
      rfl
    refine pure_ (i := 1) (N := some 18) (v := ?_) (a' := ?_) #[true, true, false, false, false, false] rfl rfl (by kernel_rfl) (fun _ _ _ h => h) (Or.inl ⟨by rfl, ?_⟩) ?_ ?_
    rotate_left
    · intro w'
      go_simp
      with_reducible rfl
    rotate_left
    · simp only [Act.put, sT, s0, s1, i64_w, i32_w]
      rfl
    refine take_ (i := 2) (N := some 19) (v := ?_) (a' := ?_) #[true, true, true, false, false, false] rfl rfl (by kernel_rfl) (fun _ _ _ h => h) (Or.inl ⟨by rfl, ?_⟩) hHeld ?_ ?_
    rotate_left
    · intro w' h
      have hc_ := Au.at3 h
      go_simp
      with_reducible rfl
    rotate_left
    · simp only [Act.put, sT, s0, s1]
      rfl
    refine pure_ (i := 3) (N := some 20) (v := ?_) (a' := ?_) #[true, true, true, true, false, false] rfl rfl (by kernel_rfl) (fun _ _ _ h => h) (Or.inl ⟨by rfl, ?_⟩) ?_ ?_
    rotate_left
    · intro w'
      go_simp
      with_reducible rfl
    rotate_left
    · simp only [Act.put, sT, s0, s1, i64_w, i32_w]
      rfl
    refine one_ (i := 4) (N := none) #[true, true, true, true, true, false] rfl rfl (by kernel_rfl) (by decide) (fun K hK => ?_)
    refine skip_ (by rfl) rfl (store_run (ty := 24) rfl rfl rfl HM8.out.R (by rw [Au.length HW.out]; rfl) (i24 HW.out) (Au.one _)) ?_
    have HM9 := Aside0.mk (HM8.out.overR (new := a1.cells) (by rw [Au.length HW.out]; rfl))
    clear HM8
    refine hK.out _ _ (HM9.out.A) (fun hHeld => ?_)
    clear hK K
    refine one_ (i := 5) (N := none) #[true, true, true, true, true, true] rfl rfl (by kernel_rfl) (by decide) (fun K hK => ?_)
    refine skip_ (by rfl) rfl (store_run (ty := 28) (new := pk 4 a1.id (.slice none 0 0)) rfl rfl rfl HM9.out.K rfl (by kernel_rfl) (by simp [pk, Value.oneCell'])) ?_
    have HM10 := Aside0.mk (HM9.out.overK (new := pk 4 a1.id (.slice none 0 0)) rfl)
    clear HM9
    refine hK.out _ _ (HM10.out.A) (fun hHeld => ?_)
    clear hK K
    refine done_ (by kernel_rfl) ?_
    clear hHeld
    go_wp2
    refine bodyPost_ret (results_two rfl _ _ g8 g9 (.agg a1.cells.toArray) (.agg (pk 4 a1.id (.slice none 0 0)).toArray) rfl rfl (loadVar_blk HM10.out.R Try.underlying24 rfl (i24 HW.out)) (loadVar_blk HM10.out.K Try.underlying28 rfl (by kernel_rfl))) rfl ?_
    exact ⟨by rw [HI.out, HE.out] <;> rfl, HM10.out.bel⟩
  | true =>
    go_upto_region 5 with (first
      | ((with_reducible refine wpList_store_cell (t := 24) rfl rfl 3 (.tmp 10) _ rfl g4 2 (.int .i64 0) ?hx ?hy HM.out.A ?h6 ?h7 ?h8 ?h9 ?_); (case hx => rfl); (case hy => rfl); (case h6 => exact Au.lt (by omega) HA.out.val HA.out.prf); (case h7 => rfl); (case h8 => rfl); (case h9 => kernel_rfl); have HM1 := Aside0.mk (HM.out.setA (Au.put2 HM.out.A (x := 0))); clear HM))
    refine start_ (n := 8) (S := fun w' => Blk w' g6 22 (ints p)) (ds := []) #[false, false, false, false, false, false, false, false] (by kernel_rfl) rfl rfl HM1.out.P.drew (fun hHeld => ?_)
    have HM8 := Aside0.mk (HM1.out.keep (pD (Below.refl _ _)))
    clear HM1
    generalize World.drew _ = w8 at HM8 hHeld ⊢
    refine pure_ (i := 0) (N := some 21) (v := ?_) (a' := ?_) #[true, false, false, false, false, false, false, false] rfl rfl (by kernel_rfl) (fun _ _ _ h => h) (Or.inl ⟨by rfl, ?_⟩) ?_ ?_
    rotate_left
    · intro w'
      go_simp
      with_reducible rfl
    rotate_left
    · simp only [Act.put, sT, s0, s1, i64_w, i32_w]
      rfl
    refine take_ (i := 1) (N := some 22) (v := .agg (ints p).toArray) (a' := ?_) #[true, true, false, false, false, false, false, false] rfl rfl (by kernel_rfl) (fun _ _ _ h => h) (yieldsIf_load_mid (by rfl) 22 (.tmp 6) rfl g6 0 rfl _ _ (fun w' h => h.whole) Try.underlying22 rfl (i22 HP.out)) hHeld ?_ ?_
    rotate_left
    · simp only [Act.put, sT, s0, s1]
      rfl
    refine pure_ (i := 2) (N := some 23) (v := ?_) (a' := ?_) #[true, true, true, false, false, false, false, false] rfl rfl (by kernel_rfl) (fun _ _ _ h => h) (Or.inl ⟨by rfl, ?_⟩) ?_ ?_
    rotate_left
    · intro w'
      go_simp
      with_reducible rfl
    rotate_left
    · simp only [Act.put, sT, s0, s1, i64_w, i32_w]
      rfl
    refine one_ (i := 3) (N := none) #[true, true, true, true, false, false, false, false] rfl rfl (by kernel_rfl) (by decide) (fun K hK => ?_)
    refine skip_ (by rfl) rfl (store_runC (ty := 3) (v := .int .i64 2) rfl rfl rfl HM8.out.A (Au.lt (by omega) HA.out.val HA.out.prf) rfl rfl (by kernel_rfl)) ?_
    have HM9 := Aside0.mk (HM8.out.setA (Au.put0 HM8.out.A (x := 2)))
    clear HM8
    refine hK.out _ _ (HM9.out.P) (fun hHeld => ?_)
    clear hK K
    refine pure_ (i := 4) (N := some 24) (v := ?_) (a' := ?_) #[true, true, true, true, true, false, false, false] rfl rfl (by kernel_rfl) (fun _ _ _ h => h) (Or.inl ⟨by rfl, ?_⟩) ?_ ?_
    rotate_left
    · intro w'
      go_simp
      with_reducible rfl
    rotate_left
    · simp only [Act.put, sT, s0, s1, i64_w, i32_w]
      rfl
    refine one_ (i := 5) (N := none) #[true, true, true, true, true, true, false, false] rfl rfl (by kernel_rfl) (by decide) (fun K hK => ?_)
    refine skip_ (by rfl) rfl (store_runC (ty := 9) (v := .string who) rfl rfl rfl HM9.out.A (Au.lt (by omega) HA.out.val HA.out.prf) rfl rfl (by kernel_rfl)) ?_
    have HM10 := Aside0.mk (HM9.out.setA (Au.put20 HM9.out.A ⟨HA.out.val, HA.out.prf⟩ (s := who)))
    clear HM9
    refine hK.out _ _ (HM10.out.P) (fun hHeld => ?_)
    clear hK K
    refine pure_ (i := 6) (N := some 25) (v := ?_) (a' := ?_) #[true, true, true, true, true, true, true, false] rfl rfl (by kernel_rfl) (fun _ _ _ h => h) (Or.inl ⟨by rfl, ?_⟩) ?_ ?_
    rotate_left
    · intro w'
      go_simp
      with_reducible rfl
    rotate_left
    · simp only [Act.put, sT, s0, s1, i64_w, i32_w]
      rfl
    refine one_ (i := 7) (N := none) #[true, true, true, true, true, true, true, true] rfl rfl (by kernel_rfl) (by decide) (fun K hK => ?_)
    refine skip_ (by rfl) rfl (store_runM (ty := 22) (new := ints p) (off := 21) rfl rfl rfl HM10.out.A (Au.le (by rw [ints_length, HP.out]; omega) HA.out.val HA.out.prf) (i22 HP.out) (ints_one _)) ?_
    have HM11 := Aside0.mk (HM10.out.setsA (Au.putPrf HM10.out.A ⟨HA.out.val, HA.out.prf⟩ HP.out))
    clear HM10
    refine hK.out _ _ (HM11.out.P) (fun hHeld => ?_)
    clear hK K
    refine done_ (by kernel_rfl) ?_
    clear hHeld
    go_upto_region 6 with (fail)
    have HM1_ := Aside0.mk (show end_M w g4 g6 g8 g9 (endA a who p true) p Au.zero.cells zP _ from HM11.out)
    clear HM11
    obtain ⟨a1, ha1⟩ : ∃ a1, a1 = endA a who p true := ⟨_, rfl⟩
    rw [← ha1] at HM1_
    have HW := Aside0.mk (show a1.wf by rw [ha1]; exact ⟨HA.out.val, HP.out⟩)
    have HE := Aside0.mk ha1
    have HI := Aside0.mk (show a1.id = a.id by rw [ha1]; rfl)
    clear ha1
    refine start_ (n := 6) (S := fun w' => Blk w' g4 24 a1.cells) (ds := []) #[false, false, false, false, false, false] (by kernel_rfl) rfl rfl HM1_.out.A.drew (fun hHeld => ?_)
    have HM8 := Aside0.mk (HM1_.out.keep (pD (Below.refl _ _)))
    clear HM1_
    generalize World.drew _ = w8 at HM8 hHeld ⊢
    refine take_ (i := 0) (N := some 26) (v := .agg a1.cells.toArray) (a' := ?_) #[true, false, false, false, false, false] rfl rfl (by kernel_rfl) (fun _ _ _ h => h) (yieldsIf_load_mid (by rfl) 24 (.tmp 4) rfl g4 0 rfl _ _ (fun w' h => h.whole) Try.underlying24 rfl (i24 HW.out)) hHeld ?_ ?_
    rotate_left
    · simp only [Act.put, sT, s0, s1]
      rfl
    refine pure_ (i := 1) (N := some 27) (v := ?_) (a' := ?_) #[true, true, false, false, false, false] rfl rfl (by kernel_rfl) (fun _ _ _ h => h) (Or.inl ⟨by rfl, ?_⟩) ?_ ?_
    rotate_left
    · intro w'
      go_simp
      with_reducible rfl
    rotate_left
    · simp only [Act.put, sT, s0, s1, i64_w, i32_w]
      rfl
    refine take_ (i := 2) (N := some 28) (v := ?_) (a' := ?_) #[true, true, true, false, false, false] rfl rfl (by kernel_rfl) (fun _ _ _ h => h) (Or.inl ⟨by rfl, ?_⟩) hHeld ?_ ?_
    rotate_left
    · intro w' h
      have hc_ := Au.at3 h
      go_simp
      with_reducible rfl
    rotate_left
    · simp only [Act.put, sT, s0, s1]
      rfl
    refine pure_ (i := 3) (N := some 29) (v := ?_) (a' := ?_) #[true, true, true, true, false, false] rfl rfl (by kernel_rfl) (fun _ _ _ h => h) (Or.inl ⟨by rfl, ?_⟩) ?_ ?_
    rotate_left
    · intro w'
      go_simp
      with_reducible rfl
    rotate_left
    · simp only [Act.put, sT, s0, s1, i64_w, i32_w]
      rfl
    refine one_ (i := 4) (N := none) #[true, true, true, true, true, false] rfl rfl (by kernel_rfl) (by decide) (fun K hK => ?_)
    refine skip_ (by rfl) rfl (store_run (ty := 24) rfl rfl rfl HM8.out.R (by rw [Au.length HW.out]; rfl) (i24 HW.out) (Au.one _)) ?_
    have HM9 := Aside0.mk (HM8.out.overR (new := a1.cells) (by rw [Au.length HW.out]; rfl))
    clear HM8
    refine hK.out _ _ (HM9.out.A) (fun hHeld => ?_)
    clear hK K
    refine one_ (i := 5) (N := none) #[true, true, true, true, true, true] rfl rfl (by kernel_rfl) (by decide) (fun K hK => ?_)
    refine skip_ (by rfl) rfl (store_run (ty := 28) (new := pk 3 a1.id (.slice none 0 0)) rfl rfl rfl HM9.out.K rfl (by kernel_rfl) (by simp [pk, Value.oneCell'])) ?_
    have HM10 := Aside0.mk (HM9.out.overK (new := pk 3 a1.id (.slice none 0 0)) rfl)
    clear HM9
    refine hK.out _ _ (HM10.out.A) (fun hHeld => ?_)
    clear hK K
    refine done_ (by kernel_rfl) ?_
    clear hHeld
    go_wp2
    refine bodyPost_ret (results_two rfl _ _ g8 g9 (.agg a1.cells.toArray) (.agg (pk 3 a1.id (.slice none 0 0)).toArray) rfl rfl (loadVar_blk HM10.out.R Try.underlying24 rfl (i24 HW.out)) (loadVar_blk HM10.out.K Try.underlying28 rfl (by kernel_rfl))) rfl ?_
    exact ⟨by rw [HI.out, HE.out] <;> rfl, HM10.out.bel⟩
end Go.Proofs.Ytpbkdphilcodmaa.Q
/- chap.Answer: a response's name and value. UNDER WAY. -/
namespace Go.Proofs.Ytpbkdphilcodmaa.Q
open Go Go.RowKit Go.Proofs.YtpbkdphilcodmaaW.PrintWords Go.Proofs.YtpbkdphilcodmaaW.PrintLast Go.Proofs.YtpbkdphilcodmaaW.PrintMore
open Go.Proofs.YtpbkdphilcodmaaV
set_option linter.unusedVariables false
set_option linter.unusedSimpArgs false
/-- A string of bytes. -/
def strB (l : List Int) : ByteArray := l.foldl (fun r n => r.push (UInt8.ofNat n.toNat)) ByteArray.empty
def ansB (code : Int) (l : List Int) : Bool := decide (code = 2 ∧ 18 ≤ l.length ∧ l.length ≤ 33 ∧ l.getD 0 0 = 16)
def ansN (code : Int) (l : List Int) : ByteArray := if ansB code l then strB (l.drop 17) else ⟨#[]⟩
def ansV (code : Int) (l : List Int) : List Int := if ansB code l then (l.take 17).drop 1 else no16
structure ans_M (w : World) (g1 g3 : Nat) (ps vs : List Value) (W : World) : Prop where
  bel : Below w.heap.size w W
  P : Blk W g1 28 ps
  V : Blk W g3 22 vs
  lo : w.heap.size ≤ g1
  n1 : g1 < g3
theorem ans_M.over {w W : World} {g1 g3 : Nat} {ps vs new : List Value} (h : ans_M w g1 g3 ps vs W) (hl : vs.length = new.length) : ans_M w g1 g3 ps new (W.setCells g3 0 new) :=
  ⟨below_setCells h.bel (by have := h.n1; have := h.lo; omega) new 0, h.P.fars (by have := h.n1; omega) new 0, h.V.over hl, h.lo, h.n1⟩
theorem ans_M.keep {w W W' : World} {g1 g3 : Nat} {ps vs : List Value} (h : ans_M w g1 g3 ps vs W) (hb : Below W.heap.size W W') : ans_M w g1 g3 ps vs W' := ⟨below_step h.bel hb, h.P.keep hb, h.V.keep hb, h.lo, h.n1⟩
theorem results_ans {fn : Func} {p q r : Tmp} {t : TypeId} (h : fn.results = #[.tmp p, .cell q t, .tmp r]) (tmps : Array Value) (w : World) (g : Nat) (v1 v2 v3 : Value)
    (hp : tmps.getD p undef = v1) (hq : tmps.getD q undef = .pointer (some ⟨g, 0, none⟩)) (hr : tmps.getD r undef = v3) (h2 : (loadVar t ⟨g, 0, none⟩).run Try.prog w = .ok v2 w) :
    (results fn tmps).run Try.prog w = .ok (.tuple #[v1, v2, v3]) w := by
  have hp' : tmps[p]?.getD undef = v1 := by simpa using hp
  have hq' : tmps[q]?.getD undef = .pointer (some ⟨g, 0, none⟩) := by simpa using hq
  have hr' : tmps[r]?.getD undef = v3 := by simpa using hr
  simp [results, h, hp', hq', hr', asAddr, h2]
theorem cells_C {W : World} {a : Addr} {n : Nat} {xs : List Int} (h : Kd.C (Kd.int .u8) W (some a) n xs) : ∀ j v, (ints xs)[j]? = some v → W.cell? (a.add j) = some v := by
  intro j v hv
  have hn := h.1
  have hj : j < xs.length := by
    rcases Nat.lt_or_ge j xs.length with h | h
    · exact h
    · rw [List.getElem?_eq_none (by rw [ints_length]; exact h)] at hv
      cases hv
  obtain ⟨ad, e, hx⟩ := Kd.at_int h (j : Int) (by omega) (by omega)
  cases e
  rw [Int.toNat_natCast] at hx
  rw [hx, ← hv]
  unfold ints rd
  rw [List.getElem?_map]
  simp [List.getElem?_eq_getElem hj]
theorem load_C {W : World} {a : Addr} {xs : List Int} (h : Kd.C (Kd.int .u8) W (some a) 16 xs) : (Instr.loadAt 22 (.pointer (some a))).run Try.prog W = .ok (.agg (ints xs).toArray) W := by
  have hl16 : (ints xs).length = 16 := by rw [ints_length]; exact h.1
  have hl := run_loadCells_list (P := Try.prog) W a (ints xs) (cells_C h)
  rw [hl16] at hl
  have hagg : (isAgg 22).run Try.prog W = .ok true W := by
    unfold isAgg
    rw [Sem.run_bind, run_underlying Try.underlying22 W]
    rfl
  have hi : (Try.prog.info? 22).map (·.size) = some 16 := by kernel_rfl
  cases hq : Try.prog.info? 22 with
  | none => simp [hq] at hi
  | some i =>
    have hs : i.size = 16 := by simpa [hq] using hi
    simp only [Instr.loadAt, Instr.sureAddr, Sem.run_bind, Sem.run_pure, Result.andThen_ok]
    simp [loadVar, Sem.run_bind, hagg, sizeOf, typeInfo, hq, hs, hl]
theorem load_runP {o : Oper} {a : Act} {W : World} {t : TypeId} {x : Operand} {p : Addr} {v : Value} (ho : o.op = .load t x) (hx : a.eval x = .pointer (some p)) (h : (Instr.loadAt t (.pointer (some p))).run Try.prog W = .ok v W) : (execOp a.eval o).run Try.prog W = .ok (.value v) W := by
  unfold execOp
  simp only [ho, hx, Sem.run_bind, h, Result.andThen_ok, Sem.run_pure]
theorem arr_at (p : Addr) (n : Nat) (W : World) : (Instr.arrayAt 22 (.slice (some p) 16 n)).run Try.prog W = .ok (.pointer (some p)) W := by
  simp [Instr.arrayAt, run_underlying Try.underlying22]
theorem conv_C {W : World} {a : Addr} {n cc : Nat} {xs : List Int} (h : Kd.C (Kd.int .u8) W (some a) n xs) : (convert 26 9 (.slice (some a) n cc)).run Try.prog W = .ok (.string (strB xs)) W := by
  rw [run_convert_bytes_string W 26 9 5 (some a) n cc Try.underlying26 Try.underlying5 Try.underlying9]
  have hl := run_loadCells_list (P := Try.prog) W a (ints xs) (cells_C h)
  rw [ints_length, show xs.length = n from h.1] at hl
  exact run_bytesToString W a n cc xs hl
set_option maxHeartbeats 8000000 in
set_option maxRecDepth 100000 in
theorem Answer_calls (code id : Int) (A : Option Addr) (c : Nat) (l : List Int) (w : World) (hr : Kd.C (Kd.int .u8) w A l.length l) (hc : l.length ≤ c) :
    Calls Try.prog 13 #[.agg (pk code id (.slice A l.length c)).toArray] w fun e w' => e = .returned (.tuple #[.string (ansN code l), .agg (ints (ansV code l)).toArray, .bool (ansB code l)]) ∧ Below w.heap.size w w' := by
  have hl64 := hr.2.1
  have HR := Aside0.mk hr
  have HC := Aside0.mk hc
  clear hr hc
  obtain ⟨m0, e0, hm0⟩ : ∃ m0, wrap64 ((l.length : Int) - 16) = m0 ∧ m0 = (l.length : Int) - 16 := ⟨_, rfl, wrap64_of (by omega)⟩
  obtain ⟨nn, e1, hnn⟩ : ∃ nn, wrap64 (m0 - 1) = nn ∧ nn = (l.length : Int) - 17 := ⟨_, rfl, by rw [wrap64_of (by omega)]; omega⟩
  have HNN := Aside0.mk hnn
  clear hm0 hnn hl64
  go_enter Try.func13, Try.ntmps13
  go_upto_region 1 with (first
    | ((with_reducible refine gate_dst (N := 1) rfl ?_); refine box_event ?hg (N := 1) ?hd (cs := (pk code id (.slice A l.length c)).toArray) (t := 28) ?hr ?_; (case hd => rfl); (case hg => rfl); (case hr => first | (go_simp; done) | (go_simp; rfl)); intro g1 hg w1 hbox hb; have B1 := Aside0.mk (show Blk w1 g1 28 (pk code id (.slice A l.length c)) from hbox); have HL := Aside0.mk hb; have L1 := Aside0.mk (show w.heap.size ≤ g1 by rw [hg]; exact Nat.le_refl _); clear hbox hb hg)
    | ((with_reducible refine gate_dst (N := 3) rfl ?_); refine box_event ?hg (N := 3) ?hd (cs := (ints no16).toArray) (t := 22) ?hr ?_; (case hd => rfl); (case hg => rfl); (case hr => first | (go_simp; done) | (go_simp; rfl)); intro g3 hg w2 hbox hb; have HM := Aside0.mk (show ans_M w g1 g3 (pk code id (.slice A l.length c)) (ints no16) w2 from ⟨below_step HL.out hb, B1.out.keep hb, hbox, L1.out, by rw [hg]; exact B1.out.lt⟩); clear hbox hb hg B1 HL L1))
  have hc0 : w2.cell? ⟨g1, 0, none⟩ = some (.int .u8 code) := HM.out.P.at_ rfl
  have hc2 : w2.cell? ⟨g1, 2, none⟩ = some (.slice A l.length c) := HM.out.P.at_ rfl
  by_cases h1 : code = 2
  · have f1 : (code != 2) = false := bne_eq_false_iff_eq.mpr h1
    have H1 := Aside0.mk h1
    clear h1
    by_cases h2 : nn < 1
    · skip
      have HF := Aside0.mk (show ansB code l = false from decide_eq_false (by have := HNN.out; omega))
      go_upto_region 3 with (fail)
      clear hc0 hc2 e0 e1
      go_wp2_with (first
        | ((with_reducible refine wpList_store_mid rfl 22 (.tmp 3) (.tmp 29) rfl g3 0 (ints no16).toArray ?hx ?hy ?h5 ?h6 ?h7 ?_); (case hx => rfl); (case hy => rfl); (case h5 => exact HM.out.V.there (by decide)); (case h6 => kernel_rfl); (case h7 => exact ints_one _); have HM2 := Aside0.mk (HM.out.over (new := ints no16) rfl); clear HM))
      refine bodyPost_ret (results_ans rfl _ _ g3 _ _ _ rfl rfl rfl (loadVar_blk HM2.out.V Try.underlying22 rfl (by kernel_rfl))) rfl ?_
      exact ⟨by unfold ansN ansV; rw [HF.out] <;> rfl, HM2.out.bel⟩
    · have h2' : ¬ nn < 1 := h2
      by_cases h3 : nn > 16
      · have h3' : (16 : Int) < nn := h3
        have HF := Aside0.mk (show ansB code l = false from decide_eq_false (by have := HNN.out; omega))
        go_upto_region 3 with (fail)
        clear hc0 hc2 e0 e1
        go_wp2_with (first
          | ((with_reducible refine wpList_store_mid rfl 22 (.tmp 3) (.tmp 29) rfl g3 0 (ints no16).toArray ?hx ?hy ?h5 ?h6 ?h7 ?_); (case hx => rfl); (case hy => rfl); (case h5 => exact HM.out.V.there (by decide)); (case h6 => kernel_rfl); (case h7 => exact ints_one _); have HM2 := Aside0.mk (HM.out.over (new := ints no16) rfl); clear HM))
        refine bodyPost_ret (results_ans rfl _ _ g3 _ _ _ rfl rfl rfl (loadVar_blk HM2.out.V Try.underlying22 rfl (by kernel_rfl))) rfl ?_
        exact ⟨by unfold ansN ansV; rw [HF.out] <;> rfl, HM2.out.bel⟩
      · have h3' : ¬ (16 : Int) < nn := h3
        obtain ⟨ad, rfl, hx0⟩ := Kd.at_int (Kd.C_below HR.out HM.out.bel) 0 (by omega) (by have := HNN.out; omega)
        have hx1 : w2.cell? ad = some (.int .u8 (rd l 0)) := by
          have e : ad.add (Int.toNat 0) = ad := by unfold Addr.add; simp
          rwa [e] at hx0
        have hrd : rd l 0 = l.getD 0 0 := by unfold rd; simp [List.getD_eq_getElem?_getD]
        have hpos : 0 < l.length := by have := HNN.out; omega
        by_cases h4 : rd l 0 = 16
        · have f4 : (rd l 0 != 16) = false := bne_eq_false_iff_eq.mpr h4
          have HT := Aside0.mk (show ansB code l = true from decide_eq_true ⟨H1.out, by have := HNN.out; omega, by have := HNN.out; omega, by rw [← hrd]; exact h4⟩)
          have hC0 := Kd.C_below HR.out HM.out.bel
          have hc17 := C_cut (c := c) (lo := 17) (hi := l.length) hC0 (by have := HNN.out; omega) (Nat.le_refl _) HC.out
          have hc1 := C_cut (c := c) (lo := 1) (hi := 17) hC0 (by omega) (by have := HNN.out; omega) HC.out
          have hlen : 18 ≤ l.length := by have := HNN.out; omega
          have hcap := HC.out
          rw [if_neg (by omega), List.take_length] at hc17
          rw [if_neg (by omega)] at hc1
          have hc17' : Kd.C (Kd.int .u8) w2 (some (ad.add 17)) (l.length - 17) (l.drop 17) := hc17
          have hc1' : Kd.C (Kd.int .u8) w2 (some (ad.add 1)) 16 ((l.take 17).drop 1) := hc1
          have HC17 := Aside0.mk hc17'
          have HC1 := Aside0.mk hc1'
          obtain ⟨i04, hi04, _, hsz4, _⟩ := info_parts info5
          have hcutA := cut_from (P := Try.prog) 26 5 .i64 Try.underlying26 hi04 1 hsz4 (some ad) l.length c 17 (by omega) (by omega)
          have hcutB := cut_mid (P := Try.prog) 26 5 .i64 .i64 Try.underlying26 hi04 1 hsz4 (some ad) l.length c 1 17 (by omega) (by omega) (by omega) hcap
          rw [show (17 : Int).toNat = 17 from rfl, if_neg (by omega)] at hcutA
          rw [show (17 : Int).toNat = 17 from rfl, show (1 : Int).toNat = 1 from rfl, if_neg (by omega)] at hcutB
          have hcutA' : ∀ W : World, (Instr.slice 26 (.slice (some ad) l.length c) (some (.int .i64 17)) none none).run Try.prog W = .ok (.slice (some (ad.add 17)) (l.length - 17) (c - 17)) W := hcutA
          have hcutB' : ∀ W : World, (Instr.slice 26 (.slice (some ad) l.length c) (some (.int .i64 1)) (some (.int .i64 17)) none).run Try.prog W = .ok (.slice (some (ad.add 1)) 16 (c - 1)) W := hcutB
          have HLV := Aside0.mk (show (ints no16).length = (ints ((l.take 17).drop 1)).length by rw [ints_length, ints_length, show ((l.take 17).drop 1).length = 16 from hc1'.1]; rfl)
          obtain ⟨vs, hvs⟩ : ∃ vs, (l.take 17).drop 1 = vs := ⟨_, rfl⟩
          rw [hvs] at HC1 HLV
          have HVS := Aside0.mk hvs
          clear hvs
          obtain ⟨p17, hp17⟩ : ∃ p17, ad.add 17 = p17 := ⟨_, rfl⟩
          obtain ⟨p1, hp1⟩ : ∃ p1, ad.add 1 = p1 := ⟨_, rfl⟩
          rw [hp17] at HC17 hcutA'
          rw [hp1] at HC1 hcutB'
          have harr := arr_at p1 (c - 1)
          clear hp17 hp1
          clear hC0 hc17 hc1 hlen hcap hc17' hc1' hcutA hcutB hsz4 hi04 h4 hrd
          go_upto_region 4 with (fail)
          clear hc0 e0 e1 hx0 hx1 hpos f1 f4
          refine start_ (n := 12) (S := fun w' => w'.cell? ⟨g1, 2, none⟩ = some (.slice (some ad) l.length c) ∧ Kd.C (Kd.int .u8) w' (some p17) (l.length - 17) (l.drop 17) ∧ Kd.C (Kd.int .u8) w' (some p1) 16 vs) (ds := [10]) #[false, false, false, false, false, false, false, false, false, false, false, false] (by kernel_rfl) rfl rfl ⟨hc2, Kd.C_drew HC17.out, Kd.C_drew HC1.out⟩ (fun hHeld => ?_)
          have HM3 := Aside0.mk (HM.out.keep (pD (Below.refl _ _)))
          clear HM hc2 HC17 HC1
          generalize World.drew _ = w8 at HM3 hHeld ⊢
          refine pure_ (i := 0) (N := some 30) (v := ?_) (a' := ?_) #[true, false, false, false, false, false, false, false, false, false, false, false] rfl rfl (by kernel_rfl) (fun _ _ _ h => h) (Or.inl ⟨by rfl, ?_⟩) ?_ ?_
          rotate_left
          · intro w'
            go_simp
            with_reducible rfl
          rotate_left
          · simp only [Act.put, sT, s0, s1, i64_w, i32_w]
            rfl
          refine take_ (i := 1) (N := some 31) (v := ?_) (a' := ?_) #[true, true, false, false, false, false, false, false, false, false, false, false] rfl rfl (by kernel_rfl) (fun _ _ _ h => h) (Or.inl ⟨by rfl, ?_⟩) hHeld ?_ ?_
          rotate_left
          · intro w' h
            have hf0_ := h.1
            clear h
            go_simp
            with_reducible rfl
          rotate_left
          · simp only [Act.put, sT, s0, s1]
            rfl
          refine pure_ (i := 2) (N := some 32) (v := ?_) (a' := ?_) #[true, true, true, false, false, false, false, false, false, false, false, false] rfl rfl (by kernel_rfl) (fun _ _ _ h => h) (Or.inl ⟨by rfl, ?_⟩) ?_ ?_
          rotate_left
          · intro w'
            go_simp
            with_reducible rfl
          rotate_left
          · simp only [Act.put, sT, s0, s1, i64_w, i32_w]
            rfl
          refine take_ (i := 3) (N := some 33) (v := ?_) (a' := ?_) #[true, true, true, true, false, false, false, false, false, false, false, false] rfl rfl (by kernel_rfl) (fun _ _ _ h => h) (Or.inl ⟨by rfl, ?_⟩) hHeld ?_ ?_
          rotate_left
          · intro w' h
            have hf0_ := conv_C (n := l.length - 17) (cc := c - 17) h.2.1
            clear h
            go_simp
            with_reducible rfl
          rotate_left
          · simp only [Act.put, sT, s0, s1]
            rfl
          refine pure_ (i := 4) (N := some 34) (v := ?_) (a' := ?_) #[true, true, true, true, true, false, false, false, false, false, false, false] rfl rfl (by kernel_rfl) (fun _ _ _ h => h) (Or.inl ⟨by rfl, ?_⟩) ?_ ?_
          rotate_left
          · intro w'
            go_simp
            with_reducible rfl
          rotate_left
          · simp only [Act.put, sT, s0, s1, i64_w, i32_w]
            rfl
          refine take_ (i := 5) (N := some 35) (v := ?_) (a' := ?_) #[true, true, true, true, true, true, false, false, false, false, false, false] rfl rfl (by kernel_rfl) (fun _ _ _ h => h) (Or.inl ⟨by rfl, ?_⟩) hHeld ?_ ?_
          rotate_left
          · intro w' h
            have hf0_ := h.1
            clear h
            go_simp
            with_reducible rfl
          rotate_left
          · simp only [Act.put, sT, s0, s1]
            rfl
          refine pure_ (i := 6) (N := some 36) (v := ?_) (a' := ?_) #[true, true, true, true, true, true, true, false, false, false, false, false] rfl rfl (by kernel_rfl) (fun _ _ _ h => h) (Or.inl ⟨by rfl, ?_⟩) ?_ ?_
          rotate_left
          · intro w'
            go_simp
            with_reducible rfl
          rotate_left
          · simp only [Act.put, sT, s0, s1, i64_w, i32_w]
            rfl
          refine pure_ (i := 7) (N := some 37) (v := ?_) (a' := ?_) #[true, true, true, true, true, true, true, true, false, false, false, false] rfl rfl (by kernel_rfl) (fun _ _ _ h => h) (Or.inl ⟨by rfl, ?_⟩) ?_ ?_
          rotate_left
          · intro w'
            go_simp
            with_reducible rfl
          rotate_left
          · simp only [Act.put, sT, s0, s1, i64_w, i32_w]
            rfl
          refine take_ (i := 8) (N := some 38) (v := .agg (ints vs).toArray) (a' := ?_) #[true, true, true, true, true, true, true, true, true, false, false, false] rfl rfl (by kernel_rfl) (fun _ _ _ h => h) (Or.inl ⟨by rfl, ?_⟩) hHeld ?_ ?_
          · intro w' h
            exact load_runP (t := 22) (x := .tmp 37) (p := p1) rfl rfl (load_C h.2.2)
          rotate_left
          · simp only [Act.put, sT, s0, s1]
            rfl
          refine pure_ (i := 9) (N := some 2) (v := ?_) (a' := ?_) #[true, true, true, true, true, true, true, true, true, true, false, false] rfl rfl (by kernel_rfl) (fun _ _ _ h => h) (Or.inl ⟨by rfl, ?_⟩) ?_ ?_
          rotate_left
          · intro w'
            go_simp
            with_reducible rfl
          rotate_left
          · simp only [Act.put, sT, s0, s1, i64_w, i32_w]
            rfl
          refine last_ (i := 10) (N := none) #[true, true, true, true, true, true, true, true, true, true, true, false] rfl rfl (by kernel_rfl) (by decide) (fun K hK => ?_)
          refine skip_ (by rfl) rfl (store_run (ty := 22) (new := ints vs) rfl rfl rfl HM3.out.V HLV.out (by rw [← HLV.out]; kernel_rfl) (ints_one _)) ?_
          have HM4 := Aside0.mk (HM3.out.over (new := ints vs) HLV.out)
          clear HM3
          refine hK.out _ _ ?_
          clear hK K
          refine pure_ (i := 11) (N := some 4) (v := ?_) (a' := ?_) #[true, true, true, true, true, true, true, true, true, true, true, true] rfl rfl (by kernel_rfl) (fun _ _ _ h => h) (Or.inl ⟨by rfl, ?_⟩) ?_ ?_
          rotate_left
          · intro w'
            go_simp
            with_reducible rfl
          rotate_left
          · simp only [Act.put, sT, s0, s1, i64_w, i32_w]
            rfl
          refine done_ (by kernel_rfl) ?_
          clear hHeld hcutA' hcutB' harr
          go_wp2
          refine bodyPost_ret (results_ans rfl _ _ g3 _ _ _ rfl rfl rfl (loadVar_blk HM4.out.V Try.underlying22 rfl (by rw [← HLV.out]; kernel_rfl))) rfl ?_
          exact ⟨by unfold ansN ansV; rw [HT.out, ← HVS.out] <;> rfl, HM4.out.bel⟩
        · have f4 : (rd l 0 != 16) = true := bne_iff_ne.mpr h4
          have HRD := Aside0.mk hrd
          clear hrd
          have HF := Aside0.mk (show ansB code l = false from decide_eq_false (fun h => h4 (HRD.out.trans h.2.2.2)))
          go_upto_region 3 with (fail)
          clear hc0 hc2 e0 e1 hx0 hx1
          go_wp2_with (first
            | ((with_reducible refine wpList_store_mid rfl 22 (.tmp 3) (.tmp 29) rfl g3 0 (ints no16).toArray ?hx ?hy ?h5 ?h6 ?h7 ?_); (case hx => rfl); (case hy => rfl); (case h5 => exact HM.out.V.there (by decide)); (case h6 => kernel_rfl); (case h7 => exact ints_one _); have HM2 := Aside0.mk (HM.out.over (new := ints no16) rfl); clear HM))
          refine bodyPost_ret (results_ans rfl _ _ g3 _ _ _ rfl rfl rfl (loadVar_blk HM2.out.V Try.underlying22 rfl (by kernel_rfl))) rfl ?_
          exact ⟨by unfold ansN ansV; rw [HF.out] <;> rfl, HM2.out.bel⟩
  · have f1 : (code != 2) = true := bne_iff_ne.mpr h1
    have HF := Aside0.mk (show ansB code l = false from decide_eq_false (fun h => h1 h.1))
    go_upto_region 3 with (fail)
    clear hc0 hc2 e0 e1
    go_wp2_with (first
      | ((with_reducible refine wpList_store_mid rfl 22 (.tmp 3) (.tmp 29) rfl g3 0 (ints no16).toArray ?hx ?hy ?h5 ?h6 ?h7 ?_); (case hx => rfl); (case hy => rfl); (case h5 => exact HM.out.V.there (by decide)); (case h6 => kernel_rfl); (case h7 => exact ints_one _); have HM2 := Aside0.mk (HM.out.over (new := ints no16) rfl); clear HM))
    refine bodyPost_ret (results_ans rfl _ _ g3 _ _ _ rfl rfl rfl (loadVar_blk HM2.out.V Try.underlying22 rfl (by kernel_rfl))) rfl ?_
    exact ⟨by unfold ansN ansV; rw [HF.out] <;> rfl, HM2.out.bel⟩
end Go.Proofs.Ytpbkdphilcodmaa.Q
/- chap.Secret: a user's secret. -/
namespace Go.Proofs.Ytpbkdphilcodmaa.Q
open Go Go.RowKit Go.Proofs.YtpbkdphilcodmaaW.PrintWords Go.Proofs.YtpbkdphilcodmaaW.PrintLast Go.Proofs.YtpbkdphilcodmaaW.PrintMore
open Go.Proofs.YtpbkdphilcodmaaV
set_option linter.unusedVariables false
set_option linter.unusedSimpArgs false
set_option maxHeartbeats 4000000 in
set_option maxRecDepth 100000 in
theorem Secret1_calls (u : S54) (name : ByteArray) (g : Nat) (w : World) (hg : w.cell? ⟨g, 0, none⟩ = some (.string name)) :
    Calls Try.prog 26 #[.agg #[.string u.f0, .string u.f1], .pointer (some ⟨g, 0, none⟩)] w fun e w' => e = .returned (.bool (u.f0.toList == name.toList)) ∧ Below w.heap.size w w' := by
  obtain ⟨s, t⟩ := u
  have HG := Aside0.mk hg
  clear hg
  go_enter Try.func26, Try.ntmps26
  go_upto_region 1 with (first
    | ((with_reducible refine gate_dst (N := 2) rfl ?_); refine box_event ?hg (N := 2) ?hd (cs := #[.string s, .string t]) (t := 54) ?hr ?_; (case hd => rfl); (case hg => rfl); (case hr => first | (go_simp; done) | (go_simp; rfl)); intro g1 hg w1 hbox hb; have hc0 : w1.cell? ⟨g1, 0, none⟩ = some (.string s) := (blk_cell hbox 0).trans rfl; have hcg := (hb.cell (World.block_lt_of_cell? _ _ HG.out)).trans HG.out; have HL := Aside0.mk hb; clear hbox hb))
  subst hg
  go_wp2
  go_ret
  exact ⟨rfl, HL.out⟩
/-- Where a name first stands. -/
def ixU (name : ByteArray) : List S54 → Option Nat
  | [] => none
  | u :: us => if u.f0.toList = name.toList then some 0 else (ixU name us).map (· + 1)
def ixI (o : Option Nat) : Int := match o with | some i => (i : Int) | none => -1
theorem ixU_at (name : ByteArray) : ∀ (us : List S54) (i : Nat), i < us.length → (∀ j, j < i → (rd_T54 us (j : Int)).f0.toList ≠ name.toList) → (rd_T54 us (i : Int)).f0.toList = name.toList → ixU name us = some i
  | [], i, hi, _, _ => absurd hi (Nat.not_lt_zero i)
  | u :: us, 0, _, _, h => by
    rw [ixU, if_pos (by simpa [rd_T54] using h)]
  | u :: us, i + 1, hi, hj, h => by
    rw [ixU, if_neg (by simpa [rd_T54] using hj 0 (by omega)), ixU_at name us i (by simpa using hi) (fun j hji => by have := hj (j + 1) (by omega); simpa [rd_T54, Int.toNat_natCast] using this) (by simpa [rd_T54] using h)]
    rfl
theorem ixU_none (name : ByteArray) : ∀ (us : List S54), (∀ j, j < us.length → (rd_T54 us (j : Int)).f0.toList ≠ name.toList) → ixU name us = none
  | [], _ => rfl
  | u :: us, h => by
    rw [ixU, if_neg (by simpa [rd_T54] using h 0 (by simp)), ixU_none name us (fun j hj => by have := h (j + 1) (by simpa using hj); simpa [rd_T54] using this)]
    rfl
set_option maxHeartbeats 4000000 in
set_option maxRecDepth 100000 in
theorem IndexFunc_calls (us : List S54) (A : Option Addr) (c : Nat) (name : ByteArray) (g : Nat) (w : World) (hr : Kd.C k54 w A us.length us) (hc : us.length ≤ c) (hg : w.cell? ⟨g, 0, none⟩ = some (.string name)) :
    Calls Try.prog 25 #[.slice A us.length c, .func (.func 26) #[] #[.pointer (some ⟨g, 0, none⟩)]] w fun e w' => e = .returned (.int .i64 (ixI (ixU name us))) ∧ Below w.heap.size w w' := by
  have hl64 := Aside0.mk hr.2.1
  have HR := Aside0.mk hr
  have HG := Aside0.mk hg
  have HB := Aside0.mk (Below.refl w.heap.size w)
  clear hr hc hg
  go_enter Try.func25, Try.ntmps25
  go_wp2
  go_loopw [8] (fun v8 wr => ∃ i : Nat, i ≤ us.length ∧ v8 = .int .i64 i ∧ Aside0 (∀ j, j < i → (rd_T54 us (j : Int)).f0.toList ≠ name.toList) ∧ Aside0 (Below w.heap.size w wr)) (fun v8 _ => us.length - (intOf v8).toNat)
  case atStart => exact ⟨0, Nat.zero_le _, rfl, ⟨fun j hj => absurd hj (Nat.not_lt_zero j)⟩, HB⟩
  case round =>
    obtain ⟨i, hi, rfl, HJ, HB1⟩ := hrel
    clear HB
    by_cases hlt : i < us.length
    · have hlt' : (i : Int) < (us.length : Int) := by omega
      clear hi
      obtain ⟨ad, rfl, hx0, hx1⟩ := at_T54 (Kd.C_below HR.out HB1.out) (i : Int) (by omega) hlt'
      rw [Int.toNat_natCast] at hx0 hx1
      by_cases hn : (rd_T54 us (i : Int)).f0.toList = name.toList
      all_goals obtain ⟨u, hu⟩ : ∃ u, rd_T54 us (i : Int) = u := ⟨_, rfl⟩
      all_goals rw [hu] at hx0 hx1 hn
      all_goals have HU := Aside0.mk hu
      all_goals clear hu
      · go_wp2_with (first
          | (go_at_call 26; refine (Secret1_calls u name g _ ((HB1.out.cell (World.block_lt_of_cell? _ _ HG.out)).trans HG.out)).mono ?_; rintro e w2 ⟨rfl, hb⟩; have HB2 := Aside0.mk (below_step HB1.out hb); clear HB1 hb hx0 hx1))
        go_ret
        exact ⟨by rw [ixU_at name us i hlt HJ.out (by rw [HU.out]; exact hn)]; rfl, HB2.out⟩
      · have HL64 := hl64.out
        have e1 : wrap64 ((i : Int) + 1) = ((i + 1 : Nat) : Int) := by rw [wrap64_of (by omega)]; omega
        clear HL64
        have hnb : (u.f0.toList == name.toList) = false := beq_eq_false_iff_ne.mpr hn
        go_wp2_with (first
          | (go_at_call 26; refine (Secret1_calls u name g _ ((HB1.out.cell (World.block_lt_of_cell? _ _ HG.out)).trans HG.out)).mono ?_; rintro e w2 ⟨rfl, hb⟩; have HB2 := Aside0.mk (below_step HB1.out hb); clear HB1 hb hx0 hx1))
        go_roundw
        case rel => exact ⟨i + 1, hlt, by first | (rw [e1]; done) | (rw [e1]; rfl) | go_num, ⟨fun j hj => by
            rcases Nat.lt_or_ge j i with h | h
            · exact HJ.out j h
            · obtain rfl : j = i := by omega
              rw [HU.out]
              exact hn⟩, HB2⟩
        case measure => rw [e1]; simp only [intOf, Int.toNat_natCast]; omega
    · obtain rfl : i = us.length := by omega
      clear hlt hi
      go_wp2
      go_ret
      exact ⟨by rw [ixU_none name us HJ.out]; rfl, HB1.out⟩
/-- A user's secret; and whether the user is known. -/
def secB (name : ByteArray) (us : List S54) : Bool := (ixU name us).isSome
def secS (name : ByteArray) (us : List S54) : ByteArray := match ixU name us with | some i => (rd_T54 us (i : Int)).f1 | none => ⟨#[]⟩
theorem ixU_lt (name : ByteArray) : ∀ (us : List S54) (i : Nat), ixU name us = some i → i < us.length
  | [], _, h => by cases h
  | u :: us, i, h => by
    rw [ixU] at h
    split at h
    · cases h; simp
    · obtain ⟨j, hj, rfl⟩ := Option.map_eq_some_iff.1 h
      have := ixU_lt name us j hj
      simpa using this
theorem results_tt {fn : Func} {p q : Tmp} (h : fn.results = #[.tmp p, .tmp q]) (tmps : Array Value) (w : World) (v1 v2 : Value) (hp : tmps.getD p undef = v1) (hq : tmps.getD q undef = v2) : (results fn tmps).run Try.prog w = .ok (.tuple #[v1, v2]) w := by
  have hp' : tmps[p]?.getD undef = v1 := by simpa using hp
  have hq' : tmps[q]?.getD undef = v2 := by simpa using hq
  simp [results, h, hp', hq']
set_option maxHeartbeats 4000000 in
set_option maxRecDepth 100000 in
theorem Secret_calls (us : List S54) (A : Option Addr) (c : Nat) (name : ByteArray) (w : World) (hr : Kd.C k54 w A us.length us) (hc : us.length ≤ c) :
    Calls Try.prog 20 #[.slice A us.length c, .string name] w fun e w' => e = .returned (.tuple #[.string (secS name us), .bool (secB name us)]) ∧ Below w.heap.size w w' := by
  have HR := Aside0.mk hr
  have HC := Aside0.mk hc
  clear hr hc
  obtain ⟨o, ho⟩ : ∃ o, ixU name us = o := ⟨_, rfl⟩
  have HO := Aside0.mk ho
  clear ho
  go_enter Try.func20, Try.ntmps20
  go_upto_if 11 with (first
    | ((with_reducible refine gate_dst (N := 3) rfl ?_); refine box_event ?hg (N := 3) ?hd (cs := #[.string name]) (t := 9) ?hr ?_; (case hd => rfl); (case hg => rfl); (case hr => first | (go_simp; done) | (go_simp; rfl)); intro g3 hg w1 hbox hb; have HN := Aside0.mk (show w1.cell? ⟨g3, 0, none⟩ = some (.string name) from (blk_cell hbox 0).trans rfl); have HL := Aside0.mk hb; subst hg; clear hbox hb)
    | (go_at_call 25; refine (IndexFunc_calls us A c name w.heap.size _ (Kd.C_below HR.out HL.out) HC.out HN.out).mono ?_; rintro e w2 ⟨rfl, hb⟩; rw [HO.out]; have HL2 := Aside0.mk (below_step HL.out hb); clear HL HN hb))
  cases o with
  | none =>
    rw [show ixI none = -1 from rfl]
    go_wp2
    refine bodyPost_ret (results_tt rfl _ _ _ _ rfl rfl) rfl ?_
    exact ⟨by unfold secS secB; rw [HO.out] <;> rfl, HL2.out⟩
  | some i =>
    have hlt := ixU_lt name us i HO.out
    obtain ⟨ad, rfl, hx0, hx1⟩ := at_T54 (Kd.C_below HR.out HL2.out) (i : Int) (by omega) (by omega)
    rw [Int.toNat_natCast] at hx0 hx1
    rw [show ixI (some i) = (i : Int) from rfl]
    have hneg : ¬ (i : Int) < 0 := by omega
    go_wp2
    refine bodyPost_ret (results_tt rfl _ _ _ _ rfl rfl) rfl ?_
    exact ⟨by unfold secS secB; rw [HO.out] <;> rfl, HL2.out⟩
end Go.Proofs.Ytpbkdphilcodmaa.Q
/- []byte of a string: a new row with the string's bytes. -/
namespace Go.Proofs.Ytpbkdphilcodmaa.Q
open Go Go.RowKit Go.Proofs.YtpbkdphilcodmaaW.PrintWords Go.Proofs.YtpbkdphilcodmaaW.PrintLast Go.Proofs.YtpbkdphilcodmaaW.PrintMore
open Go.Proofs.YtpbkdphilcodmaaV
set_option linter.unusedVariables false
/-- A string's bytes, as numbers. -/
def nums (s : ByteArray) : List Int := s.data.toList.map fun b => (b.toNat : Int)
theorem nums_length (s : ByteArray) : (nums s).length = s.size := by
  unfold nums
  rw [List.length_map]
  rfl
theorem nums_B (s : ByteArray) : ∀ x ∈ nums s, 0 ≤ x ∧ x ≤ 255 := by
  intro x hx
  obtain ⟨b, _, rfl⟩ := List.mem_map.1 hx
  have := b.toNat_lt
  omega
/-- The conversion: the row, and that nothing else has changed. -/
theorem str_run (w : World) (s : ByteArray) (hs : s.size ≤ 9223372036854775807) : ∃ (c : Nat) (w' : World), (convert 9 26 (.string s)).run Try.prog w = .ok (.slice (some ⟨w.heap.size, 0, none⟩) s.size c) w' ∧ s.size ≤ c ∧ Kd.C (Kd.int .u8) w' (some ⟨w.heap.size, 0, none⟩) s.size (nums s) ∧ Below w.heap.size w w' := by
  refine ⟨_, _, run_bytes_of_string w 9 26 5 s Try.underlying9 Try.underlying26 Try.underlying5, grownCap_ge _ _ _ _, ?_, below_alloc (below_drew1 (Below.refl _ _)) _⟩
  have hb : (w.drew.alloc (.cells (bytesRow s (grownCap w s.size 0 5)) 5 ((bytesRow s (grownCap w s.size 0 5)).size, (bytesRow s (grownCap w s.size 0 5)).size + 1))).heap[w.heap.size]? = some (.cells (bytesRow s (grownCap w s.size 0 5)) 5 ((bytesRow s (grownCap w s.size 0 5)).size, (bytesRow s (grownCap w s.size 0 5)).size + 1)) := heap_alloc_new w.drew _
  have key : Kd.C (Kd.int .u8) (w.drew.alloc (.cells (bytesRow s (grownCap w s.size 0 5)) 5 ((bytesRow s (grownCap w s.size 0 5)).size, (bytesRow s (grownCap w s.size 0 5)).size + 1))) (some ⟨w.heap.size, 0, none⟩) (nums s).length (nums s) := by
    refine Kd.C_of_reads (d := (0 : Int)) (h1 := fun _ => rfl) ⟨rfl, by rw [nums_length]; exact hs, fun _ => ⟨_, rfl, fun i hi => ?_⟩⟩
    rw [Addr.add_mid, Nat.zero_add, cell_of_row _ _ _ _ _ _ hb]
    have hi' : i < s.data.size := by rw [nums_length] at hi; exact hi
    rw [bytesRow_at s _ i hi']
    simp only [nums, List.getD_eq_getElem?_getD, List.getElem?_map, Array.getElem?_toList]
    rw [Array.getElem?_eq_getElem hi']
    rfl
  rwa [nums_length] at key
end Go.Proofs.Ytpbkdphilcodmaa.Q
