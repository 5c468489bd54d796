import Derived.Test.YtpbkdphilcodmaaFam
import Derived.Test.YtpbkdphilcodmaaChA
/- chap.Begin: the first challenge. -/
namespace Go.Proofs.Ytpbkdphilcodmaa.Q
open Go Go.RowKit Go.Proofs.YtpbkdphilcodmaaW.PrintWords Go.Proofs.YtpbkdphilcodmaaW.PrintLast Go.Proofs.YtpbkdphilcodmaaW.PrintMore
open Go.Proofs.YtpbkdphilcodmaaV Go.Proofs.Ytpbkdphilcodmaa.Pure
set_option linter.unusedVariables false
set_option linter.unusedSimpArgs false
def begA (a : Au) (v : List Int) : Au := askA { Au.zero with id := a.id } v
theorem wf0 (id : Int) : ({ Au.zero with id := id } : Au).wf := ⟨rfl, rfl⟩
theorem askA_wf {a : Au} (ha : a.wf) {v : List Int} (hv : v.length = 16) : (askA a v).wf := ⟨hv, ha.prf⟩
set_option maxHeartbeats 8000000 in
set_option maxRecDepth 100000 in
theorem Begin_calls (a : Au) (ha : a.wf) (p : List Int) (hp : p.length = 16) (w : World) :
    Calls Try.prog 16 #[.agg a.cells.toArray, .agg (ints p).toArray] w fun e w' => ∃ (A : Option Addr) (c : Nat), e = .returned (.tuple #[.agg (begA a p).cells.toArray, .agg (pk 1 (askI a.id) (.slice A 26 c)).toArray]) ∧ Below w.heap.size w w' := by
  have HA := Aside0.mk ha
  have HP := Aside0.mk hp
  clear ha hp
  obtain ⟨cs, hcs⟩ : ∃ cs, cs = a.cells.toArray := ⟨_, rfl⟩
  obtain ⟨ps, hps⟩ : ∃ ps, ps = (ints p).toArray := ⟨_, rfl⟩
  rw [← hcs, ← hps]
  have HCS := Aside0.mk hcs
  have HPS := Aside0.mk hps
  clear hcs hps
  go_enter Try.func16, Try.ntmps16
  go_upto_region 1 with (first
    | ((with_reducible refine gate_dst (N := 2) rfl ?_); refine box_event ?hg (N := 2) ?hd (cs := cs) (t := 24) ?hr ?_; (case hd => rfl); (case hg => rfl); (case hr => first | (go_simp; done) | (go_simp; rfl)); intro g4 hg w1 hbox hb; rw [HCS.out] at hbox; have HF1 := Aside0.mk (show Fam w [(g4, 24, a.cells)] w1 from (Fam.start (Below.refl _ _)).box hg hbox hb); clear hbox hb hg)
    | ((with_reducible refine gate_dst (N := 3) rfl ?_); refine box_event ?hg (N := 3) ?hd (cs := ps) (t := 22) ?hr ?_; (case hd => rfl); (case hg => rfl); (case hr => first | (go_simp; done) | (go_simp; rfl)); intro g6 hg w2 hbox hb; rw [HPS.out] at hbox; have HF2 := Aside0.mk (show Fam w [(g6, 22, ints p), (g4, 24, a.cells)] w2 from HF1.out.box hg hbox hb); clear hbox hb hg HF1)
    | ((with_reducible refine gate_dst (N := 4) rfl ?_); refine box_event ?hg (N := 4) ?hd (cs := Au.zero.cells.toArray) (t := 24) ?hr ?_; (case hd => rfl); (case hg => rfl); (case hr => first | (go_simp; done) | (go_simp; rfl)); intro g8 hg w3 hbox hb; have HF3 := Aside0.mk (show Fam w [(g8, 24, Au.zero.cells), (g6, 22, ints p), (g4, 24, a.cells)] w3 from HF2.out.box hg hbox hb); clear hbox hb hg HF2)
    | ((with_reducible refine gate_dst (N := 5) rfl ?_); refine box_event ?hg (N := 5) ?hd (cs := zP.toArray) (t := 28) ?hr ?_; (case hd => rfl); (case hg => rfl); (case hr => first | (go_simp; done) | (go_simp; rfl)); intro g9 hg w4 hbox hb; have HM := Aside0.mk (show Fam w [(g9, 28, zP), (g8, 24, Au.zero.cells), (g6, 22, ints p), (g4, 24, a.cells)] w4 from HF3.out.box hg hbox hb); clear hbox hb hg HF3))
  have hc3 := Au.at3 (HM.out.get 3 rfl)
  go_wp2_with (first
    | ((with_reducible refine gate_dst (N := 8) rfl ?_); refine Kd.event_run (v := .agg ({ Au.zero with id := a.id } : Au).cells.toArray) (w1 := w4) rfl ?hr ?_; (case hr => first | (go_simp; done) | (go_simp; rfl)); clear hc3)
    | ((with_reducible refine wpList_load_mid rfl 22 (.tmp 3) rfl g6 0 ?hx (ints p) _ ?hc Try.underlying22 rfl ?hi ?_); (case hx => rfl); (case hc => exact (HM.out.get 2 rfl).whole); (case hi => exact i22 HP.out))
    | (go_at_call 24; refine (ask_calls _ (wf0 a.id) p HP.out _).mono ?_; rintro e w5 ⟨A, c, rfl, hb⟩; obtain ⟨a1, ha1⟩ : ∃ a1, a1 = begA a p := ⟨_, rfl⟩; rw [show askA { Au.zero with id := a.id } p = a1 from ha1.symm]; have HA1 := Aside0.mk ha1; have HW := Aside0.mk (show a1.wf by rw [ha1]; exact askA_wf (wf0 a.id) HP.out); clear ha1; have HM1 := Aside0.mk (HM.out.keep hb); clear HM hb)
    | ((with_reducible refine wpList_store_mid rfl 24 (.tmp 4) (.tmp 11) rfl g8 0 a1.cells.toArray ?hx ?hy ?h5 ?h6 ?h7 ?_); (case hx => rfl); (case hy => rfl); (case h5 => exact (HM1.out.get 1 rfl).there (by rw [List.size_toArray, Au.length HW.out]; decide)); (case h6 => exact i24 HW.out); (case h7 => exact Au.one _); have HM2 := Aside0.mk (HM1.out.over 1 rfl a1.cells (by rw [Au.length HW.out]; rfl)); clear HM1)
    | ((with_reducible refine wpList_store_mid rfl 28 (.tmp 5) (.tmp 12) rfl g9 0 (pk 1 (askI a.id) (.slice A 26 c)).toArray ?hx ?hy ?h5 ?h6 ?h7 ?_); (case hx => rfl); (case hy => rfl); (case h5 => exact (HM2.out.get 0 rfl).there (by rw [List.size_toArray]; exact Nat.le_refl 3)); (case h6 => kernel_rfl); (case h7 => simp [pk, Value.oneCell']); have HM3 := Aside0.mk (HM2.out.over 0 rfl (pk 1 (askI a.id) (.slice A 26 c)) rfl); clear HM2))
  refine bodyPost_ret (results_two rfl _ _ g8 g9 (.agg a1.cells.toArray) (.agg (pk 1 (askI a.id) (.slice A 26 c)).toArray) rfl rfl (loadVar_blk (HM3.out.get 1 rfl) Try.underlying24 rfl (i24 HW.out)) (loadVar_blk (HM3.out.get 0 rfl) Try.underlying28 rfl (by kernel_rfl))) rfl ?_
  exact ⟨A, c, by rw [HA1.out], HM3.out.bel⟩
end Go.Proofs.Ytpbkdphilcodmaa.Q
/- chap.Tick: a tick. -/
namespace Go.Proofs.Ytpbkdphilcodmaa.Q
open Go Go.RowKit Go.Proofs.YtpbkdphilcodmaaW.PrintWords Go.Proofs.YtpbkdphilcodmaaW.PrintLast Go.Proofs.YtpbkdphilcodmaaW.PrintMore
open Go.Proofs.YtpbkdphilcodmaaV Go.Proofs.Ytpbkdphilcodmaa.Pure
set_option linter.unusedVariables false
set_option linter.unusedSimpArgs false
def lowA (a : Au) : Au := { a with lf := wrap64 (a.lf - 1) }
def tickA (a : Au) (v : List Int) : Au := if a.st = 1 then (if 0 < wrap64 (a.lf - 1) then lowA a else if 4 ≤ a.tr then { lowA a with st := 3 } else askA (lowA a) v) else a
def tickS (a : Au) : Bool := decide (a.st = 1 ∧ ¬ 0 < wrap64 (a.lf - 1) ∧ ¬ 4 ≤ a.tr)
/-- What is sent with a tick. -/
def sentP (n0 : Nat) (s : Bool) (id : Int) (u : Value) (W : World) : Prop := if s then ∃ (g : Nat) (A : Option Addr) (c : Nat), u = .slice (some ⟨g, 0, none⟩) 1 1 ∧ n0 ≤ g ∧ Blk W g 28 (pk 1 id (.slice A 26 c)) else u = .slice none 0 0
theorem zlen {b : Au} (hb : b.wf) : Au.zero.cells.length = b.cells.length := by rw [Au.length hb]; rfl
set_option maxHeartbeats 8000000 in
set_option maxRecDepth 100000 in
theorem Tick_calls (a : Au) (ha : a.wf) (p : List Int) (hp : p.length = 16) (w : World) :
    Calls Try.prog 17 #[.agg a.cells.toArray, .agg (ints p).toArray] w fun e w' => ∃ u, e = .returned (.tuple #[.agg (tickA a p).cells.toArray, u]) ∧ Below w.heap.size w w' ∧ sentP w.heap.size (tickS a) (askI a.id) u w' := by
  have HA := Aside0.mk ha
  have HP := Aside0.mk hp
  clear ha hp
  obtain ⟨cs, hcs⟩ : ∃ cs, cs = a.cells.toArray := ⟨_, rfl⟩
  obtain ⟨ps, hps⟩ : ∃ ps, ps = (ints p).toArray := ⟨_, rfl⟩
  rw [← hcs, ← hps]
  have HCS := Aside0.mk hcs
  have HPS := Aside0.mk hps
  clear hcs hps
  obtain ⟨lf1, hlf1⟩ : ∃ lf1, wrap64 (a.lf - 1) = lf1 := ⟨_, rfl⟩
  have HLF := Aside0.mk hlf1
  clear hlf1
  go_enter Try.func17, Try.ntmps17
  go_upto_region 1 with (first
    | ((with_reducible refine gate_dst (N := 2) rfl ?_); refine box_event ?hg (N := 2) ?hd (cs := cs) (t := 24) ?hr ?_; (case hd => rfl); (case hg => rfl); (case hr => first | (go_simp; done) | (go_simp; rfl)); intro g4 hg w1 hbox hb; rw [HCS.out] at hbox; have HF1 := Aside0.mk (show Fam w [(g4, 24, a.cells)] w1 from (Fam.start (Below.refl _ _)).box hg hbox hb); clear hbox hb hg)
    | ((with_reducible refine gate_dst (N := 3) rfl ?_); refine box_event ?hg (N := 3) ?hd (cs := ps) (t := 22) ?hr ?_; (case hd => rfl); (case hg => rfl); (case hr => first | (go_simp; done) | (go_simp; rfl)); intro g6 hg w2 hbox hb; rw [HPS.out] at hbox; have HF2 := Aside0.mk (show Fam w [(g6, 22, ints p), (g4, 24, a.cells)] w2 from HF1.out.box hg hbox hb); clear hbox hb hg HF1)
    | ((with_reducible refine gate_dst (N := 4) rfl ?_); refine box_event ?hg (N := 4) ?hd (cs := Au.zero.cells.toArray) (t := 24) ?hr ?_; (case hd => rfl); (case hg => rfl); (case hr => first | (go_simp; done) | (go_simp; rfl)); intro g8 hg w3 hbox hb; have HM := Aside0.mk (show Fam w [(g8, 24, Au.zero.cells), (g6, 22, ints p), (g4, 24, a.cells)] w3 from HF2.out.box hg hbox hb); clear hbox hb hg HF2))
  have hc0 := Au.at0 (HM.out.get 2 rfl)
  have hc2 := Au.at2 (HM.out.get 2 rfl)
  by_cases h1 : a.st = 1
  · have f1 : (a.st != 1) = false := bne_eq_false_iff_eq.mpr h1
    have H1 := Aside0.mk h1
    clear h1
    go_upto_region 4 with (first
      | ((with_reducible refine wpList_store_cell (t := 24) rfl rfl 3 (.tmp 15) _ rfl g4 2 (.int .i64 (wrap64 (a.lf - 1))) ?hx ?hy (HM.out.get 2 rfl) ?h6 ?h7 ?h8 ?h9 ?_); (case hx => rfl); (case hy => rfl); (case h6 => exact Au.lt (by omega) HA.out.val HA.out.prf); (case h7 => rfl); (case h8 => rfl); (case h9 => kernel_rfl); have HM1 := Aside0.mk (HM.out.cell 2 rfl (Au.put2 (HM.out.get 2 rfl) (x := wrap64 (a.lf - 1)))); clear HM))
    clear hc0 hc2 f1
    generalize w3.setCell _ _ = w5 at HM1 ⊢
    have HM2 := Aside0.mk (show Fam w [(g8, 24, Au.zero.cells), (g6, 22, ints p), (g4, 24, (lowA a).cells)] w5 from HM1.out)
    clear HM1
    obtain ⟨a1, ha1⟩ : ∃ a1, a1 = lowA a := ⟨_, rfl⟩
    rw [← ha1] at HM2
    have HW := Aside0.mk (show a1.wf by rw [ha1]; exact ⟨HA.out.val, HA.out.prf⟩)
    have HAE := Aside0.mk ha1
    have hc2 : w5.cell? ⟨g4, 2, none⟩ = some (.int .i64 lf1) := by have h := Au.at2 (HM2.out.get 2 rfl); rw [ha1] at h; rw [← HLF.out]; exact h
    have hc1 : w5.cell? ⟨g4, 1, none⟩ = some (.int .i64 a.tr) := by have h := Au.at1 (HM2.out.get 2 rfl); rw [ha1] at h; exact h
    clear ha1
    by_cases h2 : 0 < lf1
    · go_wp2_with (first
        | ((with_reducible refine wpList_load_mid rfl 24 (.tmp 2) rfl g4 0 ?hx (a1.cells) _ ?hc Try.underlying24 rfl ?hi ?_); (case hx => rfl); (case hc => exact (HM2.out.get 2 rfl).whole); (case hi => exact i24 HW.out))
        | ((with_reducible refine wpList_store_mid rfl 24 (.tmp 4) (.tmp 20) rfl g8 0 (a1.cells).toArray ?hx ?hy ?h5 ?h6 ?h7 ?_); (case hx => rfl); (case hy => rfl); (case h5 => exact (HM2.out.get 0 rfl).there (by rw [List.size_toArray, Nat.zero_add]; exact Nat.le_of_eq (Eq.symm (zlen HW.out)))); (case h6 => exact i24 HW.out); (case h7 => exact Au.one _); have HM3 := Aside0.mk (HM2.out.over 0 rfl (a1.cells) (zlen HW.out)); clear HM2))
      refine bodyPost_ret (results_ct rfl _ _ g8 (.agg a1.cells.toArray) (.slice none 0 0) rfl rfl (loadVar_blk (HM3.out.get 0 rfl) Try.underlying24 rfl (i24 HW.out))) rfl ?_
      have H2 : 0 < wrap64 (a.lf - 1) := by rw [HLF.out]; omega
      refine ⟨_, by rw [HAE.out]; unfold tickA; rw [if_pos H1.out, if_pos H2], HM3.out.bel, ?_⟩
      unfold sentP tickS
      rw [decide_eq_false (fun h => h.2.1 H2)]
      rfl
    · have h2' : ¬ 0 < lf1 := h2
      by_cases h3 : 4 ≤ a.tr
      · go_upto_region 8 with (first
          | ((with_reducible refine wpList_store_cell (t := 24) rfl rfl 3 (.tmp 25) _ rfl g4 0 (.int .i64 3) ?hx ?hy (HM2.out.get 2 rfl) ?h6 ?h7 ?h8 ?h9 ?_); (case hx => rfl); (case hy => rfl); (case h6 => exact Au.lt (by omega) HW.out.val HW.out.prf); (case h7 => rfl); (case h8 => rfl); (case h9 => kernel_rfl); have HM3 := Aside0.mk (HM2.out.cell 2 rfl (Au.put0 (HM2.out.get 2 rfl) (x := 3))); clear HM2))
        obtain ⟨a2, ha2⟩ : ∃ a2, a2 = ({ a1 with st := 3 } : Au) := ⟨_, rfl⟩
        have HM4 := Aside0.mk (show Fam w [(g8, 24, Au.zero.cells), (g6, 22, ints p), (g4, 24, a2.cells)] _ by rw [ha2]; exact HM3.out)
        have HW2 := Aside0.mk (show a2.wf by rw [ha2]; exact ⟨HW.out.val, HW.out.prf⟩)
        have HA2 := Aside0.mk ha2
        clear ha2 HM3 hc1 hc2
        generalize w5.setCell _ _ = w6 at HM4 ⊢
        go_wp2_with (first
          | ((with_reducible refine wpList_load_mid rfl 24 (.tmp 2) rfl g4 0 ?hx (a2.cells) _ ?hc Try.underlying24 rfl ?hi ?_); (case hx => rfl); (case hc => exact (HM4.out.get 2 rfl).whole); (case hi => exact i24 HW2.out))
          | ((with_reducible refine wpList_store_mid rfl 24 (.tmp 4) (.tmp 26) rfl g8 0 (a2.cells).toArray ?hx ?hy ?h5 ?h6 ?h7 ?_); (case hx => rfl); (case hy => rfl); (case h5 => exact (HM4.out.get 0 rfl).there (by rw [List.size_toArray, Nat.zero_add]; exact Nat.le_of_eq (Eq.symm (zlen HW2.out)))); (case h6 => exact i24 HW2.out); (case h7 => exact Au.one _); have HM5 := Aside0.mk (HM4.out.over 0 rfl (a2.cells) (zlen HW2.out)); clear HM4))
        refine bodyPost_ret (results_ct rfl _ _ g8 (.agg a2.cells.toArray) (.slice none 0 0) rfl rfl (loadVar_blk (HM5.out.get 0 rfl) Try.underlying24 rfl (i24 HW2.out))) rfl ?_
        have H2 : ¬ 0 < wrap64 (a.lf - 1) := by rw [HLF.out]; omega
        have H3 : 4 ≤ a.tr := by omega
        refine ⟨_, by rw [HA2.out, HAE.out]; unfold tickA; rw [if_pos H1.out, if_neg H2, if_pos H3], HM5.out.bel, ?_⟩
        unfold sentP tickS
        rw [decide_eq_false (fun h => h.2.2 H3)]
        rfl
      · go_upto_region 10 with (first
          | ((with_reducible refine wpList_load_mid rfl 24 (.tmp 2) rfl g4 0 ?hx (a1.cells) _ ?hc Try.underlying24 rfl ?hi ?_); (case hx => rfl); (case hc => exact (HM2.out.get 2 rfl).whole); (case hi => exact i24 HW.out))
          | ((with_reducible refine wpList_load_mid rfl 22 (.tmp 3) rfl g6 0 ?hx (ints p) _ ?hc Try.underlying22 rfl ?hi ?_); (case hx => rfl); (case hc => exact (HM2.out.get 1 rfl).whole); (case hi => exact i22 HP.out))
          | (go_at_call 24; refine (ask_calls a1 HW.out p HP.out _).mono ?_; rintro e w6 ⟨A, c, rfl, hb⟩; obtain ⟨a2, ha2⟩ : ∃ a2, a2 = askA a1 p := ⟨_, rfl⟩; rw [← ha2]; have HA2 := Aside0.mk ha2; have HW2 := Aside0.mk (show a2.wf by rw [ha2]; exact askA_wf HW.out HP.out); clear ha2; have HM3 := Aside0.mk (HM2.out.keep hb); clear HM2 hb)
          | ((with_reducible refine gate_dst (N := 6) rfl ?_); refine box_event ?hg (N := 6) ?hd (cs := Au.zero.cells.toArray) (t := 24) ?hr ?_; (case hd => rfl); (case hg => rfl); (case hr => first | (go_simp; done) | (go_simp; rfl)); intro g9 hg w7 hbox hb; have HM4 := Aside0.mk (show Fam w [(g9, 24, Au.zero.cells), (g8, 24, Au.zero.cells), (g6, 22, ints p), (g4, 24, a1.cells)] w7 from HM3.out.box hg hbox hb); clear hbox hb hg HM3)
          | ((with_reducible refine gate_dst (N := 7) rfl ?_); refine box_event ?hg (N := 7) ?hd (cs := zP.toArray) (t := 28) ?hr ?_; (case hd => rfl); (case hg => rfl); (case hr => first | (go_simp; done) | (go_simp; rfl)); intro g10 hg w8 hbox hb; have HM5 := Aside0.mk (show Fam w [(g10, 28, zP), (g9, 24, Au.zero.cells), (g8, 24, Au.zero.cells), (g6, 22, ints p), (g4, 24, a1.cells)] w8 from HM4.out.box hg hbox hb); clear hbox hb hg HM4)
          | ((with_reducible refine wpList_store_mid rfl 24 (.tmp 6) (.tmp 31) rfl g9 0 (a2.cells).toArray ?hx ?hy ?h5 ?h6 ?h7 ?_); (case hx => rfl); (case hy => rfl); (case h5 => exact (HM5.out.get 1 rfl).there (by rw [List.size_toArray, Nat.zero_add]; exact Nat.le_of_eq (Eq.symm (zlen HW2.out)))); (case h6 => exact i24 HW2.out); (case h7 => exact Au.one _); have HM6 := Aside0.mk (HM5.out.over 1 rfl (a2.cells) (zlen HW2.out)); clear HM5)
          | ((with_reducible refine wpList_store_mid rfl 28 (.tmp 7) (.tmp 32) rfl g10 0 (pk 1 (askI a1.id) (.slice A 26 c)).toArray ?hx ?hy ?h5 ?h6 ?h7 ?_); (case hx => rfl); (case hy => rfl); (case h5 => exact (HM6.out.get 0 rfl).there (by rw [List.size_toArray, Nat.zero_add]; exact Nat.le_of_eq (Eq.symm (rfl)))); (case h6 => exact by kernel_rfl); (case h7 => exact by simp [pk, Value.oneCell']); have HM7 := Aside0.mk (HM6.out.over 0 rfl (pk 1 (askI a1.id) (.slice A 26 c)) (rfl)); clear HM6))
        clear hc1 hc2
        refine start_ (n := 5) (S := fun w' => Blk w' g9 24 a2.cells ∧ Blk w' g10 28 (pk 1 (askI a1.id) (.slice A 26 c))) (ds := []) #[false, false, false, false, false] (by kernel_rfl) rfl rfl ⟨(HM7.out.get 1 rfl).drew, (HM7.out.get 0 rfl).drew⟩ (fun hHeld => ?_)
        have HM8 := Aside0.mk (show Fam w [(g10, 28, pk 1 (askI a1.id) (.slice A 26 c)), (g9, 24, a2.cells), (g8, 24, Au.zero.cells), (g6, 22, ints p), (g4, 24, a1.cells)] _ from HM7.out.drew)
        clear HM7
        generalize World.drew _ = w9 at HM8 hHeld ⊢
        refine take_ (i := 0) (N := some 33) (v := .agg a2.cells.toArray) (a' := ?_) #[true, false, false, false, false] rfl rfl (by kernel_rfl) (fun _ _ _ h => h) (yieldsIf_load_mid (by rfl) 24 (.tmp 6) rfl g9 0 rfl _ _ (fun w' h => h.1.whole) Try.underlying24 rfl (i24 HW2.out)) hHeld ?_ ?_
        rotate_left
        · simp only [Act.put, sT, s0, s1]
          rfl
        refine take_ (i := 1) (N := some 34) (v := .agg (pk 1 (askI a1.id) (.slice A 26 c)).toArray) (a' := ?_) #[true, true, false, false, false] rfl rfl (by kernel_rfl) (fun _ _ _ h => h) (yieldsIf_load_mid (by rfl) 28 (.tmp 7) rfl g10 0 rfl _ _ (fun w' h => h.2.whole) Try.underlying28 rfl (by kernel_rfl)) hHeld ?_ ?_
        rotate_left
        · simp only [Act.put, sT, s0, s1]
          rfl
        refine join_ (σ := Nat) 1 #[true, true, true, true, false] (fun s_ => [(35, .slice (some ⟨s_, 0, none⟩) 1 1)]) (fun s_ w' => Fam w [(g10, 28, pk 1 (askI a1.id) (.slice A 26 c)), (g9, 24, a2.cells), (g8, 24, a2.cells), (g6, 22, ints p), (g4, 24, a1.cells)] w' ∧ Blk w' s_ 28 (pk 1 (askI a1.id) (.slice A 26 c)) ∧ w.heap.size ≤ s_) ?_ ?_
        rotate_left
        · intro hJ
          refine two_ (i := 2) (j := 3) (Ni := some 35) (Nj := none) #[true, true, true, false, false] #[true, true, false, true, false] rfl rfl rfl rfl (by kernel_rfl) (by decide) (by decide) (fun K hK => ?_) (fun K hK => ?_)
          · skip
            refine value_ (by rfl) rfl (show (execOp _ _).run Try.prog _ = .ok (.value (.slice (some ⟨w9.heap.size, 0, none⟩) 1 1)) (w9.alloc (.cells (pk 1 (askI a1.id) (.slice A 26 c)).toArray 28)) by first | (go_simp; done) | (go_simp; rfl)) ?_
            have HM9 := Aside0.mk (show Fam w [(g10, 28, pk 1 (askI a1.id) (.slice A 26 c)), (g9, 24, a2.cells), (g8, 24, Au.zero.cells), (g6, 22, ints p), (g4, 24, a1.cells)] _ from HM8.out.alloc (.cells (pk 1 (askI a1.id) (.slice A 26 c)).toArray 28))
            have HB := Aside0.mk (Blk.new (w := w9) (t := 28) (cs := pk 1 (askI a1.id) (.slice A 26 c)))
            have HG := Aside0.mk HM8.out.bel.size
            have HN := Aside0.mk (HM8.out.get 2 rfl).lt
            clear HM8
            generalize hg_ : w9.heap.size = g11 at HB HG HN ⊢
            clear hg_
            generalize w9.alloc _ = w10 at HM9 HB ⊢
            refine hK.out _ _ ⟨HM9.out.get 1 rfl, HM9.out.get 0 rfl⟩ (fun hHeld => ?_)
            clear hK K
            refine norm_ (a' := ?_) ?_ ?_
            rotate_left
            · show Act.put _ (some 35) _ = _
              simp only [Act.put, sT, s0, s1, i64_w, i32_w]
              rfl
            refine one_ (i := 3) (N := none) #[true, true, true, true, false] rfl rfl (by kernel_rfl) (by decide) (fun K hK => ?_)
            refine skip_ (by rfl) rfl (store_run (ty := 24) (new := a2.cells) rfl rfl rfl (HM9.out.get 2 rfl) (zlen HW2.out) (i24 HW2.out) (Au.one _)) ?_
            have HM10 := Aside0.mk (show Fam w [(g10, 28, pk 1 (askI a1.id) (.slice A 26 c)), (g9, 24, a2.cells), (g8, 24, a2.cells), (g6, 22, ints p), (g4, 24, a1.cells)] _ from HM9.out.over 2 rfl a2.cells (zlen HW2.out))
            have HB' := Aside0.mk (HB.out.fars (g2 := g8) (by have := HN.out; omega) a2.cells 0)
            clear HM9 HB
            refine hK.out _ _ ⟨HM10.out.get 1 rfl, HM10.out.get 0 rfl⟩ (fun hHeld => ?_)
            clear hK K
            exact norm_ (by first | (simp only [putAll, Act.put, sT, s0, s1]; done) | (simp only [putAll, Act.put, sT, s0, s1]; rfl)) (hJ g11 _ ⟨HM10.out, HB'.out, HG.out⟩)
          · skip
            refine skip_ (by rfl) rfl (store_run (ty := 24) (new := a2.cells) rfl rfl rfl (HM8.out.get 2 rfl) (zlen HW2.out) (i24 HW2.out) (Au.one _)) ?_
            have HM9 := Aside0.mk (show Fam w [(g10, 28, pk 1 (askI a1.id) (.slice A 26 c)), (g9, 24, a2.cells), (g8, 24, a2.cells), (g6, 22, ints p), (g4, 24, a1.cells)] _ from HM8.out.over 2 rfl a2.cells (zlen HW2.out))
            clear HM8
            generalize w9.setCells _ _ _ = w10 at HM9 ⊢
            refine hK.out _ _ ⟨HM9.out.get 1 rfl, HM9.out.get 0 rfl⟩ (fun hHeld => ?_)
            clear hK K
            refine one_ (i := 2) (N := some 35) #[true, true, true, true, false] rfl rfl (by kernel_rfl) (by decide) (fun K hK => ?_)
            refine value_ (by rfl) rfl (show (execOp _ _).run Try.prog _ = .ok (.value (.slice (some ⟨w10.heap.size, 0, none⟩) 1 1)) (w10.alloc (.cells (pk 1 (askI a1.id) (.slice A 26 c)).toArray 28)) by first | (go_simp; done) | (go_simp; rfl)) ?_
            have HM10 := Aside0.mk (show Fam w [(g10, 28, pk 1 (askI a1.id) (.slice A 26 c)), (g9, 24, a2.cells), (g8, 24, a2.cells), (g6, 22, ints p), (g4, 24, a1.cells)] _ from HM9.out.alloc (.cells (pk 1 (askI a1.id) (.slice A 26 c)).toArray 28))
            have HB := Aside0.mk (Blk.new (w := w10) (t := 28) (cs := pk 1 (askI a1.id) (.slice A 26 c)))
            have HG := Aside0.mk HM9.out.bel.size
            clear HM9
            generalize hg_ : w10.heap.size = g11 at HB HG ⊢
            clear hg_
            generalize w10.alloc _ = w11 at HM10 HB ⊢
            refine hK.out _ _ (⟨HM10.out.get 1 rfl, HM10.out.get 0 rfl⟩) (fun hHeld => ?_)
            clear hK K
            refine norm_ (a' := ?_) ?_ ?_
            rotate_left
            · show Act.put _ (some 35) _ = _
              simp only [Act.put, sT, s0, s1, i64_w, i32_w]
              rfl
            exact norm_ (by first | (simp only [putAll, Act.put, sT, s0, s1]; done) | (simp only [putAll, Act.put, sT, s0, s1]; rfl)) (hJ g11 _ ⟨HM10.out, HB.out, HG.out⟩)
        rintro g11 w10 ⟨hm, hx, hy⟩
        clear HM8 hHeld
        have HM9 := Aside0.mk hm
        have HB := Aside0.mk hx
        have HG := Aside0.mk hy
        clear hm hx hy
        refine norm_ (a' := ?_) ?_ ?_
        rotate_left
        · simp only [putAll, Act.put, sT, s0, s1]
          rfl
        refine pure_ (i := 4) (N := some 5) (v := ?_) (a' := ?_) #[true, true, true, true, true] rfl rfl (by kernel_rfl) (fun _ _ _ h => h) (Or.inl ⟨by rfl, ?_⟩) ?_ ?_
        rotate_left
        · intro w'
          go_simp
          with_reducible rfl
        rotate_left
        · simp only [Act.put, sT, s0, s1, i64_w, i32_w]
          rfl
        refine done_ (by kernel_rfl) ?_
        go_wp2
        refine bodyPost_ret (results_ct rfl _ _ g8 (.agg a2.cells.toArray) (.slice (some ⟨g11, 0, none⟩) 1 1) rfl rfl (loadVar_blk (HM9.out.get 2 rfl) Try.underlying24 rfl (i24 HW2.out))) rfl ?_
        have H2 : ¬ 0 < wrap64 (a.lf - 1) := by rw [HLF.out]; omega
        have H3 : ¬ 4 ≤ a.tr := by omega
        refine ⟨_, by rw [HA2.out, HAE.out]; unfold tickA; rw [if_pos H1.out, if_neg H2, if_neg H3], HM9.out.bel, ?_⟩
        unfold sentP tickS
        rw [decide_eq_true ⟨H1.out, H2, H3⟩]
        exact ⟨g11, A, c, rfl, HG.out, by have h := HB.out; rw [HAE.out] at h; exact h⟩
  · have f1 : (a.st != 1) = true := bne_iff_ne.mpr h1
    go_wp2_with (first
      | ((with_reducible refine wpList_load_mid rfl 24 (.tmp 2) rfl g4 0 ?hx (a.cells) _ ?hc Try.underlying24 rfl ?hi ?_); (case hx => rfl); (case hc => exact (HM.out.get 2 rfl).whole); (case hi => exact i24 HA.out))
      | ((with_reducible refine wpList_store_mid rfl 24 (.tmp 4) (.tmp 11) rfl g8 0 (a.cells).toArray ?hx ?hy ?h5 ?h6 ?h7 ?_); (case hx => rfl); (case hy => rfl); (case h5 => exact (HM.out.get 0 rfl).there (by rw [List.size_toArray, Nat.zero_add]; exact Nat.le_of_eq (Eq.symm (zlen HA.out)))); (case h6 => exact i24 HA.out); (case h7 => exact Au.one _); have HM3 := Aside0.mk (HM.out.over 0 rfl (a.cells) (zlen HA.out)); clear HM))
    refine bodyPost_ret (results_ct rfl _ _ g8 (.agg a.cells.toArray) (.slice none 0 0) rfl rfl (loadVar_blk (HM3.out.get 0 rfl) Try.underlying24 rfl (i24 HA.out))) rfl ?_
    refine ⟨_, by unfold tickA; rw [if_neg h1], HM3.out.bel, ?_⟩
    unfold sentP tickS
    rw [decide_eq_false (fun h => h1 h.1)]
    rfl
end Go.Proofs.Ytpbkdphilcodmaa.Q
/- chap.Judge: who answers, whether it is good, whether it counts. -/
namespace Go.Proofs.Ytpbkdphilcodmaa.Q
open Go Go.RowKit Go.Proofs.YtpbkdphilcodmaaW.PrintWords Go.Proofs.YtpbkdphilcodmaaW.PrintLast Go.Proofs.YtpbkdphilcodmaaW.PrintMore
open Go.Proofs.YtpbkdphilcodmaaV Go.Proofs.Ytpbkdphilcodmaa.Pure
set_option linter.unusedVariables false
set_option linter.unusedSimpArgs false
def judC (a : Au) (code id : Int) (l : List Int) : Bool := ansB code l && (decide (a.st = 1) && decide (id = a.id))
def digS (a : Au) (s : ByteArray) : List Int := digL (a.id :: (nums s ++ a.val))
def judG (a : Au) (us : List S54) (code : Int) (l : List Int) : Bool := secB (ansN code l) us && decide (ansV code l = digS a (secS (ansN code l) us))
def judN (a : Au) (code id : Int) (l : List Int) : ByteArray := if judC a code id l then ansN code l else ⟨#[]⟩
theorem ansV_length (code : Int) (l : List Int) : (ansV code l).length = 16 := by
  unfold ansV
  by_cases h : ansB code l = true
  · rw [if_pos h]
    unfold ansB at h
    have := of_decide_eq_true h
    rw [List.length_drop, List.length_take]
    omega
  · rw [if_neg h]
    rfl
theorem results_ttt {fn : Func} {p q r : Tmp} (h : fn.results = #[.tmp p, .tmp q, .tmp r]) (tmps : Array Value) (w : World) (v1 v2 v3 : Value) (hp : tmps.getD p undef = v1) (hq : tmps.getD q undef = v2) (hr : tmps.getD r undef = v3) : (results fn tmps).run Try.prog w = .ok (.tuple #[v1, v2, v3]) w := by
  have hp' : tmps[p]?.getD undef = v1 := by simpa using hp
  have hq' : tmps[q]?.getD undef = v2 := by simpa using hq
  have hr' : tmps[r]?.getD undef = v3 := by simpa using hr
  simp [results, h, hp', hq', hr']
theorem v16 {v : List Int} (hv : v.length = 16) : (ints no16).length = (ints v).length := by rw [ints_length, ints_length, hv]; rfl
set_option maxHeartbeats 8000000 in
set_option maxRecDepth 100000 in
theorem Judge_calls (a : Au) (ha : a.wf) (us : List S54) (A : Option Addr) (c : Nat) (code id : Int) (Ad : Option Addr) (cd : Nat) (l : List Int) (hs : ∀ n, (secS n us).size ≤ 4000) (w : World)
    (hr : Kd.C k54 w A us.length us) (hc : us.length ≤ c) (hrd : Kd.C (Kd.int .u8) w Ad l.length l) (hcd : l.length ≤ cd) :
    Calls Try.prog 12 #[.agg a.cells.toArray, .slice A us.length c, .agg (pk code id (.slice Ad l.length cd)).toArray] w fun e w' => e = .returned (.tuple #[.string (judN a code id l), .bool (judC a code id l && judG a us code l), .bool (judC a code id l)]) ∧ Below w.heap.size w w' := by
  have HA := Aside0.mk ha
  have HR := Aside0.mk hr
  have HC := Aside0.mk hc
  have HRD := Aside0.mk hrd
  have HCD := Aside0.mk hcd
  have HV := Aside0.mk (ansV_length code l)
  have HS := Aside0.mk hs
  clear ha hr hc hrd hcd hs
  obtain ⟨cs, hcs⟩ : ∃ cs, cs = a.cells.toArray := ⟨_, rfl⟩
  rw [← hcs]
  have HCS := Aside0.mk hcs
  obtain ⟨n0, hn0⟩ : ∃ n0, ansN code l = n0 := ⟨_, rfl⟩
  obtain ⟨v0, hv0⟩ : ∃ v0, ansV code l = v0 := ⟨_, rfl⟩
  obtain ⟨b0, hb0⟩ : ∃ b0, ansB code l = b0 := ⟨_, rfl⟩
  have HN0 := Aside0.mk hn0
  have HV0 := Aside0.mk hv0
  have HB0 := Aside0.mk hb0
  rw [hv0] at HV
  clear hn0 hv0 hb0 hcs
  go_enter Try.func12, Try.ntmps12
  go_upto_region 2 with (first
    | ((with_reducible refine gate_dst (N := 3) rfl ?_); refine box_event ?hg (N := 3) ?hd (cs := cs) (t := 24) ?hr ?_; (case hd => rfl); (case hg => rfl); (case hr => first | (go_simp; done) | (go_simp; rfl)); intro g3 hg w1 hbox hb; rw [HCS.out] at hbox; have HF1 := Aside0.mk (show Fam w [(g3, 24, a.cells)] w1 from (Fam.start (Below.refl _ _)).box hg hbox hb); clear hbox hb hg)
    | ((with_reducible refine gate_dst (N := 5) rfl ?_); refine box_event ?hg (N := 5) ?hd (cs := (pk code id (.slice Ad l.length cd)).toArray) (t := 28) ?hr ?_; (case hd => rfl); (case hg => rfl); (case hr => first | (go_simp; done) | (go_simp; rfl)); intro g5 hg w2 hbox hb; have HM1 := Aside0.mk (show Fam w [(g5, 28, pk code id (.slice Ad l.length cd)), (g3, 24, a.cells)] w2 from HF1.out.box hg hbox hb); clear hbox hb hg HF1)
    | ((with_reducible refine wpList_load_mid rfl 28 (.tmp 5) rfl g5 0 ?hx (pk code id (.slice Ad l.length cd)) _ ?hc Try.underlying28 rfl ?hi ?_); (case hx => rfl); (case hc => exact (HM1.out.get 0 rfl).whole); (case hi => exact by kernel_rfl))
    | (go_at_call 13; refine (Answer_calls code id Ad cd l _ (Kd.C_below HRD.out HM1.out.bel) HCD.out).mono ?_; rintro e w3 ⟨rfl, hb⟩; rw [HN0.out, HV0.out, HB0.out]; have HM2 := Aside0.mk (HM1.out.keep hb); clear HM1 hb)
    | ((with_reducible refine gate_dst (N := 10) rfl ?_); refine box_event ?hg (N := 10) ?hd (cs := (ints no16).toArray) (t := 22) ?hr ?_; (case hd => rfl); (case hg => rfl); (case hr => first | (go_simp; done) | (go_simp; rfl)); intro g10 hg w4 hbox hb; have HM3 := Aside0.mk (show Fam w [(g10, 22, ints no16), (g5, 28, pk code id (.slice Ad l.length cd)), (g3, 24, a.cells)] w4 from HM2.out.box hg hbox hb); clear hbox hb hg HM2)
    | ((with_reducible refine wpList_store_mid rfl 22 (.tmp 10) (.tmp 18) rfl g10 0 (ints v0).toArray ?hx ?hy ?h5 ?h6 ?h7 ?_); (case hx => rfl); (case hy => rfl); (case h5 => exact (HM3.out.get 0 rfl).there (by rw [List.size_toArray, Nat.zero_add]; exact Nat.le_of_eq (Eq.symm (v16 HV.out)))); (case h6 => exact i22 HV.out); (case h7 => exact ints_one _); have HM4_ := Aside0.mk (HM3.out.over 0 rfl (ints v0) (v16 HV.out)); clear HM3))
  have HM4 := Aside0.mk (show Fam w [(g10, 22, ints v0), (g5, 28, pk code id (.slice Ad l.length cd)), (g3, 24, a.cells)] _ from HM4_.out)
  clear HM4_
  generalize w4.setCells _ _ _ = w5 at HM4 ⊢
  have hc0 := Au.at0 (HM4.out.get 2 rfl)
  have hc3 := Au.at3 (HM4.out.get 2 rfl)
  have hp1 : w5.cell? ⟨g5, 1, none⟩ = some (.int .u8 id) := (HM4.out.get 1 rfl).at_ rfl
  cases b0 with
  | false =>
    have HJ := Aside0.mk (show judC a code id l = false by unfold judC; rw [HB0.out]; rfl)
    go_wp2
    refine bodyPost_ret (results_ttt rfl _ _ _ _ _ rfl rfl rfl) rfl ?_
    exact ⟨by unfold judN; rw [HJ.out] <;> rfl, HM4.out.bel⟩
  | true =>
    by_cases h1 : a.st = 1
    · have f1 : (a.st != 1) = false := bne_eq_false_iff_eq.mpr h1
      by_cases h2 : id = a.id
      · have f2 : (id != a.id) = false := bne_eq_false_iff_eq.mpr h2
        have HJ := Aside0.mk (show judC a code id l = true by unfold judC; rw [HB0.out, decide_eq_true h1, decide_eq_true h2]; rfl)
        clear h1 h2
        obtain ⟨sec, hsec⟩ : ∃ sec, secS n0 us = sec := ⟨_, rfl⟩
        obtain ⟨kn, hkn⟩ : ∃ kn, secB n0 us = kn := ⟨_, rfl⟩
        have HSEC := Aside0.mk hsec
        have HKN := Aside0.mk hkn
        have HSZ := Aside0.mk (hsec ▸ HS.out n0)
        clear hsec hkn
        go_upto_region 5 with (first
          | (go_at_call 20; refine (Secret_calls us A c n0 _ (Kd.C_below HR.out HM4.out.bel) HC.out).mono ?_; rintro e w6 ⟨rfl, hb⟩; rw [HSEC.out, HKN.out]; have HM5 := Aside0.mk (HM4.out.keep hb); clear HM4 hb hc0 hc3 hp1))
        clear f1 f2
        cases kn with
        | false =>
          refine start_ (n := 15) (S := fun w' => True) (ds := []) #[false, false, false, false, false, false, false, false, false, false, false, false, false, false, false] (by kernel_rfl) rfl rfl trivial (fun hHeld => ?_)
          have HM9 := Aside0.mk HM5.out.drew
          clear HM5
          generalize World.drew _ = w7 at HM9 hHeld ⊢
          refine pure_ (i := 0) (N := some 40) (v := ?_) (a' := ?_) #[true, false, false, false, false, false, false, false, false, false, false, false, false, false, false] rfl rfl (by kernel_rfl) (fun _ _ _ h => h) (Or.inl ⟨by rfl, ?_⟩) ?_ ?_
          rotate_left
          · intro w'
            go_simp
            with_reducible rfl
          rotate_left
          · simp only [Act.put, sT, s0, s1, i64_w, i32_w]
            rfl
          refine pure_ (i := 1) (N := some 41) (v := ?_) (a' := ?_) #[true, true, false, false, false, false, false, false, false, false, false, false, false, false, false] rfl rfl (by kernel_rfl) (fun _ _ _ h => h) (Or.inl ⟨by rfl, ?_⟩) ?_ ?_
          rotate_left
          · intro w'
            go_simp
            with_reducible rfl
          rotate_left
          · simp only [Act.put, sT, s0, s1, i64_w, i32_w]
            rfl
          refine pure_ (i := 2) (N := some 42) (v := ?_) (a' := ?_) #[true, true, true, false, false, false, false, false, false, false, false, false, false, false, false] rfl rfl (by kernel_rfl) (fun _ _ _ h => h) (Or.inl ⟨by rfl, ?_⟩) ?_ ?_
          rotate_left
          · intro w'
            go_simp
            with_reducible rfl
          rotate_left
          · simp only [Act.put, sT, s0, s1, i64_w, i32_w]
            rfl
          refine pure_ (i := 3) (N := some 43) (v := undef) (a' := ?_) #[true, true, true, true, false, false, false, false, false, false, false, false, false, false, false] rfl rfl (by kernel_rfl) (fun _ _ _ h => h) (Or.inr ⟨by rfl, rfl⟩) ?_ ?_
          rotate_left
          · simp only [Act.put, sT, s0, s1]
            rfl
          refine pure_ (i := 4) (N := some 44) (v := undef) (a' := ?_) #[true, true, true, true, true, false, false, false, false, false, false, false, false, false, false] rfl rfl (by kernel_rfl) (fun _ _ _ h => h) (Or.inr ⟨by rfl, rfl⟩) ?_ ?_
          rotate_left
          · simp only [Act.put, sT, s0, s1]
            rfl
          refine pure_ (i := 5) (N := some 45) (v := undef) (a' := ?_) #[true, true, true, true, true, true, false, false, false, false, false, false, false, false, false] rfl rfl (by kernel_rfl) (fun _ _ _ h => h) (Or.inr ⟨by rfl, rfl⟩) ?_ ?_
          rotate_left
          · simp only [Act.put, sT, s0, s1]
            rfl
          refine pure_ (i := 6) (N := some 46) (v := undef) (a' := ?_) #[true, true, true, true, true, true, true, false, false, false, false, false, false, false, false] rfl rfl (by kernel_rfl) (fun _ _ _ h => h) (Or.inr ⟨by rfl, rfl⟩) ?_ ?_
          rotate_left
          · simp only [Act.put, sT, s0, s1]
            rfl
          refine pure_ (i := 7) (N := some 47) (v := undef) (a' := ?_) #[true, true, true, true, true, true, true, true, false, false, false, false, false, false, false] rfl rfl (by kernel_rfl) (fun _ _ _ h => h) (Or.inr ⟨by rfl, rfl⟩) ?_ ?_
          rotate_left
          · simp only [Act.put, sT, s0, s1]
            rfl
          refine pure_ (i := 8) (N := some 48) (v := undef) (a' := ?_) #[true, true, true, true, true, true, true, true, true, false, false, false, false, false, false] rfl rfl (by kernel_rfl) (fun _ _ _ h => h) (Or.inr ⟨by rfl, rfl⟩) ?_ ?_
          rotate_left
          · simp only [Act.put, sT, s0, s1]
            rfl
          refine one_ (i := 9) (N := some 49) #[true, true, true, true, true, true, true, true, true, true, false, false, false, false, false] rfl rfl (by kernel_rfl) (by decide) (fun K hK => ?_)
          refine off_ (by rfl) ?_
          refine hK.out _ _ trivial (fun hHeld => ?_)
          clear hK K
          refine norm_ (a' := ?_) ?_ ?_
          rotate_left
          · show Act.put _ (some 49) _ = _
            simp only [Act.put, sT, s0, s1, i64_w, i32_w]
            rfl
          refine pure_ (i := 10) (N := some 50) (v := undef) (a' := ?_) #[true, true, true, true, true, true, true, true, true, true, true, false, false, false, false] rfl rfl (by kernel_rfl) (fun _ _ _ h => h) (Or.inr ⟨by rfl, rfl⟩) ?_ ?_
          rotate_left
          · simp only [Act.put, sT, s0, s1]
            rfl
          refine pure_ (i := 11) (N := some 51) (v := ?_) (a' := ?_) #[true, true, true, true, true, true, true, true, true, true, true, true, false, false, false] rfl rfl (by kernel_rfl) (fun _ _ _ h => h) (Or.inl ⟨by rfl, ?_⟩) ?_ ?_
          rotate_left
          · intro w'
            go_simp
            with_reducible rfl
          rotate_left
          · simp only [Act.put, sT, s0, s1, i64_w, i32_w]
            rfl
          refine pure_ (i := 12) (N := some 6) (v := ?_) (a' := ?_) #[true, true, true, true, true, true, true, true, true, true, true, true, true, false, false] rfl rfl (by kernel_rfl) (fun _ _ _ h => h) (Or.inl ⟨by rfl, ?_⟩) ?_ ?_
          rotate_left
          · intro w'
            go_simp
            with_reducible rfl
          rotate_left
          · simp only [Act.put, sT, s0, s1, i64_w, i32_w]
            rfl
          refine pure_ (i := 13) (N := some 7) (v := ?_) (a' := ?_) #[true, true, true, true, true, true, true, true, true, true, true, true, true, true, false] rfl rfl (by kernel_rfl) (fun _ _ _ h => h) (Or.inl ⟨by rfl, ?_⟩) ?_ ?_
          rotate_left
          · intro w'
            go_simp
            with_reducible rfl
          rotate_left
          · simp only [Act.put, sT, s0, s1, i64_w, i32_w]
            rfl
          refine pure_ (i := 14) (N := some 8) (v := ?_) (a' := ?_) #[true, true, true, true, true, true, true, true, true, true, true, true, true, true, true] rfl rfl (by kernel_rfl) (fun _ _ _ h => h) (Or.inl ⟨by rfl, ?_⟩) ?_ ?_
          rotate_left
          · intro w'
            go_simp
            with_reducible rfl
          rotate_left
          · simp only [Act.put, sT, s0, s1, i64_w, i32_w]
            rfl
          refine done_ (by kernel_rfl) ?_
          clear hHeld
          go_wp2
          refine bodyPost_ret (results_ttt rfl _ _ _ _ _ rfl rfl rfl) rfl ?_
          exact ⟨by unfold judN judG; rw [HJ.out, HN0.out, HKN.out] <;> rfl, HM9.out.bel⟩
        | true =>
          refine start_ (n := 15) (S := fun w' => Blk w' g3 24 a.cells ∧ Blk w' g10 22 (ints v0)) (ds := []) #[false, false, false, false, false, false, false, false, false, false, false, false, false, false, false] (by kernel_rfl) rfl rfl ⟨(HM5.out.get 2 rfl).drew, (HM5.out.get 0 rfl).drew⟩ (fun hHeld => ?_)
          have HM6 := Aside0.mk HM5.out.drew
          clear HM5
          generalize World.drew _ = w7 at HM6 hHeld ⊢
          refine pure_ (i := 0) (N := some 40) (v := ?_) (a' := ?_) #[true, false, false, false, false, false, false, false, false, false, false, false, false, false, false] rfl rfl (by kernel_rfl) (fun _ _ _ h => h) (Or.inl ⟨by rfl, ?_⟩) ?_ ?_
          rotate_left
          · intro w'
            go_simp
            with_reducible rfl
          rotate_left
          · simp only [Act.put, sT, s0, s1, i64_w, i32_w]
            rfl
          refine pure_ (i := 1) (N := some 41) (v := ?_) (a' := ?_) #[true, true, false, false, false, false, false, false, false, false, false, false, false, false, false] rfl rfl (by kernel_rfl) (fun _ _ _ h => h) (Or.inl ⟨by rfl, ?_⟩) ?_ ?_
          rotate_left
          · intro w'
            go_simp
            with_reducible rfl
          rotate_left
          · simp only [Act.put, sT, s0, s1, i64_w, i32_w]
            rfl
          refine pure_ (i := 2) (N := some 42) (v := ?_) (a' := ?_) #[true, true, true, false, false, false, false, false, false, false, false, false, false, false, false] rfl rfl (by kernel_rfl) (fun _ _ _ h => h) (Or.inl ⟨by rfl, ?_⟩) ?_ ?_
          rotate_left
          · intro w'
            go_simp
            with_reducible rfl
          rotate_left
          · simp only [Act.put, sT, s0, s1, i64_w, i32_w]
            rfl
          refine take_ (i := 3) (N := some 43) (v := .agg (ints v0).toArray) (a' := ?_) #[true, true, true, true, false, false, false, false, false, false, false, false, false, false, false] rfl rfl (by kernel_rfl) (fun _ _ _ h => h) (yieldsIf_load_mid (by rfl) 22 (.tmp 10) rfl g10 0 rfl _ _ (fun w' h => h.2.whole) Try.underlying22 rfl (i22 HV.out)) hHeld ?_ ?_
          rotate_left
          · simp only [Act.put, sT, s0, s1]
            rfl
          refine pure_ (i := 4) (N := some 44) (v := ?_) (a' := ?_) #[true, true, true, true, true, false, false, false, false, false, false, false, false, false, false] rfl rfl (by kernel_rfl) (fun _ _ _ h => h) (Or.inl ⟨by rfl, ?_⟩) ?_ ?_
          rotate_left
          · intro w'
            go_simp
            with_reducible rfl
          rotate_left
          · simp only [Act.put, sT, s0, s1, i64_w, i32_w]
            rfl
          refine take_ (i := 5) (N := some 45) (v := ?_) (a' := ?_) #[true, true, true, true, true, true, false, false, false, false, false, false, false, false, false] rfl rfl (by kernel_rfl) (fun _ _ _ h => h) (Or.inl ⟨by rfl, ?_⟩) hHeld ?_ ?_
          rotate_left
          · intro w' h
            have hc_ := Au.at3 h.1
            go_simp
            with_reducible rfl
          rotate_left
          · simp only [Act.put, sT, s0, s1]
            rfl
          refine pure_ (i := 6) (N := some 46) (v := ?_) (a' := ?_) #[true, true, true, true, true, true, true, false, false, false, false, false, false, false, false] rfl rfl (by kernel_rfl) (fun _ _ _ h => h) (Or.inl ⟨by rfl, ?_⟩) ?_ ?_
          rotate_left
          · intro w'
            go_simp
            with_reducible rfl
          rotate_left
          · simp only [Act.put, sT, s0, s1, i64_w, i32_w]
            rfl
          refine pure_ (i := 7) (N := some 47) (v := ?_) (a' := ?_) #[true, true, true, true, true, true, true, true, false, false, false, false, false, false, false] rfl rfl (by kernel_rfl) (fun _ _ _ h => h) (Or.inl ⟨by rfl, ?_⟩) ?_ ?_
          rotate_left
          · intro w'
            go_simp
            with_reducible rfl
          rotate_left
          · simp only [Act.put, sT, s0, s1, i64_w, i32_w]
            rfl
          refine take_ (i := 8) (N := some 48) (v := .agg (ints a.val).toArray) (a' := ?_) #[true, true, true, true, true, true, true, true, true, false, false, false, false, false, false] rfl rfl (by kernel_rfl) (fun _ _ _ h => h) (yieldsIf_load_mid (by rfl) 22 (.tmp 47) rfl g3 4 rfl _ _ (fun w' h => Au.atVal h.1) Try.underlying22 rfl (i22 HA.out.val)) hHeld ?_ ?_
          rotate_left
          · simp only [Act.put, sT, s0, s1]
            rfl
          refine one_ (i := 9) (N := some 49) #[true, true, true, true, true, true, true, true, true, true, false, false, false, false, false] rfl rfl (by kernel_rfl) (by decide) (fun K hK => ?_)
          refine goes_ Try.func21 (by kernel_rfl) rfl #[.int .u8 a.id, .string sec, .agg (ints a.val).toArray] (by rfl) rfl rfl (by (try simp only [List.map_toArray, List.map_cons, List.map_nil]); first | done | rfl) ?_
          refine (Digest_calls a.id sec a.val HA.out.val HSZ.out _).mono ?_
          rintro e w8 ⟨rfl, hb⟩
          obtain ⟨q, hq⟩ : ∃ q, digL (a.id :: (nums sec ++ a.val)) = q := ⟨_, rfl⟩
          rw [hq]
          have HQ := Aside0.mk hq
          have HQL := Aside0.mk (show q.length = 16 by rw [← hq]; exact md5_Sum.outs_length _ _)
          clear hq
          refine ⟨_, rfl, ?_⟩
          have HM9 := Aside0.mk (HM6.out.keep hb)
          clear HM6 hb
          refine hK.out _ _ (⟨HM9.out.get 2 rfl, HM9.out.get 0 rfl⟩) (fun hHeld => ?_)
          clear hK K
          refine norm_ (a' := ?_) ?_ ?_
          rotate_left
          · show Act.put _ (some 49) _ = _
            simp only [Act.put, sT, s0, s1, i64_w, i32_w]
            rfl
          refine pure_ (i := 10) (N := some 50) (v := .bool (decide (v0 = q))) (a' := ?_) #[true, true, true, true, true, true, true, true, true, true, true, false, false, false, false] rfl rfl (by kernel_rfl) (fun _ _ _ h => h) (Or.inl ⟨by rfl, ?_⟩) ?_ ?_
          · intro w'
            exact eql_yields rfl rfl rfl (eqR_ints HV.out HQL.out)
          rotate_left
          · simp only [Act.put, sT, s0, s1]
            rfl
          refine pure_ (i := 11) (N := some 51) (v := ?_) (a' := ?_) #[true, true, true, true, true, true, true, true, true, true, true, true, false, false, false] rfl rfl (by kernel_rfl) (fun _ _ _ h => h) (Or.inl ⟨by rfl, ?_⟩) ?_ ?_
          rotate_left
          · intro w'
            go_simp
            with_reducible rfl
          rotate_left
          · simp only [Act.put, sT, s0, s1, i64_w, i32_w]
            rfl
          refine pure_ (i := 12) (N := some 6) (v := ?_) (a' := ?_) #[true, true, true, true, true, true, true, true, true, true, true, true, true, false, false] rfl rfl (by kernel_rfl) (fun _ _ _ h => h) (Or.inl ⟨by rfl, ?_⟩) ?_ ?_
          rotate_left
          · intro w'
            go_simp
            with_reducible rfl
          rotate_left
          · simp only [Act.put, sT, s0, s1, i64_w, i32_w]
            rfl
          refine pure_ (i := 13) (N := some 7) (v := ?_) (a' := ?_) #[true, true, true, true, true, true, true, true, true, true, true, true, true, true, false] rfl rfl (by kernel_rfl) (fun _ _ _ h => h) (Or.inl ⟨by rfl, ?_⟩) ?_ ?_
          rotate_left
          · intro w'
            go_simp
            with_reducible rfl
          rotate_left
          · simp only [Act.put, sT, s0, s1, i64_w, i32_w]
            rfl
          refine pure_ (i := 14) (N := some 8) (v := ?_) (a' := ?_) #[true, true, true, true, true, true, true, true, true, true, true, true, true, true, true] rfl rfl (by kernel_rfl) (fun _ _ _ h => h) (Or.inl ⟨by rfl, ?_⟩) ?_ ?_
          rotate_left
          · intro w'
            go_simp
            with_reducible rfl
          rotate_left
          · simp only [Act.put, sT, s0, s1, i64_w, i32_w]
            rfl
          refine done_ (by kernel_rfl) ?_
          clear hHeld
          go_wp2
          refine bodyPost_ret (results_ttt rfl _ _ _ _ _ rfl rfl rfl) rfl ?_
          exact ⟨by unfold judN judG digS; rw [HJ.out, HN0.out, HKN.out, HV0.out, HSEC.out, HQ.out] <;> rfl, HM9.out.bel⟩
      · have f2 : (id != a.id) = true := bne_iff_ne.mpr h2
        have HJ := Aside0.mk (show judC a code id l = false by unfold judC; rw [decide_eq_false h2, Bool.and_false, Bool.and_false])
        clear h1 h2
        go_wp2
        refine bodyPost_ret (results_ttt rfl _ _ _ _ _ rfl rfl rfl) rfl ?_
        exact ⟨by unfold judN; rw [HJ.out] <;> rfl, HM4.out.bel⟩
    · have f1 : (a.st != 1) = true := bne_iff_ne.mpr h1
      have HJ := Aside0.mk (show judC a code id l = false by unfold judC; rw [decide_eq_false h1, Bool.false_and, Bool.and_false])
      clear h1
      go_wp2
      refine bodyPost_ret (results_ttt rfl _ _ _ _ _ rfl rfl rfl) rfl ?_
      exact ⟨by unfold judN; rw [HJ.out] <;> rfl, HM4.out.bel⟩
end Go.Proofs.Ytpbkdphilcodmaa.Q
/- chap.Proved: is it proved? -/
namespace Go.Proofs.Ytpbkdphilcodmaa.Q
open Go Go.RowKit Go.Proofs.YtpbkdphilcodmaaW.PrintWords Go.Proofs.YtpbkdphilcodmaaW.PrintLast Go.Proofs.YtpbkdphilcodmaaW.PrintMore
open Go.Proofs.YtpbkdphilcodmaaV Go.Proofs.Ytpbkdphilcodmaa.Pure
set_option linter.unusedVariables false
set_option linter.unusedSimpArgs false
def prv (a : Au) (us : List S54) : Bool := decide (a.st = 2) && (secB a.who us && decide (a.prf = digS a (secS a.who us)))
set_option maxHeartbeats 8000000 in
set_option maxRecDepth 100000 in
theorem Proved_calls (a : Au) (ha : a.wf) (us : List S54) (A : Option Addr) (c : Nat) (hs : ∀ n, (secS n us).size ≤ 4000) (w : World)
    (hr : Kd.C k54 w A us.length us) (hc : us.length ≤ c) :
    Calls Try.prog 15 #[.agg a.cells.toArray, .slice A us.length c] w fun e w' => e = .returned (.bool (prv a us)) ∧ Below w.heap.size w w' := by
  have HA := Aside0.mk ha
  have HR := Aside0.mk hr
  have HC := Aside0.mk hc
  have HS := Aside0.mk hs
  clear ha hr hc hs
  obtain ⟨cs, hcs⟩ : ∃ cs, cs = a.cells.toArray := ⟨_, rfl⟩
  rw [← hcs]
  have HCS := Aside0.mk hcs
  clear hcs
  obtain ⟨sec, hsec⟩ : ∃ sec, secS a.who us = sec := ⟨_, rfl⟩
  obtain ⟨kn, hkn⟩ : ∃ kn, secB a.who us = kn := ⟨_, rfl⟩
  have HSEC := Aside0.mk hsec
  have HKN := Aside0.mk hkn
  have HSZ := Aside0.mk (hsec ▸ HS.out a.who)
  clear hsec hkn
  go_enter Try.func15, Try.ntmps15
  go_upto_region 1 with (first
    | ((with_reducible refine gate_dst (N := 2) rfl ?_); refine box_event ?hg (N := 2) ?hd (cs := cs) (t := 24) ?hr ?_; (case hd => rfl); (case hg => rfl); (case hr => first | (go_simp; done) | (go_simp; rfl)); intro g2 hg w1 hbox hb; rw [HCS.out] at hbox; have HM1 := Aside0.mk (show Fam w [(g2, 24, a.cells)] w1 from (Fam.start (Below.refl _ _)).box hg hbox hb); clear hbox hb hg))
  have hc20 := Au.at20 (HM1.out.get 0 rfl) HA.out
  go_upto_region 2 with (first
    | (go_at_call 20; refine (Secret_calls us A c a.who _ (Kd.C_below HR.out HM1.out.bel) HC.out).mono ?_; rintro e w6 ⟨rfl, hb⟩; rw [HSEC.out, HKN.out]; have HM2 := Aside0.mk (HM1.out.keep hb); clear HM1 hb hc20))
  by_cases h1 : a.st = 2
  · have f1 : (a.st == 2) = true := beq_iff_eq.mpr h1
    have H1 := Aside0.mk h1
    clear h1
    cases kn with
    | false =>
      · skip
        refine start_ (n := 18) (S := fun w' => Blk w' g2 24 a.cells) (ds := []) #[false, false, false, false, false, false, false, false, false, false, false, false, false, false, false, false, false, false] (by kernel_rfl) rfl rfl (HM2.out.get 0 rfl).drew (fun hHeld => ?_)
        have HM9 := Aside0.mk HM2.out.drew
        clear HM2
        generalize World.drew _ = w7 at HM9 hHeld ⊢
        refine pure_ (i := 0) (N := some 14) (v := ?_) (a' := ?_) #[true, false, false, false, false, false, false, false, false, false, false, false, false, false, false, false, false, false] rfl rfl (by kernel_rfl) (fun _ _ _ h => h) (Or.inl ⟨by rfl, ?_⟩) ?_ ?_
        rotate_left
        · intro w'
          go_simp
          with_reducible rfl
        rotate_left
        · simp only [Act.put, sT, s0, s1, i64_w, i32_w]
          rfl
        refine take_ (i := 1) (N := some 15) (v := ?_) (a' := ?_) #[true, true, false, false, false, false, false, false, false, false, false, false, false, false, false, false, false, false] rfl rfl (by kernel_rfl) (fun _ _ _ h => h) (Or.inl ⟨by rfl, ?_⟩) hHeld ?_ ?_
        rotate_left
        · intro w' h
          have hc_ := Au.at0 h
          go_simp
          with_reducible rfl
        rotate_left
        · simp only [Act.put, sT, s0, s1]
          rfl
        refine pure_ (i := 2) (N := some 16) (v := ?_) (a' := ?_) #[true, true, true, false, false, false, false, false, false, false, false, false, false, false, false, false, false, false] rfl rfl (by kernel_rfl) (fun _ _ _ h => h) (Or.inl ⟨by rfl, ?_⟩) ?_ ?_
        rotate_left
        · intro w'
          go_simp
          with_reducible rfl
        rotate_left
        · simp only [Act.put, sT, s0, s1, i64_w, i32_w]
          rfl
        refine pure_ (i := 3) (N := some 17) (v := ?_) (a' := ?_) #[true, true, true, true, false, false, false, false, false, false, false, false, false, false, false, false, false, false] rfl rfl (by kernel_rfl) (fun _ _ _ h => h) (Or.inl ⟨by rfl, ?_⟩) ?_ ?_
        rotate_left
        · intro w'
          go_simp
          with_reducible rfl
        rotate_left
        · simp only [Act.put, sT, s0, s1, i64_w, i32_w]
          rfl
        refine pure_ (i := 4) (N := some 18) (v := ?_) (a' := ?_) #[true, true, true, true, true, false, false, false, false, false, false, false, false, false, false, false, false, false] rfl rfl (by kernel_rfl) (fun _ _ _ h => h) (Or.inl ⟨by rfl, ?_⟩) ?_ ?_
        rotate_left
        · intro w'
          go_simp
          with_reducible rfl
        rotate_left
        · simp only [Act.put, sT, s0, s1, i64_w, i32_w]
          rfl
        refine pure_ (i := 5) (N := some 19) (v := ?_) (a' := ?_) #[true, true, true, true, true, true, false, false, false, false, false, false, false, false, false, false, false, false] rfl rfl (by kernel_rfl) (fun _ _ _ h => h) (Or.inl ⟨by rfl, ?_⟩) ?_ ?_
        rotate_left
        · intro w'
          go_simp
          with_reducible rfl
        rotate_left
        · simp only [Act.put, sT, s0, s1, i64_w, i32_w]
          rfl
        refine pure_ (i := 6) (N := some 20) (v := ?_) (a' := ?_) #[true, true, true, true, true, true, true, false, false, false, false, false, false, false, false, false, false, false] rfl rfl (by kernel_rfl) (fun _ _ _ h => h) (Or.inl ⟨by rfl, ?_⟩) ?_ ?_
        rotate_left
        · intro w'
          go_simp
          with_reducible rfl
        rotate_left
        · simp only [Act.put, sT, s0, s1, i64_w, i32_w]
          rfl
        refine pure_ (i := 7) (N := some 21) (v := undef) (a' := ?_) #[true, true, true, true, true, true, true, true, false, false, false, false, false, false, false, false, false, false] rfl rfl (by kernel_rfl) (fun _ _ _ h => h) (Or.inr ⟨by rfl, rfl⟩) ?_ ?_
        rotate_left
        · simp only [Act.put, sT, s0, s1]
          rfl
        refine pure_ (i := 8) (N := some 22) (v := undef) (a' := ?_) #[true, true, true, true, true, true, true, true, true, false, false, false, false, false, false, false, false, false] rfl rfl (by kernel_rfl) (fun _ _ _ h => h) (Or.inr ⟨by rfl, rfl⟩) ?_ ?_
        rotate_left
        · simp only [Act.put, sT, s0, s1]
          rfl
        refine pure_ (i := 9) (N := some 23) (v := undef) (a' := ?_) #[true, true, true, true, true, true, true, true, true, true, false, false, false, false, false, false, false, false] rfl rfl (by kernel_rfl) (fun _ _ _ h => h) (Or.inr ⟨by rfl, rfl⟩) ?_ ?_
        rotate_left
        · simp only [Act.put, sT, s0, s1]
          rfl
        refine pure_ (i := 10) (N := some 24) (v := undef) (a' := ?_) #[true, true, true, true, true, true, true, true, true, true, true, false, false, false, false, false, false, false] rfl rfl (by kernel_rfl) (fun _ _ _ h => h) (Or.inr ⟨by rfl, rfl⟩) ?_ ?_
        rotate_left
        · simp only [Act.put, sT, s0, s1]
          rfl
        refine pure_ (i := 11) (N := some 25) (v := undef) (a' := ?_) #[true, true, true, true, true, true, true, true, true, true, true, true, false, false, false, false, false, false] rfl rfl (by kernel_rfl) (fun _ _ _ h => h) (Or.inr ⟨by rfl, rfl⟩) ?_ ?_
        rotate_left
        · simp only [Act.put, sT, s0, s1]
          rfl
        refine pure_ (i := 12) (N := some 26) (v := undef) (a' := ?_) #[true, true, true, true, true, true, true, true, true, true, true, true, true, false, false, false, false, false] rfl rfl (by kernel_rfl) (fun _ _ _ h => h) (Or.inr ⟨by rfl, rfl⟩) ?_ ?_
        rotate_left
        · simp only [Act.put, sT, s0, s1]
          rfl
        refine pure_ (i := 13) (N := some 27) (v := undef) (a' := ?_) #[true, true, true, true, true, true, true, true, true, true, true, true, true, true, false, false, false, false] rfl rfl (by kernel_rfl) (fun _ _ _ h => h) (Or.inr ⟨by rfl, rfl⟩) ?_ ?_
        rotate_left
        · simp only [Act.put, sT, s0, s1]
          rfl
        refine one_ (i := 14) (N := some 28) #[true, true, true, true, true, true, true, true, true, true, true, true, true, true, true, false, false, false] rfl rfl (by kernel_rfl) (by decide) (fun K hK => ?_)
        refine off_ (by rfl) ?_
        refine hK.out _ _ (HM9.out.get 0 rfl) (fun hHeld => ?_)
        clear hK K
        refine norm_ (a' := ?_) ?_ ?_
        rotate_left
        · show Act.put _ (some 28) _ = _
          simp only [Act.put, sT, s0, s1, i64_w, i32_w]
          rfl
        refine pure_ (i := 15) (N := some 29) (v := undef) (a' := ?_) #[true, true, true, true, true, true, true, true, true, true, true, true, true, true, true, true, false, false] rfl rfl (by kernel_rfl) (fun _ _ _ h => h) (Or.inr ⟨by rfl, rfl⟩) ?_ ?_
        rotate_left
        · simp only [Act.put, sT, s0, s1]
          rfl
        refine pure_ (i := 16) (N := some 30) (v := ?_) (a' := ?_) #[true, true, true, true, true, true, true, true, true, true, true, true, true, true, true, true, true, false] rfl rfl (by kernel_rfl) (fun _ _ _ h => h) (Or.inl ⟨by rfl, ?_⟩) ?_ ?_
        rotate_left
        · intro w'
          go_simp
          with_reducible rfl
        rotate_left
        · simp only [Act.put, sT, s0, s1, i64_w, i32_w]
          rfl
        refine pure_ (i := 17) (N := some 4) (v := ?_) (a' := ?_) #[true, true, true, true, true, true, true, true, true, true, true, true, true, true, true, true, true, true] rfl rfl (by kernel_rfl) (fun _ _ _ h => h) (Or.inl ⟨by rfl, ?_⟩) ?_ ?_
        rotate_left
        · intro w'
          go_simp
          with_reducible rfl
        rotate_left
        · simp only [Act.put, sT, s0, s1, i64_w, i32_w]
          rfl
        refine done_ (by kernel_rfl) ?_
        clear hHeld
        go_wp2
        go_ret
        exact ⟨by unfold prv; rw [HKN.out, Bool.false_and, Bool.and_false] <;> rfl, HM9.out.bel⟩
    | true =>
      · skip
        refine start_ (n := 18) (S := fun w' => Blk w' g2 24 a.cells) (ds := []) #[false, false, false, false, false, false, false, false, false, false, false, false, false, false, false, false, false, false] (by kernel_rfl) rfl rfl (HM2.out.get 0 rfl).drew (fun hHeld => ?_)
        have HM6 := Aside0.mk HM2.out.drew
        clear HM2
        generalize World.drew _ = w7 at HM6 hHeld ⊢
        refine pure_ (i := 0) (N := some 14) (v := ?_) (a' := ?_) #[true, false, false, false, false, false, false, false, false, false, false, false, false, false, false, false, false, false] rfl rfl (by kernel_rfl) (fun _ _ _ h => h) (Or.inl ⟨by rfl, ?_⟩) ?_ ?_
        rotate_left
        · intro w'
          go_simp
          with_reducible rfl
        rotate_left
        · simp only [Act.put, sT, s0, s1, i64_w, i32_w]
          rfl
        refine take_ (i := 1) (N := some 15) (v := ?_) (a' := ?_) #[true, true, false, false, false, false, false, false, false, false, false, false, false, false, false, false, false, false] rfl rfl (by kernel_rfl) (fun _ _ _ h => h) (Or.inl ⟨by rfl, ?_⟩) hHeld ?_ ?_
        rotate_left
        · intro w' h
          have hc_ := Au.at0 h
          go_simp
          with_reducible rfl
        rotate_left
        · simp only [Act.put, sT, s0, s1]
          rfl
        refine pure_ (i := 2) (N := some 16) (v := ?_) (a' := ?_) #[true, true, true, false, false, false, false, false, false, false, false, false, false, false, false, false, false, false] rfl rfl (by kernel_rfl) (fun _ _ _ h => h) (Or.inl ⟨by rfl, ?_⟩) ?_ ?_
        rotate_left
        · intro w'
          go_simp
          with_reducible rfl
        rotate_left
        · simp only [Act.put, sT, s0, s1, i64_w, i32_w]
          rfl
        refine pure_ (i := 3) (N := some 17) (v := ?_) (a' := ?_) #[true, true, true, true, false, false, false, false, false, false, false, false, false, false, false, false, false, false] rfl rfl (by kernel_rfl) (fun _ _ _ h => h) (Or.inl ⟨by rfl, ?_⟩) ?_ ?_
        rotate_left
        · intro w'
          go_simp
          with_reducible rfl
        rotate_left
        · simp only [Act.put, sT, s0, s1, i64_w, i32_w]
          rfl
        refine pure_ (i := 4) (N := some 18) (v := ?_) (a' := ?_) #[true, true, true, true, true, false, false, false, false, false, false, false, false, false, false, false, false, false] rfl rfl (by kernel_rfl) (fun _ _ _ h => h) (Or.inl ⟨by rfl, ?_⟩) ?_ ?_
        rotate_left
        · intro w'
          go_simp
          with_reducible rfl
        rotate_left
        · simp only [Act.put, sT, s0, s1, i64_w, i32_w]
          rfl
        refine pure_ (i := 5) (N := some 19) (v := ?_) (a' := ?_) #[true, true, true, true, true, true, false, false, false, false, false, false, false, false, false, false, false, false] rfl rfl (by kernel_rfl) (fun _ _ _ h => h) (Or.inl ⟨by rfl, ?_⟩) ?_ ?_
        rotate_left
        · intro w'
          go_simp
          with_reducible rfl
        rotate_left
        · simp only [Act.put, sT, s0, s1, i64_w, i32_w]
          rfl
        refine pure_ (i := 6) (N := some 20) (v := ?_) (a' := ?_) #[true, true, true, true, true, true, true, false, false, false, false, false, false, false, false, false, false, false] rfl rfl (by kernel_rfl) (fun _ _ _ h => h) (Or.inl ⟨by rfl, ?_⟩) ?_ ?_
        rotate_left
        · intro w'
          go_simp
          with_reducible rfl
        rotate_left
        · simp only [Act.put, sT, s0, s1, i64_w, i32_w]
          rfl
        refine pure_ (i := 7) (N := some 21) (v := ?_) (a' := ?_) #[true, true, true, true, true, true, true, true, false, false, false, false, false, false, false, false, false, false] rfl rfl (by kernel_rfl) (fun _ _ _ h => h) (Or.inl ⟨by rfl, ?_⟩) ?_ ?_
        rotate_left
        · intro w'
          go_simp
          with_reducible rfl
        rotate_left
        · simp only [Act.put, sT, s0, s1, i64_w, i32_w]
          rfl
        refine take_ (i := 8) (N := some 22) (v := .agg (ints a.prf).toArray) (a' := ?_) #[true, true, true, true, true, true, true, true, true, false, false, false, false, false, false, false, false, false] rfl rfl (by kernel_rfl) (fun _ _ _ h => h) (yieldsIf_load_mid (by rfl) 22 (.tmp 21) rfl g2 21 rfl _ _ (fun w' h => Au.atPrf h HA.out) Try.underlying22 rfl (i22 HA.out.prf)) hHeld ?_ ?_
        rotate_left
        · simp only [Act.put, sT, s0, s1]
          rfl
        refine pure_ (i := 9) (N := some 23) (v := ?_) (a' := ?_) #[true, true, true, true, true, true, true, true, true, true, false, false, false, false, false, false, false, false] rfl rfl (by kernel_rfl) (fun _ _ _ h => h) (Or.inl ⟨by rfl, ?_⟩) ?_ ?_
        rotate_left
        · intro w'
          go_simp
          with_reducible rfl
        rotate_left
        · simp only [Act.put, sT, s0, s1, i64_w, i32_w]
          rfl
        refine take_ (i := 10) (N := some 24) (v := ?_) (a' := ?_) #[true, true, true, true, true, true, true, true, true, true, true, false, false, false, false, false, false, false] rfl rfl (by kernel_rfl) (fun _ _ _ h => h) (Or.inl ⟨by rfl, ?_⟩) hHeld ?_ ?_
        rotate_left
        · intro w' h
          have hc_ := Au.at3 h
          go_simp
          with_reducible rfl
        rotate_left
        · simp only [Act.put, sT, s0, s1]
          rfl
        refine pure_ (i := 11) (N := some 25) (v := ?_) (a' := ?_) #[true, true, true, true, true, true, true, true, true, true, true, true, false, false, false, false, false, false] rfl rfl (by kernel_rfl) (fun _ _ _ h => h) (Or.inl ⟨by rfl, ?_⟩) ?_ ?_
        rotate_left
        · intro w'
          go_simp
          with_reducible rfl
        rotate_left
        · simp only [Act.put, sT, s0, s1, i64_w, i32_w]
          rfl
        refine pure_ (i := 12) (N := some 26) (v := ?_) (a' := ?_) #[true, true, true, true, true, true, true, true, true, true, true, true, true, false, false, false, false, false] rfl rfl (by kernel_rfl) (fun _ _ _ h => h) (Or.inl ⟨by rfl, ?_⟩) ?_ ?_
        rotate_left
        · intro w'
          go_simp
          with_reducible rfl
        rotate_left
        · simp only [Act.put, sT, s0, s1, i64_w, i32_w]
          rfl
        refine take_ (i := 13) (N := some 27) (v := .agg (ints a.val).toArray) (a' := ?_) #[true, true, true, true, true, true, true, true, true, true, true, true, true, true, false, false, false, false] rfl rfl (by kernel_rfl) (fun _ _ _ h => h) (yieldsIf_load_mid (by rfl) 22 (.tmp 26) rfl g2 4 rfl _ _ (fun w' h => Au.atVal h) Try.underlying22 rfl (i22 HA.out.val)) hHeld ?_ ?_
        rotate_left
        · simp only [Act.put, sT, s0, s1]
          rfl
        refine one_ (i := 14) (N := some 28) #[true, true, true, true, true, true, true, true, true, true, true, true, true, true, true, false, false, false] rfl rfl (by kernel_rfl) (by decide) (fun K hK => ?_)
        refine goes_ Try.func21 (by kernel_rfl) rfl #[.int .u8 a.id, .string sec, .agg (ints a.val).toArray] (by rfl) rfl rfl (by (try simp only [List.map_toArray, List.map_cons, List.map_nil]); first | done | rfl) ?_
        refine (Digest_calls a.id sec a.val HA.out.val HSZ.out _).mono ?_
        rintro e w8 ⟨rfl, hb⟩
        obtain ⟨q, hq⟩ : ∃ q, digL (a.id :: (nums sec ++ a.val)) = q := ⟨_, rfl⟩
        rw [hq]
        have HQ := Aside0.mk hq
        have HQL := Aside0.mk (show q.length = 16 by rw [← hq]; exact md5_Sum.outs_length _ _)
        clear hq
        refine ⟨_, rfl, ?_⟩
        have HM9 := Aside0.mk (HM6.out.keep hb)
        clear HM6 hb
        refine hK.out _ _ (HM9.out.get 0 rfl) (fun hHeld => ?_)
        clear hK K
        refine norm_ (a' := ?_) ?_ ?_
        rotate_left
        · show Act.put _ (some 28) _ = _
          simp only [Act.put, sT, s0, s1, i64_w, i32_w]
          rfl
        refine pure_ (i := 15) (N := some 29) (v := .bool (decide (a.prf = q))) (a' := ?_) #[true, true, true, true, true, true, true, true, true, true, true, true, true, true, true, true, false, false] rfl rfl (by kernel_rfl) (fun _ _ _ h => h) (Or.inl ⟨by rfl, ?_⟩) ?_ ?_
        · intro w'
          exact eql_yields rfl rfl rfl (eqR_ints HA.out.prf HQL.out)
        rotate_left
        · simp only [Act.put, sT, s0, s1]
          rfl
        refine pure_ (i := 16) (N := some 30) (v := ?_) (a' := ?_) #[true, true, true, true, true, true, true, true, true, true, true, true, true, true, true, true, true, false] rfl rfl (by kernel_rfl) (fun _ _ _ h => h) (Or.inl ⟨by rfl, ?_⟩) ?_ ?_
        rotate_left
        · intro w'
          go_simp
          with_reducible rfl
        rotate_left
        · simp only [Act.put, sT, s0, s1, i64_w, i32_w]
          rfl
        refine pure_ (i := 17) (N := some 4) (v := ?_) (a' := ?_) #[true, true, true, true, true, true, true, true, true, true, true, true, true, true, true, true, true, true] rfl rfl (by kernel_rfl) (fun _ _ _ h => h) (Or.inl ⟨by rfl, ?_⟩) ?_ ?_
        rotate_left
        · intro w'
          go_simp
          with_reducible rfl
        rotate_left
        · simp only [Act.put, sT, s0, s1, i64_w, i32_w]
          rfl
        refine done_ (by kernel_rfl) ?_
        clear hHeld
        go_wp2
        go_ret
        exact ⟨by unfold prv digS; rw [HKN.out, HSEC.out, HQ.out, decide_eq_true H1.out] <;> rfl, HM9.out.bel⟩
  · have f1 : (a.st == 2) = false := beq_eq_false_iff_ne.mpr h1
    have H1 := Aside0.mk h1
    clear h1
    · skip
      refine start_ (n := 18) (S := fun w' => Blk w' g2 24 a.cells) (ds := []) #[false, false, false, false, false, false, false, false, false, false, false, false, false, false, false, false, false, false] (by kernel_rfl) rfl rfl (HM2.out.get 0 rfl).drew (fun hHeld => ?_)
      have HM9 := Aside0.mk HM2.out.drew
      clear HM2
      generalize World.drew _ = w7 at HM9 hHeld ⊢
      refine pure_ (i := 0) (N := some 14) (v := ?_) (a' := ?_) #[true, false, false, false, false, false, false, false, false, false, false, false, false, false, false, false, false, false] rfl rfl (by kernel_rfl) (fun _ _ _ h => h) (Or.inl ⟨by rfl, ?_⟩) ?_ ?_
      rotate_left
      · intro w'
        go_simp
        with_reducible rfl
      rotate_left
      · simp only [Act.put, sT, s0, s1, i64_w, i32_w]
        rfl
      refine take_ (i := 1) (N := some 15) (v := ?_) (a' := ?_) #[true, true, false, false, false, false, false, false, false, false, false, false, false, false, false, false, false, false] rfl rfl (by kernel_rfl) (fun _ _ _ h => h) (Or.inl ⟨by rfl, ?_⟩) hHeld ?_ ?_
      rotate_left
      · intro w' h
        have hc_ := Au.at0 h
        go_simp
        with_reducible rfl
      rotate_left
      · simp only [Act.put, sT, s0, s1]
        rfl
      refine pure_ (i := 2) (N := some 16) (v := ?_) (a' := ?_) #[true, true, true, false, false, false, false, false, false, false, false, false, false, false, false, false, false, false] rfl rfl (by kernel_rfl) (fun _ _ _ h => h) (Or.inl ⟨by rfl, ?_⟩) ?_ ?_
      rotate_left
      · intro w'
        go_simp
        with_reducible rfl
      rotate_left
      · simp only [Act.put, sT, s0, s1, i64_w, i32_w]
        rfl
      refine pure_ (i := 3) (N := some 17) (v := ?_) (a' := ?_) #[true, true, true, true, false, false, false, false, false, false, false, false, false, false, false, false, false, false] rfl rfl (by kernel_rfl) (fun _ _ _ h => h) (Or.inl ⟨by rfl, ?_⟩) ?_ ?_
      rotate_left
      · intro w'
        go_simp
        with_reducible rfl
      rotate_left
      · simp only [Act.put, sT, s0, s1, i64_w, i32_w]
        rfl
      refine pure_ (i := 4) (N := some 18) (v := undef) (a' := ?_) #[true, true, true, true, true, false, false, false, false, false, false, false, false, false, false, false, false, false] rfl rfl (by kernel_rfl) (fun _ _ _ h => h) (Or.inr ⟨by rfl, rfl⟩) ?_ ?_
      rotate_left
      · simp only [Act.put, sT, s0, s1]
        rfl
      refine pure_ (i := 5) (N := some 19) (v := ?_) (a' := ?_) #[true, true, true, true, true, true, false, false, false, false, false, false, false, false, false, false, false, false] rfl rfl (by kernel_rfl) (fun _ _ _ h => h) (Or.inl ⟨by rfl, ?_⟩) ?_ ?_
      rotate_left
      · intro w'
        go_simp
        with_reducible rfl
      rotate_left
      · simp only [Act.put, sT, s0, s1, i64_w, i32_w]
        rfl
      refine pure_ (i := 6) (N := some 20) (v := ?_) (a' := ?_) #[true, true, true, true, true, true, true, false, false, false, false, false, false, false, false, false, false, false] rfl rfl (by kernel_rfl) (fun _ _ _ h => h) (Or.inl ⟨by rfl, ?_⟩) ?_ ?_
      rotate_left
      · intro w'
        go_simp
        with_reducible rfl
      rotate_left
      · simp only [Act.put, sT, s0, s1, i64_w, i32_w]
        rfl
      refine pure_ (i := 7) (N := some 21) (v := undef) (a' := ?_) #[true, true, true, true, true, true, true, true, false, false, false, false, false, false, false, false, false, false] rfl rfl (by kernel_rfl) (fun _ _ _ h => h) (Or.inr ⟨by rfl, rfl⟩) ?_ ?_
      rotate_left
      · simp only [Act.put, sT, s0, s1]
        rfl
      refine pure_ (i := 8) (N := some 22) (v := undef) (a' := ?_) #[true, true, true, true, true, true, true, true, true, false, false, false, false, false, false, false, false, false] rfl rfl (by kernel_rfl) (fun _ _ _ h => h) (Or.inr ⟨by rfl, rfl⟩) ?_ ?_
      rotate_left
      · simp only [Act.put, sT, s0, s1]
        rfl
      refine pure_ (i := 9) (N := some 23) (v := undef) (a' := ?_) #[true, true, true, true, true, true, true, true, true, true, false, false, false, false, false, false, false, false] rfl rfl (by kernel_rfl) (fun _ _ _ h => h) (Or.inr ⟨by rfl, rfl⟩) ?_ ?_
      rotate_left
      · simp only [Act.put, sT, s0, s1]
        rfl
      refine pure_ (i := 10) (N := some 24) (v := undef) (a' := ?_) #[true, true, true, true, true, true, true, true, true, true, true, false, false, false, false, false, false, false] rfl rfl (by kernel_rfl) (fun _ _ _ h => h) (Or.inr ⟨by rfl, rfl⟩) ?_ ?_
      rotate_left
      · simp only [Act.put, sT, s0, s1]
        rfl
      refine pure_ (i := 11) (N := some 25) (v := undef) (a' := ?_) #[true, true, true, true, true, true, true, true, true, true, true, true, false, false, false, false, false, false] rfl rfl (by kernel_rfl) (fun _ _ _ h => h) (Or.inr ⟨by rfl, rfl⟩) ?_ ?_
      rotate_left
      · simp only [Act.put, sT, s0, s1]
        rfl
      refine pure_ (i := 12) (N := some 26) (v := undef) (a' := ?_) #[true, true, true, true, true, true, true, true, true, true, true, true, true, false, false, false, false, false] rfl rfl (by kernel_rfl) (fun _ _ _ h => h) (Or.inr ⟨by rfl, rfl⟩) ?_ ?_
      rotate_left
      · simp only [Act.put, sT, s0, s1]
        rfl
      refine pure_ (i := 13) (N := some 27) (v := undef) (a' := ?_) #[true, true, true, true, true, true, true, true, true, true, true, true, true, true, false, false, false, false] rfl rfl (by kernel_rfl) (fun _ _ _ h => h) (Or.inr ⟨by rfl, rfl⟩) ?_ ?_
      rotate_left
      · simp only [Act.put, sT, s0, s1]
        rfl
      refine one_ (i := 14) (N := some 28) #[true, true, true, true, true, true, true, true, true, true, true, true, true, true, true, false, false, false] rfl rfl (by kernel_rfl) (by decide) (fun K hK => ?_)
      refine off_ (by rfl) ?_
      refine hK.out _ _ (HM9.out.get 0 rfl) (fun hHeld => ?_)
      clear hK K
      refine norm_ (a' := ?_) ?_ ?_
      rotate_left
      · show Act.put _ (some 28) _ = _
        simp only [Act.put, sT, s0, s1, i64_w, i32_w]
        rfl
      refine pure_ (i := 15) (N := some 29) (v := undef) (a' := ?_) #[true, true, true, true, true, true, true, true, true, true, true, true, true, true, true, true, false, false] rfl rfl (by kernel_rfl) (fun _ _ _ h => h) (Or.inr ⟨by rfl, rfl⟩) ?_ ?_
      rotate_left
      · simp only [Act.put, sT, s0, s1]
        rfl
      refine pure_ (i := 16) (N := some 30) (v := ?_) (a' := ?_) #[true, true, true, true, true, true, true, true, true, true, true, true, true, true, true, true, true, false] rfl rfl (by kernel_rfl) (fun _ _ _ h => h) (Or.inl ⟨by rfl, ?_⟩) ?_ ?_
      rotate_left
      · intro w'
        go_simp
        with_reducible rfl
      rotate_left
      · simp only [Act.put, sT, s0, s1, i64_w, i32_w]
        rfl
      refine pure_ (i := 17) (N := some 4) (v := ?_) (a' := ?_) #[true, true, true, true, true, true, true, true, true, true, true, true, true, true, true, true, true, true] rfl rfl (by kernel_rfl) (fun _ _ _ h => h) (Or.inl ⟨by rfl, ?_⟩) ?_ ?_
      rotate_left
      · intro w'
        go_simp
        with_reducible rfl
      rotate_left
      · simp only [Act.put, sT, s0, s1, i64_w, i32_w]
        rfl
      refine done_ (by kernel_rfl) ?_
      clear hHeld
      go_wp2
      go_ret
      exact ⟨by unfold prv; rw [decide_eq_false H1.out, Bool.false_and] <;> rfl, HM9.out.bel⟩
end Go.Proofs.Ytpbkdphilcodmaa.Q
