/- portreevelaw15.ChapEnds: its walk. -/
import Derived.Test.YtpbkdphilcodmaaShown
import Derived.Test.YtpbkdphilcodmaaWTab
namespace Go.Proofs.Ytpbkdphilcodmaa.Q
open Go Go.RowKit Go.Proofs.YtpbkdphilcodmaaW.PrintWords Go.Proofs.YtpbkdphilcodmaaW.PrintLast Go.Proofs.YtpbkdphilcodmaaW.PrintMore
open Go.Proofs.YtpbkdphilcodmaaV Go.Proofs.Ytpbkdphilcodmaa.Pure
set_option linter.unusedVariables false
set_option linter.unusedSimpArgs false
def lawEnds.T13 : Bool × List (List Nat × List Nat) := (true, [([], []), ([0], [0]), ([1], [1]), ([2], [2]), ([3], [3]), ([4, 3, 3], [3, 4]), ([5, 3], [3, 5]), ([3, 6], [3, 6]), ([7, 5], [7]), ([8], [8]), ([9, 8], [8, 9]), ([10, 8], [8, 10]), ([11, 8, 8], [8, 11]), ([12], [12]), ([13, 12], [12, 13]), ([14, 12], [12, 14]), ([15, 12], [12, 15]), ([16, 12], [12, 16]), ([17, 12, 12], [12, 17]), ([18], [18]), ([19, 18], [18, 19]), ([18], [18]), ([21, 18], [18, 21]), ([22, 18], [18, 22]), ([20, 23, 18], [18, 20, 23]), ([18, 24, 12], [12, 18, 24]), ([25, 18, 12], [12, 25]), ([26], [26]), ([27, 26], [26, 27]), ([28, 26], [26, 28]), ([29, 26], [26, 29]), ([26], [26]), ([31, 26], [26, 31]), ([30, 32, 26], [26, 30, 32]), ([26, 33, 12], [12, 26, 33]), ([34, 26, 12], [12, 34]), ([35], [35]), ([36, 35], [35, 36]), ([35], [35]), ([37, 38, 35], [35, 37, 38]), ([35, 39, 12], [12, 35, 39]), ([12, 40, 8], [8, 12, 40]), ([8, 41], [8, 41]), ([42, 35], [42]), ([43], [43]), ([44, 43], [43, 44]), ([45, 43], [43, 45]), ([46, 43, 43], [43, 46]), ([47], [47]), ([48, 47], [47, 48]), ([47], [47]), ([50, 47], [47, 50]), ([49, 51, 47], [47, 49, 51]), ([52, 47, 47], [47, 52]), ([53], [53]), ([54, 53], [53, 54]), ([53], [53]), ([56, 53], [53, 56]), ([55, 57, 53], [53, 55, 57]), ([53, 58, 47], [47, 53, 58]), ([47, 59, 43], [43, 47, 59]), ([43, 60], [43, 60])])
def lawEnds.B13 : List Nat := [0, 1, 3, 7, 15, 31, 63, 127, 255, 511, 1023, 2047, 4095, 8191, 16383, 32767, 65535, 131071, 262143, 524287, 1048575, 524287, 2621439, 6815743, 16777215, 33554431, 67108863, 134217727, 268435455, 536870911, 1073741823, 134217727, 2281701375, 8589934591, 17179869183, 34359738367, 68719476735, 137438953471, 68719476735, 549755813887, 1099511627775, 2199023255551, 4398046511103, 8796093022207, 17592186044415, 35184372088831, 70368744177663, 140737488355327, 281474976710655, 562949953421311, 281474976710655, 1407374883553279, 4503599627370495, 9007199254740991, 18014398509481983, 36028797018963967, 18014398509481983, 90071992547409919, 288230376151711743, 576460752303423487, 1152921504606846975, 2305843009213693951]
theorem lawEnds.tab13 : rtab .any (opsOf Try.f4 13) = lawEnds.T13 := by kernel_rfl
theorem lawEnds.bits13 : waitsOk lawEnds.T13.2 lawEnds.B13 = true := by kernel_rfl
attribute [local go_sem high] eqA22
def NeR (t : TypeId) (u v : Value) (r : Bool) : Prop := ∀ (x y : Operand) (W : World), ((do eqGuard .neq t x y u v; binOp .neq t u v) : Sem Value).run Try.prog W = .ok (.bool r) W
theorem neq_yields {o : Oper} {a : Act} {W : World} {t u : TypeId} {x y : Operand} {v1 v2 : Value} {r : Bool} (ho : o.op = .binOp .neq t x y u) (hx : a.eval x = v1) (hy : a.eval y = v2) (h : NeR t v1 v2 r) : (execOp a.eval o).run Try.prog W = .ok (.value (.bool r)) W := by
  have := h x y W
  unfold execOp
  simp only [ho, hx, hy]
  rw [Sem.run_bind, this]
  rfl
theorem neR_self {p : List Int} (hp : p.length = 16) : NeR 22 (.agg (ints p).toArray) (.agg (ints p).toArray) false := by
  obtain ⟨x0, x1, x2, x3, x4, x5, x6, x7, x8, x9, x10, x11, x12, x13, x14, x15, rfl⟩ := list16 hp
  intro x y W
  have h : ints [x0, x1, x2, x3, x4, x5, x6, x7, x8, x9, x10, x11, x12, x13, x14, x15] = [.int .u8 x0, .int .u8 x1, .int .u8 x2, .int .u8 x3, .int .u8 x4, .int .u8 x5, .int .u8 x6, .int .u8 x7, .int .u8 x8, .int .u8 x9, .int .u8 x10, .int .u8 x11, .int .u8 x12, .int .u8 x13, .int .u8 x14, .int .u8 x15] := rfl
  rw [h]
  go_simp
/-- How it stands behind i ticks. -/
structure endsP (i : Nat) (b : Au) : Prop where
  on : i < 16 → b.st = 1 ∧ b.tr = 1 + (i / 4 : Nat) ∧ b.lf = 4 - (i % 4 : Nat)
  off : 16 ≤ i → b.st = 3 ∧ b.tr = 4 ∧ b.lf = 0
def endsN (i : Nat) : Nat := min (1 + i / 4) 4
theorem ends_tail {w W : World} {x : Bk} {L : List Bk} (h : Fam w (x :: L) W) : Fam w L W :=
  ⟨h.bel, fun y hy => h.all y (List.mem_cons_of_mem _ hy), fun y hy => h.lo y (List.mem_cons_of_mem _ hy), (List.nodup_cons.1 h.nd).2⟩
theorem ends_rgt {i : Nat} {b : Au} (h : endsP i b) : rgt b = true := by
  apply decide_eq_true
  rcases Nat.lt_or_ge i 16 with hi | hi
  · obtain ⟨h1, h2, h3⟩ := h.on hi
    exact ⟨by omega, by omega, Or.inl ⟨h1, by omega, by omega, by omega⟩⟩
  · obtain ⟨h1, h2, h3⟩ := h.off hi
    exact ⟨by omega, by omega, Or.inr ⟨Or.inr (Or.inr h1), h3⟩⟩
theorem ends_tick {i : Nat} {b : Au} (h : endsP i b) (v : List Int) : endsP (i + 1) (tickA b v) ∧ (tickS b = true → (tickA b v).id = askI b.id ∧ (tickA b v).val = v ∧ endsN (i + 1) = endsN i + 1) ∧ (tickS b = false → (tickA b v).id = b.id ∧ (tickA b v).val = b.val ∧ endsN (i + 1) = endsN i) := by
  rcases Nat.lt_or_ge i 16 with hi | hi
  · obtain ⟨h1, h2, h3⟩ := h.on hi
    have hw : wrap64 (b.lf - 1) = 3 - (i % 4 : Nat) := by rw [wrap64_of (by omega)]; omega
    by_cases hm : i % 4 < 3
    · have ht : tickA b v = lowA b := by unfold tickA; rw [if_pos h1, if_pos (by rw [hw]; omega)]
      have hs : tickS b = false := decide_eq_false (fun h => h.2.1 (by rw [hw]; omega))
      rw [ht, hs]
      refine ⟨⟨fun _ => ⟨h1, ?_, ?_⟩, fun h => by omega⟩, fun h => (by cases h), fun _ => ⟨rfl, rfl, ?_⟩⟩
      · show b.tr = _
        rw [h2, show (i + 1) / 4 = i / 4 by omega]
      · show wrap64 (b.lf - 1) = _
        rw [hw]
        omega
      · unfold endsN
        rw [show (i + 1) / 4 = i / 4 by omega]
    · by_cases ht4 : 4 ≤ b.tr
      · have ht : tickA b v = { lowA b with st := 3 } := by unfold tickA; rw [if_pos h1, if_neg (by rw [hw]; omega), if_pos ht4]
        have hs : tickS b = false := decide_eq_false (fun h => h.2.2 ht4)
        rw [ht, hs]
        refine ⟨⟨fun h => by omega, fun _ => ⟨rfl, ?_, ?_⟩⟩, fun h => (by cases h), fun _ => ⟨rfl, rfl, ?_⟩⟩
        · show b.tr = _
          omega
        · show wrap64 (b.lf - 1) = _
          rw [hw]
          omega
        · unfold endsN
          omega
      · have ht : tickA b v = askA (lowA b) v := by unfold tickA; rw [if_pos h1, if_neg (by rw [hw]; omega), if_neg ht4]
        have hs : tickS b = true := decide_eq_true ⟨h1, by rw [hw]; omega, ht4⟩
        rw [ht, hs]
        refine ⟨⟨fun _ => ⟨rfl, ?_, ?_⟩, fun h => by omega⟩, fun _ => ⟨rfl, rfl, ?_⟩, fun h => by cases h⟩
        · show wrap64 (b.tr + 1) = _
          rw [wrap64_of (by omega)]
          omega
        · show (4 : Int) = _
          omega
        · unfold endsN
          omega
  · obtain ⟨h1, h2, h3⟩ := h.off hi
    have hne : ¬ b.st = 1 := by omega
    have ht : tickA b v = b := by unfold tickA; rw [if_neg hne]
    have hs : tickS b = false := decide_eq_false (fun h => hne h.1)
    rw [ht, hs]
    refine ⟨⟨fun h => by omega, fun _ => ⟨h1, h2, h3⟩⟩, fun h => (by cases h), fun _ => ⟨rfl, rfl, ?_⟩⟩
    unfold endsN
    omega
theorem ends_beg (a : Au) (v : List Int) : endsP 0 (begA a v) := ⟨fun _ => ⟨rfl, by show wrap64 (0 + 1) = _; rw [wrap64_of (by omega)]; rfl, rfl⟩, fun h => by omega⟩
theorem tickA_wf {b : Au} (hb : b.wf) {v : List Int} (hv : v.length = 16) : (tickA b v).wf := by
  unfold tickA
  split
  · split
    · exact ⟨hb.val, hb.prf⟩
    · split
      · exact ⟨hb.val, hb.prf⟩
      · exact askA_wf ⟨hb.val, hb.prf⟩ hv
  · exact hb
set_option maxHeartbeats 16000000 in
set_option maxRecDepth 100000 in
theorem Ends_calls (a : Au) (ha : a.wf) (v : List Int) (hv : v.length = 16) (n : Int) (hn : 0 ≤ n ∧ n ≤ 255) (w : World) :
    Calls Try.prog 4 #[.agg a.cells.toArray, .agg (ints v).toArray, .int .u8 n] w fun e w' => e = .returned (.bool true) ∧ Below w.heap.size w w' := by
  obtain ⟨k, rfl⟩ : ∃ k : Nat, n = (k : Int) := ⟨n.toNat, by omega⟩
  have hk : k ≤ 255 := by omega
  have HA := Aside0.mk ha
  have HV := Aside0.mk hv
  clear ha hv hn
  obtain ⟨cs, hcs⟩ : ∃ cs, cs = a.cells.toArray := ⟨_, rfl⟩
  obtain ⟨ps, hps⟩ : ∃ ps, ps = (ints v).toArray := ⟨_, rfl⟩
  rw [← hcs, ← hps]
  have HCS := Aside0.mk hcs
  have HPS := Aside0.mk hps
  obtain ⟨rg, hrg⟩ : ∃ rg, rgt a = rg := ⟨_, rfl⟩
  have HRG := Aside0.mk hrg
  clear hcs hps hrg
  go_enter Try.func4, Try.ntmps4
  go_upto_region 2 with (first
    | ((with_reducible refine gate_dst (N := 3) rfl ?_); refine box_event ?hg (N := 3) ?hd (cs := cs) (t := 24) ?hr ?_; (case hd => rfl); (case hg => rfl); (case hr => first | (go_simp; done) | (go_simp; rfl)); intro g3 hg w1 hbox hb; rw [HCS.out] at hbox; have HF1 := Aside0.mk (show Fam w [(g3, 24, a.cells)] w1 from (Fam.start (Below.refl _ _)).box hg hbox hb); clear hbox hb hg)
    | ((with_reducible refine gate_dst (N := 4) rfl ?_); refine box_event ?hg (N := 4) ?hd (cs := ps) (t := 22) ?hr ?_; (case hd => rfl); (case hg => rfl); (case hr => first | (go_simp; done) | (go_simp; rfl)); intro g4 hg w2 hbox hb; rw [HPS.out] at hbox; have HF2 := Aside0.mk (show Fam w [(g4, 22, ints v), (g3, 24, a.cells)] w2 from HF1.out.box hg hbox hb); clear hbox hb hg HF1)
    | (go_at_call 9; refine (shown_calls _).mono ?_; rintro e w3 ⟨rfl, hb⟩; have HF3 := Aside0.mk (HF2.out.keep hb); clear HF2 hb))
  cases rg with
  | false =>
    go_wp2_with (first
      | ((with_reducible refine wpList_load_mid rfl 24 (.tmp 3) rfl g3 0 ?hx (a.cells) _ ?hc Try.underlying24 rfl ?hi ?_); (case hx => rfl); (case hc => exact (HF3.out.get 1 rfl).whole); (case hi => exact i24 HA.out))
      | (go_at_call 10; refine (Right15_calls a HA.out _).mono ?_; rintro e w4 ⟨rfl, hb⟩; rw [HRG.out]; have HF4 := Aside0.mk (HF3.out.keep hb); clear HF3 hb))
    go_ret
    exact ⟨rfl, HF4.out.bel⟩
  | true =>
  obtain ⟨b0, hb0⟩ : ∃ b0, begA a v = b0 := ⟨_, rfl⟩
  have HBE := Aside0.mk hb0
  have HBW := Aside0.mk (show b0.wf by rw [← hb0]; exact askA_wf (wf0 _) HV.out)
  have HBP := Aside0.mk (show endsP 0 b0 by rw [← hb0]; exact ends_beg a v)
  have HBI := Aside0.mk (show b0.id = askI a.id by rw [← hb0]; rfl)
  have HBV := Aside0.mk (show b0.val = v by rw [← hb0]; rfl)
  have HBH := Aside0.mk (show b0.who = ⟨#[]⟩ by rw [← hb0]; rfl)
  clear hb0
  go_upto_region 6 with (first
    | ((with_reducible refine wpList_load_mid rfl 24 (.tmp 3) rfl g3 0 ?hx (a.cells) _ ?hc Try.underlying24 rfl ?hi ?_); (case hx => rfl); (case hc => exact (HF3.out.get 1 rfl).whole); (case hi => exact i24 HA.out))
    | (go_at_call 10; refine (Right15_calls a HA.out _).mono ?_; rintro e w4 ⟨rfl, hb⟩; rw [HRG.out]; have HF4 := Aside0.mk (HF3.out.keep hb); clear HF3 hb)
    | ((with_reducible refine wpList_load_mid rfl 24 (.tmp 3) rfl g3 0 ?hx (a.cells) _ ?hc Try.underlying24 rfl ?hi ?_); (case hx => rfl); (case hc => exact (HF4.out.get 1 rfl).whole); (case hi => exact i24 HA.out))
    | ((with_reducible refine wpList_load_mid rfl 22 (.tmp 4) rfl g4 0 ?hx (ints v) _ ?hc Try.underlying22 rfl ?hi ?_); (case hx => rfl); (case hc => exact (HF4.out.get 0 rfl).whole); (case hi => exact i22 HV.out))
    | (go_at_call 16; refine (Begin_calls a HA.out v HV.out _).mono ?_; rintro e w5 ⟨Aq, cq, rfl, hb⟩; rw [HBE.out]; have HF5 := Aside0.mk (HF4.out.keep hb); clear HF4 hb)
    | ((with_reducible refine gate_dst (N := 8) rfl ?_); refine box_event ?hg (N := 8) ?hd (cs := Au.zero.cells.toArray) (t := 24) ?hr ?_; (case hd => rfl); (case hg => rfl); (case hr => first | (go_simp; done) | (go_simp; rfl)); intro g8 hg w6 hbox hb; have HF6 := Aside0.mk (show Fam w [(g8, 24, Au.zero.cells), (g4, 22, ints v), (g3, 24, a.cells)] w6 from HF5.out.box hg hbox hb); clear hbox hb hg HF5)
    | ((with_reducible refine gate_dst (N := 9) rfl ?_); refine box_event ?hg (N := 9) ?hd (cs := zP.toArray) (t := 28) ?hr ?_; (case hd => rfl); (case hg => rfl); (case hr => first | (go_simp; done) | (go_simp; rfl)); intro g9 hg w7 hbox hb; have HF7 := Aside0.mk (show Fam w [(g9, 28, zP), (g8, 24, Au.zero.cells), (g4, 22, ints v), (g3, 24, a.cells)] w7 from HF6.out.box hg hbox hb); clear hbox hb hg HF6)
    | ((with_reducible refine wpList_store_mid rfl 24 (.tmp 8) (.tmp 24) rfl g8 0 (b0.cells).toArray ?hx ?hy ?h5 ?h6 ?h7 ?_); (case hx => rfl); (case hy => rfl); (case h5 => exact (HF7.out.get 1 rfl).there (by rw [List.size_toArray, Nat.zero_add]; exact Nat.le_of_eq (Eq.symm (zlen HBW.out)))); (case h6 => exact i24 HBW.out); (case h7 => exact Au.one _); have HF8 := Aside0.mk (HF7.out.over 1 rfl (b0.cells) (zlen HBW.out)); clear HF7)
    | ((with_reducible refine wpList_store_mid rfl 28 (.tmp 9) (.tmp 25) rfl g9 0 (pk 1 (askI a.id) (.slice Aq 26 cq)).toArray ?hx ?hy ?h5 ?h6 ?h7 ?_); (case hx => rfl); (case hy => rfl); (case h5 => exact (HF8.out.get 0 rfl).there (by rw [List.size_toArray, Nat.zero_add]; exact Nat.le_of_eq (Eq.symm (rfl)))); (case h6 => exact by kernel_rfl); (case h7 => exact by simp [pk, Value.oneCell']); have HF9 := Aside0.mk (HF8.out.over 0 rfl (pk 1 (askI a.id) (.slice Aq 26 cq)) (rfl)); clear HF8))
  have HF10 := Aside0.mk (show Fam w [(g9, 28, pk 1 (askI a.id) (.slice Aq 26 cq)), (g8, 24, b0.cells), (g4, 22, ints v), (g3, 24, a.cells)] _ from HF9.out)
  clear HF9
  generalize World.setCells _ _ _ _ = w8 at HF10 ⊢
  obtain ⟨ai, hai⟩ : ∃ ai, IntKind.u8.wrap (a.id + 1) = ai := ⟨_, rfl⟩
  have HAI := Aside0.mk (show askI a.id = ai from hai)
  have h3 : w8.cell? ⟨g3, 3, none⟩ = some (.int .u8 a.id) := Au.at3 (HF10.out.get 3 rfl)
  have h8 : w8.cell? ⟨g8, 3, none⟩ = some (.int .u8 ai) := by have h := Au.at3 (HF10.out.get 1 rfl); rw [HBI.out, HAI.out] at h; exact h
  have h9 : w8.cell? ⟨g9, 1, none⟩ = some (.int .u8 ai) := by have h : w8.cell? ⟨g9, 1, none⟩ = some (.int .u8 (askI a.id)) := (HF10.out.get 0 rfl).at_ rfl; rw [HAI.out] at h; exact h
  have h20 : w8.cell? ⟨g8, 20, none⟩ = some (.string ⟨#[]⟩) := by have h := Au.at20 (HF10.out.get 1 rfl) HBW.out; rw [HBH.out] at h; exact h
  have hvl : w8.rangeAt g8 4 (ints v) := by have h := Au.atVal (HF10.out.get 1 rfl); rw [HBV.out] at h; exact h
  have HVL := Aside0.mk hvl
  have HNE := Aside0.mk (neR_self HV.out)
  clear hvl
  go_upto_region 8 with (first
    | ((with_reducible refine gate_dst (N := 41) rfl ?_); refine gate_guard (by rfl) ?_; refine wpList_load_mid rfl 22 (.tmp 40) rfl g8 4 ?hx (ints v) _ ?hc Try.underlying22 rfl ?hi ?_; (case hx => rfl); (case hc => exact HVL.out); (case hi => exact i22 HV.out))
    | ((with_reducible refine gate_dst (N := 42) rfl ?_); refine gate_guard (by rfl) ?_; refine wpList_load_mid rfl 22 (.tmp 4) rfl g4 0 ?hx (ints v) _ ?hc Try.underlying22 rfl ?hi ?_; (case hx => rfl); (case hc => exact (HF10.out.get 2 rfl).whole); (case hi => exact i22 HV.out))
    | ((with_reducible refine gate_dst (N := 43) rfl ?_); refine gate_guard (by rfl) ?_; refine Kd.event_run (v := .bool false) (w1 := w8) rfl (neq_yields rfl rfl rfl HNE.out) ?_))
  clear h3 h8 h9 h20 hai HVL HNE
  have HBI2 := Aside0.mk (show endsN 0 = 1 from rfl)
  go_wp2
  go_loopw [10, 11] (fun v10 v11 wr => ∃ (i : Nat) (b : Au), i ≤ k ∧ v10 = .int .i64 (endsN i : Nat) ∧ v11 = .int .i64 i ∧ Aside0 (endsP i b) ∧ Aside0 b.wf ∧ Aside0 (Fam w [(g9, 28, pk 1 (askI a.id) (.slice Aq 26 cq)), (g8, 24, b.cells), (g4, 22, ints v), (g3, 24, a.cells)] wr)) (fun v10 v11 _ => k - (intOf v11).toNat)
  case atStart => exact ⟨0, b0, Nat.zero_le _, rfl, rfl, HBP, HBW, HF10⟩
  case round =>
    obtain ⟨i, b, hi, rfl, rfl, HP, HBW1, HF1⟩ := hrel
    clear HF10 HBP HBW HBI HBV HBH HBE HBI2
    have HBW := HBW1
    clear HBW1
    have ek : wrap64 (k : Int) = (k : Int) := wrap64_of (by omega)
    by_cases hlt : i < k
    · have hlt' : (i : Int) < (k : Int) := by omega
      have e1 : wrap64 ((i : Int) + 1) = ((i + 1 : Nat) : Int) := by rw [wrap64_of (by omega)]; omega
      clear hi
      have ht := ends_tick HP.out ((i : Int) :: List.replicate 15 0)
      obtain ⟨vi, hvi⟩ : ∃ vi, (i : Int) :: List.replicate 15 0 = vi := ⟨_, rfl⟩
      rw [hvi] at ht
      obtain ⟨c1, hc1⟩ : ∃ c1, tickA b vi = c1 := ⟨_, rfl⟩
      obtain ⟨sb, hsb⟩ : ∃ sb, tickS b = sb := ⟨_, rfl⟩
      obtain ⟨sn, hsn⟩ : ∃ sn, endsN i = sn := ⟨_, rfl⟩
      obtain ⟨sm, hsm⟩ : ∃ sm, endsN (i + 1) = sm := ⟨_, rfl⟩
      rw [hc1, hsb, hsn, hsm] at ht
      have HVIE := Aside0.mk hvi
      have HVI := Aside0.mk (show vi.length = 16 by rw [← hvi]; rfl)
      have HCE := Aside0.mk hc1
      have HSB := Aside0.mk hsb
      have HT := Aside0.mk ht
      have HSM := Aside0.mk hsm
      have HCW := Aside0.mk (show c1.wf by rw [← hc1, ← hvi]; exact tickA_wf HBW.out rfl)
      have HCR := Aside0.mk (show rgt c1 = true from ends_rgt ht.1)
      have hsn4 : sn ≤ 4 := by rw [← hsn]; unfold endsN; omega
      rw [hsn]
      clear hvi ht hc1 hsb hsn hsm
      go_upto_region 12 with (first
        | ((with_reducible refine gate_dst (N := 58) rfl ?_); refine Kd.event_run (v := .agg (ints ((i : Int) :: List.replicate 15 0)).toArray) (w1 := wr) rfl ?hr ?_; (case hr => first | (go_simp; done) | (go_simp; rfl)); rw [HVIE.out])
        | ((with_reducible refine gate_dst (N := 12) rfl ?_); refine box_event ?hg (N := 12) ?hd (cs := (ints no16).toArray) (t := 22) ?hr ?_; (case hd => rfl); (case hg => rfl); (case hr => first | (go_simp; done) | (go_simp; rfl)); intro g12 hg w2 hbox hb; have HF2 := Aside0.mk (show Fam w [(g12, 22, ints no16), (g9, 28, pk 1 (askI a.id) (.slice Aq 26 cq)), (g8, 24, b.cells), (g4, 22, ints v), (g3, 24, a.cells)] w2 from HF1.out.box hg hbox hb); clear hbox hb hg HF1)
        | ((with_reducible refine wpList_store_mid rfl 22 (.tmp 12) (.tmp 58) rfl g12 0 (ints vi).toArray ?hx ?hy ?h5 ?h6 ?h7 ?_); (case hx => rfl); (case hy => rfl); (case h5 => exact (HF2.out.get 0 rfl).there (by rw [List.size_toArray, Nat.zero_add]; exact Nat.le_of_eq (Eq.symm (v16 HVI.out)))); (case h6 => exact i22 HVI.out); (case h7 => exact ints_one _); have HF3 := Aside0.mk (HF2.out.over 0 rfl (ints vi) (v16 HVI.out)); clear HF2))
      have HF4 := Aside0.mk (show Fam w [(g12, 22, ints vi), (g9, 28, pk 1 (askI a.id) (.slice Aq 26 cq)), (g8, 24, b.cells), (g4, 22, ints v), (g3, 24, a.cells)] _ from HF3.out)
      clear HF3
      generalize World.setCells _ _ _ _ = w3 at HF4 ⊢
      cases sb with
      | false =>
        have HCI := Aside0.mk (HT.out.2.2 rfl).1
        have HCV := Aside0.mk (HT.out.2.2 rfl).2.1
        have HSE := Aside0.mk (HT.out.2.2 rfl).2.2
        go_upto_region 13 with (first
          | ((with_reducible refine wpList_load_mid rfl 24 (.tmp 8) rfl g8 0 ?hx (b.cells) _ ?hc Try.underlying24 rfl ?hi ?_); (case hx => rfl); (case hc => exact (HF4.out.get 2 rfl).whole); (case hi => exact i24 HBW.out))
          | ((with_reducible refine wpList_load_mid rfl 22 (.tmp 12) rfl g12 0 ?hx (ints vi) _ ?hc Try.underlying22 rfl ?hi ?_); (case hx => rfl); (case hc => exact (HF4.out.get 0 rfl).whole); (case hi => exact i22 HVI.out))
          | (go_at_call 17; refine (Tick_calls b HBW.out vi HVI.out _).mono ?_; rintro e w4 ⟨u, rfl, hb, hs⟩; rw [HSB.out] at hs; unfold sentP at hs; rw [if_neg (by decide)] at hs; obtain rfl := hs; rw [HCE.out]; have HF5 := Aside0.mk (HF4.out.keep hb); clear HF4 hb)
          | ((with_reducible refine gate_dst (N := 13) rfl ?_); refine box_event ?hg (N := 13) ?hd (cs := Au.zero.cells.toArray) (t := 24) ?hr ?_; (case hd => rfl); (case hg => rfl); (case hr => first | (go_simp; done) | (go_simp; rfl)); intro g13 hg w5 hbox hb; have HF6 := Aside0.mk (show Fam w [(g13, 24, Au.zero.cells), (g12, 22, ints vi), (g9, 28, pk 1 (askI a.id) (.slice Aq 26 cq)), (g8, 24, b.cells), (g4, 22, ints v), (g3, 24, a.cells)] w5 from HF5.out.box hg hbox hb); clear hbox hb hg HF5)
          | ((with_reducible refine wpList_store_mid rfl 24 (.tmp 13) (.tmp 63) rfl g13 0 (c1.cells).toArray ?hx ?hy ?h5 ?h6 ?h7 ?_); (case hx => rfl); (case hy => rfl); (case h5 => exact (HF6.out.get 0 rfl).there (by rw [List.size_toArray, Nat.zero_add]; exact Nat.le_of_eq (Eq.symm (zlen HCW.out)))); (case h6 => exact i24 HCW.out); (case h7 => exact Au.one _); have HF7 := Aside0.mk (HF6.out.over 0 rfl (c1.cells) (zlen HCW.out)); clear HF6))
        have HF9 := Aside0.mk (show Fam w [(g13, 24, c1.cells), (g12, 22, ints vi), (g9, 28, pk 1 (askI a.id) (.slice Aq 26 cq)), (g8, 24, b.cells), (g4, 22, ints v), (g3, 24, a.cells)] _ from HF7.out)
        clear HF7
        generalize World.setCells _ _ _ _ = w6 at HF9 ⊢
        refine start_ (n := 62) (S := fun w' => Blk w' g13 24 c1.cells ∧ Blk w' g8 24 b.cells ∧ Blk w' g12 22 (ints vi)) (ds := []) #[false, false, false, false, false, false, false, false, false, false, false, false, false, false, false, false, false, false, false, false, false, false, false, false, false, false, false, false, false, false, false, false, false, false, false, false, false, false, false, false, false, false, false, false, false, false, false, false, false, false, false, false, false, false, false, false, false, false, false, false, false, false] (by kernel_rfl) rfl rfl ⟨(HF9.out.get 0 rfl).drew, (HF9.out.get 3 rfl).drew, (HF9.out.get 1 rfl).drew⟩ (fun hHeld => ?_)
        refine with_tabW lawEnds.tab13 lawEnds.bits13 (fun HT_ HW_ => ?_)
        have HF10 := Aside0.mk HF9.out.drew
        clear HF9
        generalize World.drew _ = w8 at HF10 hHeld ⊢
        refine pure_ (i := 0) (N := some 65) (v := ?_) (a' := ?_) #[true, false, false, false, false, false, false, false, false, false, false, false, false, false, false, false, false, false, false, false, false, false, false, false, false, false, false, false, false, false, false, false, false, false, false, false, false, false, false, false, false, false, false, false, false, false, false, false, false, false, false, false, false, false, false, false, false, false, false, false, false, false] rfl rfl (any_of HT_.out (by kernel_rfl)) (fun _ _ _ h => h) (Or.inl ⟨by rfl, ?_⟩) ?_ ?_
        rotate_left
        · intro w'
          go_simp
          with_reducible rfl
        rotate_left
        · simp only [Act.put, sT, s0, s1, i64_w, i32_w]
          rfl
        refine pure_ (i := 1) (N := some 66) (v := ?_) (a' := ?_) #[true, true, false, false, false, false, false, false, false, false, false, false, false, false, false, false, false, false, false, false, false, false, false, false, false, false, false, false, false, false, false, false, false, false, false, false, false, false, false, false, false, false, false, false, false, false, false, false, false, false, false, false, false, false, false, false, false, false, false, false, false, false] rfl rfl (any_of HT_.out (by kernel_rfl)) (fun _ _ _ h => h) (Or.inl ⟨by rfl, ?_⟩) ?_ ?_
        rotate_left
        · intro w'
          go_simp
          with_reducible rfl
        rotate_left
        · simp only [Act.put, sT, s0, s1, i64_w, i32_w]
          rfl
        refine pure_ (i := 2) (N := some 67) (v := ?_) (a' := ?_) #[true, true, true, false, false, false, false, false, false, false, false, false, false, false, false, false, false, false, false, false, false, false, false, false, false, false, false, false, false, false, false, false, false, false, false, false, false, false, false, false, false, false, false, false, false, false, false, false, false, false, false, false, false, false, false, false, false, false, false, false, false, false] rfl rfl (any_of HT_.out (by kernel_rfl)) (fun _ _ _ h => h) (Or.inl ⟨by rfl, ?_⟩) ?_ ?_
        rotate_left
        · intro w'
          go_simp
          with_reducible rfl
        rotate_left
        · simp only [Act.put, sT, s0, s1, i64_w, i32_w]
          rfl
        refine pure_ (i := 3) (N := some 68) (v := ?_) (a' := ?_) #[true, true, true, true, false, false, false, false, false, false, false, false, false, false, false, false, false, false, false, false, false, false, false, false, false, false, false, false, false, false, false, false, false, false, false, false, false, false, false, false, false, false, false, false, false, false, false, false, false, false, false, false, false, false, false, false, false, false, false, false, false, false] rfl rfl (any_of HT_.out (by kernel_rfl)) (fun _ _ _ h => h) (Or.inl ⟨by rfl, ?_⟩) ?_ ?_
        rotate_left
        · intro w'
          go_simp
          with_reducible rfl
        rotate_left
        · simp only [Act.put, sT, s0, s1, i64_w, i32_w]
          rfl
        refine take_ (i := 4) (N := some 69) (v := .agg c1.cells.toArray) (a' := ?_) #[true, true, true, true, true, false, false, false, false, false, false, false, false, false, false, false, false, false, false, false, false, false, false, false, false, false, false, false, false, false, false, false, false, false, false, false, false, false, false, false, false, false, false, false, false, false, false, false, false, false, false, false, false, false, false, false, false, false, false, false, false, false] rfl rfl (take_ofW HT_.out HW_.out (by kernel_rfl)) (fun _ _ _ h => h) (yieldsIf_load_mid (by rfl) 24 (.tmp 13) rfl g13 0 rfl _ _ (fun w' h => h.1.whole) Try.underlying24 rfl (i24 HCW.out)) hHeld ?_ ?_
        rotate_left
        · simp only [Act.put, sT, s0, s1]
          rfl
        refine one_ (i := 5) (N := some 70) #[true, true, true, true, true, true, false, false, false, false, false, false, false, false, false, false, false, false, false, false, false, false, false, false, false, false, false, false, false, false, false, false, false, false, false, false, false, false, false, false, false, false, false, false, false, false, false, false, false, false, false, false, false, false, false, false, false, false, false, false, false, false] rfl rfl (one_of HT_.out (by kernel_rfl)) (by decide) (fun K hK => ?_)
        refine goes_ Try.func10 (by kernel_rfl) rfl #[.agg c1.cells.toArray] (by rfl) rfl rfl (by (try simp only [List.map_toArray, List.map_cons, List.map_nil]); first | done | rfl) ?_
        refine (Right15_calls c1 HCW.out _).mono ?_
        rintro e w9 ⟨rfl, hb⟩
        rw [HCR.out]
        refine ⟨_, rfl, ?_⟩
        have HF11 := Aside0.mk (HF10.out.keep hb)
        clear HF10 hb
        refine hK.out _ _ ⟨(HF11.out.get 0 rfl), (HF11.out.get 3 rfl), (HF11.out.get 1 rfl)⟩ (fun hHeld => ?_)
        clear hK K
        refine norm_ (a' := ?_) ?_ ?_
        rotate_left
        · show Act.put _ (some 70) _ = _
          simp only [Act.put, sT, s0, s1, i64_w, i32_w]
          rfl
        refine pure_ (i := 6) (N := some 71) (v := ?_) (a' := ?_) #[true, true, true, true, true, true, true, false, false, false, false, false, false, false, false, false, false, false, false, false, false, false, false, false, false, false, false, false, false, false, false, false, false, false, false, false, false, false, false, false, false, false, false, false, false, false, false, false, false, false, false, false, false, false, false, false, false, false, false, false, false, false] rfl rfl (any_of HT_.out (by kernel_rfl)) (fun _ _ _ h => h) (Or.inl ⟨by rfl, ?_⟩) ?_ ?_
        rotate_left
        · intro w'
          go_simp
          with_reducible rfl
        rotate_left
        · simp only [Act.put, sT, s0, s1, i64_w, i32_w]
          rfl
        refine pure_ (i := 7) (N := some 72) (v := ?_) (a' := ?_) #[true, true, true, true, true, true, true, true, false, false, false, false, false, false, false, false, false, false, false, false, false, false, false, false, false, false, false, false, false, false, false, false, false, false, false, false, false, false, false, false, false, false, false, false, false, false, false, false, false, false, false, false, false, false, false, false, false, false, false, false, false, false] rfl rfl (any_of HT_.out (by kernel_rfl)) (fun _ _ _ h => h) (Or.inl ⟨by rfl, ?_⟩) ?_ ?_
        rotate_left
        · intro w'
          go_simp
          with_reducible rfl
        rotate_left
        · simp only [Act.put, sT, s0, s1, i64_w, i32_w]
          rfl
        refine pure_ (i := 8) (N := some 73) (v := ?_) (a' := ?_) #[true, true, true, true, true, true, true, true, true, false, false, false, false, false, false, false, false, false, false, false, false, false, false, false, false, false, false, false, false, false, false, false, false, false, false, false, false, false, false, false, false, false, false, false, false, false, false, false, false, false, false, false, false, false, false, false, false, false, false, false, false, false] rfl rfl (any_of HT_.out (by kernel_rfl)) (fun _ _ _ h => h) (Or.inl ⟨by rfl, ?_⟩) ?_ ?_
        rotate_left
        · intro w'
          go_simp
          with_reducible rfl
        rotate_left
        · simp only [Act.put, sT, s0, s1, i64_w, i32_w]
          rfl
        refine pure_ (i := 9) (N := some 74) (v := ?_) (a' := ?_) #[true, true, true, true, true, true, true, true, true, true, false, false, false, false, false, false, false, false, false, false, false, false, false, false, false, false, false, false, false, false, false, false, false, false, false, false, false, false, false, false, false, false, false, false, false, false, false, false, false, false, false, false, false, false, false, false, false, false, false, false, false, false] rfl rfl (any_of HT_.out (by kernel_rfl)) (fun _ _ _ h => h) (Or.inl ⟨by rfl, ?_⟩) ?_ ?_
        rotate_left
        · intro w'
          go_simp
          with_reducible rfl
        rotate_left
        · simp only [Act.put, sT, s0, s1, i64_w, i32_w]
          rfl
        refine pure_ (i := 10) (N := some 75) (v := ?_) (a' := ?_) #[true, true, true, true, true, true, true, true, true, true, true, false, false, false, false, false, false, false, false, false, false, false, false, false, false, false, false, false, false, false, false, false, false, false, false, false, false, false, false, false, false, false, false, false, false, false, false, false, false, false, false, false, false, false, false, false, false, false, false, false, false, false] rfl rfl (any_of HT_.out (by kernel_rfl)) (fun _ _ _ h => h) (Or.inl ⟨by rfl, ?_⟩) ?_ ?_
        rotate_left
        · intro w'
          go_simp
          with_reducible rfl
        rotate_left
        · simp only [Act.put, sT, s0, s1, i64_w, i32_w]
          rfl
        refine pure_ (i := 11) (N := some 76) (v := ?_) (a' := ?_) #[true, true, true, true, true, true, true, true, true, true, true, true, false, false, false, false, false, false, false, false, false, false, false, false, false, false, false, false, false, false, false, false, false, false, false, false, false, false, false, false, false, false, false, false, false, false, false, false, false, false, false, false, false, false, false, false, false, false, false, false, false, false] rfl rfl (any_of HT_.out (by kernel_rfl)) (fun _ _ _ h => h) (Or.inl ⟨by rfl, ?_⟩) ?_ ?_
        rotate_left
        · intro w'
          go_simp
          with_reducible rfl
        rotate_left
        · simp only [Act.put, sT, s0, s1, i64_w, i32_w]
          rfl
        refine pure_ (i := 12) (N := some 77) (v := ?_) (a' := ?_) #[true, true, true, true, true, true, true, true, true, true, true, true, true, false, false, false, false, false, false, false, false, false, false, false, false, false, false, false, false, false, false, false, false, false, false, false, false, false, false, false, false, false, false, false, false, false, false, false, false, false, false, false, false, false, false, false, false, false, false, false, false, false] rfl rfl (any_of HT_.out (by kernel_rfl)) (fun _ _ _ h => h) (Or.inl ⟨by rfl, ?_⟩) ?_ ?_
        rotate_left
        · intro w'
          go_simp
          with_reducible rfl
        rotate_left
        · simp only [Act.put, sT, s0, s1, i64_w, i32_w]
          rfl
        refine pure_ (i := 13) (N := some 78) (v := undef) (a' := ?_) #[true, true, true, true, true, true, true, true, true, true, true, true, true, true, false, false, false, false, false, false, false, false, false, false, false, false, false, false, false, false, false, false, false, false, false, false, false, false, false, false, false, false, false, false, false, false, false, false, false, false, false, false, false, false, false, false, false, false, false, false, false, false] rfl rfl (any_of HT_.out (by kernel_rfl)) (fun _ _ _ h => h) (Or.inr ⟨by rfl, rfl⟩) ?_ ?_
        rotate_left
        · simp only [Act.put, sT, s0, s1]
          rfl
        refine pure_ (i := 14) (N := some 79) (v := undef) (a' := ?_) #[true, true, true, true, true, true, true, true, true, true, true, true, true, true, true, false, false, false, false, false, false, false, false, false, false, false, false, false, false, false, false, false, false, false, false, false, false, false, false, false, false, false, false, false, false, false, false, false, false, false, false, false, false, false, false, false, false, false, false, false, false, false] rfl rfl (any_of HT_.out (by kernel_rfl)) (fun _ _ _ h => h) (Or.inr ⟨by rfl, rfl⟩) ?_ ?_
        rotate_left
        · simp only [Act.put, sT, s0, s1]
          rfl
        refine pure_ (i := 15) (N := some 80) (v := undef) (a' := ?_) #[true, true, true, true, true, true, true, true, true, true, true, true, true, true, true, true, false, false, false, false, false, false, false, false, false, false, false, false, false, false, false, false, false, false, false, false, false, false, false, false, false, false, false, false, false, false, false, false, false, false, false, false, false, false, false, false, false, false, false, false, false, false] rfl rfl (any_of HT_.out (by kernel_rfl)) (fun _ _ _ h => h) (Or.inr ⟨by rfl, rfl⟩) ?_ ?_
        rotate_left
        · simp only [Act.put, sT, s0, s1]
          rfl
        refine pure_ (i := 16) (N := some 81) (v := undef) (a' := ?_) #[true, true, true, true, true, true, true, true, true, true, true, true, true, true, true, true, true, false, false, false, false, false, false, false, false, false, false, false, false, false, false, false, false, false, false, false, false, false, false, false, false, false, false, false, false, false, false, false, false, false, false, false, false, false, false, false, false, false, false, false, false, false] rfl rfl (any_of HT_.out (by kernel_rfl)) (fun _ _ _ h => h) (Or.inr ⟨by rfl, rfl⟩) ?_ ?_
        rotate_left
        · simp only [Act.put, sT, s0, s1]
          rfl
        refine pure_ (i := 17) (N := some 82) (v := undef) (a' := ?_) #[true, true, true, true, true, true, true, true, true, true, true, true, true, true, true, true, true, true, false, false, false, false, false, false, false, false, false, false, false, false, false, false, false, false, false, false, false, false, false, false, false, false, false, false, false, false, false, false, false, false, false, false, false, false, false, false, false, false, false, false, false, false] rfl rfl (any_of HT_.out (by kernel_rfl)) (fun _ _ _ h => h) (Or.inr ⟨by rfl, rfl⟩) ?_ ?_
        rotate_left
        · simp only [Act.put, sT, s0, s1]
          rfl
        refine pure_ (i := 18) (N := some 83) (v := undef) (a' := ?_) #[true, true, true, true, true, true, true, true, true, true, true, true, true, true, true, true, true, true, true, false, false, false, false, false, false, false, false, false, false, false, false, false, false, false, false, false, false, false, false, false, false, false, false, false, false, false, false, false, false, false, false, false, false, false, false, false, false, false, false, false, false, false] rfl rfl (any_of HT_.out (by kernel_rfl)) (fun _ _ _ h => h) (Or.inr ⟨by rfl, rfl⟩) ?_ ?_
        rotate_left
        · simp only [Act.put, sT, s0, s1]
          rfl
        refine pure_ (i := 19) (N := some 84) (v := undef) (a' := ?_) #[true, true, true, true, true, true, true, true, true, true, true, true, true, true, true, true, true, true, true, true, false, false, false, false, false, false, false, false, false, false, false, false, false, false, false, false, false, false, false, false, false, false, false, false, false, false, false, false, false, false, false, false, false, false, false, false, false, false, false, false, false, false] rfl rfl (any_of HT_.out (by kernel_rfl)) (fun _ _ _ h => h) (Or.inr ⟨by rfl, rfl⟩) ?_ ?_
        rotate_left
        · simp only [Act.put, sT, s0, s1]
          rfl
        refine pure_ (i := 20) (N := some 85) (v := undef) (a' := ?_) #[true, true, true, true, true, true, true, true, true, true, true, true, true, true, true, true, true, true, true, true, true, false, false, false, false, false, false, false, false, false, false, false, false, false, false, false, false, false, false, false, false, false, false, false, false, false, false, false, false, false, false, false, false, false, false, false, false, false, false, false, false, false] rfl rfl (any_of HT_.out (by kernel_rfl)) (fun _ _ _ h => h) (Or.inr ⟨by rfl, rfl⟩) ?_ ?_
        rotate_left
        · simp only [Act.put, sT, s0, s1]
          rfl
        refine pure_ (i := 21) (N := some 86) (v := undef) (a' := ?_) #[true, true, true, true, true, true, true, true, true, true, true, true, true, true, true, true, true, true, true, true, true, true, false, false, false, false, false, false, false, false, false, false, false, false, false, false, false, false, false, false, false, false, false, false, false, false, false, false, false, false, false, false, false, false, false, false, false, false, false, false, false, false] rfl rfl (any_of HT_.out (by kernel_rfl)) (fun _ _ _ h => h) (Or.inr ⟨by rfl, rfl⟩) ?_ ?_
        rotate_left
        · simp only [Act.put, sT, s0, s1]
          rfl
        refine pure_ (i := 22) (N := some 87) (v := undef) (a' := ?_) #[true, true, true, true, true, true, true, true, true, true, true, true, true, true, true, true, true, true, true, true, true, true, true, false, false, false, false, false, false, false, false, false, false, false, false, false, false, false, false, false, false, false, false, false, false, false, false, false, false, false, false, false, false, false, false, false, false, false, false, false, false, false] rfl rfl (any_of HT_.out (by kernel_rfl)) (fun _ _ _ h => h) (Or.inr ⟨by rfl, rfl⟩) ?_ ?_
        rotate_left
        · simp only [Act.put, sT, s0, s1]
          rfl
        refine pure_ (i := 23) (N := some 88) (v := undef) (a' := ?_) #[true, true, true, true, true, true, true, true, true, true, true, true, true, true, true, true, true, true, true, true, true, true, true, true, false, false, false, false, false, false, false, false, false, false, false, false, false, false, false, false, false, false, false, false, false, false, false, false, false, false, false, false, false, false, false, false, false, false, false, false, false, false] rfl rfl (any_of HT_.out (by kernel_rfl)) (fun _ _ _ h => h) (Or.inr ⟨by rfl, rfl⟩) ?_ ?_
        rotate_left
        · simp only [Act.put, sT, s0, s1]
          rfl
        refine pure_ (i := 24) (N := some 89) (v := undef) (a' := ?_) #[true, true, true, true, true, true, true, true, true, true, true, true, true, true, true, true, true, true, true, true, true, true, true, true, true, false, false, false, false, false, false, false, false, false, false, false, false, false, false, false, false, false, false, false, false, false, false, false, false, false, false, false, false, false, false, false, false, false, false, false, false, false] rfl rfl (any_of HT_.out (by kernel_rfl)) (fun _ _ _ h => h) (Or.inr ⟨by rfl, rfl⟩) ?_ ?_
        rotate_left
        · simp only [Act.put, sT, s0, s1]
          rfl
        refine pure_ (i := 25) (N := some 90) (v := undef) (a' := ?_) #[true, true, true, true, true, true, true, true, true, true, true, true, true, true, true, true, true, true, true, true, true, true, true, true, true, true, false, false, false, false, false, false, false, false, false, false, false, false, false, false, false, false, false, false, false, false, false, false, false, false, false, false, false, false, false, false, false, false, false, false, false, false] rfl rfl (any_of HT_.out (by kernel_rfl)) (fun _ _ _ h => h) (Or.inr ⟨by rfl, rfl⟩) ?_ ?_
        rotate_left
        · simp only [Act.put, sT, s0, s1]
          rfl
        refine pure_ (i := 26) (N := some 91) (v := undef) (a' := ?_) #[true, true, true, true, true, true, true, true, true, true, true, true, true, true, true, true, true, true, true, true, true, true, true, true, true, true, true, false, false, false, false, false, false, false, false, false, false, false, false, false, false, false, false, false, false, false, false, false, false, false, false, false, false, false, false, false, false, false, false, false, false, false] rfl rfl (any_of HT_.out (by kernel_rfl)) (fun _ _ _ h => h) (Or.inr ⟨by rfl, rfl⟩) ?_ ?_
        rotate_left
        · simp only [Act.put, sT, s0, s1]
          rfl
        refine pure_ (i := 27) (N := some 92) (v := undef) (a' := ?_) #[true, true, true, true, true, true, true, true, true, true, true, true, true, true, true, true, true, true, true, true, true, true, true, true, true, true, true, true, false, false, false, false, false, false, false, false, false, false, false, false, false, false, false, false, false, false, false, false, false, false, false, false, false, false, false, false, false, false, false, false, false, false] rfl rfl (any_of HT_.out (by kernel_rfl)) (fun _ _ _ h => h) (Or.inr ⟨by rfl, rfl⟩) ?_ ?_
        rotate_left
        · simp only [Act.put, sT, s0, s1]
          rfl
        refine pure_ (i := 28) (N := some 93) (v := undef) (a' := ?_) #[true, true, true, true, true, true, true, true, true, true, true, true, true, true, true, true, true, true, true, true, true, true, true, true, true, true, true, true, true, false, false, false, false, false, false, false, false, false, false, false, false, false, false, false, false, false, false, false, false, false, false, false, false, false, false, false, false, false, false, false, false, false] rfl rfl (any_of HT_.out (by kernel_rfl)) (fun _ _ _ h => h) (Or.inr ⟨by rfl, rfl⟩) ?_ ?_
        rotate_left
        · simp only [Act.put, sT, s0, s1]
          rfl
        refine pure_ (i := 29) (N := some 94) (v := undef) (a' := ?_) #[true, true, true, true, true, true, true, true, true, true, true, true, true, true, true, true, true, true, true, true, true, true, true, true, true, true, true, true, true, true, false, false, false, false, false, false, false, false, false, false, false, false, false, false, false, false, false, false, false, false, false, false, false, false, false, false, false, false, false, false, false, false] rfl rfl (any_of HT_.out (by kernel_rfl)) (fun _ _ _ h => h) (Or.inr ⟨by rfl, rfl⟩) ?_ ?_
        rotate_left
        · simp only [Act.put, sT, s0, s1]
          rfl
        refine pure_ (i := 30) (N := some 95) (v := undef) (a' := ?_) #[true, true, true, true, true, true, true, true, true, true, true, true, true, true, true, true, true, true, true, true, true, true, true, true, true, true, true, true, true, true, true, false, false, false, false, false, false, false, false, false, false, false, false, false, false, false, false, false, false, false, false, false, false, false, false, false, false, false, false, false, false, false] rfl rfl (any_of HT_.out (by kernel_rfl)) (fun _ _ _ h => h) (Or.inr ⟨by rfl, rfl⟩) ?_ ?_
        rotate_left
        · simp only [Act.put, sT, s0, s1]
          rfl
        refine pure_ (i := 31) (N := some 96) (v := undef) (a' := ?_) #[true, true, true, true, true, true, true, true, true, true, true, true, true, true, true, true, true, true, true, true, true, true, true, true, true, true, true, true, true, true, true, true, false, false, false, false, false, false, false, false, false, false, false, false, false, false, false, false, false, false, false, false, false, false, false, false, false, false, false, false, false, false] rfl rfl (any_of HT_.out (by kernel_rfl)) (fun _ _ _ h => h) (Or.inr ⟨by rfl, rfl⟩) ?_ ?_
        rotate_left
        · simp only [Act.put, sT, s0, s1]
          rfl
        refine pure_ (i := 32) (N := some 97) (v := undef) (a' := ?_) #[true, true, true, true, true, true, true, true, true, true, true, true, true, true, true, true, true, true, true, true, true, true, true, true, true, true, true, true, true, true, true, true, true, false, false, false, false, false, false, false, false, false, false, false, false, false, false, false, false, false, false, false, false, false, false, false, false, false, false, false, false, false] rfl rfl (any_of HT_.out (by kernel_rfl)) (fun _ _ _ h => h) (Or.inr ⟨by rfl, rfl⟩) ?_ ?_
        rotate_left
        · simp only [Act.put, sT, s0, s1]
          rfl
        refine pure_ (i := 33) (N := some 98) (v := undef) (a' := ?_) #[true, true, true, true, true, true, true, true, true, true, true, true, true, true, true, true, true, true, true, true, true, true, true, true, true, true, true, true, true, true, true, true, true, true, false, false, false, false, false, false, false, false, false, false, false, false, false, false, false, false, false, false, false, false, false, false, false, false, false, false, false, false] rfl rfl (any_of HT_.out (by kernel_rfl)) (fun _ _ _ h => h) (Or.inr ⟨by rfl, rfl⟩) ?_ ?_
        rotate_left
        · simp only [Act.put, sT, s0, s1]
          rfl
        refine pure_ (i := 34) (N := some 99) (v := undef) (a' := ?_) #[true, true, true, true, true, true, true, true, true, true, true, true, true, true, true, true, true, true, true, true, true, true, true, true, true, true, true, true, true, true, true, true, true, true, true, false, false, false, false, false, false, false, false, false, false, false, false, false, false, false, false, false, false, false, false, false, false, false, false, false, false, false] rfl rfl (any_of HT_.out (by kernel_rfl)) (fun _ _ _ h => h) (Or.inr ⟨by rfl, rfl⟩) ?_ ?_
        rotate_left
        · simp only [Act.put, sT, s0, s1]
          rfl
        refine pure_ (i := 35) (N := some 100) (v := undef) (a' := ?_) #[true, true, true, true, true, true, true, true, true, true, true, true, true, true, true, true, true, true, true, true, true, true, true, true, true, true, true, true, true, true, true, true, true, true, true, true, false, false, false, false, false, false, false, false, false, false, false, false, false, false, false, false, false, false, false, false, false, false, false, false, false, false] rfl rfl (any_of HT_.out (by kernel_rfl)) (fun _ _ _ h => h) (Or.inr ⟨by rfl, rfl⟩) ?_ ?_
        rotate_left
        · simp only [Act.put, sT, s0, s1]
          rfl
        refine pure_ (i := 36) (N := some 101) (v := undef) (a' := ?_) #[true, true, true, true, true, true, true, true, true, true, true, true, true, true, true, true, true, true, true, true, true, true, true, true, true, true, true, true, true, true, true, true, true, true, true, true, true, false, false, false, false, false, false, false, false, false, false, false, false, false, false, false, false, false, false, false, false, false, false, false, false, false] rfl rfl (any_of HT_.out (by kernel_rfl)) (fun _ _ _ h => h) (Or.inr ⟨by rfl, rfl⟩) ?_ ?_
        rotate_left
        · simp only [Act.put, sT, s0, s1]
          rfl
        refine pure_ (i := 37) (N := some 102) (v := undef) (a' := ?_) #[true, true, true, true, true, true, true, true, true, true, true, true, true, true, true, true, true, true, true, true, true, true, true, true, true, true, true, true, true, true, true, true, true, true, true, true, true, true, false, false, false, false, false, false, false, false, false, false, false, false, false, false, false, false, false, false, false, false, false, false, false, false] rfl rfl (any_of HT_.out (by kernel_rfl)) (fun _ _ _ h => h) (Or.inr ⟨by rfl, rfl⟩) ?_ ?_
        rotate_left
        · simp only [Act.put, sT, s0, s1]
          rfl
        refine pure_ (i := 38) (N := some 103) (v := undef) (a' := ?_) #[true, true, true, true, true, true, true, true, true, true, true, true, true, true, true, true, true, true, true, true, true, true, true, true, true, true, true, true, true, true, true, true, true, true, true, true, true, true, true, false, false, false, false, false, false, false, false, false, false, false, false, false, false, false, false, false, false, false, false, false, false, false] rfl rfl (any_of HT_.out (by kernel_rfl)) (fun _ _ _ h => h) (Or.inr ⟨by rfl, rfl⟩) ?_ ?_
        rotate_left
        · simp only [Act.put, sT, s0, s1]
          rfl
        refine pure_ (i := 39) (N := some 104) (v := undef) (a' := ?_) #[true, true, true, true, true, true, true, true, true, true, true, true, true, true, true, true, true, true, true, true, true, true, true, true, true, true, true, true, true, true, true, true, true, true, true, true, true, true, true, true, false, false, false, false, false, false, false, false, false, false, false, false, false, false, false, false, false, false, false, false, false, false] rfl rfl (any_of HT_.out (by kernel_rfl)) (fun _ _ _ h => h) (Or.inr ⟨by rfl, rfl⟩) ?_ ?_
        rotate_left
        · simp only [Act.put, sT, s0, s1]
          rfl
        refine pure_ (i := 40) (N := some 105) (v := undef) (a' := ?_) #[true, true, true, true, true, true, true, true, true, true, true, true, true, true, true, true, true, true, true, true, true, true, true, true, true, true, true, true, true, true, true, true, true, true, true, true, true, true, true, true, true, false, false, false, false, false, false, false, false, false, false, false, false, false, false, false, false, false, false, false, false, false] rfl rfl (any_of HT_.out (by kernel_rfl)) (fun _ _ _ h => h) (Or.inr ⟨by rfl, rfl⟩) ?_ ?_
        rotate_left
        · simp only [Act.put, sT, s0, s1]
          rfl
        refine pure_ (i := 41) (N := some 106) (v := ?_) (a' := ?_) #[true, true, true, true, true, true, true, true, true, true, true, true, true, true, true, true, true, true, true, true, true, true, true, true, true, true, true, true, true, true, true, true, true, true, true, true, true, true, true, true, true, true, false, false, false, false, false, false, false, false, false, false, false, false, false, false, false, false, false, false, false, false] rfl rfl (any_of HT_.out (by kernel_rfl)) (fun _ _ _ h => h) (Or.inl ⟨by rfl, ?_⟩) ?_ ?_
        rotate_left
        · intro w'
          go_simp
          with_reducible rfl
        rotate_left
        · simp only [Act.put, sT, s0, s1, i64_w, i32_w]
          rfl
        refine pure_ (i := 42) (N := some 107) (v := ?_) (a' := ?_) #[true, true, true, true, true, true, true, true, true, true, true, true, true, true, true, true, true, true, true, true, true, true, true, true, true, true, true, true, true, true, true, true, true, true, true, true, true, true, true, true, true, true, true, false, false, false, false, false, false, false, false, false, false, false, false, false, false, false, false, false, false, false] rfl rfl (any_of HT_.out (by kernel_rfl)) (fun _ _ _ h => h) (Or.inl ⟨by rfl, ?_⟩) ?_ ?_
        rotate_left
        · intro w'
          go_simp
          with_reducible rfl
        rotate_left
        · simp only [Act.put, sT, s0, s1, i64_w, i32_w]
          rfl
        refine pure_ (i := 43) (N := some 108) (v := ?_) (a' := ?_) #[true, true, true, true, true, true, true, true, true, true, true, true, true, true, true, true, true, true, true, true, true, true, true, true, true, true, true, true, true, true, true, true, true, true, true, true, true, true, true, true, true, true, true, true, false, false, false, false, false, false, false, false, false, false, false, false, false, false, false, false, false, false] rfl rfl (any_of HT_.out (by kernel_rfl)) (fun _ _ _ h => h) (Or.inl ⟨by rfl, ?_⟩) ?_ ?_
        rotate_left
        · intro w'
          go_simp
          with_reducible rfl
        rotate_left
        · simp only [Act.put, sT, s0, s1, i64_w, i32_w]
          rfl
        refine pure_ (i := 44) (N := some 109) (v := ?_) (a' := ?_) #[true, true, true, true, true, true, true, true, true, true, true, true, true, true, true, true, true, true, true, true, true, true, true, true, true, true, true, true, true, true, true, true, true, true, true, true, true, true, true, true, true, true, true, true, true, false, false, false, false, false, false, false, false, false, false, false, false, false, false, false, false, false] rfl rfl (any_of HT_.out (by kernel_rfl)) (fun _ _ _ h => h) (Or.inl ⟨by rfl, ?_⟩) ?_ ?_
        rotate_left
        · intro w'
          go_simp
          with_reducible rfl
        rotate_left
        · simp only [Act.put, sT, s0, s1, i64_w, i32_w]
          rfl
        refine pure_ (i := 45) (N := some 110) (v := ?_) (a' := ?_) #[true, true, true, true, true, true, true, true, true, true, true, true, true, true, true, true, true, true, true, true, true, true, true, true, true, true, true, true, true, true, true, true, true, true, true, true, true, true, true, true, true, true, true, true, true, true, false, false, false, false, false, false, false, false, false, false, false, false, false, false, false, false] rfl rfl (any_of HT_.out (by kernel_rfl)) (fun _ _ _ h => h) (Or.inl ⟨by rfl, ?_⟩) ?_ ?_
        rotate_left
        · intro w'
          go_simp
          with_reducible rfl
        rotate_left
        · simp only [Act.put, sT, s0, s1, i64_w, i32_w]
          rfl
        refine pure_ (i := 46) (N := some 111) (v := ?_) (a' := ?_) #[true, true, true, true, true, true, true, true, true, true, true, true, true, true, true, true, true, true, true, true, true, true, true, true, true, true, true, true, true, true, true, true, true, true, true, true, true, true, true, true, true, true, true, true, true, true, true, false, false, false, false, false, false, false, false, false, false, false, false, false, false, false] rfl rfl (any_of HT_.out (by kernel_rfl)) (fun _ _ _ h => h) (Or.inl ⟨by rfl, ?_⟩) ?_ ?_
        rotate_left
        · intro w'
          go_simp
          with_reducible rfl
        rotate_left
        · simp only [Act.put, sT, s0, s1, i64_w, i32_w]
          rfl
        refine pure_ (i := 47) (N := some 112) (v := ?_) (a' := ?_) #[true, true, true, true, true, true, true, true, true, true, true, true, true, true, true, true, true, true, true, true, true, true, true, true, true, true, true, true, true, true, true, true, true, true, true, true, true, true, true, true, true, true, true, true, true, true, true, true, false, false, false, false, false, false, false, false, false, false, false, false, false, false] rfl rfl (any_of HT_.out (by kernel_rfl)) (fun _ _ _ h => h) (Or.inl ⟨by rfl, ?_⟩) ?_ ?_
        rotate_left
        · intro w'
          go_simp
          with_reducible rfl
        rotate_left
        · simp only [Act.put, sT, s0, s1, i64_w, i32_w]
          rfl
        refine pure_ (i := 48) (N := some 113) (v := ?_) (a' := ?_) #[true, true, true, true, true, true, true, true, true, true, true, true, true, true, true, true, true, true, true, true, true, true, true, true, true, true, true, true, true, true, true, true, true, true, true, true, true, true, true, true, true, true, true, true, true, true, true, true, true, false, false, false, false, false, false, false, false, false, false, false, false, false] rfl rfl (any_of HT_.out (by kernel_rfl)) (fun _ _ _ h => h) (Or.inl ⟨by rfl, ?_⟩) ?_ ?_
        rotate_left
        · intro w'
          go_simp
          with_reducible rfl
        rotate_left
        · simp only [Act.put, sT, s0, s1, i64_w, i32_w]
          rfl
        refine take_ (i := 49) (N := some 114) (v := ?_) (a' := ?_) #[true, true, true, true, true, true, true, true, true, true, true, true, true, true, true, true, true, true, true, true, true, true, true, true, true, true, true, true, true, true, true, true, true, true, true, true, true, true, true, true, true, true, true, true, true, true, true, true, true, true, false, false, false, false, false, false, false, false, false, false, false, false] rfl rfl (take_ofW HT_.out HW_.out (by kernel_rfl)) (fun _ _ _ h => h) (Or.inl ⟨by rfl, ?_⟩) hHeld ?_ ?_
        rotate_left
        · intro w' h
          have hc_ := (show w'.cell? ⟨g13, 3, none⟩ = some (.int .u8 b.id) by have q := Au.at3 h.1; rw [HCI.out] at q; exact q)
          go_simp
          with_reducible rfl
        rotate_left
        · simp only [Act.put, sT, s0, s1]
          rfl
        refine pure_ (i := 50) (N := some 115) (v := ?_) (a' := ?_) #[true, true, true, true, true, true, true, true, true, true, true, true, true, true, true, true, true, true, true, true, true, true, true, true, true, true, true, true, true, true, true, true, true, true, true, true, true, true, true, true, true, true, true, true, true, true, true, true, true, true, true, false, false, false, false, false, false, false, false, false, false, false] rfl rfl (any_of HT_.out (by kernel_rfl)) (fun _ _ _ h => h) (Or.inl ⟨by rfl, ?_⟩) ?_ ?_
        rotate_left
        · intro w'
          go_simp
          with_reducible rfl
        rotate_left
        · simp only [Act.put, sT, s0, s1, i64_w, i32_w]
          rfl
        refine take_ (i := 51) (N := some 116) (v := ?_) (a' := ?_) #[true, true, true, true, true, true, true, true, true, true, true, true, true, true, true, true, true, true, true, true, true, true, true, true, true, true, true, true, true, true, true, true, true, true, true, true, true, true, true, true, true, true, true, true, true, true, true, true, true, true, true, true, false, false, false, false, false, false, false, false, false, false] rfl rfl (take_ofW HT_.out HW_.out (by kernel_rfl)) (fun _ _ _ h => h) (Or.inl ⟨by rfl, ?_⟩) hHeld ?_ ?_
        rotate_left
        · intro w' h
          have hc_ := Au.at3 h.2.1
          go_simp
          with_reducible rfl
        rotate_left
        · simp only [Act.put, sT, s0, s1]
          rfl
        refine pure_ (i := 52) (N := some 117) (v := ?_) (a' := ?_) #[true, true, true, true, true, true, true, true, true, true, true, true, true, true, true, true, true, true, true, true, true, true, true, true, true, true, true, true, true, true, true, true, true, true, true, true, true, true, true, true, true, true, true, true, true, true, true, true, true, true, true, true, true, false, false, false, false, false, false, false, false, false] rfl rfl (any_of HT_.out (by kernel_rfl)) (fun _ _ _ h => h) (Or.inl ⟨by rfl, ?_⟩) ?_ ?_
        rotate_left
        · intro w'
          go_simp
          with_reducible rfl
        rotate_left
        · simp only [Act.put, sT, s0, s1, i64_w, i32_w]
          rfl
        refine pure_ (i := 53) (N := some 118) (v := ?_) (a' := ?_) #[true, true, true, true, true, true, true, true, true, true, true, true, true, true, true, true, true, true, true, true, true, true, true, true, true, true, true, true, true, true, true, true, true, true, true, true, true, true, true, true, true, true, true, true, true, true, true, true, true, true, true, true, true, true, false, false, false, false, false, false, false, false] rfl rfl (any_of HT_.out (by kernel_rfl)) (fun _ _ _ h => h) (Or.inl ⟨by rfl, ?_⟩) ?_ ?_
        rotate_left
        · intro w'
          go_simp
          with_reducible rfl
        rotate_left
        · simp only [Act.put, sT, s0, s1, i64_w, i32_w]
          rfl
        refine pure_ (i := 54) (N := some 119) (v := ?_) (a' := ?_) #[true, true, true, true, true, true, true, true, true, true, true, true, true, true, true, true, true, true, true, true, true, true, true, true, true, true, true, true, true, true, true, true, true, true, true, true, true, true, true, true, true, true, true, true, true, true, true, true, true, true, true, true, true, true, true, false, false, false, false, false, false, false] rfl rfl (any_of HT_.out (by kernel_rfl)) (fun _ _ _ h => h) (Or.inl ⟨by rfl, ?_⟩) ?_ ?_
        rotate_left
        · intro w'
          go_simp
          with_reducible rfl
        rotate_left
        · simp only [Act.put, sT, s0, s1, i64_w, i32_w]
          rfl
        refine take_ (i := 55) (N := some 120) (v := .agg (ints b.val).toArray) (a' := ?_) #[true, true, true, true, true, true, true, true, true, true, true, true, true, true, true, true, true, true, true, true, true, true, true, true, true, true, true, true, true, true, true, true, true, true, true, true, true, true, true, true, true, true, true, true, true, true, true, true, true, true, true, true, true, true, true, true, false, false, false, false, false, false] rfl rfl (take_ofW HT_.out HW_.out (by kernel_rfl)) (fun _ _ _ h => h) (yieldsIf_load_mid (by rfl) 22 (.tmp 119) rfl g13 4 rfl _ _ (fun w' h => (show w'.rangeAt g13 4 (ints b.val) by have q := Au.atVal h.1; rw [HCV.out] at q; exact q)) Try.underlying22 rfl (i22 HBW.out.val)) hHeld ?_ ?_
        rotate_left
        · simp only [Act.put, sT, s0, s1]
          rfl
        refine pure_ (i := 56) (N := some 121) (v := ?_) (a' := ?_) #[true, true, true, true, true, true, true, true, true, true, true, true, true, true, true, true, true, true, true, true, true, true, true, true, true, true, true, true, true, true, true, true, true, true, true, true, true, true, true, true, true, true, true, true, true, true, true, true, true, true, true, true, true, true, true, true, true, false, false, false, false, false] rfl rfl (any_of HT_.out (by kernel_rfl)) (fun _ _ _ h => h) (Or.inl ⟨by rfl, ?_⟩) ?_ ?_
        rotate_left
        · intro w'
          go_simp
          with_reducible rfl
        rotate_left
        · simp only [Act.put, sT, s0, s1, i64_w, i32_w]
          rfl
        refine take_ (i := 57) (N := some 122) (v := .agg (ints b.val).toArray) (a' := ?_) #[true, true, true, true, true, true, true, true, true, true, true, true, true, true, true, true, true, true, true, true, true, true, true, true, true, true, true, true, true, true, true, true, true, true, true, true, true, true, true, true, true, true, true, true, true, true, true, true, true, true, true, true, true, true, true, true, true, true, false, false, false, false] rfl rfl (take_ofW HT_.out HW_.out (by kernel_rfl)) (fun _ _ _ h => h) (yieldsIf_load_mid (by rfl) 22 (.tmp 121) rfl g8 4 rfl _ _ (fun w' h => Au.atVal h.2.1) Try.underlying22 rfl (i22 HBW.out.val)) hHeld ?_ ?_
        rotate_left
        · simp only [Act.put, sT, s0, s1]
          rfl
        refine pure_ (i := 58) (N := some 123) (v := .bool false) (a' := ?_) #[true, true, true, true, true, true, true, true, true, true, true, true, true, true, true, true, true, true, true, true, true, true, true, true, true, true, true, true, true, true, true, true, true, true, true, true, true, true, true, true, true, true, true, true, true, true, true, true, true, true, true, true, true, true, true, true, true, true, true, false, false, false] rfl rfl (any_of HT_.out (by kernel_rfl)) (fun _ _ _ h => h) (Or.inl ⟨by rfl, ?_⟩) ?_ ?_
        · intro w'
          exact neq_yields rfl rfl rfl (neR_self HBW.out.val)
        rotate_left
        · simp only [Act.put, sT, s0, s1]
          rfl
        refine pure_ (i := 59) (N := some 124) (v := ?_) (a' := ?_) #[true, true, true, true, true, true, true, true, true, true, true, true, true, true, true, true, true, true, true, true, true, true, true, true, true, true, true, true, true, true, true, true, true, true, true, true, true, true, true, true, true, true, true, true, true, true, true, true, true, true, true, true, true, true, true, true, true, true, true, true, false, false] rfl rfl (any_of HT_.out (by kernel_rfl)) (fun _ _ _ h => h) (Or.inl ⟨by rfl, ?_⟩) ?_ ?_
        rotate_left
        · intro w'
          go_simp
          with_reducible rfl
        rotate_left
        · simp only [Act.put, sT, s0, s1, i64_w, i32_w]
          rfl
        refine pure_ (i := 60) (N := some 125) (v := ?_) (a' := ?_) #[true, true, true, true, true, true, true, true, true, true, true, true, true, true, true, true, true, true, true, true, true, true, true, true, true, true, true, true, true, true, true, true, true, true, true, true, true, true, true, true, true, true, true, true, true, true, true, true, true, true, true, true, true, true, true, true, true, true, true, true, true, false] rfl rfl (any_of HT_.out (by kernel_rfl)) (fun _ _ _ h => h) (Or.inl ⟨by rfl, ?_⟩) ?_ ?_
        rotate_left
        · intro w'
          go_simp
          with_reducible rfl
        rotate_left
        · simp only [Act.put, sT, s0, s1, i64_w, i32_w]
          rfl
        refine pure_ (i := 61) (N := some 126) (v := ?_) (a' := ?_) #[true, true, true, true, true, true, true, true, true, true, true, true, true, true, true, true, true, true, true, true, true, true, true, true, true, true, true, true, true, true, true, true, true, true, true, true, true, true, true, true, true, true, true, true, true, true, true, true, true, true, true, true, true, true, true, true, true, true, true, true, true, true] rfl rfl (any_of HT_.out (by kernel_rfl)) (fun _ _ _ h => h) (Or.inl ⟨by rfl, ?_⟩) ?_ ?_
        rotate_left
        · intro w'
          go_simp
          with_reducible rfl
        rotate_left
        · simp only [Act.put, sT, s0, s1, i64_w, i32_w]
          rfl
        refine done_ (done_of HT_.out (by kernel_rfl)) ?_
        clear hHeld
        go_wp2_with (first
          | ((with_reducible refine wpList_load_mid rfl 24 (.tmp 13) rfl g13 0 ?hx (c1.cells) _ ?hc Try.underlying24 rfl ?hi ?_); (case hx => rfl); (case hc => exact (HF11.out.get 0 rfl).whole); (case hi => exact i24 HCW.out))
          | ((with_reducible refine wpList_store_mid rfl 24 (.tmp 8) (.tmp 131) rfl g8 0 (c1.cells).toArray ?hx ?hy ?h5 ?h6 ?h7 ?_); (case hx => rfl); (case hy => rfl); (case h5 => exact (HF11.out.get 3 rfl).there (by rw [List.size_toArray, Nat.zero_add]; exact Nat.le_of_eq (Eq.symm ((Au.length HBW.out).trans (Au.length HCW.out).symm)))); (case h6 => exact i24 HCW.out); (case h7 => exact Au.one _); have HF12 := Aside0.mk (HF11.out.over 3 rfl (c1.cells) ((Au.length HBW.out).trans (Au.length HCW.out).symm)); clear HF11))
        have HF13 := Aside0.mk (show Fam w [(g9, 28, pk 1 (askI a.id) (.slice Aq 26 cq)), (g8, 24, c1.cells), (g4, 22, ints v), (g3, 24, a.cells)] _ from ends_tail (ends_tail HF12.out))
        go_roundw
        case rel => exact ⟨i + 1, c1, hlt, by rw [HSM.out, HSE.out], by first | (rw [e1]; done) | (rw [e1]; rfl) | go_num, ⟨HT.out.1⟩, HCW, HF13⟩
        case measure => first | (rw [e1]; simp only [intOf, Int.toNat_natCast]; omega) | (simp only [intOf]; omega)
      | true =>
        have HCI := Aside0.mk (HT.out.2.1 rfl).1
        have HCV := Aside0.mk (HT.out.2.1 rfl).2.1
        have HSE := Aside0.mk (HT.out.2.1 rfl).2.2
        obtain ⟨ci, hci⟩ : ∃ ci, IntKind.u8.wrap (b.id + 1) = ci := ⟨_, rfl⟩
        have HCIE := Aside0.mk (show askI b.id = ci from hci)
        rw [HCIE.out] at HCI
        go_upto_region 13 with (first
          | ((with_reducible refine wpList_load_mid rfl 24 (.tmp 8) rfl g8 0 ?hx (b.cells) _ ?hc Try.underlying24 rfl ?hi ?_); (case hx => rfl); (case hc => exact (HF4.out.get 2 rfl).whole); (case hi => exact i24 HBW.out))
          | ((with_reducible refine wpList_load_mid rfl 22 (.tmp 12) rfl g12 0 ?hx (ints vi) _ ?hc Try.underlying22 rfl ?hi ?_); (case hx => rfl); (case hc => exact (HF4.out.get 0 rfl).whole); (case hi => exact i22 HVI.out))
          | (go_at_call 17; refine (Tick_calls b HBW.out vi HVI.out _).mono ?_; rintro e w4 ⟨u, rfl, hb, hs⟩; rw [HSB.out] at hs; unfold sentP at hs; rw [if_pos rfl] at hs; obtain ⟨gp, Ap, cp, rfl, hgp, hbp⟩ := hs; rw [HCE.out]; have HF5 := Aside0.mk (show Fam w [(gp, 28, pk 1 (askI b.id) (.slice Ap 26 cp)), (g12, 22, ints vi), (g9, 28, pk 1 (askI a.id) (.slice Aq 26 cq)), (g8, 24, b.cells), (g4, 22, ints v), (g3, 24, a.cells)] w4 from HF4.out.boxed hgp hbp hb); clear hgp hbp; clear HF4 hb)
          | ((with_reducible refine gate_dst (N := 13) rfl ?_); refine box_event ?hg (N := 13) ?hd (cs := Au.zero.cells.toArray) (t := 24) ?hr ?_; (case hd => rfl); (case hg => rfl); (case hr => first | (go_simp; done) | (go_simp; rfl)); intro g13 hg w5 hbox hb; have HF6 := Aside0.mk (show Fam w [(g13, 24, Au.zero.cells), (gp, 28, pk 1 (askI b.id) (.slice Ap 26 cp)), (g12, 22, ints vi), (g9, 28, pk 1 (askI a.id) (.slice Aq 26 cq)), (g8, 24, b.cells), (g4, 22, ints v), (g3, 24, a.cells)] w5 from HF5.out.box hg hbox hb); clear hbox hb hg HF5)
          | ((with_reducible refine wpList_store_mid rfl 24 (.tmp 13) (.tmp 63) rfl g13 0 (c1.cells).toArray ?hx ?hy ?h5 ?h6 ?h7 ?_); (case hx => rfl); (case hy => rfl); (case h5 => exact (HF6.out.get 0 rfl).there (by rw [List.size_toArray, Nat.zero_add]; exact Nat.le_of_eq (Eq.symm (zlen HCW.out)))); (case h6 => exact i24 HCW.out); (case h7 => exact Au.one _); have HF7 := Aside0.mk (HF6.out.over 0 rfl (c1.cells) (zlen HCW.out)); clear HF6))
        have HF9 := Aside0.mk (show Fam w [(g13, 24, c1.cells), (gp, 28, pk 1 (askI b.id) (.slice Ap 26 cp)), (g12, 22, ints vi), (g9, 28, pk 1 (askI a.id) (.slice Aq 26 cq)), (g8, 24, b.cells), (g4, 22, ints v), (g3, 24, a.cells)] _ from HF7.out)
        clear HF7
        generalize World.setCells _ _ _ _ = w6 at HF9 ⊢
        refine start_ (n := 62) (S := fun w' => Blk w' g13 24 c1.cells ∧ Blk w' g8 24 b.cells ∧ Blk w' g12 22 (ints vi) ∧ Blk w' gp 28 (pk 1 (askI b.id) (.slice Ap 26 cp))) (ds := []) #[false, false, false, false, false, false, false, false, false, false, false, false, false, false, false, false, false, false, false, false, false, false, false, false, false, false, false, false, false, false, false, false, false, false, false, false, false, false, false, false, false, false, false, false, false, false, false, false, false, false, false, false, false, false, false, false, false, false, false, false, false, false] (by kernel_rfl) rfl rfl ⟨(HF9.out.get 0 rfl).drew, (HF9.out.get 4 rfl).drew, (HF9.out.get 2 rfl).drew, (HF9.out.get 1 rfl).drew⟩ (fun hHeld => ?_)
        refine with_tabW lawEnds.tab13 lawEnds.bits13 (fun HT_ HW_ => ?_)
        have HF10 := Aside0.mk HF9.out.drew
        clear HF9
        generalize World.drew _ = w8 at HF10 hHeld ⊢
        refine pure_ (i := 0) (N := some 65) (v := ?_) (a' := ?_) #[true, false, false, false, false, false, false, false, false, false, false, false, false, false, false, false, false, false, false, false, false, false, false, false, false, false, false, false, false, false, false, false, false, false, false, false, false, false, false, false, false, false, false, false, false, false, false, false, false, false, false, false, false, false, false, false, false, false, false, false, false, false] rfl rfl (any_of HT_.out (by kernel_rfl)) (fun _ _ _ h => h) (Or.inl ⟨by rfl, ?_⟩) ?_ ?_
        rotate_left
        · intro w'
          go_simp
          with_reducible rfl
        rotate_left
        · simp only [Act.put, sT, s0, s1, i64_w, i32_w]
          rfl
        refine pure_ (i := 1) (N := some 66) (v := ?_) (a' := ?_) #[true, true, false, false, false, false, false, false, false, false, false, false, false, false, false, false, false, false, false, false, false, false, false, false, false, false, false, false, false, false, false, false, false, false, false, false, false, false, false, false, false, false, false, false, false, false, false, false, false, false, false, false, false, false, false, false, false, false, false, false, false, false] rfl rfl (any_of HT_.out (by kernel_rfl)) (fun _ _ _ h => h) (Or.inl ⟨by rfl, ?_⟩) ?_ ?_
        rotate_left
        · intro w'
          go_simp
          with_reducible rfl
        rotate_left
        · simp only [Act.put, sT, s0, s1, i64_w, i32_w]
          rfl
        refine pure_ (i := 2) (N := some 67) (v := ?_) (a' := ?_) #[true, true, true, false, false, false, false, false, false, false, false, false, false, false, false, false, false, false, false, false, false, false, false, false, false, false, false, false, false, false, false, false, false, false, false, false, false, false, false, false, false, false, false, false, false, false, false, false, false, false, false, false, false, false, false, false, false, false, false, false, false, false] rfl rfl (any_of HT_.out (by kernel_rfl)) (fun _ _ _ h => h) (Or.inl ⟨by rfl, ?_⟩) ?_ ?_
        rotate_left
        · intro w'
          go_simp
          with_reducible rfl
        rotate_left
        · simp only [Act.put, sT, s0, s1, i64_w, i32_w]
          rfl
        refine pure_ (i := 3) (N := some 68) (v := ?_) (a' := ?_) #[true, true, true, true, false, false, false, false, false, false, false, false, false, false, false, false, false, false, false, false, false, false, false, false, false, false, false, false, false, false, false, false, false, false, false, false, false, false, false, false, false, false, false, false, false, false, false, false, false, false, false, false, false, false, false, false, false, false, false, false, false, false] rfl rfl (any_of HT_.out (by kernel_rfl)) (fun _ _ _ h => h) (Or.inl ⟨by rfl, ?_⟩) ?_ ?_
        rotate_left
        · intro w'
          go_simp
          with_reducible rfl
        rotate_left
        · simp only [Act.put, sT, s0, s1, i64_w, i32_w]
          rfl
        refine take_ (i := 4) (N := some 69) (v := .agg c1.cells.toArray) (a' := ?_) #[true, true, true, true, true, false, false, false, false, false, false, false, false, false, false, false, false, false, false, false, false, false, false, false, false, false, false, false, false, false, false, false, false, false, false, false, false, false, false, false, false, false, false, false, false, false, false, false, false, false, false, false, false, false, false, false, false, false, false, false, false, false] rfl rfl (take_ofW HT_.out HW_.out (by kernel_rfl)) (fun _ _ _ h => h) (yieldsIf_load_mid (by rfl) 24 (.tmp 13) rfl g13 0 rfl _ _ (fun w' h => h.1.whole) Try.underlying24 rfl (i24 HCW.out)) hHeld ?_ ?_
        rotate_left
        · simp only [Act.put, sT, s0, s1]
          rfl
        refine one_ (i := 5) (N := some 70) #[true, true, true, true, true, true, false, false, false, false, false, false, false, false, false, false, false, false, false, false, false, false, false, false, false, false, false, false, false, false, false, false, false, false, false, false, false, false, false, false, false, false, false, false, false, false, false, false, false, false, false, false, false, false, false, false, false, false, false, false, false, false] rfl rfl (one_of HT_.out (by kernel_rfl)) (by decide) (fun K hK => ?_)
        refine goes_ Try.func10 (by kernel_rfl) rfl #[.agg c1.cells.toArray] (by rfl) rfl rfl (by (try simp only [List.map_toArray, List.map_cons, List.map_nil]); first | done | rfl) ?_
        refine (Right15_calls c1 HCW.out _).mono ?_
        rintro e w9 ⟨rfl, hb⟩
        rw [HCR.out]
        refine ⟨_, rfl, ?_⟩
        have HF11 := Aside0.mk (HF10.out.keep hb)
        clear HF10 hb
        refine hK.out _ _ ⟨(HF11.out.get 0 rfl), (HF11.out.get 4 rfl), (HF11.out.get 2 rfl), (HF11.out.get 1 rfl)⟩ (fun hHeld => ?_)
        clear hK K
        refine norm_ (a' := ?_) ?_ ?_
        rotate_left
        · show Act.put _ (some 70) _ = _
          simp only [Act.put, sT, s0, s1, i64_w, i32_w]
          rfl
        refine pure_ (i := 6) (N := some 71) (v := ?_) (a' := ?_) #[true, true, true, true, true, true, true, false, false, false, false, false, false, false, false, false, false, false, false, false, false, false, false, false, false, false, false, false, false, false, false, false, false, false, false, false, false, false, false, false, false, false, false, false, false, false, false, false, false, false, false, false, false, false, false, false, false, false, false, false, false, false] rfl rfl (any_of HT_.out (by kernel_rfl)) (fun _ _ _ h => h) (Or.inl ⟨by rfl, ?_⟩) ?_ ?_
        rotate_left
        · intro w'
          go_simp
          with_reducible rfl
        rotate_left
        · simp only [Act.put, sT, s0, s1, i64_w, i32_w]
          rfl
        refine pure_ (i := 7) (N := some 72) (v := ?_) (a' := ?_) #[true, true, true, true, true, true, true, true, false, false, false, false, false, false, false, false, false, false, false, false, false, false, false, false, false, false, false, false, false, false, false, false, false, false, false, false, false, false, false, false, false, false, false, false, false, false, false, false, false, false, false, false, false, false, false, false, false, false, false, false, false, false] rfl rfl (any_of HT_.out (by kernel_rfl)) (fun _ _ _ h => h) (Or.inl ⟨by rfl, ?_⟩) ?_ ?_
        rotate_left
        · intro w'
          go_simp
          with_reducible rfl
        rotate_left
        · simp only [Act.put, sT, s0, s1, i64_w, i32_w]
          rfl
        refine pure_ (i := 8) (N := some 73) (v := ?_) (a' := ?_) #[true, true, true, true, true, true, true, true, true, false, false, false, false, false, false, false, false, false, false, false, false, false, false, false, false, false, false, false, false, false, false, false, false, false, false, false, false, false, false, false, false, false, false, false, false, false, false, false, false, false, false, false, false, false, false, false, false, false, false, false, false, false] rfl rfl (any_of HT_.out (by kernel_rfl)) (fun _ _ _ h => h) (Or.inl ⟨by rfl, ?_⟩) ?_ ?_
        rotate_left
        · intro w'
          go_simp
          with_reducible rfl
        rotate_left
        · simp only [Act.put, sT, s0, s1, i64_w, i32_w]
          rfl
        refine pure_ (i := 9) (N := some 74) (v := ?_) (a' := ?_) #[true, true, true, true, true, true, true, true, true, true, false, false, false, false, false, false, false, false, false, false, false, false, false, false, false, false, false, false, false, false, false, false, false, false, false, false, false, false, false, false, false, false, false, false, false, false, false, false, false, false, false, false, false, false, false, false, false, false, false, false, false, false] rfl rfl (any_of HT_.out (by kernel_rfl)) (fun _ _ _ h => h) (Or.inl ⟨by rfl, ?_⟩) ?_ ?_
        rotate_left
        · intro w'
          go_simp
          with_reducible rfl
        rotate_left
        · simp only [Act.put, sT, s0, s1, i64_w, i32_w]
          rfl
        refine pure_ (i := 10) (N := some 75) (v := ?_) (a' := ?_) #[true, true, true, true, true, true, true, true, true, true, true, false, false, false, false, false, false, false, false, false, false, false, false, false, false, false, false, false, false, false, false, false, false, false, false, false, false, false, false, false, false, false, false, false, false, false, false, false, false, false, false, false, false, false, false, false, false, false, false, false, false, false] rfl rfl (any_of HT_.out (by kernel_rfl)) (fun _ _ _ h => h) (Or.inl ⟨by rfl, ?_⟩) ?_ ?_
        rotate_left
        · intro w'
          go_simp
          with_reducible rfl
        rotate_left
        · simp only [Act.put, sT, s0, s1, i64_w, i32_w]
          rfl
        refine pure_ (i := 11) (N := some 76) (v := ?_) (a' := ?_) #[true, true, true, true, true, true, true, true, true, true, true, true, false, false, false, false, false, false, false, false, false, false, false, false, false, false, false, false, false, false, false, false, false, false, false, false, false, false, false, false, false, false, false, false, false, false, false, false, false, false, false, false, false, false, false, false, false, false, false, false, false, false] rfl rfl (any_of HT_.out (by kernel_rfl)) (fun _ _ _ h => h) (Or.inl ⟨by rfl, ?_⟩) ?_ ?_
        rotate_left
        · intro w'
          go_simp
          with_reducible rfl
        rotate_left
        · simp only [Act.put, sT, s0, s1, i64_w, i32_w]
          rfl
        refine pure_ (i := 12) (N := some 77) (v := ?_) (a' := ?_) #[true, true, true, true, true, true, true, true, true, true, true, true, true, false, false, false, false, false, false, false, false, false, false, false, false, false, false, false, false, false, false, false, false, false, false, false, false, false, false, false, false, false, false, false, false, false, false, false, false, false, false, false, false, false, false, false, false, false, false, false, false, false] rfl rfl (any_of HT_.out (by kernel_rfl)) (fun _ _ _ h => h) (Or.inl ⟨by rfl, ?_⟩) ?_ ?_
        rotate_left
        · intro w'
          go_simp
          with_reducible rfl
        rotate_left
        · simp only [Act.put, sT, s0, s1, i64_w, i32_w]
          rfl
        refine pure_ (i := 13) (N := some 78) (v := ?_) (a' := ?_) #[true, true, true, true, true, true, true, true, true, true, true, true, true, true, false, false, false, false, false, false, false, false, false, false, false, false, false, false, false, false, false, false, false, false, false, false, false, false, false, false, false, false, false, false, false, false, false, false, false, false, false, false, false, false, false, false, false, false, false, false, false, false] rfl rfl (any_of HT_.out (by kernel_rfl)) (fun _ _ _ h => h) (Or.inl ⟨by rfl, ?_⟩) ?_ ?_
        rotate_left
        · intro w'
          go_simp
          with_reducible rfl
        rotate_left
        · simp only [Act.put, sT, s0, s1, i64_w, i32_w]
          rfl
        refine pure_ (i := 14) (N := some 79) (v := ?_) (a' := ?_) #[true, true, true, true, true, true, true, true, true, true, true, true, true, true, true, false, false, false, false, false, false, false, false, false, false, false, false, false, false, false, false, false, false, false, false, false, false, false, false, false, false, false, false, false, false, false, false, false, false, false, false, false, false, false, false, false, false, false, false, false, false, false] rfl rfl (any_of HT_.out (by kernel_rfl)) (fun _ _ _ h => h) (Or.inl ⟨by rfl, ?_⟩) ?_ ?_
        rotate_left
        · intro w'
          go_simp
          with_reducible rfl
        rotate_left
        · simp only [Act.put, sT, s0, s1, i64_w, i32_w]
          rfl
        refine pure_ (i := 15) (N := some 80) (v := ?_) (a' := ?_) #[true, true, true, true, true, true, true, true, true, true, true, true, true, true, true, true, false, false, false, false, false, false, false, false, false, false, false, false, false, false, false, false, false, false, false, false, false, false, false, false, false, false, false, false, false, false, false, false, false, false, false, false, false, false, false, false, false, false, false, false, false, false] rfl rfl (any_of HT_.out (by kernel_rfl)) (fun _ _ _ h => h) (Or.inl ⟨by rfl, ?_⟩) ?_ ?_
        rotate_left
        · intro w'
          go_simp
          with_reducible rfl
        rotate_left
        · simp only [Act.put, sT, s0, s1, i64_w, i32_w]
          rfl
        refine take_ (i := 16) (N := some 81) (v := ?_) (a' := ?_) #[true, true, true, true, true, true, true, true, true, true, true, true, true, true, true, true, true, false, false, false, false, false, false, false, false, false, false, false, false, false, false, false, false, false, false, false, false, false, false, false, false, false, false, false, false, false, false, false, false, false, false, false, false, false, false, false, false, false, false, false, false, false] rfl rfl (take_ofW HT_.out HW_.out (by kernel_rfl)) (fun _ _ _ h => h) (Or.inl ⟨by rfl, ?_⟩) hHeld ?_ ?_
        rotate_left
        · intro w' h
          have hc_ := h.2.2.2.at_ (i := 0) rfl
          go_simp
          with_reducible rfl
        rotate_left
        · simp only [Act.put, sT, s0, s1]
          rfl
        refine pure_ (i := 17) (N := some 82) (v := ?_) (a' := ?_) #[true, true, true, true, true, true, true, true, true, true, true, true, true, true, true, true, true, true, false, false, false, false, false, false, false, false, false, false, false, false, false, false, false, false, false, false, false, false, false, false, false, false, false, false, false, false, false, false, false, false, false, false, false, false, false, false, false, false, false, false, false, false] rfl rfl (any_of HT_.out (by kernel_rfl)) (fun _ _ _ h => h) (Or.inl ⟨by rfl, ?_⟩) ?_ ?_
        rotate_left
        · intro w'
          go_simp
          with_reducible rfl
        rotate_left
        · simp only [Act.put, sT, s0, s1, i64_w, i32_w]
          rfl
        refine pure_ (i := 18) (N := some 83) (v := ?_) (a' := ?_) #[true, true, true, true, true, true, true, true, true, true, true, true, true, true, true, true, true, true, true, false, false, false, false, false, false, false, false, false, false, false, false, false, false, false, false, false, false, false, false, false, false, false, false, false, false, false, false, false, false, false, false, false, false, false, false, false, false, false, false, false, false, false] rfl rfl (any_of HT_.out (by kernel_rfl)) (fun _ _ _ h => h) (Or.inl ⟨by rfl, ?_⟩) ?_ ?_
        rotate_left
        · intro w'
          go_simp
          with_reducible rfl
        rotate_left
        · simp only [Act.put, sT, s0, s1, i64_w, i32_w]
          rfl
        refine pure_ (i := 19) (N := some 84) (v := ?_) (a' := ?_) #[true, true, true, true, true, true, true, true, true, true, true, true, true, true, true, true, true, true, true, true, false, false, false, false, false, false, false, false, false, false, false, false, false, false, false, false, false, false, false, false, false, false, false, false, false, false, false, false, false, false, false, false, false, false, false, false, false, false, false, false, false, false] rfl rfl (any_of HT_.out (by kernel_rfl)) (fun _ _ _ h => h) (Or.inl ⟨by rfl, ?_⟩) ?_ ?_
        rotate_left
        · intro w'
          go_simp
          with_reducible rfl
        rotate_left
        · simp only [Act.put, sT, s0, s1, i64_w, i32_w]
          rfl
        refine take_ (i := 20) (N := some 85) (v := ?_) (a' := ?_) #[true, true, true, true, true, true, true, true, true, true, true, true, true, true, true, true, true, true, true, true, true, false, false, false, false, false, false, false, false, false, false, false, false, false, false, false, false, false, false, false, false, false, false, false, false, false, false, false, false, false, false, false, false, false, false, false, false, false, false, false, false, false] rfl rfl (take_ofW HT_.out HW_.out (by kernel_rfl)) (fun _ _ _ h => h) (Or.inl ⟨by rfl, ?_⟩) hHeld ?_ ?_
        rotate_left
        · intro w' h
          have hc_ := (show w'.cell? ⟨g13, 3, none⟩ = some (.int .u8 ci) by have q := Au.at3 h.1; rw [HCI.out] at q; exact q)
          go_simp
          with_reducible rfl
        rotate_left
        · simp only [Act.put, sT, s0, s1]
          rfl
        refine pure_ (i := 21) (N := some 86) (v := ?_) (a' := ?_) #[true, true, true, true, true, true, true, true, true, true, true, true, true, true, true, true, true, true, true, true, true, true, false, false, false, false, false, false, false, false, false, false, false, false, false, false, false, false, false, false, false, false, false, false, false, false, false, false, false, false, false, false, false, false, false, false, false, false, false, false, false, false] rfl rfl (any_of HT_.out (by kernel_rfl)) (fun _ _ _ h => h) (Or.inl ⟨by rfl, ?_⟩) ?_ ?_
        rotate_left
        · intro w'
          go_simp
          with_reducible rfl
        rotate_left
        · simp only [Act.put, sT, s0, s1, i64_w, i32_w]
          rfl
        refine take_ (i := 22) (N := some 87) (v := ?_) (a' := ?_) #[true, true, true, true, true, true, true, true, true, true, true, true, true, true, true, true, true, true, true, true, true, true, true, false, false, false, false, false, false, false, false, false, false, false, false, false, false, false, false, false, false, false, false, false, false, false, false, false, false, false, false, false, false, false, false, false, false, false, false, false, false, false] rfl rfl (take_ofW HT_.out HW_.out (by kernel_rfl)) (fun _ _ _ h => h) (Or.inl ⟨by rfl, ?_⟩) hHeld ?_ ?_
        rotate_left
        · intro w' h
          have hc_ := Au.at3 h.2.1
          go_simp
          with_reducible rfl
        rotate_left
        · simp only [Act.put, sT, s0, s1]
          rfl
        refine pure_ (i := 23) (N := some 88) (v := ?_) (a' := ?_) #[true, true, true, true, true, true, true, true, true, true, true, true, true, true, true, true, true, true, true, true, true, true, true, true, false, false, false, false, false, false, false, false, false, false, false, false, false, false, false, false, false, false, false, false, false, false, false, false, false, false, false, false, false, false, false, false, false, false, false, false, false, false] rfl rfl (any_of HT_.out (by kernel_rfl)) (fun _ _ _ h => h) (Or.inl ⟨by rfl, ?_⟩) ?_ ?_
        rotate_left
        · intro w'
          go_simp
          with_reducible rfl
        rotate_left
        · simp only [Act.put, sT, s0, s1, i64_w, i32_w]
          rfl
        refine pure_ (i := 24) (N := some 89) (v := ?_) (a' := ?_) #[true, true, true, true, true, true, true, true, true, true, true, true, true, true, true, true, true, true, true, true, true, true, true, true, true, false, false, false, false, false, false, false, false, false, false, false, false, false, false, false, false, false, false, false, false, false, false, false, false, false, false, false, false, false, false, false, false, false, false, false, false, false] rfl rfl (any_of HT_.out (by kernel_rfl)) (fun _ _ _ h => h) (Or.inl ⟨by rfl, ?_⟩) ?_ ?_
        rotate_left
        · intro w'
          go_simp
          with_reducible rfl
        rotate_left
        · simp only [Act.put, sT, s0, s1, i64_w, i32_w]
          rfl
        refine pure_ (i := 25) (N := some 90) (v := ?_) (a' := ?_) #[true, true, true, true, true, true, true, true, true, true, true, true, true, true, true, true, true, true, true, true, true, true, true, true, true, true, false, false, false, false, false, false, false, false, false, false, false, false, false, false, false, false, false, false, false, false, false, false, false, false, false, false, false, false, false, false, false, false, false, false, false, false] rfl rfl (any_of HT_.out (by kernel_rfl)) (fun _ _ _ h => h) (Or.inl ⟨by rfl, ?_⟩) ?_ ?_
        rotate_left
        · intro w'
          go_simp
          with_reducible rfl
        rotate_left
        · simp only [Act.put, sT, s0, s1, i64_w, i32_w]
          rfl
        refine pure_ (i := 26) (N := some 91) (v := ?_) (a' := ?_) #[true, true, true, true, true, true, true, true, true, true, true, true, true, true, true, true, true, true, true, true, true, true, true, true, true, true, true, false, false, false, false, false, false, false, false, false, false, false, false, false, false, false, false, false, false, false, false, false, false, false, false, false, false, false, false, false, false, false, false, false, false, false] rfl rfl (any_of HT_.out (by kernel_rfl)) (fun _ _ _ h => h) (Or.inl ⟨by rfl, ?_⟩) ?_ ?_
        rotate_left
        · intro w'
          go_simp
          with_reducible rfl
        rotate_left
        · simp only [Act.put, sT, s0, s1, i64_w, i32_w]
          rfl
        refine pure_ (i := 27) (N := some 92) (v := ?_) (a' := ?_) #[true, true, true, true, true, true, true, true, true, true, true, true, true, true, true, true, true, true, true, true, true, true, true, true, true, true, true, true, false, false, false, false, false, false, false, false, false, false, false, false, false, false, false, false, false, false, false, false, false, false, false, false, false, false, false, false, false, false, false, false, false, false] rfl rfl (any_of HT_.out (by kernel_rfl)) (fun _ _ _ h => h) (Or.inl ⟨by rfl, ?_⟩) ?_ ?_
        rotate_left
        · intro w'
          go_simp
          with_reducible rfl
        rotate_left
        · simp only [Act.put, sT, s0, s1, i64_w, i32_w]
          rfl
        refine pure_ (i := 28) (N := some 93) (v := ?_) (a' := ?_) #[true, true, true, true, true, true, true, true, true, true, true, true, true, true, true, true, true, true, true, true, true, true, true, true, true, true, true, true, true, false, false, false, false, false, false, false, false, false, false, false, false, false, false, false, false, false, false, false, false, false, false, false, false, false, false, false, false, false, false, false, false, false] rfl rfl (any_of HT_.out (by kernel_rfl)) (fun _ _ _ h => h) (Or.inl ⟨by rfl, ?_⟩) ?_ ?_
        rotate_left
        · intro w'
          go_simp
          with_reducible rfl
        rotate_left
        · simp only [Act.put, sT, s0, s1, i64_w, i32_w]
          rfl
        refine pure_ (i := 29) (N := some 94) (v := ?_) (a' := ?_) #[true, true, true, true, true, true, true, true, true, true, true, true, true, true, true, true, true, true, true, true, true, true, true, true, true, true, true, true, true, true, false, false, false, false, false, false, false, false, false, false, false, false, false, false, false, false, false, false, false, false, false, false, false, false, false, false, false, false, false, false, false, false] rfl rfl (any_of HT_.out (by kernel_rfl)) (fun _ _ _ h => h) (Or.inl ⟨by rfl, ?_⟩) ?_ ?_
        rotate_left
        · intro w'
          go_simp
          with_reducible rfl
        rotate_left
        · simp only [Act.put, sT, s0, s1, i64_w, i32_w]
          rfl
        refine take_ (i := 30) (N := some 95) (v := ?_) (a' := ?_) #[true, true, true, true, true, true, true, true, true, true, true, true, true, true, true, true, true, true, true, true, true, true, true, true, true, true, true, true, true, true, true, false, false, false, false, false, false, false, false, false, false, false, false, false, false, false, false, false, false, false, false, false, false, false, false, false, false, false, false, false, false, false] rfl rfl (take_ofW HT_.out HW_.out (by kernel_rfl)) (fun _ _ _ h => h) (Or.inl ⟨by rfl, ?_⟩) hHeld ?_ ?_
        rotate_left
        · intro w' h
          have hc_ := (show w'.cell? ⟨gp, 1, none⟩ = some (.int .u8 ci) by have q := h.2.2.2.at_ (i := 1) (x := .int .u8 (askI b.id)) rfl; rw [HCIE.out] at q; exact q)
          go_simp
          with_reducible rfl
        rotate_left
        · simp only [Act.put, sT, s0, s1]
          rfl
        refine pure_ (i := 31) (N := some 96) (v := ?_) (a' := ?_) #[true, true, true, true, true, true, true, true, true, true, true, true, true, true, true, true, true, true, true, true, true, true, true, true, true, true, true, true, true, true, true, true, false, false, false, false, false, false, false, false, false, false, false, false, false, false, false, false, false, false, false, false, false, false, false, false, false, false, false, false, false, false] rfl rfl (any_of HT_.out (by kernel_rfl)) (fun _ _ _ h => h) (Or.inl ⟨by rfl, ?_⟩) ?_ ?_
        rotate_left
        · intro w'
          go_simp
          with_reducible rfl
        rotate_left
        · simp only [Act.put, sT, s0, s1, i64_w, i32_w]
          rfl
        refine take_ (i := 32) (N := some 97) (v := ?_) (a' := ?_) #[true, true, true, true, true, true, true, true, true, true, true, true, true, true, true, true, true, true, true, true, true, true, true, true, true, true, true, true, true, true, true, true, true, false, false, false, false, false, false, false, false, false, false, false, false, false, false, false, false, false, false, false, false, false, false, false, false, false, false, false, false, false] rfl rfl (take_ofW HT_.out HW_.out (by kernel_rfl)) (fun _ _ _ h => h) (Or.inl ⟨by rfl, ?_⟩) hHeld ?_ ?_
        rotate_left
        · intro w' h
          have hc_ := (show w'.cell? ⟨g13, 3, none⟩ = some (.int .u8 ci) by have q := Au.at3 h.1; rw [HCI.out] at q; exact q)
          go_simp
          with_reducible rfl
        rotate_left
        · simp only [Act.put, sT, s0, s1]
          rfl
        refine pure_ (i := 33) (N := some 98) (v := ?_) (a' := ?_) #[true, true, true, true, true, true, true, true, true, true, true, true, true, true, true, true, true, true, true, true, true, true, true, true, true, true, true, true, true, true, true, true, true, true, false, false, false, false, false, false, false, false, false, false, false, false, false, false, false, false, false, false, false, false, false, false, false, false, false, false, false, false] rfl rfl (any_of HT_.out (by kernel_rfl)) (fun _ _ _ h => h) (Or.inl ⟨by rfl, ?_⟩) ?_ ?_
        rotate_left
        · intro w'
          go_simp
          with_reducible rfl
        rotate_left
        · simp only [Act.put, sT, s0, s1, i64_w, i32_w]
          rfl
        refine pure_ (i := 34) (N := some 99) (v := ?_) (a' := ?_) #[true, true, true, true, true, true, true, true, true, true, true, true, true, true, true, true, true, true, true, true, true, true, true, true, true, true, true, true, true, true, true, true, true, true, true, false, false, false, false, false, false, false, false, false, false, false, false, false, false, false, false, false, false, false, false, false, false, false, false, false, false, false] rfl rfl (any_of HT_.out (by kernel_rfl)) (fun _ _ _ h => h) (Or.inl ⟨by rfl, ?_⟩) ?_ ?_
        rotate_left
        · intro w'
          go_simp
          with_reducible rfl
        rotate_left
        · simp only [Act.put, sT, s0, s1, i64_w, i32_w]
          rfl
        refine pure_ (i := 35) (N := some 100) (v := ?_) (a' := ?_) #[true, true, true, true, true, true, true, true, true, true, true, true, true, true, true, true, true, true, true, true, true, true, true, true, true, true, true, true, true, true, true, true, true, true, true, true, false, false, false, false, false, false, false, false, false, false, false, false, false, false, false, false, false, false, false, false, false, false, false, false, false, false] rfl rfl (any_of HT_.out (by kernel_rfl)) (fun _ _ _ h => h) (Or.inl ⟨by rfl, ?_⟩) ?_ ?_
        rotate_left
        · intro w'
          go_simp
          with_reducible rfl
        rotate_left
        · simp only [Act.put, sT, s0, s1, i64_w, i32_w]
          rfl
        refine pure_ (i := 36) (N := some 101) (v := ?_) (a' := ?_) #[true, true, true, true, true, true, true, true, true, true, true, true, true, true, true, true, true, true, true, true, true, true, true, true, true, true, true, true, true, true, true, true, true, true, true, true, true, false, false, false, false, false, false, false, false, false, false, false, false, false, false, false, false, false, false, false, false, false, false, false, false, false] rfl rfl (any_of HT_.out (by kernel_rfl)) (fun _ _ _ h => h) (Or.inl ⟨by rfl, ?_⟩) ?_ ?_
        rotate_left
        · intro w'
          go_simp
          with_reducible rfl
        rotate_left
        · simp only [Act.put, sT, s0, s1, i64_w, i32_w]
          rfl
        refine take_ (i := 37) (N := some 102) (v := .agg (ints vi).toArray) (a' := ?_) #[true, true, true, true, true, true, true, true, true, true, true, true, true, true, true, true, true, true, true, true, true, true, true, true, true, true, true, true, true, true, true, true, true, true, true, true, true, true, false, false, false, false, false, false, false, false, false, false, false, false, false, false, false, false, false, false, false, false, false, false, false, false] rfl rfl (take_ofW HT_.out HW_.out (by kernel_rfl)) (fun _ _ _ h => h) (yieldsIf_load_mid (by rfl) 22 (.tmp 101) rfl g13 4 rfl _ _ (fun w' h => (show w'.rangeAt g13 4 (ints vi) by have q := Au.atVal h.1; rw [HCV.out] at q; exact q)) Try.underlying22 rfl (i22 HVI.out)) hHeld ?_ ?_
        rotate_left
        · simp only [Act.put, sT, s0, s1]
          rfl
        refine take_ (i := 38) (N := some 103) (v := .agg (ints vi).toArray) (a' := ?_) #[true, true, true, true, true, true, true, true, true, true, true, true, true, true, true, true, true, true, true, true, true, true, true, true, true, true, true, true, true, true, true, true, true, true, true, true, true, true, true, false, false, false, false, false, false, false, false, false, false, false, false, false, false, false, false, false, false, false, false, false, false, false] rfl rfl (take_ofW HT_.out HW_.out (by kernel_rfl)) (fun _ _ _ h => h) (yieldsIf_load_mid (by rfl) 22 (.tmp 12) rfl g12 0 rfl _ _ (fun w' h => h.2.2.1.whole) Try.underlying22 rfl (i22 HVI.out)) hHeld ?_ ?_
        rotate_left
        · simp only [Act.put, sT, s0, s1]
          rfl
        refine pure_ (i := 39) (N := some 104) (v := .bool false) (a' := ?_) #[true, true, true, true, true, true, true, true, true, true, true, true, true, true, true, true, true, true, true, true, true, true, true, true, true, true, true, true, true, true, true, true, true, true, true, true, true, true, true, true, false, false, false, false, false, false, false, false, false, false, false, false, false, false, false, false, false, false, false, false, false, false] rfl rfl (any_of HT_.out (by kernel_rfl)) (fun _ _ _ h => h) (Or.inl ⟨by rfl, ?_⟩) ?_ ?_
        · intro w'
          exact neq_yields rfl rfl rfl (neR_self HVI.out)
        rotate_left
        · simp only [Act.put, sT, s0, s1]
          rfl
        refine pure_ (i := 40) (N := some 105) (v := ?_) (a' := ?_) #[true, true, true, true, true, true, true, true, true, true, true, true, true, true, true, true, true, true, true, true, true, true, true, true, true, true, true, true, true, true, true, true, true, true, true, true, true, true, true, true, true, false, false, false, false, false, false, false, false, false, false, false, false, false, false, false, false, false, false, false, false, false] rfl rfl (any_of HT_.out (by kernel_rfl)) (fun _ _ _ h => h) (Or.inl ⟨by rfl, ?_⟩) ?_ ?_
        rotate_left
        · intro w'
          go_simp
          with_reducible rfl
        rotate_left
        · simp only [Act.put, sT, s0, s1, i64_w, i32_w]
          rfl
        refine pure_ (i := 41) (N := some 106) (v := ?_) (a' := ?_) #[true, true, true, true, true, true, true, true, true, true, true, true, true, true, true, true, true, true, true, true, true, true, true, true, true, true, true, true, true, true, true, true, true, true, true, true, true, true, true, true, true, true, false, false, false, false, false, false, false, false, false, false, false, false, false, false, false, false, false, false, false, false] rfl rfl (any_of HT_.out (by kernel_rfl)) (fun _ _ _ h => h) (Or.inl ⟨by rfl, ?_⟩) ?_ ?_
        rotate_left
        · intro w'
          go_simp
          with_reducible rfl
        rotate_left
        · simp only [Act.put, sT, s0, s1, i64_w, i32_w]
          rfl
        refine pure_ (i := 42) (N := some 107) (v := ?_) (a' := ?_) #[true, true, true, true, true, true, true, true, true, true, true, true, true, true, true, true, true, true, true, true, true, true, true, true, true, true, true, true, true, true, true, true, true, true, true, true, true, true, true, true, true, true, true, false, false, false, false, false, false, false, false, false, false, false, false, false, false, false, false, false, false, false] rfl rfl (any_of HT_.out (by kernel_rfl)) (fun _ _ _ h => h) (Or.inl ⟨by rfl, ?_⟩) ?_ ?_
        rotate_left
        · intro w'
          go_simp
          with_reducible rfl
        rotate_left
        · simp only [Act.put, sT, s0, s1, i64_w, i32_w]
          rfl
        refine pure_ (i := 43) (N := some 108) (v := ?_) (a' := ?_) #[true, true, true, true, true, true, true, true, true, true, true, true, true, true, true, true, true, true, true, true, true, true, true, true, true, true, true, true, true, true, true, true, true, true, true, true, true, true, true, true, true, true, true, true, false, false, false, false, false, false, false, false, false, false, false, false, false, false, false, false, false, false] rfl rfl (any_of HT_.out (by kernel_rfl)) (fun _ _ _ h => h) (Or.inl ⟨by rfl, ?_⟩) ?_ ?_
        rotate_left
        · intro w'
          go_simp
          with_reducible rfl
        rotate_left
        · simp only [Act.put, sT, s0, s1, i64_w, i32_w]
          rfl
        refine pure_ (i := 44) (N := some 109) (v := ?_) (a' := ?_) #[true, true, true, true, true, true, true, true, true, true, true, true, true, true, true, true, true, true, true, true, true, true, true, true, true, true, true, true, true, true, true, true, true, true, true, true, true, true, true, true, true, true, true, true, true, false, false, false, false, false, false, false, false, false, false, false, false, false, false, false, false, false] rfl rfl (any_of HT_.out (by kernel_rfl)) (fun _ _ _ h => h) (Or.inl ⟨by rfl, ?_⟩) ?_ ?_
        rotate_left
        · intro w'
          go_simp
          with_reducible rfl
        rotate_left
        · simp only [Act.put, sT, s0, s1, i64_w, i32_w]
          rfl
        refine pure_ (i := 45) (N := some 110) (v := ?_) (a' := ?_) #[true, true, true, true, true, true, true, true, true, true, true, true, true, true, true, true, true, true, true, true, true, true, true, true, true, true, true, true, true, true, true, true, true, true, true, true, true, true, true, true, true, true, true, true, true, true, false, false, false, false, false, false, false, false, false, false, false, false, false, false, false, false] rfl rfl (any_of HT_.out (by kernel_rfl)) (fun _ _ _ h => h) (Or.inl ⟨by rfl, ?_⟩) ?_ ?_
        rotate_left
        · intro w'
          go_simp
          with_reducible rfl
        rotate_left
        · simp only [Act.put, sT, s0, s1, i64_w, i32_w]
          rfl
        refine pure_ (i := 46) (N := some 111) (v := ?_) (a' := ?_) #[true, true, true, true, true, true, true, true, true, true, true, true, true, true, true, true, true, true, true, true, true, true, true, true, true, true, true, true, true, true, true, true, true, true, true, true, true, true, true, true, true, true, true, true, true, true, true, false, false, false, false, false, false, false, false, false, false, false, false, false, false, false] rfl rfl (any_of HT_.out (by kernel_rfl)) (fun _ _ _ h => h) (Or.inl ⟨by rfl, ?_⟩) ?_ ?_
        rotate_left
        · intro w'
          go_simp
          with_reducible rfl
        rotate_left
        · simp only [Act.put, sT, s0, s1, i64_w, i32_w]
          rfl
        refine pure_ (i := 47) (N := some 112) (v := ?_) (a' := ?_) #[true, true, true, true, true, true, true, true, true, true, true, true, true, true, true, true, true, true, true, true, true, true, true, true, true, true, true, true, true, true, true, true, true, true, true, true, true, true, true, true, true, true, true, true, true, true, true, true, false, false, false, false, false, false, false, false, false, false, false, false, false, false] rfl rfl (any_of HT_.out (by kernel_rfl)) (fun _ _ _ h => h) (Or.inl ⟨by rfl, ?_⟩) ?_ ?_
        rotate_left
        · intro w'
          go_simp
          with_reducible rfl
        rotate_left
        · simp only [Act.put, sT, s0, s1, i64_w, i32_w]
          rfl
        refine pure_ (i := 48) (N := some 113) (v := undef) (a' := ?_) #[true, true, true, true, true, true, true, true, true, true, true, true, true, true, true, true, true, true, true, true, true, true, true, true, true, true, true, true, true, true, true, true, true, true, true, true, true, true, true, true, true, true, true, true, true, true, true, true, true, false, false, false, false, false, false, false, false, false, false, false, false, false] rfl rfl (any_of HT_.out (by kernel_rfl)) (fun _ _ _ h => h) (Or.inr ⟨by rfl, rfl⟩) ?_ ?_
        rotate_left
        · simp only [Act.put, sT, s0, s1]
          rfl
        refine pure_ (i := 49) (N := some 114) (v := undef) (a' := ?_) #[true, true, true, true, true, true, true, true, true, true, true, true, true, true, true, true, true, true, true, true, true, true, true, true, true, true, true, true, true, true, true, true, true, true, true, true, true, true, true, true, true, true, true, true, true, true, true, true, true, true, false, false, false, false, false, false, false, false, false, false, false, false] rfl rfl (any_of HT_.out (by kernel_rfl)) (fun _ _ _ h => h) (Or.inr ⟨by rfl, rfl⟩) ?_ ?_
        rotate_left
        · simp only [Act.put, sT, s0, s1]
          rfl
        refine pure_ (i := 50) (N := some 115) (v := undef) (a' := ?_) #[true, true, true, true, true, true, true, true, true, true, true, true, true, true, true, true, true, true, true, true, true, true, true, true, true, true, true, true, true, true, true, true, true, true, true, true, true, true, true, true, true, true, true, true, true, true, true, true, true, true, true, false, false, false, false, false, false, false, false, false, false, false] rfl rfl (any_of HT_.out (by kernel_rfl)) (fun _ _ _ h => h) (Or.inr ⟨by rfl, rfl⟩) ?_ ?_
        rotate_left
        · simp only [Act.put, sT, s0, s1]
          rfl
        refine pure_ (i := 51) (N := some 116) (v := undef) (a' := ?_) #[true, true, true, true, true, true, true, true, true, true, true, true, true, true, true, true, true, true, true, true, true, true, true, true, true, true, true, true, true, true, true, true, true, true, true, true, true, true, true, true, true, true, true, true, true, true, true, true, true, true, true, true, false, false, false, false, false, false, false, false, false, false] rfl rfl (any_of HT_.out (by kernel_rfl)) (fun _ _ _ h => h) (Or.inr ⟨by rfl, rfl⟩) ?_ ?_
        rotate_left
        · simp only [Act.put, sT, s0, s1]
          rfl
        refine pure_ (i := 52) (N := some 117) (v := undef) (a' := ?_) #[true, true, true, true, true, true, true, true, true, true, true, true, true, true, true, true, true, true, true, true, true, true, true, true, true, true, true, true, true, true, true, true, true, true, true, true, true, true, true, true, true, true, true, true, true, true, true, true, true, true, true, true, true, false, false, false, false, false, false, false, false, false] rfl rfl (any_of HT_.out (by kernel_rfl)) (fun _ _ _ h => h) (Or.inr ⟨by rfl, rfl⟩) ?_ ?_
        rotate_left
        · simp only [Act.put, sT, s0, s1]
          rfl
        refine pure_ (i := 53) (N := some 118) (v := undef) (a' := ?_) #[true, true, true, true, true, true, true, true, true, true, true, true, true, true, true, true, true, true, true, true, true, true, true, true, true, true, true, true, true, true, true, true, true, true, true, true, true, true, true, true, true, true, true, true, true, true, true, true, true, true, true, true, true, true, false, false, false, false, false, false, false, false] rfl rfl (any_of HT_.out (by kernel_rfl)) (fun _ _ _ h => h) (Or.inr ⟨by rfl, rfl⟩) ?_ ?_
        rotate_left
        · simp only [Act.put, sT, s0, s1]
          rfl
        refine pure_ (i := 54) (N := some 119) (v := undef) (a' := ?_) #[true, true, true, true, true, true, true, true, true, true, true, true, true, true, true, true, true, true, true, true, true, true, true, true, true, true, true, true, true, true, true, true, true, true, true, true, true, true, true, true, true, true, true, true, true, true, true, true, true, true, true, true, true, true, true, false, false, false, false, false, false, false] rfl rfl (any_of HT_.out (by kernel_rfl)) (fun _ _ _ h => h) (Or.inr ⟨by rfl, rfl⟩) ?_ ?_
        rotate_left
        · simp only [Act.put, sT, s0, s1]
          rfl
        refine pure_ (i := 55) (N := some 120) (v := undef) (a' := ?_) #[true, true, true, true, true, true, true, true, true, true, true, true, true, true, true, true, true, true, true, true, true, true, true, true, true, true, true, true, true, true, true, true, true, true, true, true, true, true, true, true, true, true, true, true, true, true, true, true, true, true, true, true, true, true, true, true, false, false, false, false, false, false] rfl rfl (any_of HT_.out (by kernel_rfl)) (fun _ _ _ h => h) (Or.inr ⟨by rfl, rfl⟩) ?_ ?_
        rotate_left
        · simp only [Act.put, sT, s0, s1]
          rfl
        refine pure_ (i := 56) (N := some 121) (v := undef) (a' := ?_) #[true, true, true, true, true, true, true, true, true, true, true, true, true, true, true, true, true, true, true, true, true, true, true, true, true, true, true, true, true, true, true, true, true, true, true, true, true, true, true, true, true, true, true, true, true, true, true, true, true, true, true, true, true, true, true, true, true, false, false, false, false, false] rfl rfl (any_of HT_.out (by kernel_rfl)) (fun _ _ _ h => h) (Or.inr ⟨by rfl, rfl⟩) ?_ ?_
        rotate_left
        · simp only [Act.put, sT, s0, s1]
          rfl
        refine pure_ (i := 57) (N := some 122) (v := undef) (a' := ?_) #[true, true, true, true, true, true, true, true, true, true, true, true, true, true, true, true, true, true, true, true, true, true, true, true, true, true, true, true, true, true, true, true, true, true, true, true, true, true, true, true, true, true, true, true, true, true, true, true, true, true, true, true, true, true, true, true, true, true, false, false, false, false] rfl rfl (any_of HT_.out (by kernel_rfl)) (fun _ _ _ h => h) (Or.inr ⟨by rfl, rfl⟩) ?_ ?_
        rotate_left
        · simp only [Act.put, sT, s0, s1]
          rfl
        refine pure_ (i := 58) (N := some 123) (v := undef) (a' := ?_) #[true, true, true, true, true, true, true, true, true, true, true, true, true, true, true, true, true, true, true, true, true, true, true, true, true, true, true, true, true, true, true, true, true, true, true, true, true, true, true, true, true, true, true, true, true, true, true, true, true, true, true, true, true, true, true, true, true, true, true, false, false, false] rfl rfl (any_of HT_.out (by kernel_rfl)) (fun _ _ _ h => h) (Or.inr ⟨by rfl, rfl⟩) ?_ ?_
        rotate_left
        · simp only [Act.put, sT, s0, s1]
          rfl
        refine pure_ (i := 59) (N := some 124) (v := undef) (a' := ?_) #[true, true, true, true, true, true, true, true, true, true, true, true, true, true, true, true, true, true, true, true, true, true, true, true, true, true, true, true, true, true, true, true, true, true, true, true, true, true, true, true, true, true, true, true, true, true, true, true, true, true, true, true, true, true, true, true, true, true, true, true, false, false] rfl rfl (any_of HT_.out (by kernel_rfl)) (fun _ _ _ h => h) (Or.inr ⟨by rfl, rfl⟩) ?_ ?_
        rotate_left
        · simp only [Act.put, sT, s0, s1]
          rfl
        refine pure_ (i := 60) (N := some 125) (v := ?_) (a' := ?_) #[true, true, true, true, true, true, true, true, true, true, true, true, true, true, true, true, true, true, true, true, true, true, true, true, true, true, true, true, true, true, true, true, true, true, true, true, true, true, true, true, true, true, true, true, true, true, true, true, true, true, true, true, true, true, true, true, true, true, true, true, true, false] rfl rfl (any_of HT_.out (by kernel_rfl)) (fun _ _ _ h => h) (Or.inl ⟨by rfl, ?_⟩) ?_ ?_
        rotate_left
        · intro w'
          go_simp
          with_reducible rfl
        rotate_left
        · simp only [Act.put, sT, s0, s1, i64_w, i32_w]
          rfl
        refine pure_ (i := 61) (N := some 126) (v := ?_) (a' := ?_) #[true, true, true, true, true, true, true, true, true, true, true, true, true, true, true, true, true, true, true, true, true, true, true, true, true, true, true, true, true, true, true, true, true, true, true, true, true, true, true, true, true, true, true, true, true, true, true, true, true, true, true, true, true, true, true, true, true, true, true, true, true, true] rfl rfl (any_of HT_.out (by kernel_rfl)) (fun _ _ _ h => h) (Or.inl ⟨by rfl, ?_⟩) ?_ ?_
        rotate_left
        · intro w'
          go_simp
          with_reducible rfl
        rotate_left
        · simp only [Act.put, sT, s0, s1, i64_w, i32_w]
          rfl
        refine done_ (done_of HT_.out (by kernel_rfl)) ?_
        clear hHeld
        go_wp2_with (first
          | ((with_reducible refine wpList_load_mid rfl 24 (.tmp 13) rfl g13 0 ?hx (c1.cells) _ ?hc Try.underlying24 rfl ?hi ?_); (case hx => rfl); (case hc => exact (HF11.out.get 0 rfl).whole); (case hi => exact i24 HCW.out))
          | ((with_reducible refine wpList_store_mid rfl 24 (.tmp 8) (.tmp 131) rfl g8 0 (c1.cells).toArray ?hx ?hy ?h5 ?h6 ?h7 ?_); (case hx => rfl); (case hy => rfl); (case h5 => exact (HF11.out.get 4 rfl).there (by rw [List.size_toArray, Nat.zero_add]; exact Nat.le_of_eq (Eq.symm ((Au.length HBW.out).trans (Au.length HCW.out).symm)))); (case h6 => exact i24 HCW.out); (case h7 => exact Au.one _); have HF12 := Aside0.mk (HF11.out.over 4 rfl (c1.cells) ((Au.length HBW.out).trans (Au.length HCW.out).symm)); clear HF11))
        have HF13 := Aside0.mk (show Fam w [(g9, 28, pk 1 (askI a.id) (.slice Aq 26 cq)), (g8, 24, c1.cells), (g4, 22, ints v), (g3, 24, a.cells)] _ from ends_tail (ends_tail (ends_tail HF12.out)))
        go_roundw
        case rel => exact ⟨i + 1, c1, hlt, by rw [HSM.out, HSE.out]; first | rfl | (congr 1; omega), by first | (rw [e1]; done) | (rw [e1]; rfl) | go_num, ⟨HT.out.1⟩, HCW, HF13⟩
        case measure => first | (rw [e1]; simp only [intOf, Int.toNat_natCast]; omega) | (simp only [intOf]; omega)
    · obtain rfl : i = k := by omega
      clear hlt hi
      have h80 := Au.at0 (HF1.out.get 1 rfl)
      obtain ⟨sn, hsn⟩ : ∃ sn, endsN i = sn := ⟨_, rfl⟩
      rw [hsn]
      have HSN := Aside0.mk hsn
      clear hsn
      rcases Nat.lt_or_ge i 16 with h16 | h16
      · have hst := (HP.out.on h16).1
        rw [hst] at h80
        have hn : sn = 1 + i / 4 := by rw [← HSN.out]; unfold endsN; omega
        clear hst
        go_wp2
        go_ret
        exact ⟨by show Ending.returned (Value.bool (!decide ((16 : Int) ≤ (i : Int)))) = _; rw [decide_eq_false (by omega)]; rfl, HF1.out.bel⟩
      · have hst := (HP.out.off h16).1
        rw [hst] at h80
        have hn : sn = 4 := by rw [← HSN.out]; unfold endsN; omega
        clear hst
        go_wp2
        go_ret
        exact ⟨rfl, HF1.out.bel⟩
end Go.Proofs.Ytpbkdphilcodmaa.Q
