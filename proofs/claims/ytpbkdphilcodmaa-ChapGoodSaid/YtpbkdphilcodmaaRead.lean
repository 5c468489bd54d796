/- portreevelaw15.ChapRead: its walk. -/
import Derived.Test.YtpbkdphilcodmaaShown
import Derived.Test.YtpbkdphilcodmaaReaders
namespace Go.Proofs.Ytpbkdphilcodmaa.Q
open Go Go.RowKit Go.Proofs.YtpbkdphilcodmaaW.PrintWords Go.Proofs.YtpbkdphilcodmaaW.PrintLast Go.Proofs.YtpbkdphilcodmaaW.PrintMore
open Go.Proofs.YtpbkdphilcodmaaV Go.Proofs.Ytpbkdphilcodmaa.Pure
set_option linter.unusedVariables false
set_option linter.unusedSimpArgs false
theorem Fam.tail {w W : World} {x : Bk} {L : List Bk} (h : Fam w (x :: L) W) : Fam w L W :=
  ⟨h.bel, fun y hy => h.all y (List.mem_cons_of_mem _ hy), fun y hy => h.lo y (List.mem_cons_of_mem _ hy), (List.nodup_cons.1 h.nd).2⟩
/-- An append to the family's first row: the row that came is the family's first. -/
theorem app_step {w W : World} {L : List Bk} {g : Nat} {l m : List Int} {sp : List Value} {a : Addr} {c ty : Nat} (h : Fam w ((g, 5, ints l ++ sp) :: L) W) (hsrc : ∀ j u, (ints m)[j]? = some u → W.cell? (a.add j) = some u) (hl : l.length + m.length ≤ 100000) :
    ∃ g' sp' w', (Builtin.append_ #[26, 26] ty #[.slice (some ⟨g, 0, none⟩) l.length (l.length + sp.length), .slice (some a) m.length c]).run Try.prog W = .ok (.slice (some ⟨g', 0, none⟩) (l ++ m).length ((l ++ m).length + sp'.length)) w' ∧ Fam w ((g', 5, ints (l ++ m) ++ sp') :: L) w' := by
  have hB := h.get 0 rfl
  by_cases hr : m.length ≤ sp.length
  · obtain ⟨i0, hi0, hz, hs, hby⟩ := info_parts info5
    have hlen : (ints l ++ sp).length = l.length + sp.length := by rw [List.length_append, ints_length]
    have hrun := run_append_room_cells (P := Try.prog) W 26 ty 5 i0 Try.underlying26 hi0 g 0 l.length (l.length + sp.length) a m.length c (ints m) (by rw [ints_length, hs, Nat.mul_one]) hsrc (fun u hu => by
        unfold ints at hu
        obtain ⟨x, _, rfl⟩ := List.mem_map.1 hu
        rfl) (by omega) (fun j hj => (hB.there (o := l.length) (n := m.length) (by rw [hlen]; omega) j (by rwa [ints_length] at hj) |> fun q => by rw [hs, Nat.mul_one, Nat.zero_add]; exact q.1)) (fun j hj => hB.frozen)
    rw [hs, Nat.mul_one, Nat.zero_add] at hrun
    have hst := Blk.store (g := g) (t := 5) (sp.take m.length) (ints m) (w := W) (pre := ints l) (post := sp.drop m.length) (by rw [List.append_assoc, List.take_append_drop]; exact hB) (by rw [List.length_take, ints_length, Nat.min_eq_left hr])
    rw [ints_length] at hst
    have hF := h.cells 0 rfl (j := l.length) (vs := ints m) (cs' := ints (l ++ m) ++ sp.drop m.length) (by rw [ints_app]; exact hst)
    refine ⟨g, sp.drop m.length, _, ?_, hF⟩
    rw [List.length_append, List.length_drop, show l.length + m.length + (sp.length - m.length) = l.length + sp.length by omega]
    exact hrun
  · obtain ⟨g', sp', w', hrun, hF, hb⟩ := app_grow (cap := l.length + sp.length) (ty := ty) (c := c) h.tail hB hsrc (by omega) hl
    exact ⟨g', sp', w', hrun, hF⟩
theorem strB_go : ∀ (xs : List UInt8) (r : ByteArray), ((xs.map fun b => (b.toNat : Int)).foldl (fun r n => r.push (UInt8.ofNat n.toNat)) r).data.toList = r.data.toList ++ xs
  | [], r => by simp
  | x :: xs, r => by
    rw [List.map_cons, List.foldl_cons, strB_go xs]
    have : (r.push (UInt8.ofNat ((x.toNat : Int)).toNat)).data.toList = r.data.toList ++ [x] := by
      rw [Int.toNat_natCast, UInt8.ofNat_toNat]
      show (r.data.push x).toList = _
      rw [Array.toList_push]
    rw [this, List.append_assoc]
    rfl
theorem strB_nums (s : ByteArray) : strB (nums s) = s := by
  have h := strB_go s.data.toList ByteArray.empty
  have h2 : (strB (nums s)).data.toList = s.data.toList := by
    unfold strB nums
    rw [h]
    rfl
  cases hs : strB (nums s)
  rw [hs] at h2
  cases s
  congr
  exact Array.toList_inj.1 h2
theorem read_B (code : Int) (n : ByteArray) {v : List Int} (hv : v.length = 16) : ansB code ([16] ++ v ++ nums n) = decide (code = 2 ∧ 1 ≤ n.size ∧ n.size ≤ 16) := by
  unfold ansB
  rw [decide_eq_decide]
  have h1 : ([16] ++ v ++ nums n).length = 17 + n.size := by simp only [List.length_append, nums_length, hv, List.length_cons, List.length_nil]
  have h2 : ([16] ++ v ++ nums n).getD 0 0 = 16 := rfl
  rw [h1, h2]
  omega
theorem read_T (code : Int) (n : ByteArray) {v : List Int} (hv : v.length = 16) (h : ansB code ([16] ++ v ++ nums n) = true) : ansN code ([16] ++ v ++ nums n) = n ∧ ansV code ([16] ++ v ++ nums n) = v := by
  have hl : ([16] ++ v : List Int).length = 17 := by rw [List.length_append, hv]; rfl
  refine ⟨?_, ?_⟩
  · unfold ansN
    rw [h, if_pos rfl, ← hl, List.drop_left, strB_nums]
  · unfold ansV
    rw [h, if_pos rfl, ← hl, List.take_left]
    rfl
theorem read_F (code : Int) (l : List Int) (h : ansB code l = false) : ansN code l = ⟨#[]⟩ ∧ ansV code l = no16 := by
  unfold ansN ansV
  rw [h]
  exact ⟨rfl, rfl⟩
section
variable {n : ByteArray} {v : List Int} {code id : Int} {w : World} {g : Nat}
theorem read_0 (h : Blk w g 46 (readL n v code id)) : w.cell? ⟨g, 0, none⟩ = some (.string n) := h.at_ rfl
theorem read_1 (h : Blk w g 46 (readL n v code id)) : w.rangeAt g 1 (ints v) := Blk.range (pre := [.string n]) (post := [.int .u8 code, .int .u8 id]) h rfl
theorem read_17 (hv : v.length = 16) (h : Blk w g 46 (readL n v code id)) : w.cell? ⟨g, 17, none⟩ = some (.int .u8 code) := by
  have h1 := Blk.range (pre := [.string n] ++ ints v) (old := [.int .u8 code, .int .u8 id]) (post := []) (by rw [List.append_nil]; exact h) (o := 17) (by rw [List.length_append, ints_length, hv]; rfl)
  exact h1 0 _ rfl
theorem read_18 (hv : v.length = 16) (h : Blk w g 46 (readL n v code id)) : w.cell? ⟨g, 18, none⟩ = some (.int .u8 id) := by
  have h1 := Blk.range (pre := [.string n] ++ ints v) (old := [.int .u8 code, .int .u8 id]) (post := []) (by rw [List.append_nil]; exact h) (o := 17) (by rw [List.length_append, ints_length, hv]; rfl)
  exact h1 1 _ rfl
end
set_option maxHeartbeats 16000000 in
set_option maxRecDepth 100000 in
theorem Read_calls (n : ByteArray) (v : List Int) (hv : v.length = 16) (code id : Int) (w : World) :
    Calls Try.prog 5 #[.agg (readL n v code id).toArray] w fun e w' => e = .returned (.bool true) ∧ Below w.heap.size w w' := by
  have HV := Aside0.mk hv
  clear hv
  obtain ⟨cs, hcs⟩ : ∃ cs, cs = (readL n v code id).toArray := ⟨_, rfl⟩
  rw [← hcs]
  have HCS := Aside0.mk hcs
  clear hcs
  go_enter Try.func5, Try.ntmps5
  go_upto_region 1 with (first
    | ((with_reducible refine gate_dst (N := 1) rfl ?_); refine box_event ?hg (N := 1) ?hd (cs := cs) (t := 46) ?hr ?_; (case hd => rfl); (case hg => rfl); (case hr => first | (go_simp; done) | (go_simp; rfl)); intro g1 hg w1 hbox hb; rw [HCS.out] at hbox; have HF1 := Aside0.mk (show Fam w [(g1, 46, readL n v code id)] w1 from (Fam.start (Below.refl _ _)).box hg hbox hb); clear hbox hb hg))
  have hr0 := read_0 (HF1.out.get 0 rfl)
  go_upto_region 3 with (first
    | ((with_reducible refine wpList_load_mid rfl 22 (.tmp 16) rfl g1 1 ?hx (ints v) _ ?hc Try.underlying22 rfl ?hi ?_); (case hx => rfl); (case hc => exact read_1 (HF1.out.get 0 rfl)); (case hi => exact i22 HV.out))
    | ((with_reducible refine gate_dst (N := 4) rfl ?_); refine box_event ?hg (N := 4) ?hd (cs := (ints no16).toArray) (t := 22) ?hr ?_; (case hd => rfl); (case hg => rfl); (case hr => first | (go_simp; done) | (go_simp; rfl)); intro g4 hg w2 hbox hb; have HF2 := Aside0.mk (show Fam w [(g4, 22, ints no16), (g1, 46, readL n v code id)] w2 from HF1.out.box hg hbox hb); clear hbox hb hg HF1)
    | ((with_reducible refine wpList_store_mid rfl 22 (.tmp 4) (.tmp 17) rfl g4 0 (ints v).toArray ?hx ?hy ?h5 ?h6 ?h7 ?_); (case hx => rfl); (case hy => rfl); (case h5 => exact (HF2.out.get 0 rfl).there (by rw [List.size_toArray, Nat.zero_add]; exact Nat.le_of_eq (Eq.symm (v16 HV.out)))); (case h6 => exact i22 HV.out); (case h7 => exact ints_one _); have HF3 := Aside0.mk (HF2.out.over 0 rfl (ints v) (v16 HV.out)); clear HF2))
  clear hr0
  have HF4 := Aside0.mk (show Fam w [(g4, 22, ints v), (g1, 46, readL n v code id)] _ from HF3.out)
  clear HF3
  generalize World.setCells _ _ _ _ = w3 at HF4 ⊢
  have hr17 := read_17 HV.out (HF4.out.get 1 rfl)
  have hr18 := read_18 HV.out (HF4.out.get 1 rfl)
  go_upto_region 6 with (first
    | (go_at_call 9; refine (shown_calls _).mono ?_; rintro e w4 ⟨rfl, hb⟩; have HF5 := Aside0.mk (HF4.out.keep hb); clear HF4 hb hr17 hr18))
  by_cases h50 : (50 : Int) < (n.size : Int)
  · go_wp2
    go_ret
    exact ⟨rfl, HF5.out.bel⟩
  have h50' : ¬ (50 : Int) < (n.size : Int) := h50
  go_upto_region 9 with (first
    | ((with_reducible refine gate_dst (N := 27) rfl ?_); refine Kd.event_run (v := .slice (some ⟨w4.heap.size, 0, none⟩) 1 1) (w1 := w4.alloc (.cells (ints [16]).toArray 5)) rfl ?hr ?_; (case hr => first | (go_simp; done) | (go_simp; rfl))))
  have HF6 := Aside0.mk (show Fam w ((w4.heap.size, 5, ints ([16] ++ v.take 0) ++ []) :: [(g4, 22, ints v), (g1, 46, readL n v code id)]) _ from HF5.out.box rfl Blk.new (pA (Below.refl _ _) _))
  clear HF5
  generalize hg0 : w4.heap.size = g0 at HF6 ⊢
  clear hg0
  go_wp2
  go_loopw [8, 9] (fun v8 v9 wr => ∃ (i g : Nat) (sp : List Value), i ≤ 16 ∧ v8 = .slice (some ⟨g, 0, none⟩) ([16] ++ v.take i).length (([16] ++ v.take i).length + sp.length) ∧ v9 = .int .i64 i ∧ Aside0 (Fam w ((g, 5, ints ([16] ++ v.take i) ++ sp) :: [(g4, 22, ints v), (g1, 46, readL n v code id)]) wr)) (fun v8 v9 _ => 16 - (intOf v9).toNat)
  case atStart => exact ⟨0, g0, [], by omega, rfl, rfl, HF6⟩
  case round =>
    obtain ⟨i, g, sp0, hi, rfl, rfl, HF7⟩ := hrel
    clear HF6
    by_cases hlt : i < 16
    · have hlt' : (i : Int) < 16 := by omega
      obtain ⟨x, hx⟩ : ∃ x, v[i]? = some x := ⟨_, List.getElem?_eq_getElem (by rw [HV.out]; exact hlt)⟩
      have hcx : wr.cell? ⟨g4, i, none⟩ = some (.int .u8 x) := (HF7.out.get 1 rfl).at_ (by unfold ints; rw [List.getElem?_map, hx]; rfl)
      have HX := Aside0.mk (show [16] ++ v.take i ++ [x] = [16] ++ v.take (i + 1) by rw [List.take_add_one, hx, List.append_assoc]; rfl)
      have HLI := Aside0.mk (show ([16] ++ v.take i).length ≤ 100 by rw [List.length_append, List.length_take]; simp only [List.length_cons, List.length_nil]; omega)
      have e1 : wrap64 ((i : Int) + 1) = ((i + 1 : Nat) : Int) := by rw [wrap64_of (by omega)]; omega
      clear hx hi
      obtain ⟨li, hli⟩ : ∃ li, [16] ++ v.take i = li := ⟨_, rfl⟩
      rw [hli] at HF7 HX HLI ⊢
      clear hli
      go_wp2_with (first
        | ((with_reducible refine gate_dst (N := 36) rfl ?_); refine Kd.event_run (v := .slice (some ⟨wr.heap.size, 0, none⟩) 1 1) (w1 := wr.alloc (.cells (ints [x]).toArray 5)) rfl ?hr ?_; (case hr => first | (go_simp; done) | (go_simp; rfl)); have HF8 := Aside0.mk (HF7.out.alloc (.cells (ints [x]).toArray 5)); have HU := Aside0.mk (Blk.new (w := wr) (t := 5) (cs := ints [x])); clear HF7 hcx)
        | ((with_reducible refine gate_dst (N := 37) rfl ?_); obtain ⟨g', sp', w7, hrun, hF⟩ := app_step (g := g) (a := ⟨wr.heap.size, 0, none⟩) (l := li) (m := [x]) (sp := sp0) (c := 1) (ty := 26) HF8.out (fun j u hj => by rw [Addr.add_mid, Nat.zero_add]; exact HU.out.at_ hj) (by have := HLI.out; simp only [List.length_cons, List.length_nil]; omega); rw [HX.out] at hrun hF; refine Kd.event_run (v := .slice (some ⟨g', 0, none⟩) ([16] ++ v.take (i + 1)).length (([16] ++ v.take (i + 1)).length + sp'.length)) (w1 := w7) rfl (app_event rfl rfl rfl ?hh) ?_; (case hh => exact hrun); have HF9 := Aside0.mk hF; clear hrun hF HF8 HU))
      go_roundw
      case rel => exact ⟨i + 1, g', sp', hlt, by rw [List.length_append, List.length_take, List.length_singleton, Nat.add_comm 1], by first | (rw [e1]; done) | (rw [e1]; rfl) | go_num, HF9⟩
      case measure => first | (rw [e1]; simp only [intOf, Int.toNat_natCast]; omega) | (simp only [intOf]; omega)
    · obtain rfl : i = 16 := by omega
      clear hlt hi
      have hvt : v.take 16 = v := List.take_of_length_le (by rw [HV.out]; exact Nat.le_refl _)
      rw [hvt] at HF7 ⊢
      clear hvt
      obtain ⟨q, hq⟩ : ∃ q, [16] ++ v ++ nums n = q := ⟨_, rfl⟩
      have HQ := Aside0.mk hq
      have HLV := Aside0.mk (show ([16] ++ v).length = 17 by rw [List.length_append, HV.out]; rfl)
      have HQL := Aside0.mk (show q.length = 17 + n.size by rw [← hq, List.length_append, HLV.out, nums_length])
      have hb0 : ansB code q = decide (code = 2 ∧ 1 ≤ n.size ∧ n.size ≤ 16) := by rw [← hq]; exact read_B code n HV.out
      clear hq
      rw [HLV.out]
      obtain ⟨w6, hw6⟩ : ∃ w6, wr = w6 := ⟨_, rfl⟩
      rw [hw6] at HF7 ⊢
      clear hw6
      have HF8 := HF7
      clear HF7
      by_cases h1 : code = 2
      · have f1 : (code == 2) = true := beq_iff_eq.mpr h1
        by_cases h2 : 1 ≤ (n.size : Int)
        · by_cases h3 : (n.size : Int) ≤ 16
          · have HB := Aside0.mk (hb0.trans (decide_eq_true ⟨h1, by omega, by omega⟩))
            clear hb0 h1
            have HQ3 := Aside0.mk (show ansN code q = n ∧ ansV code q = v by rw [← HQ.out]; exact read_T code n HV.out (by rw [HQ.out]; exact HB.out))
            go_upto_region 14 with (first
              | ((with_reducible refine gate_dst (N := 43) rfl ?_); obtain ⟨c43, w7, hrun, k43, hC43, hb⟩ := str_run w6 n (by omega); refine Kd.event_run rfl (conv_event (x := .tmp 42) rfl rfl hrun) ?_; have HC43 := Aside0.mk hC43; have HF9 := Aside0.mk (HF8.out.keep hb); clear hrun k43 hC43 hb HF8)
              | ((with_reducible refine gate_dst (N := 44) rfl ?_); obtain ⟨gq, sp, w8, hrun, hF⟩ := app_step (g := g) (a := ⟨w6.heap.size, 0, none⟩) (l := [16] ++ v) (m := nums n) (sp := sp0) (c := c43) (ty := 26) HF9.out (cells_C HC43.out) (by rw [HLV.out, nums_length]; omega); rw [HQ.out, HLV.out, nums_length] at hrun; rw [HQ.out] at hF; refine Kd.event_run (v := .slice (some ⟨gq, 0, none⟩) q.length (q.length + sp.length)) (w1 := w8) rfl (app_event rfl rfl rfl hrun) ?_; have HF10 := Aside0.mk hF; clear hrun hF HF9 HC43)
              | (go_at_call 13; refine (Answer_calls code id (some ⟨gq, 0, none⟩) (q.length + sp.length) q _ (pre_C (HF10.out.get 0 rfl) (by rw [HQL.out]; omega)) (Nat.le_add_right _ _)).mono ?_; rintro e w9 ⟨rfl, hb⟩; rw [HB.out, HQ3.out.1, HQ3.out.2]; have HF11 := Aside0.mk (HF10.out.keep hb); clear hb HF10)
              | ((with_reducible refine gate_dst (N := 11) rfl ?_); refine box_event ?hg (N := 11) ?hd (cs := (ints no16).toArray) (t := 22) ?hr ?_; (case hd => rfl); (case hg => rfl); (case hr => first | (go_simp; done) | (go_simp; rfl)); intro g11 hg w10 hbox hb; have HF12 := Aside0.mk (show Fam w [(g11, 22, ints no16), (gq, 5, ints q ++ sp), (g4, 22, ints v), (g1, 46, readL n v code id)] w10 from HF11.out.box hg hbox hb); clear hbox hb hg HF11)
              | ((with_reducible refine wpList_store_mid rfl 22 (.tmp 11) (.tmp 48) rfl g11 0 (ints v).toArray ?hx ?hy ?h5 ?h6 ?h7 ?_); (case hx => rfl); (case hy => rfl); (case h5 => exact (HF12.out.get 0 rfl).there (by rw [List.size_toArray, Nat.zero_add]; exact Nat.le_of_eq (Eq.symm (v16 HV.out)))); (case h6 => exact i22 HV.out); (case h7 => exact ints_one _); have HF13 := Aside0.mk (HF12.out.over 0 rfl (ints v) (v16 HV.out)); clear HF12))
            have HF14 := Aside0.mk (show Fam w [(g11, 22, ints v), (gq, 5, ints q ++ sp), (g4, 22, ints v), (g1, 46, readL n v code id)] _ from HF13.out)
            clear HF13
            generalize World.setCells _ _ _ _ = w11 at HF14 ⊢
            have HEQ := Aside0.mk (show EqR 22 (.agg (ints v).toArray) (.agg (ints v).toArray) true by have h := eqR_ints HV.out HV.out; rw [decide_eq_true rfl] at h; exact h)
            go_wp2_with (first
              | ((with_reducible refine gate_dst (N := 76) rfl ?_); refine gate_guard (by rfl) ?_; refine wpList_load_mid rfl 22 (.tmp 11) rfl g11 0 ?hx (ints v) _ ?hc Try.underlying22 rfl ?hi ?_; (case hx => rfl); (case hc => exact (HF14.out.get 0 rfl).whole); (case hi => exact i22 HV.out))
              | ((with_reducible refine gate_dst (N := 77) rfl ?_); refine gate_guard (by rfl) ?_; refine wpList_load_mid rfl 22 (.tmp 4) rfl g4 0 ?hx (ints v) _ ?hc Try.underlying22 rfl ?hi ?_; (case hx => rfl); (case hc => exact (HF14.out.get 2 rfl).whole); (case hi => exact i22 HV.out))
              | ((with_reducible refine gate_dst (N := 78) rfl ?_); refine gate_guard (by rfl) ?_; refine Kd.event_run (v := .bool true) (w1 := w11) rfl (eql_yields rfl rfl rfl HEQ.out) ?_))
            go_ret
            exact ⟨rfl, HF14.out.bel⟩
          · have HN3 := Aside0.mk h3
            have HB := Aside0.mk (hb0.trans (decide_eq_false (fun h => h3 (by have := h.2.2; omega))))
            clear hb0 h1
            have HQ3 := Aside0.mk (read_F code q HB.out)
            go_upto_region 14 with (first
              | ((with_reducible refine gate_dst (N := 43) rfl ?_); obtain ⟨c43, w7, hrun, k43, hC43, hb⟩ := str_run w6 n (by omega); refine Kd.event_run rfl (conv_event (x := .tmp 42) rfl rfl hrun) ?_; have HC43 := Aside0.mk hC43; have HF9 := Aside0.mk (HF8.out.keep hb); clear hrun k43 hC43 hb HF8)
              | ((with_reducible refine gate_dst (N := 44) rfl ?_); obtain ⟨gq, sp, w8, hrun, hF⟩ := app_step (g := g) (a := ⟨w6.heap.size, 0, none⟩) (l := [16] ++ v) (m := nums n) (sp := sp0) (c := c43) (ty := 26) HF9.out (cells_C HC43.out) (by rw [HLV.out, nums_length]; omega); rw [HQ.out, HLV.out, nums_length] at hrun; rw [HQ.out] at hF; refine Kd.event_run (v := .slice (some ⟨gq, 0, none⟩) q.length (q.length + sp.length)) (w1 := w8) rfl (app_event rfl rfl rfl hrun) ?_; have HF10 := Aside0.mk hF; clear hrun hF HF9 HC43)
              | (go_at_call 13; refine (Answer_calls code id (some ⟨gq, 0, none⟩) (q.length + sp.length) q _ (pre_C (HF10.out.get 0 rfl) (by rw [HQL.out]; omega)) (Nat.le_add_right _ _)).mono ?_; rintro e w9 ⟨rfl, hb⟩; rw [HB.out, HQ3.out.1, HQ3.out.2]; have HF11 := Aside0.mk (HF10.out.keep hb); clear hb HF10)
              | ((with_reducible refine gate_dst (N := 11) rfl ?_); refine box_event ?hg (N := 11) ?hd (cs := (ints no16).toArray) (t := 22) ?hr ?_; (case hd => rfl); (case hg => rfl); (case hr => first | (go_simp; done) | (go_simp; rfl)); intro g11 hg w10 hbox hb; have HF12 := Aside0.mk (show Fam w [(g11, 22, ints no16), (gq, 5, ints q ++ sp), (g4, 22, ints v), (g1, 46, readL n v code id)] w10 from HF11.out.box hg hbox hb); clear hbox hb hg HF11)
              | ((with_reducible refine wpList_store_mid rfl 22 (.tmp 11) (.tmp 48) rfl g11 0 (ints no16).toArray ?hx ?hy ?h5 ?h6 ?h7 ?_); (case hx => rfl); (case hy => rfl); (case h5 => exact (HF12.out.get 0 rfl).there (by rw [List.size_toArray, Nat.zero_add]; exact Nat.le_of_eq (Eq.symm (rfl)))); (case h6 => exact i22 rfl); (case h7 => exact ints_one _); have HF13 := Aside0.mk (HF12.out.over 0 rfl (ints no16) (rfl)); clear HF12))
            have HF14 := Aside0.mk (show Fam w [(g11, 22, ints no16), (gq, 5, ints q ++ sp), (g4, 22, ints v), (g1, 46, readL n v code id)] _ from HF13.out)
            clear HF13
            generalize World.setCells _ _ _ _ = w11 at HF14 ⊢
            have HEQ := Aside0.mk (show EqR 22 (.agg (ints no16).toArray) (.agg (ints no16).toArray) true by have h := eqR_ints (p := no16) (q := no16) rfl rfl; rw [decide_eq_true rfl] at h; exact h)
            go_wp2_with (first
              | ((with_reducible refine gate_dst (N := 88) rfl ?_); refine gate_guard (by rfl) ?_; refine wpList_load_mid rfl 22 (.tmp 11) rfl g11 0 ?hx (ints no16) _ ?hc Try.underlying22 rfl ?hi ?_; (case hx => rfl); (case hc => exact (HF14.out.get 0 rfl).whole); (case hi => exact i22 rfl))
              | ((with_reducible refine gate_dst (N := 89) rfl ?_); refine gate_guard (by rfl) ?_; refine Kd.event_run (v := .agg (ints no16).toArray) (w1 := w11) rfl ?hr ?_; (case hr => first | (go_simp; done) | (go_simp; rfl)))
              | ((with_reducible refine gate_dst (N := 90) rfl ?_); refine gate_guard (by rfl) ?_; refine Kd.event_run (v := .bool true) (w1 := w11) rfl (eql_yields rfl rfl rfl HEQ.out) ?_))
            go_ret
            exact ⟨by show Ending.returned (Value.bool (!decide ((n.size : Int) ≤ 16))) = _; rw [decide_eq_false (by have := HN3.out; omega)]; rfl, HF14.out.bel⟩
        · have HB := Aside0.mk (hb0.trans (decide_eq_false (fun h => h2 (by have := h.2.1; omega))))
          clear hb0 h1
          have HQ3 := Aside0.mk (read_F code q HB.out)
          go_upto_region 14 with (first
            | ((with_reducible refine gate_dst (N := 43) rfl ?_); obtain ⟨c43, w7, hrun, k43, hC43, hb⟩ := str_run w6 n (by omega); refine Kd.event_run rfl (conv_event (x := .tmp 42) rfl rfl hrun) ?_; have HC43 := Aside0.mk hC43; have HF9 := Aside0.mk (HF8.out.keep hb); clear hrun k43 hC43 hb HF8)
            | ((with_reducible refine gate_dst (N := 44) rfl ?_); obtain ⟨gq, sp, w8, hrun, hF⟩ := app_step (g := g) (a := ⟨w6.heap.size, 0, none⟩) (l := [16] ++ v) (m := nums n) (sp := sp0) (c := c43) (ty := 26) HF9.out (cells_C HC43.out) (by rw [HLV.out, nums_length]; omega); rw [HQ.out, HLV.out, nums_length] at hrun; rw [HQ.out] at hF; refine Kd.event_run (v := .slice (some ⟨gq, 0, none⟩) q.length (q.length + sp.length)) (w1 := w8) rfl (app_event rfl rfl rfl hrun) ?_; have HF10 := Aside0.mk hF; clear hrun hF HF9 HC43)
            | (go_at_call 13; refine (Answer_calls code id (some ⟨gq, 0, none⟩) (q.length + sp.length) q _ (pre_C (HF10.out.get 0 rfl) (by rw [HQL.out]; omega)) (Nat.le_add_right _ _)).mono ?_; rintro e w9 ⟨rfl, hb⟩; rw [HB.out, HQ3.out.1, HQ3.out.2]; have HF11 := Aside0.mk (HF10.out.keep hb); clear hb HF10)
            | ((with_reducible refine gate_dst (N := 11) rfl ?_); refine box_event ?hg (N := 11) ?hd (cs := (ints no16).toArray) (t := 22) ?hr ?_; (case hd => rfl); (case hg => rfl); (case hr => first | (go_simp; done) | (go_simp; rfl)); intro g11 hg w10 hbox hb; have HF12 := Aside0.mk (show Fam w [(g11, 22, ints no16), (gq, 5, ints q ++ sp), (g4, 22, ints v), (g1, 46, readL n v code id)] w10 from HF11.out.box hg hbox hb); clear hbox hb hg HF11)
            | ((with_reducible refine wpList_store_mid rfl 22 (.tmp 11) (.tmp 48) rfl g11 0 (ints no16).toArray ?hx ?hy ?h5 ?h6 ?h7 ?_); (case hx => rfl); (case hy => rfl); (case h5 => exact (HF12.out.get 0 rfl).there (by rw [List.size_toArray, Nat.zero_add]; exact Nat.le_of_eq (Eq.symm (rfl)))); (case h6 => exact i22 rfl); (case h7 => exact ints_one _); have HF13 := Aside0.mk (HF12.out.over 0 rfl (ints no16) (rfl)); clear HF12))
          have HF14 := Aside0.mk (show Fam w [(g11, 22, ints no16), (gq, 5, ints q ++ sp), (g4, 22, ints v), (g1, 46, readL n v code id)] _ from HF13.out)
          clear HF13
          generalize World.setCells _ _ _ _ = w11 at HF14 ⊢
          have HEQ := Aside0.mk (show EqR 22 (.agg (ints no16).toArray) (.agg (ints no16).toArray) true by have h := eqR_ints (p := no16) (q := no16) rfl rfl; rw [decide_eq_true rfl] at h; exact h)
          go_wp2_with (first
            | ((with_reducible refine gate_dst (N := 88) rfl ?_); refine gate_guard (by rfl) ?_; refine wpList_load_mid rfl 22 (.tmp 11) rfl g11 0 ?hx (ints no16) _ ?hc Try.underlying22 rfl ?hi ?_; (case hx => rfl); (case hc => exact (HF14.out.get 0 rfl).whole); (case hi => exact i22 rfl))
            | ((with_reducible refine gate_dst (N := 89) rfl ?_); refine gate_guard (by rfl) ?_; refine Kd.event_run (v := .agg (ints no16).toArray) (w1 := w11) rfl ?hr ?_; (case hr => first | (go_simp; done) | (go_simp; rfl)))
            | ((with_reducible refine gate_dst (N := 90) rfl ?_); refine gate_guard (by rfl) ?_; refine Kd.event_run (v := .bool true) (w1 := w11) rfl (eql_yields rfl rfl rfl HEQ.out) ?_))
          go_ret
          exact ⟨rfl, HF14.out.bel⟩
      · have f1 : (code == 2) = false := beq_eq_false_iff_ne.mpr h1
        have HB := Aside0.mk (hb0.trans (decide_eq_false (fun h => h1 h.1)))
        clear hb0 h1
        have HQ3 := Aside0.mk (read_F code q HB.out)
        go_upto_region 14 with (first
          | ((with_reducible refine gate_dst (N := 43) rfl ?_); obtain ⟨c43, w7, hrun, k43, hC43, hb⟩ := str_run w6 n (by omega); refine Kd.event_run rfl (conv_event (x := .tmp 42) rfl rfl hrun) ?_; have HC43 := Aside0.mk hC43; have HF9 := Aside0.mk (HF8.out.keep hb); clear hrun k43 hC43 hb HF8)
          | ((with_reducible refine gate_dst (N := 44) rfl ?_); obtain ⟨gq, sp, w8, hrun, hF⟩ := app_step (g := g) (a := ⟨w6.heap.size, 0, none⟩) (l := [16] ++ v) (m := nums n) (sp := sp0) (c := c43) (ty := 26) HF9.out (cells_C HC43.out) (by rw [HLV.out, nums_length]; omega); rw [HQ.out, HLV.out, nums_length] at hrun; rw [HQ.out] at hF; refine Kd.event_run (v := .slice (some ⟨gq, 0, none⟩) q.length (q.length + sp.length)) (w1 := w8) rfl (app_event rfl rfl rfl hrun) ?_; have HF10 := Aside0.mk hF; clear hrun hF HF9 HC43)
          | (go_at_call 13; refine (Answer_calls code id (some ⟨gq, 0, none⟩) (q.length + sp.length) q _ (pre_C (HF10.out.get 0 rfl) (by rw [HQL.out]; omega)) (Nat.le_add_right _ _)).mono ?_; rintro e w9 ⟨rfl, hb⟩; rw [HB.out, HQ3.out.1, HQ3.out.2]; have HF11 := Aside0.mk (HF10.out.keep hb); clear hb HF10)
          | ((with_reducible refine gate_dst (N := 11) rfl ?_); refine box_event ?hg (N := 11) ?hd (cs := (ints no16).toArray) (t := 22) ?hr ?_; (case hd => rfl); (case hg => rfl); (case hr => first | (go_simp; done) | (go_simp; rfl)); intro g11 hg w10 hbox hb; have HF12 := Aside0.mk (show Fam w [(g11, 22, ints no16), (gq, 5, ints q ++ sp), (g4, 22, ints v), (g1, 46, readL n v code id)] w10 from HF11.out.box hg hbox hb); clear hbox hb hg HF11)
          | ((with_reducible refine wpList_store_mid rfl 22 (.tmp 11) (.tmp 48) rfl g11 0 (ints no16).toArray ?hx ?hy ?h5 ?h6 ?h7 ?_); (case hx => rfl); (case hy => rfl); (case h5 => exact (HF12.out.get 0 rfl).there (by rw [List.size_toArray, Nat.zero_add]; exact Nat.le_of_eq (Eq.symm (rfl)))); (case h6 => exact i22 rfl); (case h7 => exact ints_one _); have HF13 := Aside0.mk (HF12.out.over 0 rfl (ints no16) (rfl)); clear HF12))
        have HF14 := Aside0.mk (show Fam w [(g11, 22, ints no16), (gq, 5, ints q ++ sp), (g4, 22, ints v), (g1, 46, readL n v code id)] _ from HF13.out)
        clear HF13
        generalize World.setCells _ _ _ _ = w11 at HF14 ⊢
        have HEQ := Aside0.mk (show EqR 22 (.agg (ints no16).toArray) (.agg (ints no16).toArray) true by have h := eqR_ints (p := no16) (q := no16) rfl rfl; rw [decide_eq_true rfl] at h; exact h)
        go_wp2_with (first
          | ((with_reducible refine gate_dst (N := 88) rfl ?_); refine gate_guard (by rfl) ?_; refine wpList_load_mid rfl 22 (.tmp 11) rfl g11 0 ?hx (ints no16) _ ?hc Try.underlying22 rfl ?hi ?_; (case hx => rfl); (case hc => exact (HF14.out.get 0 rfl).whole); (case hi => exact i22 rfl))
          | ((with_reducible refine gate_dst (N := 89) rfl ?_); refine gate_guard (by rfl) ?_; refine Kd.event_run (v := .agg (ints no16).toArray) (w1 := w11) rfl ?hr ?_; (case hr => first | (go_simp; done) | (go_simp; rfl)))
          | ((with_reducible refine gate_dst (N := 90) rfl ?_); refine gate_guard (by rfl) ?_; refine Kd.event_run (v := .bool true) (w1 := w11) rfl (eql_yields rfl rfl rfl HEQ.out) ?_))
        go_ret
        exact ⟨rfl, HF14.out.bel⟩
end Go.Proofs.Ytpbkdphilcodmaa.Q
