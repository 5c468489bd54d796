import Derived.Test.YtpbkdphilcodmaaChB
import Derived.MapKept
import Derived.WideMake
import Derived.ArgAppend
import Derived.Test.YtpbkdphilcodmaaQx8
import Derived.Test.YtpbkdphilcodmaaQx10
import Derived.Test.YtpbkdphilcodmaaQx11
/- chap.Users: may they be? A set of names. -/
namespace Go.Proofs.Ytpbkdphilcodmaa.Q
open Go Go.RowKit Go.Proofs.YtpbkdphilcodmaaW.PrintWords Go.Proofs.YtpbkdphilcodmaaW.PrintLast Go.Proofs.YtpbkdphilcodmaaW.PrintMore
open Go.Proofs.YtpbkdphilcodmaaV Go.Proofs.Ytpbkdphilcodmaa.Pure
set_option linter.unusedVariables false
set_option linter.unusedSimpArgs false
theorem users_u58 : Try.prog.underlying 58 = some (.map 9 4) := by kernel_rfl
instance byteDec : DecidableEq ByteArray := fun a b => decidable_of_iff (a.data = b.data) ⟨fun h => by cases a; cases b; cases h; rfl, fun h => h ▸ rfl⟩
instance byteLaw : LawfulBEq ByteArray where
  eq_of_beq := fun {a b} h => (MapKept.bytes_beq a b).1 h
  rfl := fun {a} => (MapKept.bytes_beq a a).2 rfl
theorem toList_inj {a b : ByteArray} : a.toList = b.toList ↔ a = b := by
  rw [ByteArray.toList_eq, ByteArray.toList_eq]
  refine ⟨fun h => ?_, fun h => h ▸ rfl⟩
  cases a
  cases b
  congr
  exact Array.toList_inj.1 h
theorem toList_size (a : ByteArray) : a.toList.length = a.size := by
  rw [ByteArray.toList_eq, Array.length_toList]
  rfl
theorem toList_nil {a : ByteArray} : a.toList = [] ↔ a.size = 0 := by
  rw [← toList_size, List.length_eq_zero_iff]
/-- A set of these names. -/
def SMap (w : World) (m : Nat) (ns : List ByteArray) : Prop := ∃ es c, w.heap[m]? = some (.map es c) ∧ es.toList.map (fun e => (e.key, e.val)) = ns.map (fun n => (Value.string n, Value.bool true))
theorem smap_find (s : ByteArray) : ∀ (l : List MapEntry) (ns : List ByteArray) (i : Nat), l.map (fun e => (e.key, e.val)) = ns.map (fun n => (Value.string n, Value.bool true)) → ∃ r, Instr.findNow .string (.string s) l i = some r ∧ r.map Prod.snd = if s ∈ ns then some (Value.bool true) else none
  | [], [], i, _ => ⟨none, rfl, rfl⟩
  | [], _ :: _, i, h => by cases h
  | _ :: _, [], i, h => by cases h
  | e :: l, n :: ns, i, h => by
    simp only [List.map_cons, List.cons.injEq, Prod.mk.injEq] at h
    obtain ⟨⟨hk, hv⟩, hr⟩ := h
    obtain ⟨r, h1, h2⟩ := smap_find s l ns (i + 1) hr
    by_cases hs : s = n
    · refine ⟨some (i, .bool true), ?_, by rw [hs, if_pos List.mem_cons_self]; rfl⟩
      have hb : (s == n) = true := (MapKept.bytes_beq s n).2 hs
      simp only [Instr.findNow, hk, Instr.sameNow, hb, hv]
    · have hb : (s == n) = false := by
        cases hq : (s == n) with
        | false => rfl
        | true => exact absurd ((MapKept.bytes_beq s n).1 hq) hs
      refine ⟨r, ?_, ?_⟩
      · simp only [Instr.findNow, hk, Instr.sameNow, hb]
        exact h1
      · rw [h2]
        simp [hs]
theorem SMap.look {w : World} {m : Nat} {ns : List ByteArray} (h : SMap w m ns) (s : ByteArray) : (Instr.lookup 58 (.map (some m)) (.string s) false).run Try.prog w = .ok (.bool (decide (s ∈ ns))) w := by
  obtain ⟨es, c, h1, h2⟩ := h
  obtain ⟨r, hr, hl⟩ := smap_find s es.toList ns 0 h2
  have hf := MapKept.run_findKey (w := w) (P := Try.prog) Try.underlying9 hr
  have hc : ∀ e, (Instr.checkKey e 10000 9 (.string s)).run Try.prog w = .ok () w := fun e => MapKept.run_checkKey (k := .string s) Try.underlying9 (by simp [MapKept.IsKey]) e 9999
  have hz : (zeroValue 4).run Try.prog w = .ok (.bool false) w := by kernel_rfl
  by_cases hs : s ∈ ns
  · rw [if_pos hs] at hl
    obtain ⟨p, rfl⟩ : ∃ y, r = some y := by cases r <;> simp at hl ⊢
    obtain ⟨i, u⟩ := p
    obtain rfl : u = .bool true := by simpa using hl
    simp [Instr.lookup, run_underlying users_u58, MapKept.run_getObj_map h1, hc, hf, Result.andThen, decide_eq_true hs]
  · rw [if_neg hs] at hl
    obtain rfl : r = none := by cases r <;> simp at hl ⊢
    simp [Instr.lookup, run_underlying users_u58, MapKept.run_getObj_map h1, hc, hf, hz, Result.andThen, decide_eq_false hs]
theorem SMap.put {w : World} {m : Nat} {ns : List ByteArray} (h : SMap w m ns) {s : ByteArray} (hs : s ∉ ns) :
    ∃ w1, (Instr.mapUpdate 58 (.map (some m)) (.string s) (.bool true)).run Try.prog w = .ok () w1 ∧ SMap w1 m (ns ++ [s]) ∧ (∀ B w0, B ≤ m → Below B w0 w → Below B w0 w1) := by
  obtain ⟨es, c, h1, h2⟩ := h
  obtain ⟨r, hr, hl⟩ := smap_find s es.toList ns 0 h2
  have hf := MapKept.run_findKey (w := w) (P := Try.prog) Try.underlying9 hr
  have hc : (Instr.checkKey false 10000 9 (.string s)).run Try.prog w = .ok () w := MapKept.run_checkKey (k := .string s) Try.underlying9 (by simp [MapKept.IsKey]) false 9999
  rw [if_neg hs] at hl
  obtain rfl : r = none := by cases r <;> simp at hl ⊢
  refine ⟨{ w with heap := w.heap.setIfInBounds m (.map (es.push { key := .string s, val := .bool true, born := c }) (c + 1)) }, ?_, ⟨es.push { key := .string s, val := .bool true, born := c }, c + 1, ?_, ?_⟩, ?_⟩
  · simp [Instr.mapUpdate, run_underlying users_u58, MapKept.run_getObj_map h1, hc, hf, MapKept.run_setObj_map _ h1, Result.andThen]
  · have hlt : m < w.heap.size := (Array.getElem?_eq_some_iff.1 h1).1
    simp [Array.getElem?_setIfInBounds, hlt]
  · rw [Array.toList_push, List.map_append, List.map_append, h2]
    rfl
  · intro B w0 hB h
    refine ⟨h.os, h.tape, h.output, by simpa using h.size, fun k hk' => ?_⟩
    have := h.block k hk'
    rw [← this]
    simp only [Array.getElem?_setIfInBounds]
    rw [if_neg (by omega)]
theorem SMap.keep {w w' : World} {m : Nat} {ns : List ByteArray} (h : SMap w m ns) (hb : Below w.heap.size w w') : SMap w' m ns := by
  obtain ⟨es, c, h1, h2⟩ := h
  exact ⟨es, c, (hb.block m (Array.getElem?_eq_some_iff.1 h1).1).trans h1, h2⟩
theorem SMap.lt {w : World} {m : Nat} {ns : List ByteArray} (h : SMap w m ns) : m < w.heap.size := by
  obtain ⟨es, c, h1, h2⟩ := h
  exact (Array.getElem?_eq_some_iff.1 h1).1
theorem look_event {o : Oper} {a : Act} {W : World} {x y : Operand} {m : Nat} {s : ByteArray} {ns : List ByteArray} (ho : o.op = .lookup 58 x y false) (hx : a.eval x = .map (some m)) (hy : a.eval y = .string s) (h : SMap W m ns) {b : Bool} (hb : decide (s ∈ ns) = b) : (execOp a.eval o).run Try.prog W = .ok (.value (.bool b)) W := by
  subst hb
  unfold execOp
  simp only [ho, hx, hy, Sem.run_bind, h.look s, Result.andThen_ok, Sem.run_pure]
theorem put_step {ops : Array Oper} {rest : List Oper} {o : Oper} {a : Act} {w w1 : World} {Q : Exit → Act → World → Prop} (hgd : o.guard = none) (m x v : Operand) (ho : o.op = .mapUpdate 58 m x v) (hd : o.dst = none) (mb : Nat) (s : ByteArray)
    (hm : a.eval m = .map (some mb)) (hx : a.eval x = .string s) (hv : a.eval v = .bool true) (hrun : (Instr.mapUpdate 58 (.map (some mb)) (.string s) (.bool true)).run Try.prog w = .ok () w1) (h : wpList Try.prog ops Q rest a w1) : wpList Try.prog ops Q (o :: rest) a w := by
  refine wpList_plain hgd fun K hK => ?_
  unfold Oper.wp
  simp [execOp, ho, hm, hx, hv, hrun, Result.andThen]
  refine hK _ _ ?_
  rw [hd]
  exact h
def okU (u : S54) : Prop := 1 ≤ u.f0.size ∧ u.f0.size ≤ 16 ∧ 1 ≤ u.f1.size ∧ u.f1.size ≤ 32
instance (u : S54) : Decidable (okU u) := by unfold okU; infer_instance
def usrP (us : List S54) : Prop := (us.map (·.f0)).Nodup ∧ ∀ u ∈ us, okU u
instance (us : List S54) : Decidable (usrP us) := by unfold usrP; infer_instance
def usr (us : List S54) : Bool := decide (usrP us ∧ us.length ≤ 8)
theorem usrP_snoc {us : List S54} {i : Nat} {u : S54} (hi : us[i]? = some u) (h : usrP (us.take i)) : usrP (us.take (i + 1)) ↔ u.f0 ∉ (us.take i).map (·.f0) ∧ okU u := by
  rw [List.take_add_one, hi]
  unfold usrP
  simp only [Option.toList_some, List.map_append, List.map_cons, List.map_nil, List.nodup_append, List.mem_append, List.mem_singleton]
  constructor
  · rintro ⟨⟨_, _, h3⟩, h4⟩
    exact ⟨fun hm => h3 _ hm _ rfl rfl, h4 u (Or.inr rfl)⟩
  · rintro ⟨h1, h2⟩
    exact ⟨⟨h.1, List.pairwise_singleton .., fun a ha b hb hab => h1 (by rw [← hb, ← hab]; exact ha)⟩, fun v hv => hv.elim (h.2 v) (fun e => e ▸ h2)⟩
theorem usrP_take {us : List S54} (h : usrP us) (i : Nat) : usrP (us.take i) := by
  refine ⟨?_, fun u hu => h.2 u (List.mem_of_mem_take hu)⟩
  rw [List.map_take]
  exact List.Sublist.nodup (List.take_sublist _ _) h.1
theorem usr_no {us : List S54} {i : Nat} {u : S54} (hi : us[i]? = some u) (h : usrP (us.take i)) (hn : ¬ (u.f0 ∉ (us.take i).map (·.f0) ∧ okU u)) : usr us = false :=
  decide_eq_false fun hu => hn ((usrP_snoc hi h).1 (usrP_take hu.1 _))
theorem at_U {us : List S54} {i : Nat} (hi : i < us.length) : us[i]? = some (rd_T54 us (i : Int)) := by
  rw [List.getElem?_eq_getElem hi]
  simp [rd_T54, hi]
set_option maxHeartbeats 4000000 in
set_option maxRecDepth 100000 in
theorem Users_calls (us : List S54) (A : Option Addr) (c : Nat) (w : World) (hr : Kd.C k54 w A us.length us) (hc : us.length ≤ c) :
    Calls Try.prog 19 #[.slice A us.length c] w fun e w' => e = .returned (.bool (usr us)) ∧ Below w.heap.size w w' := by
  have hl64 := Aside0.mk hr.2.1
  have HR := Aside0.mk hr
  clear hr hc
  go_enter Try.func19, Try.ntmps19
  go_wp2_with (first
    | ((with_reducible refine gate_dst (N := 6) rfl ?_); refine Kd.event_run (v := .map (some w.heap.size)) (w1 := w.alloc (.map #[] 0)) rfl ?hr ?_; (case hr => first | (go_simp; done) | (go_simp; rfl))))
  have HS := Aside0.mk (show SMap (w.alloc (.map #[] 0)) w.heap.size [] from ⟨#[], 0, heap_alloc_new w _, rfl⟩)
  have HB := Aside0.mk (pA (Below.refl w.heap.size w) (.map #[] 0))
  generalize hm : w.alloc (.map #[] 0) = w1 at HS HB ⊢
  clear hm
  obtain ⟨m, hm⟩ : ∃ m, w.heap.size = m := ⟨_, rfl⟩
  have HMM := Aside0.mk hm
  rw [hm] at HS ⊢
  clear hm
  go_loopw [9] (fun v9 wr => ∃ i : Nat, i ≤ us.length ∧ v9 = .int .i64 i ∧ Aside0 (SMap wr m ((us.take i).map (·.f0))) ∧ Aside0 (usrP (us.take i)) ∧ Aside0 (Below w.heap.size w wr)) (fun v9 _ => us.length - (intOf v9).toNat)
  case atStart => exact ⟨0, Nat.zero_le _, rfl, HS, ⟨⟨List.nodup_nil, fun _ h => absurd h List.not_mem_nil⟩⟩, HB⟩
  case round =>
    obtain ⟨i, hi, rfl, HS1, HP, HB1⟩ := hrel
    clear HB HS
    by_cases hlt : i < us.length
    · have hlt' : (i : Int) < (us.length : Int) := by omega
      clear hi
      obtain ⟨ad, rfl, hx0, hx1⟩ := at_T54 (Kd.C_below HR.out HB1.out) (i : Int) (by omega) hlt'
      rw [Int.toNat_natCast] at hx0 hx1
      have HU := Aside0.mk (at_U hlt)
      obtain ⟨u, hu⟩ : ∃ u, rd_T54 us (i : Int) = u := ⟨_, rfl⟩
      rw [hu] at hx0 hx1 HU
      clear hu
      obtain ⟨s, z⟩ := u
      obtain ⟨ns, hns⟩ : ∃ ns, (us.take i).map (·.f0) = ns := ⟨_, rfl⟩
      rw [hns] at HS1
      have HNS := Aside0.mk hns
      clear hns
      go_upto_region 5 with (first
        | ((with_reducible refine gate_dst (N := 5) rfl ?_); refine box_event ?hg (N := 5) ?hd (cs := #[.string ⟨#[]⟩, .string ⟨#[]⟩]) (t := 54) ?hr ?_; (case hd => rfl); (case hg => rfl); (case hr => first | (go_simp; done) | (go_simp; rfl)); intro g5 hg w2 hbox hb; have HF1 := Aside0.mk (show Fam w [(g5, 54, [.string ⟨#[]⟩, .string ⟨#[]⟩])] w2 from (Fam.start HB1.out).box hg hbox hb); have HFB := Aside0.mk hb; have HFG := Aside0.mk (show wr.heap.size ≤ g5 by rw [hg]; exact Nat.le_refl _); clear hbox hb hg)
        | ((with_reducible refine wpList_store_mid rfl 54 (.tmp 5) (.tmp 12) rfl g5 0 ([.string s, .string z]).toArray ?hx ?hy ?h5 ?h6 ?h7 ?_); (case hx => rfl); (case hy => rfl); (case h5 => exact (HF1.out.get 0 rfl).there (by rw [List.size_toArray, Nat.zero_add]; exact Nat.le_of_eq (Eq.symm (rfl)))); (case h6 => exact by kernel_rfl); (case h7 => exact by simp [Value.oneCell']); have HF2 := Aside0.mk (HF1.out.over 0 rfl ([.string s, .string z]) (rfl)); clear HF1))
      have HF3 := Aside0.mk (show Fam w [(g5, 54, [.string s, .string z])] _ from HF2.out)
      have HS2 := Aside0.mk (show SMap _ m ns from (HS1.out.keep (below_setCells (B := wr.heap.size) (w := wr) HFB.out HFG.out [.string s, .string z] 0)))
      clear HF2 HS1 hx0 hx1 HFB HFG
      generalize w2.setCells _ _ _ = w3 at HF3 HS2 ⊢
      have hc0 : w3.cell? ⟨g5, 0, none⟩ = some (.string s) := (HF3.out.get 0 rfl).at_ rfl
      have hc1 : w3.cell? ⟨g5, 1, none⟩ = some (.string z) := (HF3.out.get 0 rfl).at_ rfl
      obtain ⟨b0, hb0⟩ : ∃ b0, decide (s ∈ ns) = b0 := ⟨_, rfl⟩
      have HB0 := Aside0.mk hb0
      clear hb0
      cases b0 with
      | true =>
        go_wp2_with (first
          | ((with_reducible refine gate_dst (N := 16) rfl ?_); refine Kd.event_run (v := .bool true) (w1 := w3) rfl (look_event rfl rfl rfl HS2.out HB0.out) ?_))
        go_ret
        refine ⟨?_, HF3.out.bel⟩
        rw [usr_no HU.out HP.out (fun h => h.1 (by rw [HNS.out]; exact of_decide_eq_true HB0.out))]
        rfl
      | false =>
        have hno : ¬ okU ⟨s, z⟩ → usr us = false := fun h => usr_no HU.out HP.out (fun h' => h h'.2)
        have HNO := Aside0.mk hno
        clear hno
        by_cases h1 : s.toList = []
        · have HZ := Aside0.mk (HNO.out (fun h => by have h1' := toList_nil.1 h1; have := h.1; simp only at this; omega))
          go_wp2_with (first
            | ((with_reducible refine gate_dst (N := 16) rfl ?_); refine Kd.event_run (v := .bool false) (w1 := w3) rfl (look_event rfl rfl rfl HS2.out HB0.out) ?_))
          go_ret
          exact ⟨by rw [HZ.out]; rfl, HF3.out.bel⟩
        · by_cases h2 : (s.size : Int) ≤ 16
          · by_cases h3 : z.toList = []
            · have HZ := Aside0.mk (HNO.out (fun h => by have h1' := toList_nil.1 h3; have := h.2.2.1; simp only at this; omega))
              go_wp2_with (first
                | ((with_reducible refine gate_dst (N := 16) rfl ?_); refine Kd.event_run (v := .bool false) (w1 := w3) rfl (look_event rfl rfl rfl HS2.out HB0.out) ?_))
              go_ret
              exact ⟨by rw [HZ.out]; rfl, HF3.out.bel⟩
            · by_cases h4 : (z.size : Int) ≤ 32
              · have HOK := Aside0.mk (show okU ⟨s, z⟩ from ⟨Nat.pos_of_ne_zero (fun h => h1 (toList_nil.2 h)), by show s.size ≤ 16; omega, Nat.pos_of_ne_zero (fun h => h3 (toList_nil.2 h)), by show z.size ≤ 32; omega⟩)
                have hnm : s ∉ ns := of_decide_eq_false HB0.out
                obtain ⟨w4, hrun, hs4, hb4⟩ := SMap.put HS2.out hnm
                have HS4 := Aside0.mk hs4
                have HB4 := Aside0.mk (hb4 _ _ (Nat.le_of_eq HMM.out) HF3.out.bel)
                have HP2 := Aside0.mk ((usrP_snoc HU.out HP.out).2 ⟨by rw [HNS.out]; exact hnm, HOK.out⟩)
                have HNS2 := Aside0.mk (show (us.take (i + 1)).map (·.f0) = ns ++ [s] by rw [List.take_add_one, HU.out, List.map_append, HNS.out]; rfl)
                have HL64 := hl64.out
                have e1 : wrap64 ((i : Int) + 1) = ((i + 1 : Nat) : Int) := by rw [wrap64_of (by omega)]; omega
                have f1 : s.toList.isEmpty = false := by cases hq : s.toList with | nil => exact absurd hq h1 | cons => rfl
                have f3 : z.toList.isEmpty = false := by cases hq : z.toList with | nil => exact absurd hq h3 | cons => rfl
                have f2 : ¬ (16 : Int) < (s.size : Int) := by omega
                have f4 : ¬ (32 : Int) < (z.size : Int) := by omega
                have g2 : decide ((16 : Int) < (s.size : Int)) = false := decide_eq_false f2
                have g4 : decide ((32 : Int) < (z.size : Int)) = false := decide_eq_false f4
                clear HL64 hs4 hb4 hnm HNO
                go_wp2_with (first
                  | ((with_reducible refine gate_dst (N := 16) rfl ?_); refine Kd.event_run (v := .bool false) (w1 := w3) rfl (look_event rfl rfl rfl HS2.out HB0.out) ?_)
                  | (with_reducible refine put_step rfl (.tmp 39) (.tmp 41) (.const (.bool true)) rfl rfl m s rfl rfl rfl hrun ?_))
                go_roundw
                case rel => exact ⟨i + 1, hlt, by first | (rw [e1]; done) | (rw [e1]; rfl) | go_num, ⟨by rw [HNS2.out]; exact HS4.out⟩, HP2, HB4⟩
                case measure => rw [e1]; simp only [intOf, Int.toNat_natCast]; omega
              · have HZ := Aside0.mk (HNO.out (fun h => by have := h.2.2.2; simp only at this; omega))
                go_wp2_with (first
                  | ((with_reducible refine gate_dst (N := 16) rfl ?_); refine Kd.event_run (v := .bool false) (w1 := w3) rfl (look_event rfl rfl rfl HS2.out HB0.out) ?_))
                go_ret
                exact ⟨by rw [HZ.out]; rfl, HF3.out.bel⟩
          · have HZ := Aside0.mk (HNO.out (fun h => by have := h.2.1; simp only at this; omega))
            go_wp2_with (first
              | ((with_reducible refine gate_dst (N := 16) rfl ?_); refine Kd.event_run (v := .bool false) (w1 := w3) rfl (look_event rfl rfl rfl HS2.out HB0.out) ?_))
            go_ret
            exact ⟨by rw [HZ.out]; rfl, HF3.out.bel⟩
    · obtain rfl : i = us.length := by omega
      clear hlt hi
      go_wp2
      go_ret
      refine ⟨?_, HB1.out⟩
      rw [List.take_length] at HP
      have hd : decide ((us.length : Int) ≤ 8) = usr us := by
        unfold usr
        rw [decide_eq_decide]
        exact ⟨fun h => ⟨HP.out, by omega⟩, fun h => by have := h.2; omega⟩
      rw [← hd]
      rfl
end Go.Proofs.Ytpbkdphilcodmaa.Q
/- Rows of bytes of one's own within a family of blocks: what an append leaves. -/
namespace Go.Proofs.Ytpbkdphilcodmaa.Q
open Go Go.RowKit Go.Proofs.YtpbkdphilcodmaaW.PrintWords Go.Proofs.YtpbkdphilcodmaaW.PrintLast Go.Proofs.YtpbkdphilcodmaaW.PrintMore
open Go.Proofs.YtpbkdphilcodmaaV Go.Proofs.Ytpbkdphilcodmaa.Pure
set_option linter.unusedVariables false
set_option linter.unusedSimpArgs false
theorem Fam.boxed {w W W' : World} {L : List Bk} {g : Nat} {t : TypeId} {cs : List Value} (h : Fam w L W) (hg : W.heap.size ≤ g) (hB : Blk W' g t cs) (hb : Below W.heap.size W W') : Fam w ((g, t, cs) :: L) W' := by
  refine ⟨below_step h.bel hb, fun x hx => ?_, fun x hx => ?_, ?_⟩
  · rcases List.mem_cons.1 hx with rfl | hx
    · exact hB
    · exact (h.all x hx).keep hb
  · rcases List.mem_cons.1 hx with rfl | hx
    · exact Nat.le_trans h.bel.size hg
    · exact h.lo x hx
  · rw [List.map_cons, List.nodup_cons]
    refine ⟨fun hm => ?_, h.nd⟩
    obtain ⟨x, hx, hxg⟩ := List.mem_map.1 hm
    have h1 := (h.all x hx).lt
    have h2 : x.1 = g := hxg
    omega
theorem grown_below {w w' : World} (h : w.grownBy w' none) : Below w.heap.size w w' := ⟨h.os, h.tape, h.output, h.size, fun k hk => h.block k hk (by simp)⟩
theorem pre_C {W : World} {g : Nat} {t : TypeId} {xs : List Int} {sp : List Value} (h : Blk W g t (ints xs ++ sp)) (hl : xs.length ≤ 9223372036854775807) : Kd.C (Kd.int .u8) W (some ⟨g, 0, none⟩) xs.length xs := by
  refine Kd.C_of_reads (d := (0 : Int)) (h1 := fun _ => rfl) ⟨rfl, hl, fun _ => ⟨_, rfl, fun i hi => ?_⟩⟩
  rw [Addr.add_mid, Nat.zero_add]
  refine h.at_ ?_
  rw [List.getElem?_append_left (by rw [ints_length]; exact hi)]
  unfold ints
  rw [List.getElem?_map, List.getElem?_eq_getElem hi, List.getD_eq_getElem?_getD, List.getElem?_eq_getElem hi]
  rfl
theorem ints_app (a b : List Int) : ints (a ++ b) = ints a ++ ints b := by unfold ints; rw [List.map_append]
/-- The append grows: a new row. -/
theorem app_grow {w W : World} {L : List Bk} {g cap : Nat} {l m : List Int} {sp : List Value} {a : Addr} {c ty : Nat} (h : Fam w L W) (hB : Blk W g 5 (ints l ++ sp)) (hsrc : ∀ j u, (ints m)[j]? = some u → W.cell? (a.add j) = some u) (hg : cap < l.length + m.length) (hl : l.length + m.length ≤ 100000) :
    ∃ g' sp' w', (Builtin.append_ #[26, 26] ty #[.slice (some ⟨g, 0, none⟩) l.length cap, .slice (some a) m.length c]).run Try.prog W = .ok (.slice (some ⟨g', 0, none⟩) (l ++ m).length ((l ++ m).length + sp'.length)) w' ∧ Fam w ((g', 5, ints (l ++ m) ++ sp') :: L) w' ∧ Below W.heap.size W w' := by
  obtain ⟨i0, hi, hz, hs, hby⟩ := info_parts info5
  obtain ⟨v', w', hrun, hown, hgr⟩ := run_append_arg_grows (P := Try.prog) W 26 ty 5 i0 (.int .u8 0) 1 1 Try.underlying26 hi hz hs hby rfl (by decide) ⟨g, 0, none⟩ l.length cap (ints l) (by rw [ints_length, Nat.mul_one]) (fun j u hj => by
      rw [Addr.add_mid, Nat.zero_add]
      refine hB.at_ ?_
      rw [List.getElem?_append_left (List.getElem?_eq_some_iff.1 hj).1]
      exact hj) a m.length c (ints m) (by rw [ints_length, Nat.mul_one]) hsrc hg (by simp only [maxLen]; omega) (by omega)
  obtain ⟨_, hh⟩ := hown
  rcases hh with ⟨_, h0⟩ | ⟨g', cap', cur, rfl, hbg, hb, hn, hcm, hcs, htk⟩
  · omega
  · have hlen : (ints (l ++ m)).length = l.length + m.length := by rw [ints_length, List.length_append]
    have hsp : cur.toList = ints (l ++ m) ++ cur.toList.drop (l.length + m.length) := by
      have h1 := List.take_append_drop (l.length + m.length) cur.toList
      rw [Nat.mul_one] at htk
      rw [htk, ← ints_app] at h1
      exact h1.symm
    have hspl : (cur.toList.drop (l.length + m.length)).length = cap' - (l.length + m.length) := by
      rw [List.length_drop, Array.length_toList, hcs, Nat.mul_one]
    refine ⟨g', cur.toList.drop (l.length + m.length), w', ?_, h.boxed hbg (show w'.heap[g']? = _ by rw [hb, ← hsp]) (grown_below hgr), grown_below hgr⟩
    rw [hrun, hspl, List.length_append, show l.length + m.length + (cap' - (l.length + m.length)) = cap' by omega]
/-- Whichever way: what came is told, and the row itself still has what it had. -/
theorem app_keep {w W : World} {L : List Bk} {g i : Nat} {l m : List Int} {sp : List Value} {a : Addr} {c ty : Nat} (h : Fam w L W) (hi : L[i]? = some (g, 5, ints l ++ sp)) (hsrc : ∀ j u, (ints m)[j]? = some u → W.cell? (a.add j) = some u) (hl : l.length + m.length ≤ 100000) :
    ∃ (A : Option Addr) (c' : Nat) (sp2 : List Value) (w' : World), (Builtin.append_ #[26, 26] ty #[.slice (some ⟨g, 0, none⟩) l.length (l.length + sp.length), .slice (some a) m.length c]).run Try.prog W = .ok (.slice A (l ++ m).length c') w' ∧ (l ++ m).length ≤ c' ∧ Kd.C (Kd.int .u8) w' A (l ++ m).length (l ++ m) ∧ sp2.length = sp.length ∧ Fam w (L.set i (g, 5, ints l ++ sp2)) w' ∧ W.heap.size ≤ w'.heap.size := by
  have hB := h.get i hi
  by_cases hr : m.length ≤ sp.length
  · obtain ⟨i0, hi0, hz, hs, hby⟩ := info_parts info5
    have hlen : (ints l ++ sp).length = l.length + sp.length := by rw [List.length_append, ints_length]
    have hrun := run_append_room_cells (P := Try.prog) W 26 ty 5 i0 Try.underlying26 hi0 g 0 l.length (l.length + sp.length) a m.length c (ints m) (by rw [ints_length, hs, Nat.mul_one]) hsrc (fun u hu => by
        unfold ints at hu
        obtain ⟨x, _, rfl⟩ := List.mem_map.1 hu
        rfl) (by omega) (fun j hj => (hB.there (o := l.length) (n := m.length) (by rw [hlen]; omega) j (by rwa [ints_length] at hj) |> fun q => by rw [hs, Nat.mul_one, Nat.zero_add]; exact q.1)) (fun j hj => hB.frozen)
    rw [hs, Nat.mul_one, Nat.zero_add] at hrun
    have hst := Blk.store (g := g) (t := 5) (sp.take m.length) (ints m) (w := W) (pre := ints l) (post := sp.drop m.length) (by rw [List.append_assoc, List.take_append_drop]; exact hB) (by rw [List.length_take, ints_length, Nat.min_eq_left hr])
    rw [ints_length] at hst
    have hF := h.cells i hi (j := l.length) (vs := ints m) (cs' := ints l ++ (ints m ++ sp.drop m.length)) (by rw [← List.append_assoc]; exact hst)
    refine ⟨some ⟨g, 0, none⟩, l.length + sp.length, ints m ++ sp.drop m.length, _, by rw [List.length_append]; exact hrun, by rw [List.length_append]; omega, ?_, by rw [List.length_append, ints_length, List.length_drop]; omega, hF, ?_⟩
    · refine pre_C (g := g) (t := 5) (sp := sp.drop m.length) ?_ (by rw [List.length_append]; omega)
      rw [ints_app]
      exact hst
    · exact (below_setCells (B := 0) (Below.refl 0 W) (Nat.zero_le _) (ints m) l.length).size
  · obtain ⟨g', sp', w', hrun, hF, hb⟩ := app_grow (cap := l.length + sp.length) (ty := ty) (c := c) h hB hsrc (by omega) hl
    refine ⟨some ⟨g', 0, none⟩, _, sp, w', hrun, by omega, pre_C (hF.get 0 rfl) (by rw [List.length_append]; omega), rfl, ?_, hb.size⟩
    have hset : L.set i (g, 5, ints l ++ sp) = L := by
      apply List.ext_getElem?
      intro j
      rw [List.getElem?_set]
      by_cases hij : i = j
      · subst hij
        rw [if_pos rfl, if_pos (List.getElem?_eq_some_iff.1 hi).1, hi]
      · rw [if_neg hij]
    rw [hset]
    exact h.keep hb
theorem app_event {o : Oper} {a : Act} {W w1 : World} {x y : Operand} {s z v : Value} (ho : o.op = .call { callee := .builtin .append, args := #[x, y], argTypes := #[26, 26] }) (hx : a.eval x = s) (hy : a.eval y = z) (h : (Builtin.append_ #[26, 26] o.type #[s, z]).run Try.prog W = .ok v w1) : (execOp a.eval o).run Try.prog W = .ok (.value v) w1 := by
  simp [execOp, ho, resolve, invoke, builtin, hx, hy, h, Result.andThen]
theorem users_C {W : World} {g : Nat} {s t : ByteArray} (h : Blk W g 54 [.string s, .string t]) : Kd.C k54 W (some ⟨g, 0, none⟩) 1 [⟨s, t⟩] := by
  refine ⟨rfl, by decide, fun _ => ⟨_, rfl, fun j p hj => ?_⟩⟩
  match j, hj with
  | 0, hj =>
    cases hj
    refine ⟨[.string s, .string t], rfl, k54_mk W ⟨s, t⟩, fun q u hq => ?_⟩
    rw [Addr.add_mid]
    refine h.at_ ?_
    rw [show 0 + (0 * k54.sz + q) = q by omega]
    exact hq
  | j + 1, hj => simp at hj
end Go.Proofs.Ytpbkdphilcodmaa.Q
/- What is right; users that may be; users that are few: the contracts in plain words. -/
namespace Go.Proofs.Ytpbkdphilcodmaa.Q
open Go Go.RowKit Go.Proofs.YtpbkdphilcodmaaW.PrintWords Go.Proofs.YtpbkdphilcodmaaW.PrintLast Go.Proofs.YtpbkdphilcodmaaW.PrintMore
open Go.Proofs.YtpbkdphilcodmaaV Go.Proofs.Ytpbkdphilcodmaa.Pure
set_option linter.unusedVariables false
set_option linter.unusedSimpArgs false
def rgt (a : Au) : Bool := decide (0 ≤ a.tr ∧ a.tr ≤ 4 ∧ ((a.st = 1 ∧ 1 ≤ a.lf ∧ a.lf ≤ 4 ∧ 1 ≤ a.tr) ∨ ((a.st = 0 ∨ a.st = 2 ∨ a.st = 3) ∧ a.lf = 0)))
theorem Right_calls (a : Au) (ha : a.wf) (W : World) : Calls Try.prog 23 #[.agg a.cells.toArray] W fun e w' => e = .returned (.bool (rgt a)) ∧ Below W.heap.size W w' := by
  obtain ⟨st, tr, lf, id, val, who, prf⟩ := a
  obtain ⟨hv, hp⟩ := ha
  obtain ⟨x0, x1, x2, x3, x4, x5, x6, x7, x8, x9, x10, x11, x12, x13, x14, x15, rfl⟩ := list16 hv
  obtain ⟨y0, y1, y2, y3, y4, y5, y6, y7, y8, y9, y10, y11, y12, y13, y14, y15, rfl⟩ := list16 hp
  exact chap_Right.calls 5 st tr lf id x0 x1 x2 x3 x4 x5 x6 x7 x8 x9 x10 x11 x12 x13 x14 x15 who y0 y1 y2 y3 y4 y5 y6 y7 y8 y9 y10 y11 y12 y13 y14 y15 (rgt ⟨st, tr, lf, id, [x0, x1, x2, x3, x4, x5, x6, x7, x8, x9, x10, x11, x12, x13, x14, x15], who, [y0, y1, y2, y3, y4, y5, y6, y7, y8, y9, y10, y11, y12, y13, y14, y15]⟩) W (by
    simp only [chap_Right.f, chap_Right.j0]
    repeat' split
    all_goals congr 1
    all_goals unfold rgt
    all_goals rw [Bool.eq_iff_iff]
    all_goals simp only [decide_eq_true_eq, beq_iff_eq, reduceCtorEq, false_iff, iff_false, Bool.false_eq_true] at *
    all_goals first | omega | (exfalso; simp_all; done) | (simp_all; omega))
theorem Right15_calls (a : Au) (ha : a.wf) (W : World) : Calls Try.prog 10 #[.agg a.cells.toArray] W fun e w' => e = .returned (.bool (rgt a)) ∧ Below W.heap.size W w' := by
  obtain ⟨st, tr, lf, id, val, who, prf⟩ := a
  obtain ⟨hv, hp⟩ := ha
  obtain ⟨x0, x1, x2, x3, x4, x5, x6, x7, x8, x9, x10, x11, x12, x13, x14, x15, rfl⟩ := list16 hv
  obtain ⟨y0, y1, y2, y3, y4, y5, y6, y7, y8, y9, y10, y11, y12, y13, y14, y15, rfl⟩ := list16 hp
  exact portreeveref15_Right.calls 5 st tr lf id x0 x1 x2 x3 x4 x5 x6 x7 x8 x9 x10 x11 x12 x13 x14 x15 who y0 y1 y2 y3 y4 y5 y6 y7 y8 y9 y10 y11 y12 y13 y14 y15 (rgt ⟨st, tr, lf, id, [x0, x1, x2, x3, x4, x5, x6, x7, x8, x9, x10, x11, x12, x13, x14, x15], who, [y0, y1, y2, y3, y4, y5, y6, y7, y8, y9, y10, y11, y12, y13, y14, y15]⟩) W (by
    simp only [portreeveref15_Right.f, portreeveref15_Right.j0, portreeveref15_Right.j1]
    repeat' split
    all_goals congr 1
    all_goals unfold rgt
    all_goals rw [Bool.eq_iff_iff]
    all_goals simp only [decide_eq_true_eq, beq_iff_eq, reduceCtorEq, false_iff, iff_false, Bool.false_eq_true] at *
    all_goals first | omega | (exfalso; simp_all; done) | (simp_all; omega))
end Go.Proofs.Ytpbkdphilcodmaa.Q
/- Users that may be, and that are few: the printed functions in plain words. -/
namespace Go.Proofs.Ytpbkdphilcodmaa.Q
open Go Go.RowKit Go.Proofs.YtpbkdphilcodmaaW.PrintWords Go.Proofs.YtpbkdphilcodmaaW.PrintLast Go.Proofs.YtpbkdphilcodmaaW.PrintMore
open Go.Proofs.YtpbkdphilcodmaaV Go.Proofs.Ytpbkdphilcodmaa.Pure
set_option linter.unusedVariables false
set_option linter.unusedSimpArgs false
theorem users_l1 {us : List S54} {i k : Nat} {s t : ByteArray} (hi : i < us.length) (h8 : i ≤ 8) : ∀ (n j : Nat), j + n = i →
    ((∃ q, j ≤ q ∧ q < i ∧ (rd_T54 us (q : Int)).f0 = s) → portreeveref15_Users.l1 (k + n + 1) us (i : Int) (j : Int) s t = some false) ∧ ((¬ ∃ q, j ≤ q ∧ q < i ∧ (rd_T54 us (q : Int)).f0 = s) → portreeveref15_Users.l1 (k + n + 1) us (i : Int) (j : Int) s t = portreeveref15_Users.l0 k us ((i + 1 : Nat) : Int))
  | 0, j, h => by
    have hn : ¬ ∃ q, j ≤ q ∧ q < i ∧ (rd_T54 us (q : Int)).f0 = s := fun ⟨q, h1, h2, _⟩ => by omega
    refine ⟨fun h => absurd h hn, fun _ => ?_⟩
    rw [portreeveref15_Users.l1, if_neg (by omega), wrap64_of (by omega)]
    rfl
  | n + 1, j, h => by
    obtain ⟨ih1, ih2⟩ := users_l1 (k := k) (s := s) (t := t) hi h8 n (j + 1) (by omega)
    rw [portreeveref15_Users.l1, if_pos (by omega), if_pos (by omega), if_pos (by omega)]
    by_cases hs : (rd_T54 us (j : Int)).f0 = s
    · rw [if_pos (by rw [hs])]
      exact ⟨fun _ => rfl, fun hn => absurd ⟨j, Nat.le_refl _, by omega, hs⟩ hn⟩
    · rw [if_neg (fun h => hs (toList_inj.1 h)), wrap64_of (by omega), show ((j : Int) + 1) = ((j + 1 : Nat) : Int) by omega, show k + (n + 1) = k + n + 1 by omega]
      refine ⟨fun ⟨q, h1, h2, h3⟩ => ih1 ⟨q, ?_, h2, h3⟩, fun hq => ih2 (fun ⟨q, h1, h2, h3⟩ => hq ⟨q, by omega, h2, h3⟩)⟩
      rcases Nat.lt_or_ge j q with h | h
      · omega
      · obtain rfl : q = j := by omega
        exact absurd h3 hs
theorem mem_take_names {us : List S54} {i : Nat} {s : ByteArray} (hi : i ≤ us.length) : s ∈ (us.take i).map (·.f0) ↔ ∃ q, 0 ≤ q ∧ q < i ∧ (rd_T54 us (q : Int)).f0 = s := by
  rw [List.mem_map]
  constructor
  · rintro ⟨u, hu, rfl⟩
    obtain ⟨q, hq⟩ := List.getElem?_of_mem hu
    rw [List.getElem?_take] at hq
    split at hq
    · rename_i hlt
      have := at_U (us := us) (i := q) (by omega)
      rw [hq] at this
      cases this
      exact ⟨q, Nat.zero_le _, hlt, rfl⟩
    · cases hq
  · rintro ⟨q, _, hq, rfl⟩
    refine ⟨_, ?_, rfl⟩
    refine List.mem_of_getElem? (i := q) ?_
    rw [List.getElem?_take, if_pos hq]
    exact at_U (by omega)
theorem users_l0 {us : List S54} : ∀ (n i k : Nat), i + n = 8 → i ≤ us.length → usrP (us.take i) → portreeveref15_Users.l0 (k + 20 * n + 20) us (i : Int) = some (usr us)
  | n, i, k, h, hi, hP => by
    rw [show k + 20 * n + 20 = (k + 20 * n + 19) + 1 by omega, portreeveref15_Users.l0]
    by_cases hlt : i < us.length
    · rw [if_pos (by omega), if_pos (by omega)]
      obtain ⟨u, hu⟩ : ∃ u, rd_T54 us (i : Int) = u := ⟨_, rfl⟩
      have hat := at_U hlt
      rw [hu] at hat ⊢
      have hbad : ∀ s t, portreeveref15_Users.j1 (k + 20 * n + 19) us (i : Int) true s t = some false := fun s t => by
        rw [show k + 20 * n + 19 = (k + 20 * n + 18) + 1 by omega, portreeveref15_Users.j1, if_pos rfl]
      by_cases h7 : (i : Int) > 7
      · rw [if_pos h7, hbad]
        unfold usr
        rw [decide_eq_false (fun hx => by have := hx.2; omega)]
      · rw [if_neg h7]
        by_cases hk : okU u
        · obtain ⟨k1, k2, k3, k4⟩ := hk
          rw [if_neg (by omega), if_neg (by omega), if_neg (by omega), decide_eq_false (by omega), show k + 20 * n + 19 = (k + 20 * n + 18) + 1 by omega, portreeveref15_Users.j1, if_neg (by decide)]
          obtain ⟨n, rfl⟩ : ∃ m, n = m + 1 := ⟨n - 1, by omega⟩
          have hl := users_l1 (us := us) (i := i) (k := (k + 17 - i) + 20 * n + 20) (s := u.f0) (t := u.f1) hlt (by omega) i 0 (by omega)
          rw [show (k + 17 - i) + 20 * n + 20 + i + 1 = k + 20 * (n + 1) + 18 by omega] at hl
          by_cases hd : u.f0 ∈ (us.take i).map (·.f0)
          · rw [show ((0 : Nat) : Int) = 0 from rfl] at hl
            rw [hl.1 ((mem_take_names (by omega)).1 hd), usr_no hat hP (fun h => h.1 hd)]
          · rw [show ((0 : Nat) : Int) = 0 from rfl] at hl
            rw [hl.2 (fun h => hd ((mem_take_names (by omega)).2 h))]
            exact users_l0 n (i + 1) _ (by omega) (by omega) ((usrP_snoc hat hP).2 ⟨hd, k1, k2, k3, k4⟩)
        · rw [usr_no hat hP (fun h => hk h.2)]
          by_cases q1 : (u.f0.size : Int) < 1
          · rw [if_pos q1, hbad]
          · rw [if_neg q1]
            by_cases q2 : (u.f0.size : Int) > 16
            · rw [if_pos q2, hbad]
            · rw [if_neg q2]
              by_cases q3 : (u.f1.size : Int) < 1
              · rw [if_pos q3, hbad]
              · rw [if_neg q3, decide_eq_true (show (u.f1.size : Int) > 32 from Decidable.byContradiction (fun h => hk ⟨by omega, by omega, by omega, by omega⟩)), hbad]
    · obtain rfl : i = us.length := by omega
      rw [if_neg (by omega)]
      rw [List.take_length] at hP
      unfold usr
      rw [decide_eq_true ⟨hP, by omega⟩]
theorem Users15_calls (us : List S54) (A : Option Addr) (c : Nat) (w : World) (hr : Kd.C k54 w A us.length us) (hc : us.length ≤ c) : Calls Try.prog 11 #[.slice A us.length c] w fun e w' => e = .returned (.bool (usr us)) ∧ Below w.heap.size w w' :=
  portreeveref15_Users.calls 180 A c us (usr us) w hr hc (users_l0 8 0 0 rfl (Nat.zero_le _) ⟨List.nodup_nil, fun _ h => absurd h List.not_mem_nil⟩)
theorem few_l0 {us : List S54} : ∀ (n i k : Nat), i + n = 11 → ∃ b, portreevelaw15_few.l0 (k + 2 * n + 2) us (i : Int) = some b
  | n, i, k, h => by
    rw [show k + 2 * n + 2 = (k + 2 * n + 1) + 1 by omega, portreevelaw15_few.l0]
    have hbad : portreevelaw15_few.j1 (k + 2 * n + 1) us (i : Int) true = some false := by rw [portreevelaw15_few.j1, if_pos rfl]
    by_cases hlt : (i : Int) < (us.length : Int)
    · rw [if_pos hlt]
      by_cases h1 : (i : Int) > 10
      · rw [if_pos h1]; exact ⟨_, hbad⟩
      · rw [if_neg h1, if_pos (by omega)]
        by_cases h2 : ((rd_T54 us (i : Int)).f0.size : Int) > 50
        · rw [if_pos h2]; exact ⟨_, hbad⟩
        · rw [if_neg h2]
          by_cases h3 : ((rd_T54 us (i : Int)).f1.size : Int) > 50
          · rw [decide_eq_true h3]; exact ⟨_, hbad⟩
          · rw [decide_eq_false h3, portreevelaw15_few.j1, if_neg (by decide), wrap64_of (by omega)]
            obtain ⟨n, rfl⟩ : ∃ m, n = m + 1 := ⟨n - 1, by omega⟩
            obtain ⟨b, hb⟩ := few_l0 (us := us) n (i + 1) k (by omega)
            exact ⟨b, by rw [show k + 2 * (n + 1) = k + 2 * n + 2 by omega]; exact hb⟩
    · rw [if_neg hlt]; exact ⟨_, rfl⟩
theorem few_calls (us : List S54) : ∃ b : Bool, ∀ (A : Option Addr) (c : Nat) (w : World), Kd.C k54 w A us.length us → us.length ≤ c → Calls Try.prog 18 #[.slice A us.length c] w fun e w' => e = .returned (.bool b) ∧ Below w.heap.size w w' := by
  obtain ⟨b, hb⟩ := few_l0 (us := us) 11 0 0 rfl
  refine ⟨b, fun A c w hr hc => (portreevelaw15_few.calls 24 A c us b w hr hc hb).mono ?_⟩
  rintro e w' ⟨rfl, n, rfl⟩
  exact ⟨rfl, pN (Below.refl _ _) _⟩
/-- A known user's secret is short. -/
theorem secS_short {us : List S54} (h : usr us = true) (n : ByteArray) : (secS n us).size ≤ 4000 := by
  have hu := (of_decide_eq_true h).1.2
  unfold secS
  split
  · rename_i i hi
    have hlt := ixU_lt n us i hi
    have := hu _ (List.mem_of_getElem? (at_U hlt))
    have := this.2.2.2
    omega
  · decide
end Go.Proofs.Ytpbkdphilcodmaa.Q
