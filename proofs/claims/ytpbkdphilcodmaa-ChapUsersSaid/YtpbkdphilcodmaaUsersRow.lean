/- portreevelaw15.ChapUsers: rows of users of one's own; the plain law. -/
import Derived.Test.YtpbkdphilcodmaaShown
namespace Go.Proofs.Ytpbkdphilcodmaa.Q
open Go Go.RowKit Go.Proofs.YtpbkdphilcodmaaW.PrintWords Go.Proofs.YtpbkdphilcodmaaW.PrintLast Go.Proofs.YtpbkdphilcodmaaW.PrintMore
open Go.Proofs.YtpbkdphilcodmaaV Go.Proofs.Ytpbkdphilcodmaa.Pure
set_option linter.unusedVariables false
set_option linter.unusedSimpArgs false
theorem ul_info54 : (Try.prog.info? 54).map (fun i => (i.zero, i.size, i.bytes)) = some (some (.agg #[.string ⟨#[]⟩, .string ⟨#[]⟩]), 2, 32) := by kernel_rfl
def uc : List S54 → List Value
  | [] => []
  | u :: l => .string u.f0 :: .string u.f1 :: uc l
theorem uc_length : ∀ l, (uc l).length = l.length * 2
  | [] => rfl
  | u :: l => by rw [uc, List.length_cons, List.length_cons, uc_length l, List.length_cons]; omega
theorem uc_app : ∀ (a b : List S54), uc (a ++ b) = uc a ++ uc b
  | [], b => rfl
  | u :: a, b => by rw [List.cons_append, uc, uc_app a b]; rfl
theorem uc_one : ∀ (l : List S54), ∀ v ∈ uc l, v.oneCell' = true
  | [], v, h => absurd h List.not_mem_nil
  | u :: l, v, h => by
    rcases List.mem_cons.1 h with rfl | h
    · rfl
    · rcases List.mem_cons.1 h with rfl | h
      · rfl
      · exact uc_one l v h
theorem uc_at : ∀ (l : List S54) (i q : Nat) (u : S54) (v : Value), l[i]? = some u → ([.string u.f0, .string u.f1] : List Value)[q]? = some v → (uc l)[i * 2 + q]? = some v
  | [], i, q, u, v, h, _ => by simp at h
  | x :: l, 0, q, u, v, h, hq => by
    obtain rfl : x = u := by simpa using h
    rw [Nat.zero_mul, Nat.zero_add]
    match q, hq with
    | 0, hq => exact hq
    | 1, hq => exact hq
    | q + 2, hq => simp at hq
  | x :: l, i + 1, q, u, v, h, hq => by
    have := uc_at l i q u v (by simpa using h) hq
    rw [show (i + 1) * 2 + q = (i * 2 + q) + 2 by omega]
    simpa [uc] using this
theorem uc_src {W : World} {a : Addr} {n : Nat} {m : List S54} (h : Kd.C k54 W (some a) n m) : ∀ j v, (uc m)[j]? = some v → W.cell? (a.add j) = some v := by
  intro j v hv
  have hn := h.1
  have hj : j < (uc m).length := (List.getElem?_eq_some_iff.1 hv).1
  rw [uc_length] at hj
  have hi : j / 2 < m.length := by omega
  obtain ⟨ad, c, e, _, hK, hc0⟩ := Kd.C_get h z54 ((j / 2 : Nat) : Int) (by omega) (by omega)
  cases e
  rw [Int.toNat_natCast] at hK hc0
  have hm : m[j / 2]? = some (m.getD (j / 2) z54) := by rw [List.getD_eq_getElem?_getD, List.getElem?_eq_getElem hi]; rfl
  have hco := k54_open hK
  subst hco
  have hq : ∃ u, ([.string (m.getD (j / 2) z54).f0, .string (m.getD (j / 2) z54).f1] : List Value)[j % 2]? = some u := ⟨_, List.getElem?_eq_getElem (by simp; omega)⟩
  obtain ⟨u, hu⟩ := hq
  have h1 := uc_at m (j / 2) (j % 2) _ u hm hu
  rw [show j / 2 * 2 + j % 2 = j by omega, hv] at h1
  cases h1
  have h2 := hc0 (j % 2) v hu
  have h3 : j / 2 * k54.sz + j % 2 = j := by show j / 2 * 2 + j % 2 = j; omega
  rwa [h3] at h2
theorem ul_C {W : World} {g : Nat} {l : List S54} {sp : List Value} (h : Blk W g 54 (uc l ++ sp)) (hl : l.length ≤ 9223372036854775807) : Kd.C k54 W (some ⟨g, 0, none⟩) l.length l := by
  refine ⟨rfl, hl, fun _ => ⟨_, rfl, fun j p hj => ⟨[.string p.f0, .string p.f1], rfl, k54_mk W p, fun q u hq => ?_⟩⟩⟩
  rw [Addr.add_mid, Nat.zero_add]
  refine h.at_ ?_
  have h1 := uc_at l j q p u hj hq
  show (uc l ++ sp)[j * 2 + q]? = some u
  rw [List.getElem?_append_left (List.getElem?_eq_some_iff.1 h1).1]
  exact h1
theorem ul_tail {w W : World} {x : Bk} {L : List Bk} (h : Fam w (x :: L) W) : Fam w L W :=
  ⟨h.bel, fun y hy => h.all y (List.mem_cons_of_mem _ hy), fun y hy => h.lo y (List.mem_cons_of_mem _ hy), (List.nodup_cons.1 h.nd).2⟩
/-- An append to the family's first row of users. -/
theorem ul_step {w W : World} {L : List Bk} {g k : Nat} {l m : List S54} {sp : List Value} {a : Addr} {c ty : Nat} (h : Fam w ((g, 54, uc l ++ sp) :: L) W) (hsp : sp.length = k * 2) (hsrc : ∀ j u, (uc m)[j]? = some u → W.cell? (a.add j) = some u) (hl : l.length + m.length ≤ 100000) :
    ∃ g' k' sp' w', (Builtin.append_ #[25, 25] ty #[.slice (some ⟨g, 0, none⟩) l.length (l.length + k), .slice (some a) m.length c]).run Try.prog W = .ok (.slice (some ⟨g', 0, none⟩) (l ++ m).length ((l ++ m).length + k')) w' ∧ sp'.length = k' * 2 ∧ Fam w ((g', 54, uc (l ++ m) ++ sp') :: L) w' := by
  have hB := h.get 0 rfl
  obtain ⟨i0, hi0, hz, hs, hby⟩ := info_parts ul_info54
  by_cases hr : m.length ≤ k
  · have hlen : (uc l ++ sp).length = (l.length + k) * 2 := by rw [List.length_append, uc_length, hsp]; omega
    have hrun := run_append_room_cells (P := Try.prog) W 25 ty 54 i0 Try.underlying25 hi0 g 0 l.length (l.length + k) a m.length c (uc m) (by rw [uc_length, hs]) hsrc (uc_one m) (by omega) (fun j hj => by
      rw [uc_length] at hj
      have := hB.there (o := l.length * 2) (n := m.length * 2) (by rw [hlen]; omega) j hj
      rw [hs, Nat.zero_add]
      exact this.1) (fun j hj => hB.frozen)
    rw [hs, Nat.zero_add] at hrun
    have hst := Blk.store (g := g) (t := 54) (sp.take (m.length * 2)) (uc m) (w := W) (pre := uc l) (post := sp.drop (m.length * 2)) (by rw [List.append_assoc, List.take_append_drop]; exact hB) (by rw [List.length_take, uc_length, hsp, Nat.min_eq_left (by omega)])
    rw [uc_length] at hst
    have hF := h.cells 0 rfl (j := l.length * 2) (vs := uc m) (cs' := uc (l ++ m) ++ sp.drop (m.length * 2)) (by rw [uc_app]; exact hst)
    refine ⟨g, k - m.length, sp.drop (m.length * 2), _, ?_, by rw [List.length_drop, hsp]; omega, hF⟩
    rw [List.length_append, show l.length + m.length + (k - m.length) = l.length + k by omega]
    exact hrun
  · obtain ⟨v', w', hrun, hown, hgr⟩ := run_append_arg_grows (P := Try.prog) W 25 ty 54 i0 (.agg #[.string ⟨#[]⟩, .string ⟨#[]⟩]) 2 32 Try.underlying25 hi0 hz hs hby rfl (by decide) ⟨g, 0, none⟩ l.length (l.length + k) (uc l) (uc_length l) (fun j u hj => by
      rw [Addr.add_mid, Nat.zero_add]
      refine hB.at_ ?_
      rw [List.getElem?_append_left (List.getElem?_eq_some_iff.1 hj).1]
      exact hj) a m.length c (uc m) (uc_length m) hsrc (by omega) (by simp only [maxLen]; omega) (by omega)
    obtain ⟨_, hh⟩ := hown
    rcases hh with ⟨_, h0⟩ | ⟨g', cap', cur, rfl, hbg, hb, hn, hcm, hcs, htk⟩
    · omega
    · have hspl : cur.toList = uc (l ++ m) ++ cur.toList.drop ((l.length + m.length) * 2) := by
        have h1 := List.take_append_drop ((l.length + m.length) * 2) cur.toList
        rw [htk, ← uc_app] at h1
        exact h1.symm
      refine ⟨g', cap' - (l.length + m.length), cur.toList.drop ((l.length + m.length) * 2), w', ?_, by rw [List.length_drop, Array.length_toList, hcs]; omega, (ul_tail h).boxed hbg (show w'.heap[g']? = _ by rw [hb, ← hspl]) (grown_below hgr)⟩
      rw [hrun, List.length_append, show l.length + m.length + (cap' - (l.length + m.length)) = cap' by omega]
theorem ul_event {o : Oper} {a : Act} {W w1 : World} {x y : Operand} {s z v : Value} (ho : o.op = .call { callee := .builtin .append, args := #[x, y], argTypes := #[25, 25] }) (hx : a.eval x = s) (hy : a.eval y = z) (h : (Builtin.append_ #[25, 25] o.type #[s, z]).run Try.prog W = .ok v w1) : (execOp a.eval o).run Try.prog W = .ok (.value v) w1 := by
  simp [execOp, ho, resolve, invoke, builtin, hx, hy, h, Result.andThen]
theorem secB_mem (n : ByteArray) : ∀ us : List S54, secB n us = decide (n ∈ us.map (·.f0))
  | [] => rfl
  | u :: us => by
    have ih := secB_mem n us
    unfold secB at ih ⊢
    rw [ixU]
    by_cases h : u.f0.toList = n.toList
    · rw [if_pos h, decide_eq_true (by rw [List.map_cons, toList_inj.1 h]; exact List.mem_cons_self)]
      rfl
    · rw [if_neg h, Option.isSome_map, ih, decide_eq_decide, List.map_cons, List.mem_cons]
      exact ⟨Or.inr, fun hm => hm.elim (fun e => absurd (by rw [e]) h) id⟩
theorem ul_ix {us : List S54} : ∀ {i : Nat} {u : S54}, (us.map (·.f0)).Nodup → us[i]? = some u → ixU u.f0 us = some i := by
  induction us with
  | nil => intro i u _ h; simp at h
  | cons x us ih =>
    intro i u hn h
    rw [List.map_cons, List.nodup_cons] at hn
    cases i with
    | zero =>
      obtain rfl : x = u := by simpa using h
      rw [ixU, if_pos rfl]
    | succ i =>
      have h' : us[i]? = some u := by simpa using h
      have hx : ¬ x.f0.toList = u.f0.toList := fun he => hn.1 (by rw [toList_inj.1 he]; exact List.mem_map.2 ⟨u, List.mem_of_getElem? h', rfl⟩)
      rw [ixU, if_neg hx, ih hn.2 h']
      rfl
theorem ul_sec {us : List S54} {i : Nat} {u : S54} (hn : (us.map (·.f0)).Nodup) (h : us[i]? = some u) : secB u.f0 us = true ∧ secS u.f0 us = u.f1 := by
  have hi := ul_ix hn h
  unfold secB secS
  rw [hi]
  refine ⟨rfl, ?_⟩
  have hlt := (List.getElem?_eq_some_iff.1 h).1
  have := at_U hlt
  rw [h] at this
  show (rd_T54 us (i : Int)).f1 = u.f1
  rw [← Option.some.inj this]
theorem ul_split {us : List S54} {i : Nat} {u : S54} (h : us[i]? = some u) : us = us.take i ++ u :: us.drop (i + 1) := by
  have hlt := (List.getElem?_eq_some_iff.1 h).1
  have h1 : us[i] = u := (List.getElem?_eq_some_iff.1 h).2
  rw [← h1, ← List.drop_eq_getElem_cons hlt, List.take_append_drop]
theorem ul_less {us : List S54} {i : Nat} {u : S54} (hu : usr us = true) (h : us[i]? = some u) : usr (us.take i ++ us.drop (i + 1)) = true ∧ secB u.f0 (us.take i ++ us.drop (i + 1)) = false := by
  obtain ⟨⟨hn, ho⟩, h8⟩ := of_decide_eq_true hu
  have hs := ul_split h
  have hsub : (us.take i ++ us.drop (i + 1)).Sublist us := by
    conv => rhs; rw [hs]
    exact List.Sublist.append_left (List.sublist_cons_self _ _) _
  refine ⟨decide_eq_true ⟨⟨(hsub.map _).nodup hn, fun v hv => ho v (hsub.subset hv)⟩, Nat.le_trans hsub.length_le h8⟩, ?_⟩
  rw [secB_mem]
  refine decide_eq_false (fun hm => ?_)
  rw [hs, List.map_append, List.map_cons, List.nodup_append] at hn
  obtain ⟨_, h2, h3⟩ := hn
  rw [List.nodup_cons] at h2
  rw [List.map_append, List.mem_append] at hm
  rcases hm with hm | hm
  · exact h3 _ hm _ List.mem_cons_self rfl
  · exact h2.1 hm
theorem ul_twice {us : List S54} {i : Nat} {u : S54} (h : us[i]? = some u) : usr (us ++ [u]) = false := by
  refine decide_eq_false (fun hx => ?_)
  have hn := hx.1.1
  rw [List.map_append, List.nodup_append] at hn
  exact hn.2.2 u.f0 (List.mem_map.2 ⟨u, List.mem_of_getElem? h, rfl⟩) u.f0 (by simp) rfl
end Go.Proofs.Ytpbkdphilcodmaa.Q
