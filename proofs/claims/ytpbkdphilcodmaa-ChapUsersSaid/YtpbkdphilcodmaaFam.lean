/- A family of blocks of one's own: each as a list of cells. And equations and loads of rows told of letters. -/
import Derived.Test.YtpbkdphilcodmaaAsk
namespace Go.Proofs.Ytpbkdphilcodmaa.Q
open Go Go.RowKit Go.Proofs.YtpbkdphilcodmaaW.PrintWords Go.Proofs.YtpbkdphilcodmaaW.PrintLast Go.Proofs.YtpbkdphilcodmaaW.PrintMore
open Go.Proofs.YtpbkdphilcodmaaV Go.Proofs.Ytpbkdphilcodmaa.Pure
set_option linter.unusedVariables false
set_option linter.unusedSimpArgs false
abbrev Bk := Nat × TypeId × List Value
structure Fam (w : World) (L : List Bk) (W : World) : Prop where
  bel : Below w.heap.size w W
  all : ∀ x ∈ L, Blk W x.1 x.2.1 x.2.2
  lo : ∀ x ∈ L, w.heap.size ≤ x.1
  nd : (L.map (·.1)).Nodup
section
variable {w W W' : World} {L : List Bk} {g i j : Nat} {t : TypeId} {cs cs' : List Value} {u : Value}
theorem Fam.start (h : Below w.heap.size w W) : Fam w [] W := ⟨h, fun _ hx => absurd hx List.not_mem_nil, fun _ hx => absurd hx List.not_mem_nil, List.nodup_nil⟩
theorem Fam.get (h : Fam w L W) (i : Nat) (hi : L[i]? = some (g, t, cs)) : Blk W g t cs := h.all _ (List.mem_of_getElem? hi)
theorem Fam.keep (h : Fam w L W) (hb : Below W.heap.size W W') : Fam w L W' := ⟨below_step h.bel hb, fun x hx => (h.all x hx).keep hb, h.lo, h.nd⟩
theorem Fam.alloc (h : Fam w L W) (ob : Obj) : Fam w L (W.alloc ob) := h.keep (pA (Below.refl _ _) _)
theorem Fam.drew (h : Fam w L W) : Fam w L W.drew := h.keep (pD (Below.refl _ _))
theorem Fam.box (h : Fam w L W) (hg : g = W.heap.size) (hB : Blk W' g t cs) (hb : Below W.heap.size W W') : Fam w ((g, t, cs) :: L) W' := by
  refine ⟨below_step h.bel hb, fun x hx => ?_, fun x hx => ?_, ?_⟩
  · rcases List.mem_cons.1 hx with rfl | hx
    · exact hB
    · exact (h.all x hx).keep hb
  · rcases List.mem_cons.1 hx with rfl | hx
    · exact hg ▸ h.bel.size
    · exact h.lo x hx
  · rw [List.map_cons, List.nodup_cons]
    refine ⟨fun hm => ?_, h.nd⟩
    obtain ⟨x, hx, hxg⟩ := List.mem_map.1 hm
    have := (h.all x hx).lt
    rw [hxg, hg] at this
    exact Nat.lt_irrefl _ this
theorem Fam.apart (h : Fam w L W) {x y : Bk} (hi : L[i]? = some x) (hj : L[j]? = some y) (hij : i ≠ j) : x.1 ≠ y.1 := by
  intro he
  have hi' : i < L.length := (List.getElem?_eq_some_iff.1 hi).1
  have h1 : (L.map (·.1))[i]? = some x.1 := by rw [List.getElem?_map, hi]; rfl
  have h2 : (L.map (·.1))[j]? = some x.1 := by rw [List.getElem?_map, hj, he]; rfl
  have h3 := List.pairwise_iff_getElem.1 h.nd
  have hj' : j < L.length := (List.getElem?_eq_some_iff.1 hj).1
  rw [List.getElem?_eq_getElem (by rw [List.length_map]; exact hi')] at h1
  rw [List.getElem?_eq_getElem (by rw [List.length_map]; exact hj')] at h2
  have h12 := Option.some.inj (h1.trans h2.symm)
  rcases Nat.lt_or_gt_of_ne hij with hlt | hlt
  · exact h3 i j (by rw [List.length_map]; exact hi') (by rw [List.length_map]; exact hj') hlt h12
  · exact h3 j i (by rw [List.length_map]; exact hj') (by rw [List.length_map]; exact hi') hlt h12.symm
/-- A store into the i-th block. -/
theorem Fam.put (h : Fam w L W) (i : Nat) (hi : L[i]? = some (g, t, cs)) (hB : Blk W' g t cs') (hb : Below w.heap.size w W') (hf : ∀ k s xs, k ≠ g → Blk W k s xs → Blk W' k s xs) : Fam w (L.set i (g, t, cs')) W' := by
  have hi' : i < L.length := (List.getElem?_eq_some_iff.1 hi).1
  refine ⟨hb, fun x hx => ?_, fun x hx => ?_, ?_⟩
  · obtain ⟨j, hj⟩ := List.getElem?_of_mem hx
    rw [List.getElem?_set] at hj
    by_cases hij : i = j
    · rw [if_pos hij, if_pos (hij ▸ hi')] at hj
      cases hj
      exact hB
    · rw [if_neg hij] at hj
      exact hf _ _ _ (h.apart hj hi (fun h => hij h.symm)) (h.all x (List.mem_of_getElem? hj))
  · rcases List.mem_or_eq_of_mem_set hx with hx | rfl
    · exact h.lo x hx
    · exact h.lo (g, t, cs) (List.mem_of_getElem? hi)
  · have : (L.set i (g, t, cs')).map (·.1) = L.map (·.1) := by
      rw [List.map_set]
      apply List.ext_getElem?
      intro j
      rw [List.getElem?_set]
      by_cases hij : i = j
      · subst hij
        rw [if_pos rfl, if_pos (by rw [List.length_map]; exact hi'), List.getElem?_map, hi]
        rfl
      · rw [if_neg hij]
    rw [this]
    exact h.nd
theorem Fam.cell (h : Fam w L W) (i : Nat) (hi : L[i]? = some (g, t, cs)) (hB : Blk (W.setCell ⟨g, j, none⟩ u) g t cs') : Fam w (L.set i (g, t, cs')) (W.setCell ⟨g, j, none⟩ u) :=
  h.put i hi hB (below_set h.bel (h.lo _ (List.mem_of_getElem? hi))) (fun _ _ _ hk hb => hb.far hk)
theorem Fam.cells (h : Fam w L W) (i : Nat) (hi : L[i]? = some (g, t, cs)) {vs : List Value} (hB : Blk (W.setCells g j vs) g t cs') : Fam w (L.set i (g, t, cs')) (W.setCells g j vs) :=
  h.put i hi hB (below_setCells h.bel (show w.heap.size ≤ g from h.lo (g, t, cs) (List.mem_of_getElem? hi)) vs j) (fun _ _ _ hk hb => hb.fars hk vs j)
theorem Fam.over (h : Fam w L W) (i : Nat) (hi : L[i]? = some (g, t, cs)) (new : List Value) (hl : cs.length = new.length) : Fam w (L.set i (g, t, new)) (W.setCells g 0 new) :=
  h.cells i hi ((h.get i hi).over hl)
end
/-- Equations of rows, told of letters. -/
def EqR (t : TypeId) (u v : Value) (r : Bool) : Prop := ∀ (x y : Operand) (W : World), ((do eqGuard .eql t x y u v; binOp .eql t u v) : Sem Value).run Try.prog W = .ok (.bool r) W
theorem eql_yields {o : Oper} {a : Act} {W : World} {t u : TypeId} {x y : Operand} {v1 v2 : Value} {r : Bool} (ho : o.op = .binOp .eql t x y u) (hx : a.eval x = v1) (hy : a.eval y = v2) (h : EqR t v1 v2 r) : (execOp a.eval o).run Try.prog W = .ok (.value (.bool r)) W := by
  have := h x y W
  unfold execOp
  simp only [ho, hx, hy]
  rw [Sem.run_bind, this]
  rfl
theorem eqA22 (d : Nat) (w : World) (x0 y0 x1 y1 x2 y2 x3 y3 x4 y4 x5 y5 x6 y6 x7 y7 x8 y8 x9 y9 x10 y10 x11 y11 x12 y12 x13 y13 x14 y14 x15 y15 : Int) :
    (Op.equalIn (d + 2) 22 (.agg #[.int .u8 x0, .int .u8 x1, .int .u8 x2, .int .u8 x3, .int .u8 x4, .int .u8 x5, .int .u8 x6, .int .u8 x7, .int .u8 x8, .int .u8 x9, .int .u8 x10, .int .u8 x11, .int .u8 x12, .int .u8 x13, .int .u8 x14, .int .u8 x15]) (.agg #[.int .u8 y0, .int .u8 y1, .int .u8 y2, .int .u8 y3, .int .u8 y4, .int .u8 y5, .int .u8 y6, .int .u8 y7, .int .u8 y8, .int .u8 y9, .int .u8 y10, .int .u8 y11, .int .u8 y12, .int .u8 y13, .int .u8 y14, .int .u8 y15])).run Try.prog w = .ok (x0 == y0 && (x1 == y1 && (x2 == y2 && (x3 == y3 && (x4 == y4 && (x5 == y5 && (x6 == y6 && (x7 == y7 && (x8 == y8 && (x9 == y9 && (x10 == y10 && (x11 == y11 && (x12 == y12 && (x13 == y13 && (x14 == y14 && (x15 == y15)))))))))))))))) w := by
  refine arrA_of (c := 1) Try.underlying22 (by kernel_rfl) (by kernel_rfl) ?_
  rw [show List.range 16 = [0, 1, 2, 3, 4, 5, 6, 7, 8, 9, 10, 11, 12, 13, 14, 15] from rfl]
  refine eqi_cons (by go_simp; rfl) (by go_simp; rfl) (by go_simp) ?_
  refine eqi_cons (by go_simp; rfl) (by go_simp; rfl) (by go_simp) ?_
  refine eqi_cons (by go_simp; rfl) (by go_simp; rfl) (by go_simp) ?_
  refine eqi_cons (by go_simp; rfl) (by go_simp; rfl) (by go_simp) ?_
  refine eqi_cons (by go_simp; rfl) (by go_simp; rfl) (by go_simp) ?_
  refine eqi_cons (by go_simp; rfl) (by go_simp; rfl) (by go_simp) ?_
  refine eqi_cons (by go_simp; rfl) (by go_simp; rfl) (by go_simp) ?_
  refine eqi_cons (by go_simp; rfl) (by go_simp; rfl) (by go_simp) ?_
  refine eqi_cons (by go_simp; rfl) (by go_simp; rfl) (by go_simp) ?_
  refine eqi_cons (by go_simp; rfl) (by go_simp; rfl) (by go_simp) ?_
  refine eqi_cons (by go_simp; rfl) (by go_simp; rfl) (by go_simp) ?_
  refine eqi_cons (by go_simp; rfl) (by go_simp; rfl) (by go_simp) ?_
  refine eqi_cons (by go_simp; rfl) (by go_simp; rfl) (by go_simp) ?_
  refine eqi_cons (by go_simp; rfl) (by go_simp; rfl) (by go_simp) ?_
  refine eqi_cons (by go_simp; rfl) (by go_simp; rfl) (by go_simp) ?_
  exact eqi_last (by go_simp; rfl) (by go_simp; rfl) (by go_simp)
attribute [local go_sem high] eqA22
theorem eqR16 (x0 x1 x2 x3 x4 x5 x6 x7 x8 x9 x10 x11 x12 x13 x14 x15 y0 y1 y2 y3 y4 y5 y6 y7 y8 y9 y10 y11 y12 y13 y14 y15 : Int) : EqR 22 (.agg #[.int .u8 x0, .int .u8 x1, .int .u8 x2, .int .u8 x3, .int .u8 x4, .int .u8 x5, .int .u8 x6, .int .u8 x7, .int .u8 x8, .int .u8 x9, .int .u8 x10, .int .u8 x11, .int .u8 x12, .int .u8 x13, .int .u8 x14, .int .u8 x15]) (.agg #[.int .u8 y0, .int .u8 y1, .int .u8 y2, .int .u8 y3, .int .u8 y4, .int .u8 y5, .int .u8 y6, .int .u8 y7, .int .u8 y8, .int .u8 y9, .int .u8 y10, .int .u8 y11, .int .u8 y12, .int .u8 y13, .int .u8 y14, .int .u8 y15]) (x0 == y0 && (x1 == y1 && (x2 == y2 && (x3 == y3 && (x4 == y4 && (x5 == y5 && (x6 == y6 && (x7 == y7 && (x8 == y8 && (x9 == y9 && (x10 == y10 && (x11 == y11 && (x12 == y12 && (x13 == y13 && (x14 == y14 && (x15 == y15)))))))))))))))) := by
  intro x y W
  go_simp
theorem list16 {p : List Int} (h : p.length = 16) : ∃ x0 x1 x2 x3 x4 x5 x6 x7 x8 x9 x10 x11 x12 x13 x14 x15, p = [x0, x1, x2, x3, x4, x5, x6, x7, x8, x9, x10, x11, x12, x13, x14, x15] := by
  match p, h with
  | [x0, x1, x2, x3, x4, x5, x6, x7, x8, x9, x10, x11, x12, x13, x14, x15], _ => exact ⟨_, _, _, _, _, _, _, _, _, _, _, _, _, _, _, _, rfl⟩
theorem eqR_ints {p q : List Int} (hp : p.length = 16) (hq : q.length = 16) : EqR 22 (.agg (ints p).toArray) (.agg (ints q).toArray) (decide (p = q)) := by
  obtain ⟨x0, x1, x2, x3, x4, x5, x6, x7, x8, x9, x10, x11, x12, x13, x14, x15, rfl⟩ := list16 hp
  obtain ⟨y0, y1, y2, y3, y4, y5, y6, y7, y8, y9, y10, y11, y12, y13, y14, y15, rfl⟩ := list16 hq
  have h := eqR16 x0 x1 x2 x3 x4 x5 x6 x7 x8 x9 x10 x11 x12 x13 x14 x15 y0 y1 y2 y3 y4 y5 y6 y7 y8 y9 y10 y11 y12 y13 y14 y15
  have e : (x0 == y0 && (x1 == y1 && (x2 == y2 && (x3 == y3 && (x4 == y4 && (x5 == y5 && (x6 == y6 && (x7 == y7 && (x8 == y8 && (x9 == y9 && (x10 == y10 && (x11 == y11 && (x12 == y12 && (x13 == y13 && (x14 == y14 && (x15 == y15)))))))))))))))) = decide ([x0, x1, x2, x3, x4, x5, x6, x7, x8, x9, x10, x11, x12, x13, x14, x15] = [y0, y1, y2, y3, y4, y5, y6, y7, y8, y9, y10, y11, y12, y13, y14, y15]) := by
    rw [Bool.eq_iff_iff]
    simp
  rw [e] at h
  exact h
theorem results_ct {fn : Func} {p q : Tmp} {t : TypeId} (h : fn.results = #[.cell p t, .tmp q]) (tmps : Array Value) (w : World) (g : Nat) (v1 v2 : Value)
    (hp : tmps.getD p undef = .pointer (some ⟨g, 0, none⟩)) (hq : tmps.getD q undef = v2) (h1 : (loadVar t ⟨g, 0, none⟩).run Try.prog w = .ok v1 w) : (results fn tmps).run Try.prog w = .ok (.tuple #[v1, v2]) w := by
  have hp' : tmps[p]?.getD undef = .pointer (some ⟨g, 0, none⟩) := by simpa using hp
  have hq' : tmps[q]?.getD undef = v2 := by simpa using hq
  simp [results, h, hp', hq', asAddr, h1]
end Go.Proofs.Ytpbkdphilcodmaa.Q
