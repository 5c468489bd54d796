/- The walk of the law on tellings: bytes, padded, a block's state, and a digest, are as the document says. -/
import Derived.Test.YtadgdhefgibakaaBase
import Derived.Test.YtadgdhefgibakaaEq
import Derived.Test.YtadgdhefgibakaaArr
import Derived.Test.YtadgdhefgibakaaRow
import Derived.Test.YtadgdhefgibakaaNm
import Derived.Test.YtadgdhefgibakaaQx3
import Derived.Test.YtadgdhefgibakaaQx4
import Derived.Test.YtadgdhefgibakaaQx6
import Derived.Test.YtadgdhefgibakaaQx7
import Derived.Test.YtadgdhefgibakaaQx8
import Derived.Test.YtadgdhefgibakaaQx9
import Derived.Test.YtadgdhefgibakaaQx10
import Derived.Test.YtadgdhefgibakaaRdQ
import Derived.OpenShut
namespace Go.Proofs.Ytadgdhefgibakaa.Q
open Go.RowKit Go.Proofs.YtadgdhefgibakaaW.PrintWords Go.Proofs.YtadgdhefgibakaaW.PrintLast Go.Proofs.YtadgdhefgibakaaW.PrintMore
open Go.Proofs.YtadgdhefgibakaaV Go.Proofs.Ytadgdhefgibakaa.Pure Go.Proofs.YtadgdhefgibakaaK Go.Proofs.YtadgdhefgibakaaR
attribute [local go_sem] max2_int min2_int max_two min_two max_three min_three max_four min_four
set_option linter.unusedVariables false
set_option linter.unusedSimpArgs false
section
variable {P : Program}
theorem run_loadVar_part (w : World) (g off : Nat) (ty : TypeId) (ys : List Value) (d : TypeDesc) (hc : ∀ j v, ys[j]? = some v → w.cell? ⟨g, off + j, none⟩ = some v)
    (hu : P.underlying ty = some d) (hd : (match d with | .struct _ | .array _ _ => true | _ => false) = true) (hi : (P.info? ty).map (·.size) = some ys.length) :
    (loadVar ty ⟨g, off, none⟩).run P w = .ok (.agg ys.toArray) w := by
  have hl : (loadCells ⟨g, off, none⟩ ys.length).run P w = .ok ys.toArray w :=
    run_loadCells_list (P := P) w ⟨g, off, none⟩ ys (fun j v hv => by
      have hadd : (⟨g, off, none⟩ : Addr).add j = ⟨g, off + j, none⟩ := by unfold Addr.add; split <;> simp_all
      rw [hadd]
      exact hc j v hv)
  cases hq : P.info? ty with
  | none => simp [hq] at hi
  | some i =>
    have hs : i.size = ys.length := by simpa [hq] using hi
    have hagg : (isAgg ty).run P w = .ok true w := by
      unfold isAgg
      rw [Sem.run_bind, run_underlying hu w]
      cases d <;> simp_all
    simp [loadVar, Sem.run_bind, hagg, sizeOf, typeInfo, hq, hs, hl]
theorem wpList_load_part {ops : Array Oper} {rest : List Oper} {o : Oper} {a : Act} {w : World} {Q : Exit → Act → World → Prop} (hgd : o.guard = none) (N : Option Tmp) (hN : o.dst = N) (ty : TypeId) (x : Operand) (ho : o.op = .load ty x)
    (g off : Nat) (hx : a.eval x = .pointer (some ⟨g, off, none⟩)) (ys : List Value) (d : TypeDesc) (hc : ∀ j v, ys[j]? = some v → w.cell? ⟨g, off + j, none⟩ = some v)
    (hu : P.underlying ty = some d) (hd : (match d with | .struct _ | .array _ _ => true | _ => false) = true) (hi : (P.info? ty).map (·.size) = some ys.length)
    (h : wpList P ops Q rest (a.put N (.agg ys.toArray)) w) : wpList P ops Q (o :: rest) a w := by
  subst hN
  refine wpList_plain hgd fun _ hK => ?_
  unfold Oper.wp execOp
  simp only [ho, hx, Instr.loadAt, Instr.sureAddr, Sem.run_bind, Sem.run_pure, Result.andThen_ok, run_loadVar_part w g off ty ys d hc hu hd hi]
  exact hK _ _ h
end
theorem part_cells {w : World} {g off t : Nat} {pre ys post : List Value} (hg : w.heap[g]? = some (.cells (pre ++ ys ++ post).toArray t (0, 0))) (ho : pre.length = off) : ∀ j v, ys[j]? = some v → w.cell? ⟨g, off + j, none⟩ = some v := by
  intro j v hv
  refine (blk_cell hg (off + j)).trans ?_
  have hj : j < ys.length := by
    rcases Nat.lt_or_ge j ys.length with h | h
    · exact h
    · rw [List.getElem?_eq_none h] at hv
      cases hv
  rw [List.getElem?_toArray, List.append_assoc, List.getElem?_append_right (by omega), List.getElem?_append_left (by omega), show off + j - pre.length = j by omega]
  exact hv
/-- What the parameter is, cell by cell. -/
def tellsL (A : Option Addr) (n cl : Nat) (z0 z1 z2 z3 : Int) (ms : List Int) (o0 o1 o2 o3 o4 o5 o6 o7 o8 o9 o10 o11 o12 o13 o14 o15 : Int) : List Value :=
  [.slice A n cl] ++ ([.int .u32 z0, .int .u32 z1, .int .u32 z2, .int .u32 z3] ++ (ms.map (Value.int .u8) ++ [.int .u8 o0, .int .u8 o1, .int .u8 o2, .int .u8 o3, .int .u8 o4, .int .u8 o5, .int .u8 o6, .int .u8 o7, .int .u8 o8, .int .u8 o9, .int .u8 o10, .int .u8 o11, .int .u8 o12, .int .u8 o13, .int .u8 o14, .int .u8 o15]))
section
variable {A : Option Addr} {n cl : Nat} {z0 z1 z2 z3 : Int} {ms : List Int} {o0 o1 o2 o3 o4 o5 o6 o7 o8 o9 o10 o11 o12 o13 o14 o15 : Int} {w : World} {g : Nat}
theorem tells_0 (hg : w.heap[g]? = some (.cells (tellsL A n cl z0 z1 z2 z3 ms o0 o1 o2 o3 o4 o5 o6 o7 o8 o9 o10 o11 o12 o13 o14 o15).toArray 28 (0, 0))) : w.cell? ⟨g, 0, none⟩ = some (.slice A n cl) := (blk_cell hg 0).trans rfl
theorem tells_1 (hg : w.heap[g]? = some (.cells (tellsL A n cl z0 z1 z2 z3 ms o0 o1 o2 o3 o4 o5 o6 o7 o8 o9 o10 o11 o12 o13 o14 o15).toArray 28 (0, 0))) : ∀ j v, ([.int .u32 z0, .int .u32 z1, .int .u32 z2, .int .u32 z3] : List Value)[j]? = some v → w.cell? ⟨g, 1 + j, none⟩ = some v :=
  part_cells (pre := [.slice A n cl]) (post := ms.map (Value.int .u8) ++ [.int .u8 o0, .int .u8 o1, .int .u8 o2, .int .u8 o3, .int .u8 o4, .int .u8 o5, .int .u8 o6, .int .u8 o7, .int .u8 o8, .int .u8 o9, .int .u8 o10, .int .u8 o11, .int .u8 o12, .int .u8 o13, .int .u8 o14, .int .u8 o15]) (t := 28) (by rw [hg, tellsL]; simp only [List.append_assoc]) rfl
theorem tells_5 (hg : w.heap[g]? = some (.cells (tellsL A n cl z0 z1 z2 z3 ms o0 o1 o2 o3 o4 o5 o6 o7 o8 o9 o10 o11 o12 o13 o14 o15).toArray 28 (0, 0))) : ∀ j v, (ms.map (Value.int .u8))[j]? = some v → w.cell? ⟨g, 5 + j, none⟩ = some v :=
  part_cells (pre := [.slice A n cl] ++ [.int .u32 z0, .int .u32 z1, .int .u32 z2, .int .u32 z3]) (post := [.int .u8 o0, .int .u8 o1, .int .u8 o2, .int .u8 o3, .int .u8 o4, .int .u8 o5, .int .u8 o6, .int .u8 o7, .int .u8 o8, .int .u8 o9, .int .u8 o10, .int .u8 o11, .int .u8 o12, .int .u8 o13, .int .u8 o14, .int .u8 o15]) (t := 28) (by rw [hg, tellsL]; simp only [List.append_assoc]) rfl
theorem tells_69 (hg : w.heap[g]? = some (.cells (tellsL A n cl z0 z1 z2 z3 ms o0 o1 o2 o3 o4 o5 o6 o7 o8 o9 o10 o11 o12 o13 o14 o15).toArray 28 (0, 0))) (hms : ms.length = 64) : ∀ j v, ([.int .u8 o0, .int .u8 o1, .int .u8 o2, .int .u8 o3, .int .u8 o4, .int .u8 o5, .int .u8 o6, .int .u8 o7, .int .u8 o8, .int .u8 o9, .int .u8 o10, .int .u8 o11, .int .u8 o12, .int .u8 o13, .int .u8 o14, .int .u8 o15] : List Value)[j]? = some v → w.cell? ⟨g, 69 + j, none⟩ = some v :=
  part_cells (pre := [.slice A n cl] ++ ([.int .u32 z0, .int .u32 z1, .int .u32 z2, .int .u32 z3] ++ ms.map (Value.int .u8))) (post := []) (t := 28) (by rw [hg, tellsL]; simp only [List.append_assoc, List.append_nil]) (by simp only [List.length_append, List.length_map, hms]; rfl)
end
structure tells_M (w : World) (g4 g5 g6 : Nat) (ss ms os : List Int) (W : World) : Prop where
  bel : Below w.heap.size w W
  s : Nums W g4 24 .u32 ss
  m : Nums W g5 25 .u8 ms
  o : Nums W g6 26 .u8 os
theorem tells_M.keep {w W W' : World} {g4 g5 g6 : Nat} {ss ms os : List Int} (h : tells_M w g4 g5 g6 ss ms os W) (hb : Below W.heap.size W W') : tells_M w g4 g5 g6 ss ms os W' := ⟨below_step h.bel hb, h.s.keep hb, h.m.keep hb, h.o.keep hb⟩
structure tells_N (w : World) (g4 g5 g6 g8 g9 : Nat) (ss ms os ys zs : List Int) (W : World) : Prop where
  M : tells_M w g4 g5 g6 ss ms os W
  x : Nums W g8 26 .u8 ys
  y : Nums W g9 26 .u8 zs
theorem tells_N.keep {w W W' : World} {g4 g5 g6 g8 g9 : Nat} {ss ms os ys zs : List Int} (h : tells_N w g4 g5 g6 g8 g9 ss ms os ys zs W) (hb : Below W.heap.size W W') : tells_N w g4 g5 g6 g8 g9 ss ms os ys zs W' := ⟨h.M.keep hb, h.x.keep hb, h.y.keep hb⟩
theorem tells_drawn {W W' : World} (h : Drawn0 W W') : Below W.heap.size W W' := by
  obtain ⟨n, rfl⟩ := h
  exact pN (Below.refl _ _) _
theorem eqA24 (d : Nat) (w : World) (x0 y0 : Int) (x1 y1 : Int) (x2 y2 : Int) (x3 y3 : Int) :
    (Op.equalIn (d + 2) 24 (.agg #[.int .u32 x0, .int .u32 x1, .int .u32 x2, .int .u32 x3]) (.agg #[.int .u32 y0, .int .u32 y1, .int .u32 y2, .int .u32 y3])).run Try.prog w = .ok (x0 == y0 && (x1 == y1 && (x2 == y2 && (x3 == y3)))) w := by
  refine arrA_of (c := 1) Try.underlying24 (by kernel_rfl) (by kernel_rfl) ?_
  rw [show List.range 4 = [0, 1, 2, 3] from rfl]
  refine eqi_cons (by go_simp; rfl) (by go_simp; rfl) (by go_simp) ?_
  refine eqi_cons (by go_simp; rfl) (by go_simp; rfl) (by go_simp) ?_
  refine eqi_cons (by go_simp; rfl) (by go_simp; rfl) (by go_simp) ?_
  exact eqi_last (by go_simp; rfl) (by go_simp; rfl) (by go_simp)
attribute [local go_sem high] eqA24 eqA26
theorem tells_blk1 {ms : List Int} {z0 z1 z2 z3 r1 r2 r3 r4 : Int} (hms : ms.length = 64) (hr : md5_Block.fin z0 z1 z2 z3 ms = (r1, r2, r3, r4)) (g : Nat) (W : World) (h : Nums W g 25 .u8 ms) :
    Calls Try.prog 14 #[.agg #[.int .u32 z0, .int .u32 z1, .int .u32 z2, .int .u32 z3], .slice (some ⟨g, 0, none⟩) 64 64] W fun e w' => e = .returned (.agg #[.int .u32 r1, .int .u32 r2, .int .u32 r3, .int .u32 r4]) ∧ Below W.heap.size W w' := by
  have := md5_Block.calls 0 z0 z1 z2 z3 (some ⟨g, 0, none⟩) 64 ms r1 r2 r3 r4 W (C_nums h (by omega)) (by omega) (by unfold md5_Block.f; rw [if_pos (by omega), hr])
  rwa [hms] at this
theorem tells_blk2 {ms : List Int} {z0 z1 z2 z3 r1 r2 r3 r4 : Int} (hms : ms.length = 64) (hB : B ms) (hs : ww (z0, z1, z2, z3)) (hr : md5_Block.fin z0 z1 z2 z3 ms = (r1, r2, r3, r4)) (g : Nat) (W : World) (h : Nums W g 25 .u8 ms) :
    Calls Try.prog 15 #[.agg #[.int .u32 z0, .int .u32 z1, .int .u32 z2, .int .u32 z3], .slice (some ⟨g, 0, none⟩) 64 64] W fun e w' => e = .returned (.agg #[.int .u32 r1, .int .u32 r2, .int .u32 r3, .int .u32 r4]) ∧ Below W.heap.size W w' := by
  have := portreeveref02_Block.calls 200 z0 z1 z2 z3 (some ⟨g, 0, none⟩) 64 ms r1 r2 r3 r4 W (C_nums h (by omega)) (by omega) (by rw [block_ref hB (by omega) (by omega) z0 z1 z2 z3 hs 200 (by omega), hr])
  rwa [hms] at this
def EqR (t : TypeId) (u v : Value) (r : Bool) : Prop := ∀ (x y : Operand) (W : World), ((do eqGuard .eql t x y u v; binOp .eql t u v) : Sem Value).run Try.prog W = .ok (.bool r) W
def LdR (t : TypeId) (g : Nat) (v : Value) (W : World) : Prop := (Instr.loadAt t (.pointer (some ⟨g, 0, none⟩))).run Try.prog W = .ok v W
theorem ldR_of {t : TypeId} {g : Nat} {k : IntKind} {xs : List Int} {d : TypeDesc} {W : World} (h : Nums W g t k xs) (hd : (match d with | .struct _ | .array _ _ => true | _ => false) = true) (hu : Try.prog.underlying t = some d) (hi : (Try.prog.info? t).map (·.size) = some xs.length) {v : Value} (hv : Value.agg (xs.map (Value.int k)).toArray = v) : LdR t g v W := by
  subst hv
  unfold LdR
  simp only [Instr.loadAt, Instr.sureAddr, Sem.run_bind, Sem.run_pure, Result.andThen_ok]
  exact run_loadVar_row W g t t _ (0, 0) d h hu (by cases d <;> first | rfl | exact hd) (by rw [List.size_toArray, List.length_map]; exact hi)
theorem load_yields {o : Oper} {a : Act} {W : World} {t : TypeId} {x : Operand} {g : Nat} {v : Value} (ho : o.op = .load t x) (hx : a.eval x = .pointer (some ⟨g, 0, none⟩)) (h : LdR t g v W) : (execOp a.eval o).run Try.prog W = .ok (.value v) W := by
  unfold LdR at h
  unfold execOp
  simp only [ho, hx, Sem.run_bind, h, Result.andThen_ok, Sem.run_pure]
theorem eql_yields {o : Oper} {a : Act} {W : World} {t u : TypeId} {x y : Operand} {v1 v2 : Value} {r : Bool} (ho : o.op = .binOp .eql t x y u) (hx : a.eval x = v1) (hy : a.eval y = v2) (h : EqR t v1 v2 r) : (execOp a.eval o).run Try.prog W = .ok (.value (.bool r)) W := by
  have := h x y W
  unfold execOp
  simp only [ho, hx, hy]
  rw [Sem.run_bind, this]
  rfl
theorem eqR4 (x0 y0 : Int) (x1 y1 : Int) (x2 y2 : Int) (x3 y3 : Int) : EqR 24 (.agg #[.int .u32 x0, .int .u32 x1, .int .u32 x2, .int .u32 x3]) (.agg #[.int .u32 y0, .int .u32 y1, .int .u32 y2, .int .u32 y3]) (x0 == y0 && (x1 == y1 && (x2 == y2 && (x3 == y3)))) := by
  intro x y W
  go_simp
theorem eqR16 (x0 x1 x2 x3 x4 x5 x6 x7 x8 x9 x10 x11 x12 x13 x14 x15 y0 y1 y2 y3 y4 y5 y6 y7 y8 y9 y10 y11 y12 y13 y14 y15 : Int) : EqR 26 (.agg #[.int .u8 x0, .int .u8 x1, .int .u8 x2, .int .u8 x3, .int .u8 x4, .int .u8 x5, .int .u8 x6, .int .u8 x7, .int .u8 x8, .int .u8 x9, .int .u8 x10, .int .u8 x11, .int .u8 x12, .int .u8 x13, .int .u8 x14, .int .u8 x15]) (.agg #[.int .u8 y0, .int .u8 y1, .int .u8 y2, .int .u8 y3, .int .u8 y4, .int .u8 y5, .int .u8 y6, .int .u8 y7, .int .u8 y8, .int .u8 y9, .int .u8 y10, .int .u8 y11, .int .u8 y12, .int .u8 y13, .int .u8 y14, .int .u8 y15]) (x0 == y0 && (x1 == y1 && (x2 == y2 && (x3 == y3 && (x4 == y4 && (x5 == y5 && (x6 == y6 && (x7 == y7 && (x8 == y8 && (x9 == y9 && (x10 == y10 && (x11 == y11 && (x12 == y12 && (x13 == y13 && (x14 == y14 && (x15 == y15)))))))))))))))) := by
  intro x y W
  go_simp
theorem eqRb (r : Bool) : EqR 4 (.bool r) (.bool r) true := by
  intro x y W
  go_simp
abbrev P28 := List Int × List Int × List Int × List Int
def kp28 : Kd P28 := Kd.pair (Kd.slice 5 (Kd.int .u8)) (Kd.pair (Kd.arr 4 (Kd.int .u32) (by decide)) (Kd.pair (Kd.arr 64 (Kd.int .u8) (by decide)) (Kd.arr 16 (Kd.int .u8) (by decide))))
def g28 (x : P28) : Prop := (x.1.length * 1 ≤ 140737488351232 ∧ ∀ a ∈ x.1, (Lit.int .u8 a).wf = true) ∧ ((x.2.1.length = 4 ∧ ∀ a ∈ x.2.1, (Lit.int .u32 a).wf = true) ∧ ((x.2.2.1.length = 64 ∧ ∀ a ∈ x.2.2.1, (Lit.int .u8 a).wf = true) ∧ (x.2.2.2.length = 16 ∧ ∀ a ∈ x.2.2.2, (Lit.int .u8 a).wf = true)))
theorem rdr28 : Rdr Try.prog 28 (Kd.iso kp28 (fun x : P28 => x)) (fun b => g28 b) :=
  Rdr.struct Try.underlying28 rfl (by kernel_rfl) (fun x : P28 => x) (fun y => y) (fun _ => rfl)
    (RdrF.cons (o' := 1) rfl (by kernel_rfl) (Rdr.slice (B := 1) Try.underlying22 (by kernel_rfl) (by kernel_rfl) (Rdr.int Try.underlying5)) (by kernel_rfl)
      (RdrF.cons (o' := 5) rfl (by kernel_rfl) (Rdr.arr Try.underlying24 (by kernel_rfl) (by kernel_rfl) (Rdr.int Try.underlying23)) (by kernel_rfl)
        (RdrF.cons (o' := 69) rfl (by kernel_rfl) (Rdr.arr Try.underlying25 (by kernel_rfl) (by kernel_rfl) (Rdr.int Try.underlying5)) (by kernel_rfl)
          (RdrF.one rfl (by kernel_rfl) (Rdr.arr Try.underlying26 (by kernel_rfl) (by kernel_rfl) (Rdr.int Try.underlying5))))))
theorem arr_cells {W : World} {n : Nat} {k : IntKind} {hs : 0 < (Kd.int k).sz} {cs : List Value} {ms : List Int} (h : (Kd.arr n (Kd.int k) hs).K W ms cs) : cs = ms.map (Value.int k) := by
  have := (arr_ints (cs := cs.toArray) (by simpa using h)).2
  simpa using congrArg Array.toList this
theorem l4 : ∀ {l : List Int}, l.length = 4 → ∃ a b c d, l = [a, b, c, d]
  | [a, b, c, d], _ => ⟨a, b, c, d, rfl⟩
theorem tells_arg {W : World} {cs : Array Value} {x : P28} (hK : (Kd.iso kp28 (fun x : P28 => x)).K W x cs.toList) (hG : g28 x) :
    ∃ (l : List Int) (A : Option Addr) (cl : Nat) (z0 z1 z2 z3 : Int) (ms : List Int) (o0 o1 o2 o3 o4 o5 o6 o7 o8 o9 o10 o11 o12 o13 o14 o15 : Int), cs = (tellsL A l.length cl z0 z1 z2 z3 ms o0 o1 o2 o3 o4 o5 o6 o7 o8 o9 o10 o11 o12 o13 o14 o15).toArray ∧ Kd.C (Kd.int .u8) W A l.length l ∧ l.length ≤ cl ∧ B l ∧ ww (z0, z1, z2, z3) ∧ ms.length = 64 ∧ B ms := by
  obtain ⟨l, ss, ms, os⟩ := x
  obtain ⟨c0, c1, e0, ⟨A, cl, rfl, hcl, hC⟩, d0, d1, rfl, hs, f0, f1, rfl, hm, ho⟩ := hK
  obtain ⟨⟨_, gl⟩, ⟨ls, gs⟩, ⟨lm, gm⟩, lo, go⟩ := hG
  dsimp only at ls gs lm gm lo go gl hs hm ho hC hcl
  obtain rfl := arr_cells hs
  obtain rfl := arr_cells hm
  obtain rfl := arr_cells ho
  obtain ⟨z0, z1, z2, z3, rfl⟩ := l4 ls
  obtain ⟨o0, o1, o2, o3, o4, o5, o6, o7, o8, o9, o10, o11, o12, o13, o14, o15, rfl⟩ := l16 lo
  refine ⟨l, A, cl, z0, z1, z2, z3, ms, o0, o1, o2, o3, o4, o5, o6, o7, o8, o9, o10, o11, o12, o13, o14, o15, ?_, hC, hcl, fun c hc => bounds_u8 (gl c hc), ?_, lm, fun c hc => bounds_u8 (gm c hc)⟩
  · rw [← Array.toArray_toList (xs := cs), e0]
    rfl
  · have hz := fun z hz => bounds_u32 (gs z hz)
    have h0 := hz z0 (by simp)
    have h1 := hz z1 (by simp)
    have h2 := hz z2 (by simp)
    have h3 := hz z3 (by simp)
    unfold ww w32
    dsimp only
    omega
set_option maxHeartbeats 8000000 in
set_option maxRecDepth 100000 in
theorem tells_calls (l : List Int) (A : Option Addr) (cl : Nat) (z0 z1 z2 z3 : Int) (ms : List Int) (o0 o1 o2 o3 o4 o5 o6 o7 o8 o9 o10 o11 o12 o13 o14 o15 : Int) (w : World) (hr : Kd.C (Kd.int .u8) w A l.length l) (hcl : l.length ≤ cl) (hB : B l) (hs : ww (z0, z1, z2, z3)) (hms : ms.length = 64) (hm : B ms) :
    Calls Try.prog 3 #[.agg (tellsL A l.length cl z0 z1 z2 z3 ms o0 o1 o2 o3 o4 o5 o6 o7 o8 o9 o10 o11 o12 o13 o14 o15).toArray] w fun e w' => e = .returned (.bool true) ∧ Below w.heap.size w w' := by
  have HR := Aside0.mk hr
  have HCL := Aside0.mk hcl
  have HB := Aside0.mk hB
  have HWW := Aside0.mk hs
  have HMS := Aside0.mk hms
  have HBM := Aside0.mk hm
  clear hr hcl hB hs hms hm
  obtain ⟨cs, hcs⟩ : ∃ cs, cs = (tellsL A l.length cl z0 z1 z2 z3 ms o0 o1 o2 o3 o4 o5 o6 o7 o8 o9 o10 o11 o12 o13 o14 o15).toArray := ⟨_, rfl⟩
  rw [← hcs]
  have HCS := Aside0.mk hcs
  clear hcs
  go_enter Try.func3, Try.ntmps3
  go_upto_region 1 with (first
    | ((with_reducible refine gate_dst (N := 1) rfl ?_); refine box_event ?hg (N := 1) ?hd (cs := cs) (t := 28) ?hr ?_; (case hd => rfl); (case hg => rfl); (case hr => first | (go_simp; done) | (go_simp; rfl)); intro g1 hg w1 hbox hb; rw [HCS.out] at hbox; have B1 := Aside0.mk hbox; have HL := Aside0.mk hb; clear hbox hb))
  subst hg
  have hc0 := tells_0 B1.out
  go_upto_region 2 with (fail)
  clear hc0
  go_upto_region 3 with (first
    | ((with_reducible refine gate_dst (N := 13) rfl ?_); refine wpList_load_part rfl (some 13) rfl 24 (.tmp 12) rfl w.heap.size 1 rfl [.int .u32 z0, .int .u32 z1, .int .u32 z2, .int .u32 z3] _ (tells_1 B1.out) Try.underlying24 rfl (by kernel_rfl) ?_))
  have B2 := Aside0.mk (blk_alloc B1.out (.cells #[.int .u32 z0, .int .u32 z1, .int .u32 z2, .int .u32 z3] 24))
  have G4 := Aside0.mk (show Nums (w1.alloc (.cells #[.int .u32 z0, .int .u32 z1, .int .u32 z2, .int .u32 z3] 24)) w1.heap.size 24 .u32 [z0, z1, z2, z3] from Nums.new (xs := [z0, z1, z2, z3]) rfl)
  have HL2 := Aside0.mk (pA HL.out (.cells #[.int .u32 z0, .int .u32 z1, .int .u32 z2, .int .u32 z3] 24))
  clear B1 HL
  generalize w1.alloc (.cells #[.int .u32 z0, .int .u32 z1, .int .u32 z2, .int .u32 z3] 24) = w2 at B2 G4 HL2 ⊢
  generalize w1.heap.size = g4 at G4 ⊢
  go_upto_region 4 with (first
    | ((with_reducible refine gate_dst (N := 15) rfl ?_); refine wpList_load_part rfl (some 15) rfl 25 (.tmp 14) rfl w.heap.size 5 rfl (ms.map (Value.int .u8)) _ (tells_5 B2.out) Try.underlying25 rfl (by rw [List.length_map, HMS.out]; kernel_rfl) ?_)
    | ((with_reducible refine gate_dst (N := 5) rfl ?_); refine box_event ?hg (N := 5) ?hd (cs := (List.replicate 64 (Value.int .u8 0)).toArray) (t := 25) ?hr ?_; (case hd => rfl); (case hg => rfl); (case hr => first | (go_simp; done) | (go_simp; rfl)); intro g5 hg w3 hbox hb; have B3 := Aside0.mk ((hb.block w.heap.size (blk_lt B2.out)).trans B2.out); have G4' := Aside0.mk (G4.out.keep hb); have HL3 := Aside0.mk (below_step HL2.out hb); have LT := Aside0.mk (show g4 < g5 by rw [hg]; exact blk_lt G4.out); have LW := Aside0.mk (show w.heap.size < g5 by rw [hg]; exact blk_lt B2.out); have B5 := Aside0.mk hbox; clear hbox hb B2 G4 HL2 hg)
    | (refine wpList_store_rowTo rfl 25 (.tmp 5) (.tmp 15) rfl rfl g5 (ms.map (Value.int .u8)).toArray ?hx ?hy 25 _ B5.out (by rw [List.size_toArray, List.length_map, HMS.out]; kernel_rfl) (by rw [List.size_toArray, List.size_toArray, List.length_map, List.length_replicate, HMS.out]) (by simp [Value.oneCell']) ?_; (case hx => rfl); (case hy => rfl); have B4 := Aside0.mk ((setRow_other _ g5 w.heap.size (ms.map (Value.int .u8)).toArray (Nat.ne_of_lt LW.out)).trans B3.out); have H4 := Aside0.mk ((setRow_other _ g5 g4 (ms.map (Value.int .u8)).toArray (Nat.ne_of_lt LT.out)).trans G4'.out); have H5 := Aside0.mk (setRow_heap _ g5 _ (ms.map (Value.int .u8)).toArray 25 (0, 0) B5.out); have HL4 := Aside0.mk (below_setRow HL3.out (Nat.le_of_lt LW.out) (ms.map (Value.int .u8)).toArray); clear B3 G4' B5 HL3 LT LW; generalize w3.setRow g5 (ms.map (Value.int .u8)).toArray = w4 at B4 H4 H5 HL4 ⊢))
  go_upto_region 5 with (first
    | ((with_reducible refine gate_dst (N := 17) rfl ?_); refine wpList_load_part rfl (some 17) rfl 26 (.tmp 16) rfl w.heap.size 69 rfl [.int .u8 o0, .int .u8 o1, .int .u8 o2, .int .u8 o3, .int .u8 o4, .int .u8 o5, .int .u8 o6, .int .u8 o7, .int .u8 o8, .int .u8 o9, .int .u8 o10, .int .u8 o11, .int .u8 o12, .int .u8 o13, .int .u8 o14, .int .u8 o15] _ (tells_69 B4.out HMS.out) Try.underlying26 rfl (by kernel_rfl) ?_))
  have HM := Aside0.mk (show tells_M w g4 g5 w4.heap.size [z0, z1, z2, z3] ms [o0, o1, o2, o3, o4, o5, o6, o7, o8, o9, o10, o11, o12, o13, o14, o15] (w4.alloc (.cells #[.int .u8 o0, .int .u8 o1, .int .u8 o2, .int .u8 o3, .int .u8 o4, .int .u8 o5, .int .u8 o6, .int .u8 o7, .int .u8 o8, .int .u8 o9, .int .u8 o10, .int .u8 o11, .int .u8 o12, .int .u8 o13, .int .u8 o14, .int .u8 o15] 26)) from ⟨pA HL4.out _, blk_alloc H4.out _, blk_alloc H5.out _, Nums.new (xs := [o0, o1, o2, o3, o4, o5, o6, o7, o8, o9, o10, o11, o12, o13, o14, o15]) rfl⟩)
  clear B4 H4 H5 HL4 HCS
  generalize w4.alloc (.cells #[.int .u8 o0, .int .u8 o1, .int .u8 o2, .int .u8 o3, .int .u8 o4, .int .u8 o5, .int .u8 o6, .int .u8 o7, .int .u8 o8, .int .u8 o9, .int .u8 o10, .int .u8 o11, .int .u8 o12, .int .u8 o13, .int .u8 o14, .int .u8 o15] 26) = w5 at HM ⊢
  generalize w4.heap.size = g6 at HM ⊢
  go_upto_if 21 with (first
    | (go_at_call 8; refine (portreevelaw02_shown.calls 100 true _ (shown_f 100 (by omega))).mono ?_; rintro e w6 ⟨rfl, hb⟩; have HM1 := Aside0.mk (HM.out.keep hb); clear HM hb))
  by_cases hlen : (l.length : Int) > 1000
  · have hlen2 : (1000 : Int) < (l.length : Int) := hlen
    go_wp2
    go_ret
    exact ⟨rfl, HM1.out.bel⟩
  · have hlen2 : ¬ (1000 : Int) < (l.length : Int) := hlen
    have hlen3 := Aside0.mk (show l.length ≤ 1000 by omega)
    clear hlen
    obtain ⟨⟨y0, y1, y2, y3, y4, y5, y6, y7, y8, y9, y10, y11, y12, y13, y14, y15⟩, hd⟩ : ∃ d : Int × Int × Int × Int × Int × Int × Int × Int × Int × Int × Int × Int × Int × Int × Int × Int, dig l = d := ⟨_, rfl⟩
    have h1 := sum_f l 100 (by have := hlen3.out; omega) (by omega)
    have h2 := refsum_f l 200 HB.out (by have := hlen3.out; omega) (by omega)
    rw [hd] at h1 h2
    have H1 := Aside0.mk h1
    have H2 := Aside0.mk h2
    clear h1 h2 hd
    go_upto_region 10 with (first
      | (go_at_call 9; refine (md5_Sum.calls 100 A cl l y0 y1 y2 y3 y4 y5 y6 y7 y8 y9 y10 y11 y12 y13 y14 y15 _ (Kd.C_below HR.out HM1.out.bel) HCL.out H1.out).mono ?_; rintro e w7 ⟨rfl, hb⟩; have HM2 := Aside0.mk (HM1.out.keep (pA hb (.cells #[.int .u8 y0, .int .u8 y1, .int .u8 y2, .int .u8 y3, .int .u8 y4, .int .u8 y5, .int .u8 y6, .int .u8 y7, .int .u8 y8, .int .u8 y9, .int .u8 y10, .int .u8 y11, .int .u8 y12, .int .u8 y13, .int .u8 y14, .int .u8 y15] 26))); have HX2 := Aside0.mk (show Nums (w7.alloc (.cells #[.int .u8 y0, .int .u8 y1, .int .u8 y2, .int .u8 y3, .int .u8 y4, .int .u8 y5, .int .u8 y6, .int .u8 y7, .int .u8 y8, .int .u8 y9, .int .u8 y10, .int .u8 y11, .int .u8 y12, .int .u8 y13, .int .u8 y14, .int .u8 y15] 26)) w7.heap.size 26 .u8 [y0, y1, y2, y3, y4, y5, y6, y7, y8, y9, y10, y11, y12, y13, y14, y15] from Nums.new (xs := [y0, y1, y2, y3, y4, y5, y6, y7, y8, y9, y10, y11, y12, y13, y14, y15]) rfl); clear HM1 hb)
      | (go_at_call 10; refine (portreeveref02_Sum.calls 200 A cl l y0 y1 y2 y3 y4 y5 y6 y7 y8 y9 y10 y11 y12 y13 y14 y15 _ (Kd.C_below HR.out HM2.out.bel) HCL.out H2.out).mono ?_; rintro e w8 ⟨rfl, hb⟩; have HN := Aside0.mk (show tells_N w g4 g5 g6 w7.heap.size w8.heap.size [z0, z1, z2, z3] ms [o0, o1, o2, o3, o4, o5, o6, o7, o8, o9, o10, o11, o12, o13, o14, o15] [y0, y1, y2, y3, y4, y5, y6, y7, y8, y9, y10, y11, y12, y13, y14, y15] [y0, y1, y2, y3, y4, y5, y6, y7, y8, y9, y10, y11, y12, y13, y14, y15] (w8.alloc (.cells #[.int .u8 y0, .int .u8 y1, .int .u8 y2, .int .u8 y3, .int .u8 y4, .int .u8 y5, .int .u8 y6, .int .u8 y7, .int .u8 y8, .int .u8 y9, .int .u8 y10, .int .u8 y11, .int .u8 y12, .int .u8 y13, .int .u8 y14, .int .u8 y15] 26)) from ⟨HM2.out.keep (pA hb _), HX2.out.keep (pA hb _), Nums.new (xs := [y0, y1, y2, y3, y4, y5, y6, y7, y8, y9, y10, y11, y12, y13, y14, y15]) rfl⟩); clear HM2 HX2 hb))
    generalize w8.alloc (.cells #[.int .u8 y0, .int .u8 y1, .int .u8 y2, .int .u8 y3, .int .u8 y4, .int .u8 y5, .int .u8 y6, .int .u8 y7, .int .u8 y8, .int .u8 y9, .int .u8 y10, .int .u8 y11, .int .u8 y12, .int .u8 y13, .int .u8 y14, .int .u8 y15] 26) = w9 at HN ⊢
    generalize w8.heap.size = g9 at HN ⊢
    generalize w7.heap.size = g8 at HN ⊢
    obtain ⟨p, hp⟩ : ∃ p, pad l = p := ⟨_, rfl⟩
    have HP1 := Aside0.mk (show md5_Pad.f 100 l = some p by rw [← hp]; exact pad_f l 100 (by have := hlen3.out; omega) (by omega))
    have HP2 := Aside0.mk (show portreeveref02_Pad.f 100 l = some p by rw [← hp]; exact refpad_f l 100 (by have := hlen3.out; omega) (by omega))
    have HRW := Aside0.mk (show portreeveref01_Row.f 100000 p p = some true by rw [row 100000 p p (by rw [← hp, pad_length]; have := hlen3.out; have := zn_lt l.length; omega) (by rw [← hp, pad_length]; have := hlen3.out; have := zn_lt l.length; omega), decide_eq_true rfl])
    obtain ⟨⟨r1, r2, r3, r4⟩, hr4⟩ : ∃ r : Int × Int × Int × Int, md5_Block.fin z0 z1 z2 z3 ms = r := ⟨_, rfl⟩
    obtain ⟨so, hso⟩ : ∃ so, (y0 == o0 && (y1 == o1 && (y2 == o2 && (y3 == o3 && (y4 == o4 && (y5 == o5 && (y6 == o6 && (y7 == o7 && (y8 == o8 && (y9 == o9 && (y10 == o10 && (y11 == o11 && (y12 == o12 && (y13 == o13 && (y14 == o14 && (y15 == o15)))))))))))))))) = so := ⟨_, rfl⟩
    have hsame := fun W => md5_Same.calls y0 y1 y2 y3 y4 y5 y6 y7 y8 y9 y10 y11 y12 y13 y14 y15 o0 o1 o2 o3 o4 o5 o6 o7 o8 o9 o10 o11 o12 o13 o14 o15 so W (congrArg some hso)
    have heo := eqR16 y0 y1 y2 y3 y4 y5 y6 y7 y8 y9 y10 y11 y12 y13 y14 y15 o0 o1 o2 o3 o4 o5 o6 o7 o8 o9 o10 o11 o12 o13 o14 o15
    rw [hso] at heo
    have heq1 := eqR16 y0 y1 y2 y3 y4 y5 y6 y7 y8 y9 y10 y11 y12 y13 y14 y15 y0 y1 y2 y3 y4 y5 y6 y7 y8 y9 y10 y11 y12 y13 y14 y15
    have heq2 := eqR4 r1 r1 r2 r2 r3 r3 r4 r4
    simp only [beq_self_eq_true, Bool.and_self] at heq1 heq2
    have hbl1 := fun W h => tells_blk1 HMS.out hr4 g5 W h
    have hbl2 := fun W h => tells_blk2 HMS.out HBM.out HWW.out hr4 g5 W h
    have hld4 := fun {W : World} (h : tells_N w g4 g5 g6 g8 g9 [z0, z1, z2, z3] ms [o0, o1, o2, o3, o4, o5, o6, o7, o8, o9, o10, o11, o12, o13, o14, o15] [y0, y1, y2, y3, y4, y5, y6, y7, y8, y9, y10, y11, y12, y13, y14, y15] [y0, y1, y2, y3, y4, y5, y6, y7, y8, y9, y10, y11, y12, y13, y14, y15] W) => ldR_of h.M.s rfl Try.underlying24 (by kernel_rfl) rfl
    have hld6 := fun {W : World} (h : tells_N w g4 g5 g6 g8 g9 [z0, z1, z2, z3] ms [o0, o1, o2, o3, o4, o5, o6, o7, o8, o9, o10, o11, o12, o13, o14, o15] [y0, y1, y2, y3, y4, y5, y6, y7, y8, y9, y10, y11, y12, y13, y14, y15] [y0, y1, y2, y3, y4, y5, y6, y7, y8, y9, y10, y11, y12, y13, y14, y15] W) => ldR_of h.M.o rfl Try.underlying26 (by kernel_rfl) rfl
    have hld8 := fun {W : World} (h : tells_N w g4 g5 g6 g8 g9 [z0, z1, z2, z3] ms [o0, o1, o2, o3, o4, o5, o6, o7, o8, o9, o10, o11, o12, o13, o14, o15] [y0, y1, y2, y3, y4, y5, y6, y7, y8, y9, y10, y11, y12, y13, y14, y15] [y0, y1, y2, y3, y4, y5, y6, y7, y8, y9, y10, y11, y12, y13, y14, y15] W) => ldR_of h.x rfl Try.underlying26 (by kernel_rfl) rfl
    have hld9 := fun {W : World} (h : tells_N w g4 g5 g6 g8 g9 [z0, z1, z2, z3] ms [o0, o1, o2, o3, o4, o5, o6, o7, o8, o9, o10, o11, o12, o13, o14, o15] [y0, y1, y2, y3, y4, y5, y6, y7, y8, y9, y10, y11, y12, y13, y14, y15] [y0, y1, y2, y3, y4, y5, y6, y7, y8, y9, y10, y11, y12, y13, y14, y15] W) => ldR_of h.y rfl Try.underlying26 (by kernel_rfl) rfl
    simp only [List.map_cons, List.map_nil] at hld4 hld6 hld8 hld9
    generalize Value.agg #[.int .u8 y0, .int .u8 y1, .int .u8 y2, .int .u8 y3, .int .u8 y4, .int .u8 y5, .int .u8 y6, .int .u8 y7, .int .u8 y8, .int .u8 y9, .int .u8 y10, .int .u8 y11, .int .u8 y12, .int .u8 y13, .int .u8 y14, .int .u8 y15] = Y at hsame heo heq1 hld8 hld9 ⊢
    generalize Value.agg #[.int .u8 o0, .int .u8 o1, .int .u8 o2, .int .u8 o3, .int .u8 o4, .int .u8 o5, .int .u8 o6, .int .u8 o7, .int .u8 o8, .int .u8 o9, .int .u8 o10, .int .u8 o11, .int .u8 o12, .int .u8 o13, .int .u8 o14, .int .u8 o15] = O at hsame heo hld6 ⊢
    generalize Value.agg #[.int .u32 z0, .int .u32 z1, .int .u32 z2, .int .u32 z3] = Z at hbl1 hbl2 hld4 ⊢
    generalize Value.agg #[.int .u32 r1, .int .u32 r2, .int .u32 r3, .int .u32 r4] = Rv at hbl1 hbl2 heq2
    generalize Value.agg cs = Cs
    generalize Value.agg (List.map (Value.int .u8) ms).toArray = Ms
    have HSM := Aside0.mk hsame
    have HEO := Aside0.mk heo
    have HE1 := Aside0.mk heq1
    have HE2 := Aside0.mk heq2
    have HBL1 := Aside0.mk hbl1
    have HBL2 := Aside0.mk hbl2
    have HL4 := Aside0.mk @hld4
    have HL6 := Aside0.mk @hld6
    have HL8 := Aside0.mk @hld8
    have HL9 := Aside0.mk @hld9
    clear hp hr4 hso hsame heo heq1 heq2 hbl1 hbl2 hld4 hld6 hld8 hld9
    refine start_ (n := 32) (S := fun w' => LdR 24 g4 Z w' ∧ LdR 26 g8 Y w' ∧ LdR 26 g9 Y w' ∧ LdR 26 g6 O w') (ds := []) #[false, false, false, false, false, false, false, false, false, false, false, false, false, false, false, false, false, false, false, false, false, false, false, false, false, false, false, false, false, false, false, false] (by kernel_rfl) rfl rfl ⟨HL4.out (HN.out.keep (pD (Below.refl _ _))), HL8.out (HN.out.keep (pD (Below.refl _ _))), HL9.out (HN.out.keep (pD (Below.refl _ _))), HL6.out (HN.out.keep (pD (Below.refl _ _)))⟩ (fun hHeld => ?_)
    have HN1 := Aside0.mk (HN.out.keep (pD (Below.refl _ _)))
    clear HN
    generalize w9.drew = w10 at HN1 hHeld ⊢
    refine pure_ (i := 0) (N := some 27) (v := ?_) (a' := ?_) #[true, false, false, false, false, false, false, false, false, false, false, false, false, false, false, false, false, false, false, false, false, false, false, false, false, false, false, false, false, false, false, false] rfl rfl (by kernel_rfl) (fun _ _ _ h => h) (Or.inl ⟨by rfl, ?_⟩) ?_ ?_
    rotate_left
    · intro w'
      go_simp
      with_reducible rfl
    rotate_left
    · simp only [Act.put, sT, s0, s1, i64_w, i32_w]
      rfl
    refine pure_ (i := 1) (N := some 28) (v := ?_) (a' := ?_) #[true, true, false, false, false, false, false, false, false, false, false, false, false, false, false, false, false, false, false, false, false, false, false, false, false, false, false, false, false, false, false, false] rfl rfl (by kernel_rfl) (fun _ _ _ h => h) (Or.inl ⟨by rfl, ?_⟩) ?_ ?_
    rotate_left
    · intro w'
      go_simp
      with_reducible rfl
    rotate_left
    · simp only [Act.put, sT, s0, s1, i64_w, i32_w]
      rfl
    refine pure_ (i := 2) (N := some 29) (v := ?_) (a' := ?_) #[true, true, true, false, false, false, false, false, false, false, false, false, false, false, false, false, false, false, false, false, false, false, false, false, false, false, false, false, false, false, false, false] rfl rfl (by kernel_rfl) (fun _ _ _ h => h) (Or.inl ⟨by rfl, ?_⟩) ?_ ?_
    rotate_left
    · intro w'
      go_simp
      with_reducible rfl
    rotate_left
    · simp only [Act.put, sT, s0, s1, i64_w, i32_w]
      rfl
    refine pure_ (i := 4) (N := some 31) (v := ?_) (a' := ?_) #[true, true, true, false, true, false, false, false, false, false, false, false, false, false, false, false, false, false, false, false, false, false, false, false, false, false, false, false, false, false, false, false] rfl rfl (by kernel_rfl) (fun _ _ _ h => h) (Or.inl ⟨by rfl, ?_⟩) ?_ ?_
    rotate_left
    · intro w'
      go_simp
      with_reducible rfl
    rotate_left
    · simp only [Act.put, sT, s0, s1, i64_w, i32_w]
      rfl
    clear hHeld
    refine one_ (i := 3) (N := some 30) #[true, true, true, true, true, false, false, false, false, false, false, false, false, false, false, false, false, false, false, false, false, false, false, false, false, false, false, false, false, false, false, false] rfl rfl (by kernel_rfl) (by decide) (fun K hK => ?_)
    refine goes_ Try.func12 (by kernel_rfl) rfl #[.slice A l.length cl] (by rfl) rfl rfl (by simp only [List.map_toArray, List.map_cons, List.map_nil]; rfl) ?_
    refine (md5_Pad.calls 100 A cl l p _ (Kd.C_below HR.out HN1.out.M.bel) HCL.out HP1.out).mono ?_
    rintro e w11 ⟨v30, rfl, hr1, hb⟩
    obtain ⟨A1, c1, rfl⟩ := Kd.R_slice hr1
    have HC1 := Aside0.mk (Kd.R_reads' hr1)
    have HN2 := Aside0.mk (HN1.out.keep hb)
    clear HN1 hr1 hb
    refine ⟨_, rfl, ?_⟩
    refine hK.out _ _ ⟨HL4.out HN2.out, HL8.out HN2.out, HL9.out HN2.out, HL6.out HN2.out⟩ (fun hHeld => ?_)
    clear hK K
    refine norm_ (a' := ?_) ?_ ?_
    rotate_left
    · show Act.put _ (some 30) _ = _
      simp only [Act.put, sT, s0, s1, i64_w, i32_w]
      rfl
    clear hHeld
    refine one_ (i := 5) (N := some 32) #[true, true, true, true, true, true, false, false, false, false, false, false, false, false, false, false, false, false, false, false, false, false, false, false, false, false, false, false, false, false, false, false] rfl rfl (by kernel_rfl) (by decide) (fun K hK => ?_)
    refine goes_ Try.func13 (by kernel_rfl) rfl #[.slice A l.length cl] (by rfl) rfl rfl (by simp only [List.map_toArray, List.map_cons, List.map_nil]; rfl) ?_
    refine (portreeveref02_Pad.calls 100 A cl l p _ (Kd.C_below HR.out HN2.out.M.bel) HCL.out HP2.out).mono ?_
    rintro e w12 ⟨v32, rfl, hr2, hb⟩
    obtain ⟨A2, c2, rfl⟩ := Kd.R_slice hr2
    have HC2 := Aside0.mk (Kd.R_reads' hr2)
    have HC1' := Aside0.mk (Kd.C_below HC1.out.2.2 hb)
    have HN3 := Aside0.mk (HN2.out.keep hb)
    clear HN2 hr2 hb
    refine ⟨_, rfl, ?_⟩
    refine hK.out _ _ ⟨HL4.out HN3.out, HL8.out HN3.out, HL9.out HN3.out, HL6.out HN3.out⟩ (fun hHeld => ?_)
    clear hK K
    refine norm_ (a' := ?_) ?_ ?_
    rotate_left
    · show Act.put _ (some 32) _ = _
      simp only [Act.put, sT, s0, s1, i64_w, i32_w]
      rfl
    clear hHeld
    refine one_ (i := 6) (N := some 33) #[true, true, true, true, true, true, true, false, false, false, false, false, false, false, false, false, false, false, false, false, false, false, false, false, false, false, false, false, false, false, false, false] rfl rfl (by kernel_rfl) (by decide) (fun K hK => ?_)
    refine goes_ Try.func11 (by kernel_rfl) rfl #[.slice A1 p.length c1, .slice A2 p.length c2] (by rfl) rfl rfl (by simp only [List.map_toArray, List.map_cons, List.map_nil]; rfl) ?_
    refine (portreeveref01_Row.calls 100000 A1 c1 p A2 c2 p true _ HC1'.out HC1.out.2.1 HC2.out.2.2 HC2.out.2.1 HRW.out).mono ?_
    rintro e w13 ⟨rfl, hd⟩
    have HN4 := Aside0.mk (HN3.out.keep (tells_drawn hd))
    clear HN3 HC1' HC1 HC2 hd
    refine ⟨_, rfl, ?_⟩
    refine hK.out _ _ ⟨HL4.out HN4.out, HL8.out HN4.out, HL9.out HN4.out, HL6.out HN4.out⟩ (fun hHeld => ?_)
    clear hK K
    refine norm_ (a' := ?_) ?_ ?_
    rotate_left
    · show Act.put _ (some 33) _ = _
      simp only [Act.put, sT, s0, s1, i64_w, i32_w]
      rfl
    refine pure_ (i := 7) (N := some 34) (v := ?_) (a' := ?_) #[true, true, true, true, true, true, true, true, false, false, false, false, false, false, false, false, false, false, false, false, false, false, false, false, false, false, false, false, false, false, false, false] rfl rfl (by kernel_rfl) (fun _ _ _ h => h) (Or.inl ⟨by rfl, ?_⟩) ?_ ?_
    rotate_left
    · intro w'
      go_simp
      with_reducible rfl
    rotate_left
    · simp only [Act.put, sT, s0, s1, i64_w, i32_w]
      rfl
    refine pure_ (i := 8) (N := some 35) (v := ?_) (a' := ?_) #[true, true, true, true, true, true, true, true, true, false, false, false, false, false, false, false, false, false, false, false, false, false, false, false, false, false, false, false, false, false, false, false] rfl rfl (by kernel_rfl) (fun _ _ _ h => h) (Or.inl ⟨by rfl, ?_⟩) ?_ ?_
    rotate_left
    · intro w'
      go_simp
      with_reducible rfl
    rotate_left
    · simp only [Act.put, sT, s0, s1, i64_w, i32_w]
      rfl
    refine take_ (i := 9) (N := some 36) (v := Z) (a' := ?_) #[true, true, true, true, true, true, true, true, true, true, false, false, false, false, false, false, false, false, false, false, false, false, false, false, false, false, false, false, false, false, false, false] rfl rfl (by kernel_rfl) (fun _ _ _ h => h) (Or.inl ⟨by rfl, ?_⟩) hHeld ?_ ?_
    · rintro w' ⟨h4, h8, h9, h6⟩
      exact load_yields (t := 24) (x := .tmp 4) rfl rfl h4
    rotate_left
    · simp only [Act.put, sT, s0, s1]
      rfl
    refine pure_ (i := 10) (N := some 37) (v := ?_) (a' := ?_) #[true, true, true, true, true, true, true, true, true, true, true, false, false, false, false, false, false, false, false, false, false, false, false, false, false, false, false, false, false, false, false, false] rfl rfl (by kernel_rfl) (fun _ _ _ h => h) (Or.inl ⟨by rfl, ?_⟩) ?_ ?_
    rotate_left
    · intro w'
      go_simp
      with_reducible rfl
    rotate_left
    · simp only [Act.put, sT, s0, s1, i64_w, i32_w]
      rfl
    refine take_ (i := 12) (N := some 39) (v := Z) (a' := ?_) #[true, true, true, true, true, true, true, true, true, true, true, false, true, false, false, false, false, false, false, false, false, false, false, false, false, false, false, false, false, false, false, false] rfl rfl (by kernel_rfl) (fun _ _ _ h => h) (Or.inl ⟨by rfl, ?_⟩) hHeld ?_ ?_
    · rintro w' ⟨h4, h8, h9, h6⟩
      exact load_yields (t := 24) (x := .tmp 4) rfl rfl h4
    rotate_left
    · simp only [Act.put, sT, s0, s1]
      rfl
    refine pure_ (i := 13) (N := some 40) (v := ?_) (a' := ?_) #[true, true, true, true, true, true, true, true, true, true, true, false, true, true, false, false, false, false, false, false, false, false, false, false, false, false, false, false, false, false, false, false] rfl rfl (by kernel_rfl) (fun _ _ _ h => h) (Or.inl ⟨by rfl, ?_⟩) ?_ ?_
    rotate_left
    · intro w'
      go_simp
      with_reducible rfl
    rotate_left
    · simp only [Act.put, sT, s0, s1, i64_w, i32_w]
      rfl
    clear hHeld
    refine one_ (i := 11) (N := some 38) #[true, true, true, true, true, true, true, true, true, true, true, true, true, true, false, false, false, false, false, false, false, false, false, false, false, false, false, false, false, false, false, false] rfl rfl (by kernel_rfl) (by decide) (fun K hK => ?_)
    refine goes_ Try.func14 (by kernel_rfl) rfl #[Z, .slice (some ⟨g5, 0, none⟩) 64 64] (by rfl) rfl rfl (by simp only [List.map_toArray, List.map_cons, List.map_nil]; rfl) ?_
    refine (HBL1.out _ HN4.out.M.m).mono ?_
    rintro e w14 ⟨rfl, hb⟩
    have HN5 := Aside0.mk (HN4.out.keep hb)
    clear HN4 hb
    refine ⟨_, rfl, ?_⟩
    refine hK.out _ _ ⟨HL4.out HN5.out, HL8.out HN5.out, HL9.out HN5.out, HL6.out HN5.out⟩ (fun hHeld => ?_)
    clear hK K
    refine norm_ (a' := ?_) ?_ ?_
    rotate_left
    · show Act.put _ (some 38) _ = _
      simp only [Act.put, sT, s0, s1, i64_w, i32_w]
      rfl
    clear hHeld
    refine one_ (i := 14) (N := some 41) #[true, true, true, true, true, true, true, true, true, true, true, true, true, true, true, false, false, false, false, false, false, false, false, false, false, false, false, false, false, false, false, false] rfl rfl (by kernel_rfl) (by decide) (fun K hK => ?_)
    refine goes_ Try.func15 (by kernel_rfl) rfl #[Z, .slice (some ⟨g5, 0, none⟩) 64 64] (by rfl) rfl rfl (by simp only [List.map_toArray, List.map_cons, List.map_nil]; rfl) ?_
    refine (HBL2.out _ HN5.out.M.m).mono ?_
    rintro e w15 ⟨rfl, hb⟩
    have HN6 := Aside0.mk (HN5.out.keep hb)
    clear HN5 hb
    refine ⟨_, rfl, ?_⟩
    refine hK.out _ _ ⟨HL4.out HN6.out, HL8.out HN6.out, HL9.out HN6.out, HL6.out HN6.out⟩ (fun hHeld => ?_)
    clear hK K
    refine norm_ (a' := ?_) ?_ ?_
    rotate_left
    · show Act.put _ (some 41) _ = _
      simp only [Act.put, sT, s0, s1, i64_w, i32_w]
      rfl
    refine pure_ (i := 15) (N := some 42) (v := .bool true) (a' := ?_) #[true, true, true, true, true, true, true, true, true, true, true, true, true, true, true, true, false, false, false, false, false, false, false, false, false, false, false, false, false, false, false, false] rfl rfl (by kernel_rfl) (fun _ _ _ h => h) (Or.inl ⟨by rfl, ?_⟩) ?_ ?_
    · intro w'
      exact eql_yields (t := 24) (x := .tmp 38) (y := .tmp 41) rfl rfl rfl HE2.out
    rotate_left
    · simp only [Act.put, sT, s0, s1]
      rfl
    refine pure_ (i := 16) (N := some 43) (v := ?_) (a' := ?_) #[true, true, true, true, true, true, true, true, true, true, true, true, true, true, true, true, true, false, false, false, false, false, false, false, false, false, false, false, false, false, false, false] rfl rfl (by kernel_rfl) (fun _ _ _ h => h) (Or.inl ⟨by rfl, ?_⟩) ?_ ?_
    rotate_left
    · intro w'
      go_simp
      with_reducible rfl
    rotate_left
    · simp only [Act.put, sT, s0, s1, i64_w, i32_w]
      rfl
    refine pure_ (i := 17) (N := some 44) (v := ?_) (a' := ?_) #[true, true, true, true, true, true, true, true, true, true, true, true, true, true, true, true, true, true, false, false, false, false, false, false, false, false, false, false, false, false, false, false] rfl rfl (by kernel_rfl) (fun _ _ _ h => h) (Or.inl ⟨by rfl, ?_⟩) ?_ ?_
    rotate_left
    · intro w'
      go_simp
      with_reducible rfl
    rotate_left
    · simp only [Act.put, sT, s0, s1, i64_w, i32_w]
      rfl
    refine take_ (i := 18) (N := some 45) (v := Y) (a' := ?_) #[true, true, true, true, true, true, true, true, true, true, true, true, true, true, true, true, true, true, true, false, false, false, false, false, false, false, false, false, false, false, false, false] rfl rfl (by kernel_rfl) (fun _ _ _ h => h) (Or.inl ⟨by rfl, ?_⟩) hHeld ?_ ?_
    · rintro w' ⟨h4, h8, h9, h6⟩
      exact load_yields (t := 26) (x := .tmp 8) rfl rfl h8
    rotate_left
    · simp only [Act.put, sT, s0, s1]
      rfl
    refine take_ (i := 19) (N := some 46) (v := Y) (a' := ?_) #[true, true, true, true, true, true, true, true, true, true, true, true, true, true, true, true, true, true, true, true, false, false, false, false, false, false, false, false, false, false, false, false] rfl rfl (by kernel_rfl) (fun _ _ _ h => h) (Or.inl ⟨by rfl, ?_⟩) hHeld ?_ ?_
    · rintro w' ⟨h4, h8, h9, h6⟩
      exact load_yields (t := 26) (x := .tmp 9) rfl rfl h9
    rotate_left
    · simp only [Act.put, sT, s0, s1]
      rfl
    refine pure_ (i := 20) (N := some 47) (v := .bool true) (a' := ?_) #[true, true, true, true, true, true, true, true, true, true, true, true, true, true, true, true, true, true, true, true, true, false, false, false, false, false, false, false, false, false, false, false] rfl rfl (by kernel_rfl) (fun _ _ _ h => h) (Or.inl ⟨by rfl, ?_⟩) ?_ ?_
    · intro w'
      exact eql_yields (t := 26) (x := .tmp 45) (y := .tmp 46) rfl rfl rfl HE1.out
    rotate_left
    · simp only [Act.put, sT, s0, s1]
      rfl
    refine pure_ (i := 21) (N := some 48) (v := ?_) (a' := ?_) #[true, true, true, true, true, true, true, true, true, true, true, true, true, true, true, true, true, true, true, true, true, true, false, false, false, false, false, false, false, false, false, false] rfl rfl (by kernel_rfl) (fun _ _ _ h => h) (Or.inl ⟨by rfl, ?_⟩) ?_ ?_
    rotate_left
    · intro w'
      go_simp
      with_reducible rfl
    rotate_left
    · simp only [Act.put, sT, s0, s1, i64_w, i32_w]
      rfl
    refine pure_ (i := 22) (N := some 49) (v := ?_) (a' := ?_) #[true, true, true, true, true, true, true, true, true, true, true, true, true, true, true, true, true, true, true, true, true, true, true, false, false, false, false, false, false, false, false, false] rfl rfl (by kernel_rfl) (fun _ _ _ h => h) (Or.inl ⟨by rfl, ?_⟩) ?_ ?_
    rotate_left
    · intro w'
      go_simp
      with_reducible rfl
    rotate_left
    · simp only [Act.put, sT, s0, s1, i64_w, i32_w]
      rfl
    refine take_ (i := 23) (N := some 50) (v := Y) (a' := ?_) #[true, true, true, true, true, true, true, true, true, true, true, true, true, true, true, true, true, true, true, true, true, true, true, true, false, false, false, false, false, false, false, false] rfl rfl (by kernel_rfl) (fun _ _ _ h => h) (Or.inl ⟨by rfl, ?_⟩) hHeld ?_ ?_
    · rintro w' ⟨h4, h8, h9, h6⟩
      exact load_yields (t := 26) (x := .tmp 8) rfl rfl h8
    rotate_left
    · simp only [Act.put, sT, s0, s1]
      rfl
    refine take_ (i := 24) (N := some 51) (v := O) (a' := ?_) #[true, true, true, true, true, true, true, true, true, true, true, true, true, true, true, true, true, true, true, true, true, true, true, true, true, false, false, false, false, false, false, false] rfl rfl (by kernel_rfl) (fun _ _ _ h => h) (Or.inl ⟨by rfl, ?_⟩) hHeld ?_ ?_
    · rintro w' ⟨h4, h8, h9, h6⟩
      exact load_yields (t := 26) (x := .tmp 6) rfl rfl h6
    rotate_left
    · simp only [Act.put, sT, s0, s1]
      rfl
    refine take_ (i := 26) (N := some 53) (v := Y) (a' := ?_) #[true, true, true, true, true, true, true, true, true, true, true, true, true, true, true, true, true, true, true, true, true, true, true, true, true, false, true, false, false, false, false, false] rfl rfl (by kernel_rfl) (fun _ _ _ h => h) (Or.inl ⟨by rfl, ?_⟩) hHeld ?_ ?_
    · rintro w' ⟨h4, h8, h9, h6⟩
      exact load_yields (t := 26) (x := .tmp 9) rfl rfl h9
    rotate_left
    · simp only [Act.put, sT, s0, s1]
      rfl
    refine take_ (i := 27) (N := some 54) (v := O) (a' := ?_) #[true, true, true, true, true, true, true, true, true, true, true, true, true, true, true, true, true, true, true, true, true, true, true, true, true, false, true, true, false, false, false, false] rfl rfl (by kernel_rfl) (fun _ _ _ h => h) (Or.inl ⟨by rfl, ?_⟩) hHeld ?_ ?_
    · rintro w' ⟨h4, h8, h9, h6⟩
      exact load_yields (t := 26) (x := .tmp 6) rfl rfl h6
    rotate_left
    · simp only [Act.put, sT, s0, s1]
      rfl
    refine pure_ (i := 28) (N := some 55) (v := .bool so) (a' := ?_) #[true, true, true, true, true, true, true, true, true, true, true, true, true, true, true, true, true, true, true, true, true, true, true, true, true, false, true, true, true, false, false, false] rfl rfl (by kernel_rfl) (fun _ _ _ h => h) (Or.inl ⟨by rfl, ?_⟩) ?_ ?_
    · intro w'
      exact eql_yields (t := 26) (x := .tmp 53) (y := .tmp 54) rfl rfl rfl HEO.out
    rotate_left
    · simp only [Act.put, sT, s0, s1]
      rfl
    clear hHeld
    refine one_ (i := 25) (N := some 52) #[true, true, true, true, true, true, true, true, true, true, true, true, true, true, true, true, true, true, true, true, true, true, true, true, true, true, true, true, true, false, false, false] rfl rfl (by kernel_rfl) (by decide) (fun K hK => ?_)
    refine goes_ Try.func16 (by kernel_rfl) rfl #[Y, O] (by rfl) rfl rfl (by simp only [List.map_toArray, List.map_cons, List.map_nil]; rfl) ?_
    refine (HSM.out _).mono ?_
    rintro e w16 ⟨rfl, hb⟩
    have HN7 := Aside0.mk (HN6.out.keep hb)
    clear HN6 hb
    refine ⟨_, rfl, ?_⟩
    refine hK.out _ _ ⟨HL4.out HN7.out, HL8.out HN7.out, HL9.out HN7.out, HL6.out HN7.out⟩ (fun hHeld => ?_)
    clear hK K
    refine norm_ (a' := ?_) ?_ ?_
    rotate_left
    · show Act.put _ (some 52) _ = _
      simp only [Act.put, sT, s0, s1, i64_w, i32_w]
      rfl
    refine pure_ (i := 29) (N := some 56) (v := .bool true) (a' := ?_) #[true, true, true, true, true, true, true, true, true, true, true, true, true, true, true, true, true, true, true, true, true, true, true, true, true, true, true, true, true, true, false, false] rfl rfl (by kernel_rfl) (fun _ _ _ h => h) (Or.inl ⟨by rfl, ?_⟩) ?_ ?_
    · intro w'
      exact eql_yields (t := 4) (x := .tmp 52) (y := .tmp 55) rfl rfl rfl (eqRb so)
    rotate_left
    · simp only [Act.put, sT, s0, s1]
      rfl
    refine pure_ (i := 30) (N := some 57) (v := ?_) (a' := ?_) #[true, true, true, true, true, true, true, true, true, true, true, true, true, true, true, true, true, true, true, true, true, true, true, true, true, true, true, true, true, true, true, false] rfl rfl (by kernel_rfl) (fun _ _ _ h => h) (Or.inl ⟨by rfl, ?_⟩) ?_ ?_
    rotate_left
    · intro w'
      go_simp
      with_reducible rfl
    rotate_left
    · simp only [Act.put, sT, s0, s1, i64_w, i32_w]
      rfl
    refine pure_ (i := 31) (N := some 2) (v := ?_) (a' := ?_) #[true, true, true, true, true, true, true, true, true, true, true, true, true, true, true, true, true, true, true, true, true, true, true, true, true, true, true, true, true, true, true, true] rfl rfl (by kernel_rfl) (fun _ _ _ h => h) (Or.inl ⟨by rfl, ?_⟩) ?_ ?_
    rotate_left
    · intro w'
      go_simp
      with_reducible rfl
    rotate_left
    · simp only [Act.put, sT, s0, s1, i64_w, i32_w]
      rfl
    refine done_ (by kernel_rfl) ?_
    clear hHeld
    go_wp2
    go_ret
    exact ⟨rfl, HN7.out.M.bel⟩
end Go.Proofs.Ytadgdhefgibakaa.Q
