/- A call of a function value that stands in a slot: the steps of the print's walk for it. -/
import Derived.Test.YtlimlbhhbjaljaaWMore
import Derived.Laws.Slices
import Derived.Test.YtlimlbhhbjaljaaWFootNe
import Derived.ChangeKeysEq
import Derived.ArgAppend
import Derived.Deep.Onto
namespace Go.Proofs.YtlimlbhhbjaljaaV
open Go Go.RowKit Go.Proofs.YtlimlbhhbjaljaaW.PrintWords Go.Proofs.YtlimlbhhbjaljaaW.PrintLast Go.Proofs.YtlimlbhhbjaljaaW.PrintMore

section
variable {P : Program} {ops : Array Oper} {Q : Exit → Act → World → Prop}

theorem invokes_ {f : FuncId} {fn : Func} (hf : P.funcs[f]? = some fn) (hname : (fn.name == "runtime.NumGoroutine") = false) (hb : fn.body.isSome = true) {a : Act} {oi : Oper} {q : Tmp} {as : Array Operand} {ts : Array TypeId} {cap args : Array Value} (w : World)
    (hop : oi.op = .call { callee := .value (.tmp q), args := as, argTypes := ts }) (hv : a.eval (.tmp q) = .func (.func f) #[] cap) (hargs : as.map a.eval ++ cap = args) : (execOp a.eval oi).run P w = .ok (.enter f args) w := by
  have he := enters_ hf hname hb args w
  unfold execOp
  simp [hop, resolve, hv, Deferred.ofValue, invoke, hargs, he]

/-- What a function value has captured. -/
def capOf_ (v : Value) : Array Value := match v with
  | .func _ _ c => c
  | _ => #[]

/-- 'goes_' where the callee stands in a slot. -/
theorem goesV_ {oi : Oper} {N : Option Tmp} {a : Act} {w : World} {K : Act → World → Prop} {f : FuncId} {fn : Func} {q : Tmp} {as : Array Operand} {ts : Array TypeId} (hf : P.funcs[f]? = some fn) (hname : (fn.name == "runtime.NumGoroutine") = false) (hb : fn.body.isSome = true) (args : Array Value)
    (hw : Region.wanted oi (yielded ops a.tmps) = true) (hN : oi.dst = N) (hop : oi.op = .call { callee := .value (.tmp q), args := as, argTypes := ts }) (hargs : as.map a.eval ++ capOf_ (a.eval (.tmp q)) = args)
    (h : Calls P f args w fun e w' => ∃ v, e = .returned v ∧ K (a.put N v) w') (hv : a.eval (.tmp q) = .func (.func f) #[] (capOf_ (a.eval (.tmp q))) := by rfl) : if Region.wanted oi (yielded ops a.tmps) = true then Oper.wp P oi a w K Q else K (a.put N undef) w :=
  call_ f args hw hN (invokes_ hf hname hb w hop hv hargs) h

end

/-! '==' of arrays as one Bool -/
section
variable {P : Program} {d : Nat} {xs ys : Array Value} {e : TypeId} {c j : Nat} {js : List Nat} {a b : Value} {r s : Bool} {w : World}
end
/-! x[lo:hi:hi] -/
section
variable {P : Program}
end
section
variable {α : Type} {k : Kd α} {w : World} {A : Option Addr} {xs : List α}
end
/-! what is shared, and a variable's block -/
section
variable {P : Program} {ops : Array Oper} {Q : Exit → Act → World → Prop} {rest : List Oper} {o : Oper} {a : Act} {α : Type}
end
/-! what only new blocks and draws have come to -/
def Eld (w w' : World) : Prop := Below w.heap.size w w'
instance eldR (w : World) : Nonempty (Eld w w) := ⟨Below.refl _ _⟩
instance eldN (w w' : World) (n : Nat) [z : Nonempty (Eld w w')] : Nonempty (Eld w (w'.drewN n)) := z.elim fun h => ⟨pw_below_drewN h n⟩
instance eldD (w w' : World) [z : Nonempty (Eld w w')] : Nonempty (Eld w w'.drew) := z.elim fun h => ⟨below_drew1 h⟩
instance eldA (w w' : World) (o : Obj) [z : Nonempty (Eld w w')] : Nonempty (Eld w (w'.alloc o)) := z.elim fun h => ⟨below_alloc h o⟩
section
variable {α : Type} {d : Kd α} {e base n : Nat} {ok : Nat → Prop} {v : Value} {xs : List α} {w0 w w' : World}
theorem zV [z : Nonempty (Eld w w')] (h : Kd.V d e w base ok v xs) : Kd.V d e w' base ok v xs := z.elim fun b => Kd.V_below h b
theorem zR [z : Nonempty (Eld w w')] (h : Kd.R d e w base ok v xs) : Kd.R d e w' base ok v xs := z.elim fun b => Kd.R_below h b
theorem zB [z : Nonempty (Eld w w')] {g : Nat} {o : Obj} (h : w.heap[g]? = some o) : w'.heap[g]? = some o := z.elim fun b => (Below.block b g (blk_lt h)).trans h
theorem zH [z : Nonempty (Eld w w')] (h : Below w0.heap.size w0 w) : Below w0.heap.size w0 w' := z.elim fun b => below_step h b
end
/-! what only blocks, draws and stores into some blocks have come to -/
/-- w' is w but for new blocks, draws, and stores into the blocks gs. -/
structure Off (gs : List Nat) (w w' : World) : Prop where
  out : ∀ k, k < w.heap.size → (∀ g ∈ gs, k ≠ g) → w'.heap[k]? = w.heap[k]?
  size : w.heap.size ≤ w'.heap.size
structure InL (g : Nat) (gs : List Nat) : Prop where
  out : g ∈ gs
instance inH (g : Nat) (gs : List Nat) : Nonempty (InL g (g :: gs)) := ⟨⟨List.mem_cons_self⟩⟩
instance inT (g h : Nat) (gs : List Nat) [z : Nonempty (InL g gs)] : Nonempty (InL g (h :: gs)) := z.elim fun b => ⟨⟨List.mem_cons_of_mem _ b.out⟩⟩
instance offR (gs : List Nat) (w : World) : Nonempty (Off gs w w) := ⟨⟨fun _ _ _ => rfl, Nat.le_refl _⟩⟩
instance offA (gs : List Nat) (w w' : World) (o : Obj) [z : Nonempty (Off gs w w')] : Nonempty (Off gs w (w'.alloc o)) := z.elim fun b => ⟨⟨fun k h1 h2 => (Below.heap_alloc w' o k (Nat.lt_of_lt_of_le h1 b.size)).trans (b.out k h1 h2), Nat.le_trans b.size (by simp)⟩⟩
instance offD (gs : List Nat) (w w' : World) [z : Nonempty (Off gs w w')] : Nonempty (Off gs w w'.drew) := z.elim fun b => ⟨⟨fun k h1 h2 => b.out k h1 h2, b.size⟩⟩
instance offN (gs : List Nat) (w w' : World) (n : Nat) [z : Nonempty (Off gs w w')] : Nonempty (Off gs w (w'.drewN n)) := z.elim fun b => ⟨⟨fun k h1 h2 => b.out k h1 h2, b.size⟩⟩
instance offS (gs : List Nat) (w w' : World) (g i : Nat) (v : Value) [z : Nonempty (Off gs w w')] [y : Nonempty (InL g gs)] : Nonempty (Off gs w (w'.setCell ⟨g, i, none⟩ v)) := z.elim fun b => y.elim fun q => ⟨⟨fun k h1 h2 => (Below.heap_setCell w' ⟨g, i, none⟩ v k (h2 g q.out)).trans (b.out k h1 h2), by have := b.size; simpa using this⟩⟩
section
variable {α : Type} {d : Kd α} {e base : Nat} {ok ok' : Nat → Prop} {v : Value} {xs : List α} {w w' : World} {g g1 g2 g3 : Nat} {o : Obj} {a : Addr} {u : Value}
theorem fB (h1 : g ≠ g1) [z : Nonempty (Off [g1] w w')] (h : w.heap[g]? = some o) : w'.heap[g]? = some o := z.elim fun b => (b.out g (blk_lt h) (by simpa using h1)).trans h
theorem fC (h1 : a.block ≠ g1) [z : Nonempty (Off [g1] w w')] (h : w.cell? a = some u) : w'.cell? a = some u := z.elim fun b => by
  have := b.out a.block (World.block_lt_of_cell? _ _ h) (by simpa using h1)
  rw [← h]
  simp [World.cell?, this]
theorem fV (h : Kd.V d e w base ok v xs) (p1 : ∀ k, ok k → ok k ∧ k ≠ g1) (f : ∀ k, ok k ∧ k ≠ g1 → ok' k) [z : Nonempty (Off [g1] w w')] : Kd.V d e w' base ok' v xs := z.elim fun b =>
  Kd.V_mono (Kd.V_step h fun k h1 h2 => b.out k h2 (by simpa using (p1 k h1).2)) fun k hk => f k (p1 k hk)
theorem fV2 (h : Kd.V d e w base ok v xs) (p1 : ∀ k, ok k → ok k ∧ k ≠ g1) (p2 : ∀ k, ok k ∧ k ≠ g1 → (ok k ∧ k ≠ g1) ∧ k ≠ g2) (f : ∀ k, (ok k ∧ k ≠ g1) ∧ k ≠ g2 → ok' k) [z : Nonempty (Off [g1, g2] w w')] : Kd.V d e w' base ok' v xs := z.elim fun b =>
  Kd.V_mono (Kd.V_step h fun k h1 h2 => b.out k h2 (by simpa using ⟨(p1 k h1).2, (p2 k (p1 k h1)).2⟩)) fun k hk => f k (p2 k (p1 k hk))
theorem fR (h : Kd.R d e w base ok v xs) (p1 : ∀ k, ok k → ok k ∧ k ≠ g1) (f : ∀ k, ok k ∧ k ≠ g1 → ok' k) [z : Nonempty (Off [g1] w w')] : Kd.R d e w' base ok' v xs := z.elim fun b =>
  Kd.R_mono (Kd.R_step h fun k h1 h2 => b.out k h2 (by simpa using (p1 k h1).2)) fun k hk => f k (p1 k hk)
end
theorem sT {α : Type _} (l : List α) (i : Nat) (a : α) : l.toArray.setIfInBounds i a = (l.set i a).toArray := by simp only [List.setIfInBounds_toArray]
theorem s0 {α : Type _} (l : List α) (a b : α) : (a :: l).set 0 b = b :: l := rfl
theorem s1 {α : Type _} (l : List α) (a b : α) (n : Nat) : (a :: l).set (n + 1) b = a :: l.set n b := rfl
/-! a block's cells, all at once -/

/-- The world gets a letter: of it is told what Q tells. -/
theorem settle_ {p : Program} {c : Code} {K : Exit → Act → World → Prop} {a : Act} {w0 : World} (R : World → Prop) (hq : R w0) (h : ∀ w', R w' → Code.wp p c K a w') : Code.wp p c K a w0 := h _ hq

theorem bk3 {w : World} {g : Nat} {t : TypeId} {c0 c1 c2 : Value} (h : w.heap[g]? = some (.cells #[c0, c1, c2] t (0, 0))) : w.cell? ⟨g, 0, none⟩ = some c0 ∧ w.cell? ⟨g, 1, none⟩ = some c1 ∧ w.cell? ⟨g, 2, none⟩ = some c2 ∧ w.frozen? ⟨g, 0, none⟩ = false ∧ w.frozen? ⟨g, 1, none⟩ = false ∧ w.frozen? ⟨g, 2, none⟩ = false :=
  ⟨(blk_cell h 0).trans rfl, (blk_cell h 1).trans rfl, (blk_cell h 2).trans rfl, blk_frozen h 0, blk_frozen h 1, blk_frozen h 2⟩
theorem bk4 {w : World} {g : Nat} {t : TypeId} {c0 c1 c2 c3 : Value} (h : w.heap[g]? = some (.cells #[c0, c1, c2, c3] t (0, 0))) : w.cell? ⟨g, 0, none⟩ = some c0 ∧ w.cell? ⟨g, 1, none⟩ = some c1 ∧ w.cell? ⟨g, 2, none⟩ = some c2 ∧ w.cell? ⟨g, 3, none⟩ = some c3 ∧ w.frozen? ⟨g, 0, none⟩ = false ∧ w.frozen? ⟨g, 1, none⟩ = false ∧ w.frozen? ⟨g, 2, none⟩ = false ∧ w.frozen? ⟨g, 3, none⟩ = false :=
  ⟨(blk_cell h 0).trans rfl, (blk_cell h 1).trans rfl, (blk_cell h 2).trans rfl, (blk_cell h 3).trans rfl, blk_frozen h 0, blk_frozen h 1, blk_frozen h 2, blk_frozen h 3⟩
theorem bk5 {w : World} {g : Nat} {t : TypeId} {c0 c1 c2 c3 c4 : Value} (h : w.heap[g]? = some (.cells #[c0, c1, c2, c3, c4] t (0, 0))) : w.cell? ⟨g, 0, none⟩ = some c0 ∧ w.cell? ⟨g, 1, none⟩ = some c1 ∧ w.cell? ⟨g, 2, none⟩ = some c2 ∧ w.cell? ⟨g, 3, none⟩ = some c3 ∧ w.cell? ⟨g, 4, none⟩ = some c4 ∧ w.frozen? ⟨g, 0, none⟩ = false ∧ w.frozen? ⟨g, 1, none⟩ = false ∧ w.frozen? ⟨g, 2, none⟩ = false ∧ w.frozen? ⟨g, 3, none⟩ = false ∧ w.frozen? ⟨g, 4, none⟩ = false :=
  ⟨(blk_cell h 0).trans rfl, (blk_cell h 1).trans rfl, (blk_cell h 2).trans rfl, (blk_cell h 3).trans rfl, (blk_cell h 4).trans rfl, blk_frozen h 0, blk_frozen h 1, blk_frozen h 2, blk_frozen h 3, blk_frozen h 4⟩
theorem bk6 {w : World} {g : Nat} {t : TypeId} {c0 c1 c2 c3 c4 c5 : Value} (h : w.heap[g]? = some (.cells #[c0, c1, c2, c3, c4, c5] t (0, 0))) : w.cell? ⟨g, 0, none⟩ = some c0 ∧ w.cell? ⟨g, 1, none⟩ = some c1 ∧ w.cell? ⟨g, 2, none⟩ = some c2 ∧ w.cell? ⟨g, 3, none⟩ = some c3 ∧ w.cell? ⟨g, 4, none⟩ = some c4 ∧ w.cell? ⟨g, 5, none⟩ = some c5 ∧ w.frozen? ⟨g, 0, none⟩ = false ∧ w.frozen? ⟨g, 1, none⟩ = false ∧ w.frozen? ⟨g, 2, none⟩ = false ∧ w.frozen? ⟨g, 3, none⟩ = false ∧ w.frozen? ⟨g, 4, none⟩ = false ∧ w.frozen? ⟨g, 5, none⟩ = false :=
  ⟨(blk_cell h 0).trans rfl, (blk_cell h 1).trans rfl, (blk_cell h 2).trans rfl, (blk_cell h 3).trans rfl, (blk_cell h 4).trans rfl, (blk_cell h 5).trans rfl, blk_frozen h 0, blk_frozen h 1, blk_frozen h 2, blk_frozen h 3, blk_frozen h 4, blk_frozen h 5⟩
theorem bk8 {w : World} {g : Nat} {t : TypeId} {c0 c1 c2 c3 c4 c5 c6 c7 : Value} (h : w.heap[g]? = some (.cells #[c0, c1, c2, c3, c4, c5, c6, c7] t (0, 0))) : w.cell? ⟨g, 0, none⟩ = some c0 ∧ w.cell? ⟨g, 1, none⟩ = some c1 ∧ w.cell? ⟨g, 2, none⟩ = some c2 ∧ w.cell? ⟨g, 3, none⟩ = some c3 ∧ w.cell? ⟨g, 4, none⟩ = some c4 ∧ w.cell? ⟨g, 5, none⟩ = some c5 ∧ w.cell? ⟨g, 6, none⟩ = some c6 ∧ w.cell? ⟨g, 7, none⟩ = some c7 ∧ w.frozen? ⟨g, 0, none⟩ = false ∧ w.frozen? ⟨g, 1, none⟩ = false ∧ w.frozen? ⟨g, 2, none⟩ = false ∧ w.frozen? ⟨g, 3, none⟩ = false ∧ w.frozen? ⟨g, 4, none⟩ = false ∧ w.frozen? ⟨g, 5, none⟩ = false ∧ w.frozen? ⟨g, 6, none⟩ = false ∧ w.frozen? ⟨g, 7, none⟩ = false :=
  ⟨(blk_cell h 0).trans rfl, (blk_cell h 1).trans rfl, (blk_cell h 2).trans rfl, (blk_cell h 3).trans rfl, (blk_cell h 4).trans rfl, (blk_cell h 5).trans rfl, (blk_cell h 6).trans rfl, (blk_cell h 7).trans rfl, blk_frozen h 0, blk_frozen h 1, blk_frozen h 2, blk_frozen h 3, blk_frozen h 4, blk_frozen h 5, blk_frozen h 6, blk_frozen h 7⟩
theorem bk9 {w : World} {g : Nat} {t : TypeId} {c0 c1 c2 c3 c4 c5 c6 c7 c8 : Value} (h : w.heap[g]? = some (.cells #[c0, c1, c2, c3, c4, c5, c6, c7, c8] t (0, 0))) : w.cell? ⟨g, 0, none⟩ = some c0 ∧ w.cell? ⟨g, 1, none⟩ = some c1 ∧ w.cell? ⟨g, 2, none⟩ = some c2 ∧ w.cell? ⟨g, 3, none⟩ = some c3 ∧ w.cell? ⟨g, 4, none⟩ = some c4 ∧ w.cell? ⟨g, 5, none⟩ = some c5 ∧ w.cell? ⟨g, 6, none⟩ = some c6 ∧ w.cell? ⟨g, 7, none⟩ = some c7 ∧ w.cell? ⟨g, 8, none⟩ = some c8 ∧ w.frozen? ⟨g, 0, none⟩ = false ∧ w.frozen? ⟨g, 1, none⟩ = false ∧ w.frozen? ⟨g, 2, none⟩ = false ∧ w.frozen? ⟨g, 3, none⟩ = false ∧ w.frozen? ⟨g, 4, none⟩ = false ∧ w.frozen? ⟨g, 5, none⟩ = false ∧ w.frozen? ⟨g, 6, none⟩ = false ∧ w.frozen? ⟨g, 7, none⟩ = false ∧ w.frozen? ⟨g, 8, none⟩ = false :=
  ⟨(blk_cell h 0).trans rfl, (blk_cell h 1).trans rfl, (blk_cell h 2).trans rfl, (blk_cell h 3).trans rfl, (blk_cell h 4).trans rfl, (blk_cell h 5).trans rfl, (blk_cell h 6).trans rfl, (blk_cell h 7).trans rfl, (blk_cell h 8).trans rfl, blk_frozen h 0, blk_frozen h 1, blk_frozen h 2, blk_frozen h 3, blk_frozen h 4, blk_frozen h 5, blk_frozen h 6, blk_frozen h 7, blk_frozen h 8⟩
end Go.Proofs.YtlimlbhhbjaljaaV
