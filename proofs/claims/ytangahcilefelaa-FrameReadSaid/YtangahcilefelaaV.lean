/- A call of a function value that stands in a slot: the steps of the print's walk for it. -/
import Derived.Test.YtangahcilefelaaWMore
import Derived.Laws.Slices
import Derived.Test.YtangahcilefelaaWFootNe
import Derived.ChangeKeysEq
import Derived.ArgAppend
import Derived.Deep.Onto
namespace Go.Proofs.YtangahcilefelaaV
open Go Go.RowKit Go.Proofs.YtangahcilefelaaW.PrintWords Go.Proofs.YtangahcilefelaaW.PrintLast Go.Proofs.YtangahcilefelaaW.PrintMore

section
variable {P : Program} {ops : Array Oper} {Q : Exit → Act → World → Prop}

theorem invokes_ {f : FuncId} {fn : Func} (hf : P.funcs[f]? = some fn) (hname : (fn.name == "runtime.NumGoroutine") = false) (hb : fn.body.isSome = true) {a : Act} {oi : Oper} {q : Tmp} {as : Array Operand} {ts : Array TypeId} {cap args : Array Value} (w : World)
    (hop : oi.op = .call { callee := .value (.tmp q), args := as, argTypes := ts }) (hv : a.eval (.tmp q) = .func (.func f) #[] cap) (hargs : as.map a.eval ++ cap = args) : (execOp a.eval oi).run P w = .ok (.enter f args) w := by
  have he := enters_ hf hname hb args w
  unfold execOp
  simp [hop, resolve, hv, Deferred.ofValue, invoke, hargs, he]

/-- What a function value has captured. -/
def capOf_ (v : Value) : Array Value := match v with
  | .func _ _ c => c
  | _ => #[]

/-- 'goesL_' where the callee stands in a slot. -/
theorem goesLV_ {rest : List Oper} {oi : Oper} {a : Act} {w : World} (N : Option Tmp) (hd : oi.dst = N) (hg : oi.guard = none) {f : FuncId} {fn : Func} {q : Tmp} {as : Array Operand} {ts : Array TypeId} (hf : P.funcs[f]? = some fn) (hname : (fn.name == "runtime.NumGoroutine") = false) (hb : fn.body.isSome = true) (args : Array Value)
    (hop : oi.op = .call { callee := .value (.tmp q), args := as, argTypes := ts }) (hargs : as.map a.eval ++ capOf_ (a.eval (.tmp q)) = args)
    (h : Calls P f args w fun e w' => ∃ v, e = .returned v ∧ wpList P ops Q rest (a.put N v) w') (hv : a.eval (.tmp q) = .func (.func f) #[] (capOf_ (a.eval (.tmp q))) := by rfl) : wpList P ops Q (oi :: rest) a w := by
  refine wpList_plain hg fun K hK => ?_
  have hrun := invokes_ hf hname hb w hop hv hargs
  unfold Oper.wp
  rw [hrun, Oper.upon_enter]
  refine h.mono fun e w'' hh => ?_
  obtain ⟨v, rfl, hk⟩ := hh
  subst hd
  exact hK _ _ hk

/-- The operation calls what stands in a slot. -/
theorem gate_calleeV {rest : List Oper} {o : Oper} {a : Act} {W : World} {q : Tmp} {as : Array Operand} {ts : Array TypeId} (_ho : o.op = .call { callee := .value (.tmp q), args := as, argTypes := ts }) (h : wpList P ops Q (o :: rest) a W) : wpList P ops Q (o :: rest) a W := h
end

/-! '==' of arrays as one Bool -/
section
variable {P : Program} {d : Nat} {xs ys : Array Value} {e : TypeId} {c j : Nat} {js : List Nat} {a b : Value} {r s : Bool} {w : World}
end
/-! x[lo:hi:hi] -/
section
variable {P : Program}
theorem cut_to3 (t e : TypeId) (kh km : IntKind) {i : TypeInfo} (ht : P.underlying t = some (.slice e)) (hi : P.info? e = some i) (A : Option Addr) (n c : Nat) (j : Int) (h0 : 0 ≤ j) (hm : j ≤ n) (hc : n ≤ c) :
    ∀ W : World, (Instr.slice t (.slice A n c) none (some (.int kh j)) (some (.int km j))).run P W = .ok (.slice A j.toNat j.toNat) W := by
  intro W
  have hel : P.elem t = e := by simp [Program.elem, ht]
  have hu : P.underlying t = some (.slice (P.elem t)) := by rw [hel]; exact ht
  have ha : (A.map fun x => x.add 0) = A := by cases A <;> simp [Addr.add]
  rw [run_slice_hm W t A n c hu kh km j j h0 (Int.le_refl _) (by omega), hel]
  simp [sizeOf, typeInfo, hi, sliced, Result.andThen, ha]
end
section
variable {α : Type} {k : Kd α} {w : World} {A : Option Addr} {xs : List α}
end
/-! what is shared, and a variable's block -/
section
variable {P : Program} {ops : Array Oper} {Q : Exit → Act → World → Prop} {rest : List Oper} {o : Oper} {a : Act} {α : Type}
/-- append onto a row that has no room: what comes is a new row; the old one stays. -/
theorem R_append_full (d : Kd α) {w0 W : World} (base : Nat) (hgd : o.guard = none) (s x : Operand) (t e : TypeId) (z : Value) (bytes : Nat)
    (ho : o.op = .call { callee := .builtin .append, args := #[s, x], argTypes := #[t, t] })
    (ht : P.underlying t = some (.slice e)) (hinfo : (P.info? e).map (fun i => (i.zero, i.size, i.bytes)) = some (some z, d.sz, bytes)) (hz : z.cells.size = d.sz) (hs0 : 0 < d.sz) (hb0 : 0 < bytes)
    (A0 : Option Addr) (c0 : Nat) (xs ys : List α) (A : Option Addr) (m c : Nat) (hs : a.eval s = .slice A0 xs.length c0) (hx : a.eval x = .slice A m c) (hfull : c0 = xs.length) (hm0 : 0 < m)
    (HS : ReadsRow (d.M W base fun _ => False) d.sz W A0 xs.length xs) (HR : ReadsRow (d.M W base fun _ => False) d.sz W A m ys)
    (HB : Below base w0 W) (hbase : base ≤ W.heap.size) (hl : (xs.length + m) * bytes ≤ 140737488355328)
    (h : ∀ v1 w1, d.R e w1 base (fun _ => True) v1 (xs ++ ys) → Below base w0 w1 → W.grownBy w1 none → wpList P ops Q rest (a.put o.dst v1) w1) :
    wpList P ops Q (o :: rest) a W := by
  obtain ⟨i0, hi, hzz⟩ := Option.map_eq_some_iff.1 hinfo
  simp only [Prod.mk.injEq] at hzz
  obtain ⟨hz0, hz1, hz2⟩ := hzz
  have hm : ys.length = m := HR.1
  have hlen : xs.length + m ≤ 140737488355328 := Nat.le_trans (Nat.le_mul_of_pos_right _ hb0) hl
  obtain ⟨ad, rfl, _⟩ := HR.2.2 hm0
  obtain ⟨news, hnM, hnc⟩ := ReadsRow.inner_ HR
  have hone : ∀ u ∈ news, u.oneCell' = true := by
    intro u hu
    obtain ⟨q, hq, rfl⟩ := List.mem_iff_getElem.1 hu
    have hql : q / d.sz < ys.length := by
      rw [Nat.div_lt_iff_lt_mul hs0]
      rw [← hnM.1]
      exact hq
    have hc := hnM.2 (q / d.sz) _ (List.getElem?_eq_getElem hql)
    refine d.K_one (d.K_of_M hc) _ ?_
    rw [List.mem_iff_getElem?]
    refine ⟨q % d.sz, ?_⟩
    rw [List.getElem?_take, if_pos (Nat.mod_lt _ hs0), List.getElem?_drop, Nat.mul_comm, Nat.div_add_mod, List.getElem?_eq_getElem hq]
  obtain ⟨olds, hoM, hoc⟩ : ∃ olds, Reps (d.M W base fun _ => False) d.sz xs olds ∧ ∀ b, A0 = some b → ∀ j u, olds[j]? = some u → W.cell? (b.add j) = some u := by
    rcases A0 with _ | b
    · have h0 : xs = [] := by
        rcases Nat.eq_zero_or_pos xs.length with h0 | h0
        · exact List.eq_nil_of_length_eq_zero h0
        · obtain ⟨ad, h, _⟩ := HS.2.2 h0
          cases h
      subst h0
      exact ⟨[], Reps.none _ _, fun _ hb => by cases hb⟩
    · obtain ⟨olds, h1, h2⟩ := ReadsRow.inner_ HS
      exact ⟨olds, h1, fun b' hb j u hj => by cases hb; exact h2 j u hj⟩
  have hnone : A0 = none → xs.length = 0 ∧ c0 = 0 := by
    intro hn
    rcases Nat.eq_zero_or_pos xs.length with h0 | h0
    · exact ⟨h0, by omega⟩
    · obtain ⟨ad, h, _⟩ := HS.2.2 h0
      rw [hn] at h
      cases h
  refine wpList_append_grows W hgd s x t ho e i0 z d.sz bytes ht hi hz0 hz1 hz2 hz hs0 A0 xs.length c0 olds hs hnone hoM.1 hoc ad m c news hx (by rw [hnM.1, hm]) hnc hone (by omega) (by simp only [maxLen]; omega) hl ?_
  intro v' w' r1 r2
  have hgt := fun k hk => (World.ownsRow.lt r1 k hk).1
  have step : ∀ {q : α} {c : List Value}, d.M W base (fun _ => False) q c → d.M w' base (fun k => True ∧ some k ≠ v'.ownBlock) q c := by
    intro q c hq
    exact d.M_mono (fun k hk => hk.1.elim) (d.M_move (w1 := w') (fun k hk => hk.1.elim) (d.M_bound hq))
  exact h v' w' ⟨fun k _ => trivial, olds ++ news, by rw [List.length_append, hm]; exact World.ownsRow.mono r1 hbase, Kd.reps_append (hoM.imp_ (fun _ _ hq => step hq)) (hnM.imp_ (fun _ _ hq => step hq))⟩ (pw_below_grown HB none hbase r2 (fun k hk => by cases hk)) r2
/-- The same, of one element that was just laid down. -/
theorem R_append1_full (d : Kd α) {w0 W : World} (base : Nat) (hgd : o.guard = none) (s x : Operand) (t e : TypeId) (z : Value) (bytes : Nat)
    (ho : o.op = .call { callee := .builtin .append, args := #[s, x], argTypes := #[t, t] })
    (ht : P.underlying t = some (.slice e)) (hinfo : (P.info? e).map (fun i => (i.zero, i.size, i.bytes)) = some (some z, d.sz, bytes)) (hz : z.cells.size = d.sz) (hs0 : 0 < d.sz) (hb0 : 0 < bytes)
    (A0 : Option Addr) (c0 : Nat) (xs : List α) (p : α) (cs : List Value) (hs : a.eval s = .slice A0 xs.length c0) (hx : a.eval x = .slice (some ⟨W.heap.size, 0, none⟩) 1 1) (hp : d.M W base (fun _ => False) p cs) (hfull : c0 = xs.length)
    (HS : ReadsRow (d.M W base fun _ => False) d.sz W A0 xs.length xs)
    (HB : Below base w0 W) (hbase : base ≤ W.heap.size) (hl : (xs.length + 1) * bytes ≤ 140737488355328)
    (h : ∀ v1 w1, d.R e w1 base (fun _ => True) v1 (xs ++ [p]) → Below base w0 w1 → W.grownBy w1 none → wpList P ops Q rest (a.put o.dst v1) w1) :
    wpList P ops Q (o :: rest) a (W.alloc (.cells cs.toArray e)) := by
  have hb : Below W.heap.size W (W.alloc (.cells cs.toArray e)) := below_alloc (Below.refl _ _) _
  have step : ∀ {q : α} {c : List Value}, d.M W base (fun _ => False) q c → d.M (W.alloc (.cells cs.toArray e)) base (fun _ => False) q c := by
    intro q c hq
    exact d.M_mono (fun k hk => hk.1.elim) (d.M_move (w1 := W.alloc (.cells cs.toArray e)) (fun k hk => hk.1.elim) (d.M_bound hq))
  refine R_append_full d (W := W.alloc (.cells cs.toArray e)) base hgd s x t e z bytes ho ht hinfo hz hs0 hb0 A0 c0 xs [p] _ 1 1 hs hx hfull (by omega) (ReadsRow.imp_ HS hb (fun _ _ hq => step hq)) ⟨rfl, by omega, fun _ => ⟨_, rfl, fun j q hj => ?_⟩⟩ (pw_below_grown HB none hbase ⟨rfl, rfl, rfl, by simp, fun k hk _ => heap_alloc_old W _ hk⟩ (fun k hk => by cases hk)) (by simp; omega) hl (fun v1 w1 h1 h2 h3 => h v1 w1 h1 h2 (World.grownBy.trans (b := W.alloc (.cells cs.toArray e)) ⟨rfl, rfl, rfl, by simp, fun k hk _ => heap_alloc_old W _ hk⟩ h3))
  rcases j with _ | j
  · have : p = q := by simpa using hj
    subst this
    refine ⟨cs, d.K_len (d.K_of_M hp), step hp, fun i u hu => ?_⟩
    have hlt : i < cs.length := by
      rcases Nat.lt_or_ge i cs.length with h | h
      · exact h
      · rw [List.getElem?_eq_none h] at hu; cases hu
    rw [Addr.add_lit, World.cell?_alloc_new]
    simpa using hu
  · simp at hj
end
/-! what only new blocks and draws have come to -/
def Eld (w w' : World) : Prop := Below w.heap.size w w'
instance eldR (w : World) : Nonempty (Eld w w) := ⟨Below.refl _ _⟩
instance eldN (w w' : World) (n : Nat) [z : Nonempty (Eld w w')] : Nonempty (Eld w (w'.drewN n)) := z.elim fun h => ⟨pw_below_drewN h n⟩
instance eldD (w w' : World) [z : Nonempty (Eld w w')] : Nonempty (Eld w w'.drew) := z.elim fun h => ⟨below_drew1 h⟩
instance eldA (w w' : World) (o : Obj) [z : Nonempty (Eld w w')] : Nonempty (Eld w (w'.alloc o)) := z.elim fun h => ⟨below_alloc h o⟩
section
variable {α : Type} {d : Kd α} {e base n : Nat} {ok : Nat → Prop} {v : Value} {xs : List α} {w0 w w' : World}
theorem zV [z : Nonempty (Eld w w')] (h : Kd.V d e w base ok v xs) : Kd.V d e w' base ok v xs := z.elim fun b => Kd.V_below h b
theorem zN [z : Nonempty (Eld w w')] (h : Kd.N d e w base ok v xs) : Kd.N d e w' base ok v xs := z.elim fun b => Kd.N_below h b
theorem zR [z : Nonempty (Eld w w')] (h : Kd.R d e w base ok v xs) : Kd.R d e w' base ok v xs := z.elim fun b => Kd.R_below h b
theorem zB [z : Nonempty (Eld w w')] {g : Nat} {o : Obj} (h : w.heap[g]? = some o) : w'.heap[g]? = some o := z.elim fun b => (Below.block b g (blk_lt h)).trans h
theorem zH [z : Nonempty (Eld w w')] (h : Below w0.heap.size w0 w) : Below w0.heap.size w0 w' := z.elim fun b => below_step h b
end
/-! what only blocks, draws and stores into some blocks have come to -/
/-- w' is w but for new blocks, draws, and stores into the blocks gs. -/
structure Off (gs : List Nat) (w w' : World) : Prop where
  out : ∀ k, k < w.heap.size → (∀ g ∈ gs, k ≠ g) → w'.heap[k]? = w.heap[k]?
  size : w.heap.size ≤ w'.heap.size
structure InL (g : Nat) (gs : List Nat) : Prop where
  out : g ∈ gs
instance inH (g : Nat) (gs : List Nat) : Nonempty (InL g (g :: gs)) := ⟨⟨List.mem_cons_self⟩⟩
instance inT (g h : Nat) (gs : List Nat) [z : Nonempty (InL g gs)] : Nonempty (InL g (h :: gs)) := z.elim fun b => ⟨⟨List.mem_cons_of_mem _ b.out⟩⟩
instance offR (gs : List Nat) (w : World) : Nonempty (Off gs w w) := ⟨⟨fun _ _ _ => rfl, Nat.le_refl _⟩⟩
instance offA (gs : List Nat) (w w' : World) (o : Obj) [z : Nonempty (Off gs w w')] : Nonempty (Off gs w (w'.alloc o)) := z.elim fun b => ⟨⟨fun k h1 h2 => (Below.heap_alloc w' o k (Nat.lt_of_lt_of_le h1 b.size)).trans (b.out k h1 h2), Nat.le_trans b.size (by simp)⟩⟩
instance offD (gs : List Nat) (w w' : World) [z : Nonempty (Off gs w w')] : Nonempty (Off gs w w'.drew) := z.elim fun b => ⟨⟨fun k h1 h2 => b.out k h1 h2, b.size⟩⟩
instance offN (gs : List Nat) (w w' : World) (n : Nat) [z : Nonempty (Off gs w w')] : Nonempty (Off gs w (w'.drewN n)) := z.elim fun b => ⟨⟨fun k h1 h2 => b.out k h1 h2, b.size⟩⟩
instance offS (gs : List Nat) (w w' : World) (g i : Nat) (v : Value) [z : Nonempty (Off gs w w')] [y : Nonempty (InL g gs)] : Nonempty (Off gs w (w'.setCell ⟨g, i, none⟩ v)) := z.elim fun b => y.elim fun q => ⟨⟨fun k h1 h2 => (Below.heap_setCell w' ⟨g, i, none⟩ v k (h2 g q.out)).trans (b.out k h1 h2), by have := b.size; simpa using this⟩⟩
section
variable {α : Type} {d : Kd α} {e base : Nat} {ok ok' : Nat → Prop} {v : Value} {xs : List α} {w w' : World} {g g1 g2 g3 : Nat} {o : Obj} {a : Addr} {u : Value}
end
theorem sT {α : Type _} (l : List α) (i : Nat) (a : α) : l.toArray.setIfInBounds i a = (l.set i a).toArray := by simp only [List.setIfInBounds_toArray]
theorem s0 {α : Type _} (l : List α) (a b : α) : (a :: l).set 0 b = b :: l := rfl
theorem s1 {α : Type _} (l : List α) (a b : α) (n : Nat) : (a :: l).set (n + 1) b = a :: l.set n b := rfl
/-! a block's cells, all at once -/

theorem bk2 {w : World} {g : Nat} {t : TypeId} {c0 c1 : Value} (h : w.heap[g]? = some (.cells #[c0, c1] t (0, 0))) : w.cell? ⟨g, 0, none⟩ = some c0 ∧ w.cell? ⟨g, 1, none⟩ = some c1 ∧ w.frozen? ⟨g, 0, none⟩ = false ∧ w.frozen? ⟨g, 1, none⟩ = false :=
  ⟨(blk_cell h 0).trans rfl, (blk_cell h 1).trans rfl, blk_frozen h 0, blk_frozen h 1⟩
theorem bk5 {w : World} {g : Nat} {t : TypeId} {c0 c1 c2 c3 c4 : Value} (h : w.heap[g]? = some (.cells #[c0, c1, c2, c3, c4] t (0, 0))) : w.cell? ⟨g, 0, none⟩ = some c0 ∧ w.cell? ⟨g, 1, none⟩ = some c1 ∧ w.cell? ⟨g, 2, none⟩ = some c2 ∧ w.cell? ⟨g, 3, none⟩ = some c3 ∧ w.cell? ⟨g, 4, none⟩ = some c4 ∧ w.frozen? ⟨g, 0, none⟩ = false ∧ w.frozen? ⟨g, 1, none⟩ = false ∧ w.frozen? ⟨g, 2, none⟩ = false ∧ w.frozen? ⟨g, 3, none⟩ = false ∧ w.frozen? ⟨g, 4, none⟩ = false :=
  ⟨(blk_cell h 0).trans rfl, (blk_cell h 1).trans rfl, (blk_cell h 2).trans rfl, (blk_cell h 3).trans rfl, (blk_cell h 4).trans rfl, blk_frozen h 0, blk_frozen h 1, blk_frozen h 2, blk_frozen h 3, blk_frozen h 4⟩
end Go.Proofs.YtangahcilefelaaV
