/- A call of a function value that stands in a slot: the steps of the print's walk for it. -/
import Derived.Test.YtgijfaecplodfaaWMore
import Derived.Laws.Slices
import Derived.Test.YtgijfaecplodfaaWFootNe
import Derived.ChangeKeysEq
namespace Go.Proofs.YtgijfaecplodfaaV
open Go Go.RowKit Go.Proofs.YtgijfaecplodfaaW.PrintWords Go.Proofs.YtgijfaecplodfaaW.PrintLast Go.Proofs.YtgijfaecplodfaaW.PrintMore

section
variable {P : Program} {ops : Array Oper} {Q : Exit → Act → World → Prop}

theorem invokes_ {f : FuncId} {fn : Func} (hf : P.funcs[f]? = some fn) (hname : (fn.name == "runtime.NumGoroutine") = false) (hb : fn.body.isSome = true) {a : Act} {oi : Oper} {q : Tmp} {as : Array Operand} {ts : Array TypeId} {cap args : Array Value} (w : World)
    (hop : oi.op = .call { callee := .value (.tmp q), args := as, argTypes := ts }) (hv : a.eval (.tmp q) = .func (.func f) #[] cap) (hargs : as.map a.eval ++ cap = args) : (execOp a.eval oi).run P w = .ok (.enter f args) w := by
  have he := enters_ hf hname hb args w
  unfold execOp
  simp [hop, resolve, hv, Deferred.ofValue, invoke, hargs, he]

/-- 'goes_' where the callee stands in a slot. -/
theorem goesV_ {oi : Oper} {N : Option Tmp} {a : Act} {w : World} {K : Act → World → Prop} {f : FuncId} {fn : Func} {q : Tmp} {as : Array Operand} {ts : Array TypeId} (hf : P.funcs[f]? = some fn) (hname : (fn.name == "runtime.NumGoroutine") = false) (hb : fn.body.isSome = true) (args : Array Value)
    (hw : Region.wanted oi (yielded ops a.tmps) = true) (hN : oi.dst = N) (hop : oi.op = .call { callee := .value (.tmp q), args := as, argTypes := ts }) (hargs : as.map a.eval = args)
    (h : Calls P f args w fun e w' => ∃ v, e = .returned v ∧ K (a.put N v) w') (hv : a.eval (.tmp q) = .func (.func f) #[] #[] := by rfl) : if Region.wanted oi (yielded ops a.tmps) = true then Oper.wp P oi a w K Q else K (a.put N undef) w :=
  call_ f args hw hN (invokes_ hf hname hb w hop hv (by simpa using hargs)) h

/-- 'goesL_' where the callee stands in a slot. -/
theorem goesLV_ {rest : List Oper} {oi : Oper} {a : Act} {w : World} (N : Option Tmp) (hd : oi.dst = N) (hg : oi.guard = none) {f : FuncId} {fn : Func} {q : Tmp} {as : Array Operand} {ts : Array TypeId} (hf : P.funcs[f]? = some fn) (hname : (fn.name == "runtime.NumGoroutine") = false) (hb : fn.body.isSome = true) (args : Array Value)
    (hop : oi.op = .call { callee := .value (.tmp q), args := as, argTypes := ts }) (hargs : as.map a.eval = args)
    (h : Calls P f args w fun e w' => ∃ v, e = .returned v ∧ wpList P ops Q rest (a.put N v) w') (hv : a.eval (.tmp q) = .func (.func f) #[] #[] := by rfl) : wpList P ops Q (oi :: rest) a w := by
  refine wpList_plain hg fun K hK => ?_
  have hrun := invokes_ hf hname hb w hop hv (cap := #[]) (args := args) (by simpa using hargs)
  unfold Oper.wp
  rw [hrun, Oper.upon_enter]
  refine h.mono fun e w'' hh => ?_
  obtain ⟨v, rfl, hk⟩ := hh
  subst hd
  exact hK _ _ hk

/-- The operation calls what stands in a slot. -/
theorem gate_calleeV {rest : List Oper} {o : Oper} {a : Act} {W : World} {q : Tmp} {as : Array Operand} {ts : Array TypeId} (_ho : o.op = .call { callee := .value (.tmp q), args := as, argTypes := ts }) (h : wpList P ops Q (o :: rest) a W) : wpList P ops Q (o :: rest) a W := h
end

/-! '==' of arrays as one Bool -/
section
variable {P : Program} {d : Nat} {xs ys : Array Value} {e : TypeId} {c j : Nat} {js : List Nat} {a b : Value} {r s : Bool} {w : World}
theorem eqi_last (ha : (part e xs (j * c)).run P w = .ok a w) (hb : (part e ys (j * c)).run P w = .ok b w) (he : (Op.equalIn d e a b).run P w = .ok r w) : (Op.eqItems d e c xs ys [j]).run P w = .ok r w := by
  simp only [Op.eqItems, Sem.run_bind, ha, hb, he, Result.andThen_ok]
  cases r <;> simp
theorem eqi_cons (ha : (part e xs (j * c)).run P w = .ok a w) (hb : (part e ys (j * c)).run P w = .ok b w) (he : (Op.equalIn d e a b).run P w = .ok r w) (hr : (Op.eqItems d e c xs ys js).run P w = .ok s w) : (Op.eqItems d e c xs ys (j :: js)).run P w = .ok (r && s) w := by
  rw [Op.eqItems]
  simp only [Sem.run_bind, ha, hb, he, Result.andThen_ok]
  cases r
  · simp
  · simpa using hr
theorem arrA_of {t : TypeId} {n : Nat} (hu : P.underlying t = some (.array n e)) (hi : (P.info? e).isSome = true) (hc : P.cellsOf e = c) (h : (Op.eqItems d e c xs ys (List.range n)).run P w = .ok r w) : (Op.equalIn (d + 1) t (.agg xs) (.agg ys)).run P w = .ok r w := by
  obtain ⟨i, hi⟩ := Option.isSome_iff_exists.1 hi
  rw [run_equalIn_array (P := P) (w := w) d xs ys hu hi, hc]
  exact h
end
/-! x[lo:hi:hi] -/
section
variable {P : Program}
theorem cut_to3 (t e : TypeId) (kh km : IntKind) {i : TypeInfo} (ht : P.underlying t = some (.slice e)) (hi : P.info? e = some i) (A : Option Addr) (n c : Nat) (j : Int) (h0 : 0 ≤ j) (hm : j ≤ n) (hc : n ≤ c) :
    ∀ W : World, (Instr.slice t (.slice A n c) none (some (.int kh j)) (some (.int km j))).run P W = .ok (.slice A j.toNat j.toNat) W := by
  intro W
  have hel : P.elem t = e := by simp [Program.elem, ht]
  have hu : P.underlying t = some (.slice (P.elem t)) := by rw [hel]; exact ht
  have ha : (A.map fun x => x.add 0) = A := by cases A <;> simp [Addr.add]
  rw [run_slice_hm W t A n c hu kh km j j h0 (Int.le_refl _) (by omega), hel]
  simp [sizeOf, typeInfo, hi, sliced, Result.andThen, ha]
theorem cut_mid3 (t e : TypeId) (kl kh km : IntKind) {i : TypeInfo} (ht : P.underlying t = some (.slice e)) (hi : P.info? e = some i) (size : Nat) (hsz : i.size = size) (A : Option Addr) (n c : Nat) (lo hi' : Int) (h0 : 0 ≤ lo) (h1 : lo ≤ hi') (h2 : hi' ≤ n) (hc : n ≤ c) :
    ∀ W : World, (Instr.slice t (.slice A n c) (some (.int kl lo)) (some (.int kh hi')) (some (.int km hi'))).run P W = .ok (.slice (if hi'.toNat = lo.toNat then A else A.map (·.add (lo.toNat * size))) (hi'.toNat - lo.toNat) (hi'.toNat - lo.toNat)) W := by
  intro W
  have hel : P.elem t = e := by simp [Program.elem, ht]
  have hu : P.underlying t = some (.slice (P.elem t)) := by rw [hel]; exact ht
  rw [run_slice_lhm W t A n c hu kl kh km lo hi' hi' h0 h1 (Int.le_refl _) (by omega), hel]
  simp [sizeOf, typeInfo, hi, hsz, sliced, Result.andThen]
end
section
variable {α : Type} {k : Kd α} {w : World} {A : Option Addr} {xs : List α}
theorem C_mid3 {lo hi : Nat} (h : k.C w A xs.length xs) (h1 : lo ≤ hi) (h2 : hi ≤ xs.length) : k.C w (if hi = lo then A else A.map (·.add (lo * k.sz))) ((xs.take hi).drop lo).length ((xs.take hi).drop lo) := by
  have hl : (xs.take hi).length = hi := by rw [List.length_take]; omega
  exact Kd.C_drop (Kd.C_take h h2) (by omega) (by omega)
theorem F_mid3 {ok : Nat → Prop} {lo hi : Nat} (h : Kd.F k w ok A xs.length xs) (h1 : lo ≤ hi) (h2 : hi ≤ xs.length) : Kd.F k w ok (if hi = lo then A else A.map (·.add (lo * k.sz))) ((xs.take hi).drop lo).length ((xs.take hi).drop lo) :=
  Kd.F_imp h (fun _ hC => C_mid3 hC h1 h2)
end
/-! what is shared, and a variable's block -/
theorem Kd.V_away {α : Type} {d : Kd α} {e base n c g : Nat} {ok : Nat → Prop} {w : World} {A : Option Addr} {xs : List α} (h : Kd.V d e w base ok (.slice A n c) xs) (hok : ∀ k, ok k → k ≠ g)
    (hn : 0 < xs.length := by first | omega | (simp_all; done) | (simp_all; omega)) (hs : 0 < d.sz := by decide) : some g ≠ (Value.slice A n c).ownBlock := by
  obtain ⟨A', c', hv, hl, hF⟩ := h
  injection hv with h1 h2 h3
  subst h1
  rcases A with _ | ad
  · simp [Value.ownBlock]
  · have hne := Kd.foot_ne (g := g) (fun W' hk => hF W' (fun k hk1 hlt => hk.2 k hlt (hok k hk1) (by simp))) hn hs
    intro he
    have : g = ad.block := by simpa [Value.ownBlock] using he
    exact hne this.symm
theorem row_len {α : Type} {Rr : α → List Value → Prop} {sz : Nat} {W : World} {A : Option Addr} {n m : Nat} {ys : List α} (h : ReadsRow Rr sz W A n ys) (e : n = m) : ReadsRow Rr sz W A m ys := e ▸ h
end Go.Proofs.YtgijfaecplodfaaV
