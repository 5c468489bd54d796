/- A call of a function value that stands in a slot: the steps of the print's walk for it. -/
import Derived.Test.YtdmhamnnadegnaaWMore
import Derived.Laws.Slices
import Derived.Test.YtdmhamnnadegnaaWFootNe
import Derived.ChangeKeysEq
import Derived.ArgAppend
import Derived.Deep.Onto
namespace Go.Proofs.YtdmhamnnadegnaaV
open Go Go.RowKit Go.Proofs.YtdmhamnnadegnaaW.PrintWords Go.Proofs.YtdmhamnnadegnaaW.PrintLast Go.Proofs.YtdmhamnnadegnaaW.PrintMore

section
variable {P : Program} {ops : Array Oper} {Q : Exit → Act → World → Prop}

theorem invokes_ {f : FuncId} {fn : Func} (hf : P.funcs[f]? = some fn) (hname : (fn.name == "runtime.NumGoroutine") = false) (hb : fn.body.isSome = true) {a : Act} {oi : Oper} {q : Tmp} {as : Array Operand} {ts : Array TypeId} {cap args : Array Value} (w : World)
    (hop : oi.op = .call { callee := .value (.tmp q), args := as, argTypes := ts }) (hv : a.eval (.tmp q) = .func (.func f) #[] cap) (hargs : as.map a.eval ++ cap = args) : (execOp a.eval oi).run P w = .ok (.enter f args) w := by
  have he := enters_ hf hname hb args w
  unfold execOp
  simp [hop, resolve, hv, Deferred.ofValue, invoke, hargs, he]

/-- What a function value has captured. -/
def capOf_ (v : Value) : Array Value := match v with
  | .func _ _ c => c
  | _ => #[]

/-- 'goes_' where the callee stands in a slot. -/
theorem goesV_ {oi : Oper} {N : Option Tmp} {a : Act} {w : World} {K : Act → World → Prop} {f : FuncId} {fn : Func} {q : Tmp} {as : Array Operand} {ts : Array TypeId} (hf : P.funcs[f]? = some fn) (hname : (fn.name == "runtime.NumGoroutine") = false) (hb : fn.body.isSome = true) (args : Array Value)
    (hw : Region.wanted oi (yielded ops a.tmps) = true) (hN : oi.dst = N) (hop : oi.op = .call { callee := .value (.tmp q), args := as, argTypes := ts }) (hargs : as.map a.eval ++ capOf_ (a.eval (.tmp q)) = args)
    (h : Calls P f args w fun e w' => ∃ v, e = .returned v ∧ K (a.put N v) w') (hv : a.eval (.tmp q) = .func (.func f) #[] (capOf_ (a.eval (.tmp q))) := by rfl) : if Region.wanted oi (yielded ops a.tmps) = true then Oper.wp P oi a w K Q else K (a.put N undef) w :=
  call_ f args hw hN (invokes_ hf hname hb w hop hv hargs) h

/-- 'goesL_' where the callee stands in a slot. -/
theorem goesLV_ {rest : List Oper} {oi : Oper} {a : Act} {w : World} (N : Option Tmp) (hd : oi.dst = N) (hg : oi.guard = none) {f : FuncId} {fn : Func} {q : Tmp} {as : Array Operand} {ts : Array TypeId} (hf : P.funcs[f]? = some fn) (hname : (fn.name == "runtime.NumGoroutine") = false) (hb : fn.body.isSome = true) (args : Array Value)
    (hop : oi.op = .call { callee := .value (.tmp q), args := as, argTypes := ts }) (hargs : as.map a.eval ++ capOf_ (a.eval (.tmp q)) = args)
    (h : Calls P f args w fun e w' => ∃ v, e = .returned v ∧ wpList P ops Q rest (a.put N v) w') (hv : a.eval (.tmp q) = .func (.func f) #[] (capOf_ (a.eval (.tmp q))) := by rfl) : wpList P ops Q (oi :: rest) a w := by
  refine wpList_plain hg fun K hK => ?_
  have hrun := invokes_ hf hname hb w hop hv hargs
  unfold Oper.wp
  rw [hrun, Oper.upon_enter]
  refine h.mono fun e w'' hh => ?_
  obtain ⟨v, rfl, hk⟩ := hh
  subst hd
  exact hK _ _ hk

/-- The operation calls what stands in a slot. -/
theorem gate_calleeV {rest : List Oper} {o : Oper} {a : Act} {W : World} {q : Tmp} {as : Array Operand} {ts : Array TypeId} (_ho : o.op = .call { callee := .value (.tmp q), args := as, argTypes := ts }) (h : wpList P ops Q (o :: rest) a W) : wpList P ops Q (o :: rest) a W := h
end

/-! '==' of arrays as one Bool -/
section
variable {P : Program} {d : Nat} {xs ys : Array Value} {e : TypeId} {c j : Nat} {js : List Nat} {a b : Value} {r s : Bool} {w : World}
theorem eqi_last (ha : (part e xs (j * c)).run P w = .ok a w) (hb : (part e ys (j * c)).run P w = .ok b w) (he : (Op.equalIn d e a b).run P w = .ok r w) : (Op.eqItems d e c xs ys [j]).run P w = .ok r w := by
  simp only [Op.eqItems, Sem.run_bind, ha, hb, he, Result.andThen_ok]
  cases r <;> simp
theorem eqi_cons (ha : (part e xs (j * c)).run P w = .ok a w) (hb : (part e ys (j * c)).run P w = .ok b w) (he : (Op.equalIn d e a b).run P w = .ok r w) (hr : (Op.eqItems d e c xs ys js).run P w = .ok s w) : (Op.eqItems d e c xs ys (j :: js)).run P w = .ok (r && s) w := by
  rw [Op.eqItems]
  simp only [Sem.run_bind, ha, hb, he, Result.andThen_ok]
  cases r
  · simp
  · simpa using hr
theorem arrA_of {t : TypeId} {n : Nat} (hu : P.underlying t = some (.array n e)) (hi : (P.info? e).isSome = true) (hc : P.cellsOf e = c) (h : (Op.eqItems d e c xs ys (List.range n)).run P w = .ok r w) : (Op.equalIn (d + 1) t (.agg xs) (.agg ys)).run P w = .ok r w := by
  obtain ⟨i, hi⟩ := Option.isSome_iff_exists.1 hi
  rw [run_equalIn_array (P := P) (w := w) d xs ys hu hi, hc]
  exact h
end
/-! x[lo:hi:hi] -/
section
variable {P : Program}
theorem cut_to3 (t e : TypeId) (kh km : IntKind) {i : TypeInfo} (ht : P.underlying t = some (.slice e)) (hi : P.info? e = some i) (A : Option Addr) (n c : Nat) (j : Int) (h0 : 0 ≤ j) (hm : j ≤ n) (hc : n ≤ c) :
    ∀ W : World, (Instr.slice t (.slice A n c) none (some (.int kh j)) (some (.int km j))).run P W = .ok (.slice A j.toNat j.toNat) W := by
  intro W
  have hel : P.elem t = e := by simp [Program.elem, ht]
  have hu : P.underlying t = some (.slice (P.elem t)) := by rw [hel]; exact ht
  have ha : (A.map fun x => x.add 0) = A := by cases A <;> simp [Addr.add]
  rw [run_slice_hm W t A n c hu kh km j j h0 (Int.le_refl _) (by omega), hel]
  simp [sizeOf, typeInfo, hi, sliced, Result.andThen, ha]
theorem cut_mid3 (t e : TypeId) (kl kh km : IntKind) {i : TypeInfo} (ht : P.underlying t = some (.slice e)) (hi : P.info? e = some i) (size : Nat) (hsz : i.size = size) (A : Option Addr) (n c : Nat) (lo hi' : Int) (h0 : 0 ≤ lo) (h1 : lo ≤ hi') (h2 : hi' ≤ n) (hc : n ≤ c) :
    ∀ W : World, (Instr.slice t (.slice A n c) (some (.int kl lo)) (some (.int kh hi')) (some (.int km hi'))).run P W = .ok (.slice (if hi'.toNat = lo.toNat then A else A.map (·.add (lo.toNat * size))) (hi'.toNat - lo.toNat) (hi'.toNat - lo.toNat)) W := by
  intro W
  have hel : P.elem t = e := by simp [Program.elem, ht]
  have hu : P.underlying t = some (.slice (P.elem t)) := by rw [hel]; exact ht
  rw [run_slice_lhm W t A n c hu kl kh km lo hi' hi' h0 h1 (Int.le_refl _) (by omega), hel]
  simp [sizeOf, typeInfo, hi, hsz, sliced, Result.andThen]
end
section
variable {α : Type} {k : Kd α} {w : World} {A : Option Addr} {xs : List α}
theorem C_mid3 {lo hi : Nat} (h : k.C w A xs.length xs) (h1 : lo ≤ hi) (h2 : hi ≤ xs.length) : k.C w (if hi = lo then A else A.map (·.add (lo * k.sz))) ((xs.take hi).drop lo).length ((xs.take hi).drop lo) := by
  have hl : (xs.take hi).length = hi := by rw [List.length_take]; omega
  exact Kd.C_drop (Kd.C_take h h2) (by omega) (by omega)
theorem F_mid3 {ok : Nat → Prop} {lo hi : Nat} (h : Kd.F k w ok A xs.length xs) (h1 : lo ≤ hi) (h2 : hi ≤ xs.length) : Kd.F k w ok (if hi = lo then A else A.map (·.add (lo * k.sz))) ((xs.take hi).drop lo).length ((xs.take hi).drop lo) :=
  Kd.F_imp h (fun _ hC => C_mid3 hC h1 h2)
end
/-! what is shared, and a variable's block -/
theorem Kd.V_away {α : Type} {d : Kd α} {e base n c g : Nat} {ok : Nat → Prop} {w : World} {A : Option Addr} {xs : List α} (h : Kd.V d e w base ok (.slice A n c) xs) (hok : ∀ k, ok k → k ≠ g)
    (hn : 0 < xs.length := by first | omega | (simp_all; done) | (simp_all; omega)) (hs : 0 < d.sz := by decide) : some g ≠ (Value.slice A n c).ownBlock := by
  obtain ⟨A', c', hv, hl, hF⟩ := h
  injection hv with h1 h2 h3
  subst h1
  rcases A with _ | ad
  · simp [Value.ownBlock]
  · have hne := Kd.foot_ne (g := g) (fun W' hk => hF W' (fun k hk1 hlt => hk.2 k hlt (hok k hk1) (by simp))) hn hs
    intro he
    have : g = ad.block := by simpa [Value.ownBlock] using he
    exact hne this.symm
theorem row_len {α : Type} {Rr : α → List Value → Prop} {sz : Nat} {W : World} {A : Option Addr} {n m : Nat} {ys : List α} (h : ReadsRow Rr sz W A n ys) (e : n = m) : ReadsRow Rr sz W A m ys := e ▸ h
section
variable {P : Program} {ops : Array Oper} {Q : Exit → Act → World → Prop} {rest : List Oper} {o : Oper} {a : Act} {α : Type}
/-- append onto a row that has no room: what comes is a new row; the old one stays. -/
theorem R_append_full (d : Kd α) {w0 W : World} (base : Nat) (hgd : o.guard = none) (s x : Operand) (t e : TypeId) (z : Value) (bytes : Nat)
    (ho : o.op = .call { callee := .builtin .append, args := #[s, x], argTypes := #[t, t] })
    (ht : P.underlying t = some (.slice e)) (hinfo : (P.info? e).map (fun i => (i.zero, i.size, i.bytes)) = some (some z, d.sz, bytes)) (hz : z.cells.size = d.sz) (hs0 : 0 < d.sz) (hb0 : 0 < bytes)
    (A0 : Option Addr) (c0 : Nat) (xs ys : List α) (A : Option Addr) (m c : Nat) (hs : a.eval s = .slice A0 xs.length c0) (hx : a.eval x = .slice A m c) (hfull : c0 = xs.length) (hm0 : 0 < m)
    (HS : ReadsRow (d.M W base fun _ => False) d.sz W A0 xs.length xs) (HR : ReadsRow (d.M W base fun _ => False) d.sz W A m ys)
    (HB : Below base w0 W) (hbase : base ≤ W.heap.size) (hl : (xs.length + m) * bytes ≤ 140737488355328)
    (h : ∀ v1 w1, d.R e w1 base (fun _ => True) v1 (xs ++ ys) → Below base w0 w1 → W.grownBy w1 none → wpList P ops Q rest (a.put o.dst v1) w1) :
    wpList P ops Q (o :: rest) a W := by
  obtain ⟨i0, hi, hzz⟩ := Option.map_eq_some_iff.1 hinfo
  simp only [Prod.mk.injEq] at hzz
  obtain ⟨hz0, hz1, hz2⟩ := hzz
  have hm : ys.length = m := HR.1
  have hlen : xs.length + m ≤ 140737488355328 := Nat.le_trans (Nat.le_mul_of_pos_right _ hb0) hl
  obtain ⟨ad, rfl, _⟩ := HR.2.2 hm0
  obtain ⟨news, hnM, hnc⟩ := ReadsRow.inner_ HR
  have hone : ∀ u ∈ news, u.oneCell' = true := by
    intro u hu
    obtain ⟨q, hq, rfl⟩ := List.mem_iff_getElem.1 hu
    have hql : q / d.sz < ys.length := by
      rw [Nat.div_lt_iff_lt_mul hs0]
      rw [← hnM.1]
      exact hq
    have hc := hnM.2 (q / d.sz) _ (List.getElem?_eq_getElem hql)
    refine d.K_one (d.K_of_M hc) _ ?_
    rw [List.mem_iff_getElem?]
    refine ⟨q % d.sz, ?_⟩
    rw [List.getElem?_take, if_pos (Nat.mod_lt _ hs0), List.getElem?_drop, Nat.mul_comm, Nat.div_add_mod, List.getElem?_eq_getElem hq]
  obtain ⟨olds, hoM, hoc⟩ : ∃ olds, Reps (d.M W base fun _ => False) d.sz xs olds ∧ ∀ b, A0 = some b → ∀ j u, olds[j]? = some u → W.cell? (b.add j) = some u := by
    rcases A0 with _ | b
    · have h0 : xs = [] := by
        rcases Nat.eq_zero_or_pos xs.length with h0 | h0
        · exact List.eq_nil_of_length_eq_zero h0
        · obtain ⟨ad, h, _⟩ := HS.2.2 h0
          cases h
      subst h0
      exact ⟨[], Reps.none _ _, fun _ hb => by cases hb⟩
    · obtain ⟨olds, h1, h2⟩ := ReadsRow.inner_ HS
      exact ⟨olds, h1, fun b' hb j u hj => by cases hb; exact h2 j u hj⟩
  have hnone : A0 = none → xs.length = 0 ∧ c0 = 0 := by
    intro hn
    rcases Nat.eq_zero_or_pos xs.length with h0 | h0
    · exact ⟨h0, by omega⟩
    · obtain ⟨ad, h, _⟩ := HS.2.2 h0
      rw [hn] at h
      cases h
  refine wpList_append_grows W hgd s x t ho e i0 z d.sz bytes ht hi hz0 hz1 hz2 hz hs0 A0 xs.length c0 olds hs hnone hoM.1 hoc ad m c news hx (by rw [hnM.1, hm]) hnc hone (by omega) (by simp only [maxLen]; omega) hl ?_
  intro v' w' r1 r2
  have hgt := fun k hk => (World.ownsRow.lt r1 k hk).1
  have step : ∀ {q : α} {c : List Value}, d.M W base (fun _ => False) q c → d.M w' base (fun k => True ∧ some k ≠ v'.ownBlock) q c := by
    intro q c hq
    exact d.M_mono (fun k hk => hk.1.elim) (d.M_move (w1 := w') (fun k hk => hk.1.elim) (d.M_bound hq))
  exact h v' w' ⟨fun k _ => trivial, olds ++ news, by rw [List.length_append, hm]; exact World.ownsRow.mono r1 hbase, Kd.reps_append (hoM.imp_ (fun _ _ hq => step hq)) (hnM.imp_ (fun _ _ hq => step hq))⟩ (pw_below_grown HB none hbase r2 (fun k hk => by cases hk)) r2
/-- The same, of one element that was just laid down. -/
theorem R_append1_full (d : Kd α) {w0 W : World} (base : Nat) (hgd : o.guard = none) (s x : Operand) (t e : TypeId) (z : Value) (bytes : Nat)
    (ho : o.op = .call { callee := .builtin .append, args := #[s, x], argTypes := #[t, t] })
    (ht : P.underlying t = some (.slice e)) (hinfo : (P.info? e).map (fun i => (i.zero, i.size, i.bytes)) = some (some z, d.sz, bytes)) (hz : z.cells.size = d.sz) (hs0 : 0 < d.sz) (hb0 : 0 < bytes)
    (A0 : Option Addr) (c0 : Nat) (xs : List α) (p : α) (cs : List Value) (hs : a.eval s = .slice A0 xs.length c0) (hx : a.eval x = .slice (some ⟨W.heap.size, 0, none⟩) 1 1) (hp : d.M W base (fun _ => False) p cs) (hfull : c0 = xs.length)
    (HS : ReadsRow (d.M W base fun _ => False) d.sz W A0 xs.length xs)
    (HB : Below base w0 W) (hbase : base ≤ W.heap.size) (hl : (xs.length + 1) * bytes ≤ 140737488355328)
    (h : ∀ v1 w1, d.R e w1 base (fun _ => True) v1 (xs ++ [p]) → Below base w0 w1 → W.grownBy w1 none → wpList P ops Q rest (a.put o.dst v1) w1) :
    wpList P ops Q (o :: rest) a (W.alloc (.cells cs.toArray e)) := by
  have hb : Below W.heap.size W (W.alloc (.cells cs.toArray e)) := below_alloc (Below.refl _ _) _
  have step : ∀ {q : α} {c : List Value}, d.M W base (fun _ => False) q c → d.M (W.alloc (.cells cs.toArray e)) base (fun _ => False) q c := by
    intro q c hq
    exact d.M_mono (fun k hk => hk.1.elim) (d.M_move (w1 := W.alloc (.cells cs.toArray e)) (fun k hk => hk.1.elim) (d.M_bound hq))
  refine R_append_full d (W := W.alloc (.cells cs.toArray e)) base hgd s x t e z bytes ho ht hinfo hz hs0 hb0 A0 c0 xs [p] _ 1 1 hs hx hfull (by omega) (ReadsRow.imp_ HS hb (fun _ _ hq => step hq)) ⟨rfl, by omega, fun _ => ⟨_, rfl, fun j q hj => ?_⟩⟩ (pw_below_grown HB none hbase ⟨rfl, rfl, rfl, by simp, fun k hk _ => heap_alloc_old W _ hk⟩ (fun k hk => by cases hk)) (by simp; omega) hl (fun v1 w1 h1 h2 h3 => h v1 w1 h1 h2 (World.grownBy.trans (b := W.alloc (.cells cs.toArray e)) ⟨rfl, rfl, rfl, by simp, fun k hk _ => heap_alloc_old W _ hk⟩ h3))
  rcases j with _ | j
  · have : p = q := by simpa using hj
    subst this
    refine ⟨cs, d.K_len (d.K_of_M hp), step hp, fun i u hu => ?_⟩
    have hlt : i < cs.length := by
      rcases Nat.lt_or_ge i cs.length with h | h
      · exact h
      · rw [List.getElem?_eq_none h] at hu; cases hu
    rw [Addr.add_lit, World.cell?_alloc_new]
    simpa using hu
  · simp at hj
end
end Go.Proofs.YtdmhamnnadegnaaV
