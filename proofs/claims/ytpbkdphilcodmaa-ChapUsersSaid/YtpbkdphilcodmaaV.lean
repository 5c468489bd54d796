/- A call of a function value that stands in a slot: the steps of the print's walk for it. -/
import Derived.Test.YtpbkdphilcodmaaWMore
import Derived.Laws.Slices
import Derived.Test.YtpbkdphilcodmaaWFootNe
import Derived.ChangeKeysEq
import Derived.ArgAppend
import Derived.Deep.Onto
namespace Go.Proofs.YtpbkdphilcodmaaV
open Go Go.RowKit Go.Proofs.YtpbkdphilcodmaaW.PrintWords Go.Proofs.YtpbkdphilcodmaaW.PrintLast Go.Proofs.YtpbkdphilcodmaaW.PrintMore

section
variable {P : Program} {ops : Array Oper} {Q : Exit → Act → World → Prop}

theorem invokes_ {f : FuncId} {fn : Func} (hf : P.funcs[f]? = some fn) (hname : (fn.name == "runtime.NumGoroutine") = false) (hb : fn.body.isSome = true) {a : Act} {oi : Oper} {q : Tmp} {as : Array Operand} {ts : Array TypeId} {cap args : Array Value} (w : World)
    (hop : oi.op = .call { callee := .value (.tmp q), args := as, argTypes := ts }) (hv : a.eval (.tmp q) = .func (.func f) #[] cap) (hargs : as.map a.eval ++ cap = args) : (execOp a.eval oi).run P w = .ok (.enter f args) w := by
  have he := enters_ hf hname hb args w
  unfold execOp
  simp [hop, resolve, hv, Deferred.ofValue, invoke, hargs, he]

/-- What a function value has captured. -/
def capOf_ (v : Value) : Array Value := match v with
  | .func _ _ c => c
  | _ => #[]

/-- 'goes_' where the callee stands in a slot. -/
theorem goesV_ {oi : Oper} {N : Option Tmp} {a : Act} {w : World} {K : Act → World → Prop} {f : FuncId} {fn : Func} {q : Tmp} {as : Array Operand} {ts : Array TypeId} (hf : P.funcs[f]? = some fn) (hname : (fn.name == "runtime.NumGoroutine") = false) (hb : fn.body.isSome = true) (args : Array Value)
    (hw : Region.wanted oi (yielded ops a.tmps) = true) (hN : oi.dst = N) (hop : oi.op = .call { callee := .value (.tmp q), args := as, argTypes := ts }) (hargs : as.map a.eval ++ capOf_ (a.eval (.tmp q)) = args)
    (h : Calls P f args w fun e w' => ∃ v, e = .returned v ∧ K (a.put N v) w') (hv : a.eval (.tmp q) = .func (.func f) #[] (capOf_ (a.eval (.tmp q))) := by rfl) : if Region.wanted oi (yielded ops a.tmps) = true then Oper.wp P oi a w K Q else K (a.put N undef) w :=
  call_ f args hw hN (invokes_ hf hname hb w hop hv hargs) h

/-- 'goesL_' where the callee stands in a slot. -/
theorem goesLV_ {rest : List Oper} {oi : Oper} {a : Act} {w : World} (N : Option Tmp) (hd : oi.dst = N) (hg : oi.guard = none) {f : FuncId} {fn : Func} {q : Tmp} {as : Array Operand} {ts : Array TypeId} (hf : P.funcs[f]? = some fn) (hname : (fn.name == "runtime.NumGoroutine") = false) (hb : fn.body.isSome = true) (args : Array Value)
    (hop : oi.op = .call { callee := .value (.tmp q), args := as, argTypes := ts }) (hargs : as.map a.eval ++ capOf_ (a.eval (.tmp q)) = args)
    (h : Calls P f args w fun e w' => ∃ v, e = .returned v ∧ wpList P ops Q rest (a.put N v) w') (hv : a.eval (.tmp q) = .func (.func f) #[] (capOf_ (a.eval (.tmp q))) := by rfl) : wpList P ops Q (oi :: rest) a w := by
  refine wpList_plain hg fun K hK => ?_
  have hrun := invokes_ hf hname hb w hop hv hargs
  unfold Oper.wp
  rw [hrun, Oper.upon_enter]
  refine h.mono fun e w'' hh => ?_
  obtain ⟨v, rfl, hk⟩ := hh
  subst hd
  exact hK _ _ hk

/-- The operation calls what stands in a slot. -/
theorem gate_calleeV {rest : List Oper} {o : Oper} {a : Act} {W : World} {q : Tmp} {as : Array Operand} {ts : Array TypeId} (_ho : o.op = .call { callee := .value (.tmp q), args := as, argTypes := ts }) (h : wpList P ops Q (o :: rest) a W) : wpList P ops Q (o :: rest) a W := h
end

/-! '==' of arrays as one Bool -/
section
variable {P : Program} {d : Nat} {xs ys : Array Value} {e : TypeId} {c j : Nat} {js : List Nat} {a b : Value} {r s : Bool} {w : World}
theorem eqi_last (ha : (part e xs (j * c)).run P w = .ok a w) (hb : (part e ys (j * c)).run P w = .ok b w) (he : (Op.equalIn d e a b).run P w = .ok r w) : (Op.eqItems d e c xs ys [j]).run P w = .ok r w := by
  simp only [Op.eqItems, Sem.run_bind, ha, hb, he, Result.andThen_ok]
  cases r <;> simp
theorem eqi_cons (ha : (part e xs (j * c)).run P w = .ok a w) (hb : (part e ys (j * c)).run P w = .ok b w) (he : (Op.equalIn d e a b).run P w = .ok r w) (hr : (Op.eqItems d e c xs ys js).run P w = .ok s w) : (Op.eqItems d e c xs ys (j :: js)).run P w = .ok (r && s) w := by
  rw [Op.eqItems]
  simp only [Sem.run_bind, ha, hb, he, Result.andThen_ok]
  cases r
  · simp
  · simpa using hr
theorem arrA_of {t : TypeId} {n : Nat} (hu : P.underlying t = some (.array n e)) (hi : (P.info? e).isSome = true) (hc : P.cellsOf e = c) (h : (Op.eqItems d e c xs ys (List.range n)).run P w = .ok r w) : (Op.equalIn (d + 1) t (.agg xs) (.agg ys)).run P w = .ok r w := by
  obtain ⟨i, hi⟩ := Option.isSome_iff_exists.1 hi
  rw [run_equalIn_array (P := P) (w := w) d xs ys hu hi, hc]
  exact h
end
/-! x[lo:hi:hi] -/
section
variable {P : Program}
theorem cut_to3 (t e : TypeId) (kh km : IntKind) {i : TypeInfo} (ht : P.underlying t = some (.slice e)) (hi : P.info? e = some i) (A : Option Addr) (n c : Nat) (j : Int) (h0 : 0 ≤ j) (hm : j ≤ n) (hc : n ≤ c) :
    ∀ W : World, (Instr.slice t (.slice A n c) none (some (.int kh j)) (some (.int km j))).run P W = .ok (.slice A j.toNat j.toNat) W := by
  intro W
  have hel : P.elem t = e := by simp [Program.elem, ht]
  have hu : P.underlying t = some (.slice (P.elem t)) := by rw [hel]; exact ht
  have ha : (A.map fun x => x.add 0) = A := by cases A <;> simp [Addr.add]
  rw [run_slice_hm W t A n c hu kh km j j h0 (Int.le_refl _) (by omega), hel]
  simp [sizeOf, typeInfo, hi, sliced, Result.andThen, ha]
theorem cut_mid3 (t e : TypeId) (kl kh km : IntKind) {i : TypeInfo} (ht : P.underlying t = some (.slice e)) (hi : P.info? e = some i) (size : Nat) (hsz : i.size = size) (A : Option Addr) (n c : Nat) (lo hi' : Int) (h0 : 0 ≤ lo) (h1 : lo ≤ hi') (h2 : hi' ≤ n) (hc : n ≤ c) :
    ∀ W : World, (Instr.slice t (.slice A n c) (some (.int kl lo)) (some (.int kh hi')) (some (.int km hi'))).run P W = .ok (.slice (if hi'.toNat = lo.toNat then A else A.map (·.add (lo.toNat * size))) (hi'.toNat - lo.toNat) (hi'.toNat - lo.toNat)) W := by
  intro W
  have hel : P.elem t = e := by simp [Program.elem, ht]
  have hu : P.underlying t = some (.slice (P.elem t)) := by rw [hel]; exact ht
  rw [run_slice_lhm W t A n c hu kl kh km lo hi' hi' h0 h1 (Int.le_refl _) (by omega), hel]
  simp [sizeOf, typeInfo, hi, hsz, sliced, Result.andThen]
end
section
variable {α : Type} {k : Kd α} {w : World} {A : Option Addr} {xs : List α}
theorem C_mid3 {lo hi : Nat} (h : k.C w A xs.length xs) (h1 : lo ≤ hi) (h2 : hi ≤ xs.length) : k.C w (if hi = lo then A else A.map (·.add (lo * k.sz))) ((xs.take hi).drop lo).length ((xs.take hi).drop lo) := by
  have hl : (xs.take hi).length = hi := by rw [List.length_take]; omega
  exact Kd.C_drop (Kd.C_take h h2) (by omega) (by omega)
theorem F_mid3 {ok : Nat → Prop} {lo hi : Nat} (h : Kd.F k w ok A xs.length xs) (h1 : lo ≤ hi) (h2 : hi ≤ xs.length) : Kd.F k w ok (if hi = lo then A else A.map (·.add (lo * k.sz))) ((xs.take hi).drop lo).length ((xs.take hi).drop lo) :=
  Kd.F_imp h (fun _ hC => C_mid3 hC h1 h2)
end
/-! what is shared, and a variable's block -/
theorem pos_of_dec {n : Nat} {i : Int} (h1 : decide (i < (n : Int)) = true) (h0 : decide (0 ≤ i) = true) : 0 < n := by
  have a := of_decide_eq_true h1
  have b := of_decide_eq_true h0
  omega
theorem Kd.V_away {α : Type} {d : Kd α} {e base n c g : Nat} {ok : Nat → Prop} {w : World} {A : Option Addr} {xs : List α} (h : Kd.V d e w base ok (.slice A n c) xs) (hok : ∀ k, ok k → k ≠ g)
    (hn : 0 < xs.length := by first | omega | exact Go.Proofs.YtpbkdphilcodmaaV.pos_of_dec (by assumption) (by assumption) | (simp_all; done) | (simp_all; omega)) (hs : 0 < d.sz := by decide) : some g ≠ (Value.slice A n c).ownBlock := by
  obtain ⟨A', c', hv, hl, hF⟩ := h
  injection hv with h1 h2 h3
  subst h1
  rcases A with _ | ad
  · simp [Value.ownBlock]
  · have hne := Kd.foot_ne (g := g) (fun W' hk => hF W' (fun k hk1 hlt => hk.2 k hlt (hok k hk1) (by simp))) hn hs
    intro he
    have : g = ad.block := by simpa [Value.ownBlock] using he
    exact hne this.symm
theorem row_len {α : Type} {Rr : α → List Value → Prop} {sz : Nat} {W : World} {A : Option Addr} {n m : Nat} {ys : List α} (h : ReadsRow Rr sz W A n ys) (e : n = m) : ReadsRow Rr sz W A m ys := e ▸ h
section
variable {P : Program} {ops : Array Oper} {Q : Exit → Act → World → Prop} {rest : List Oper} {o : Oper} {a : Act} {α : Type}
/-- append onto a row that has no room: what comes is a new row; the old one stays. -/
theorem R_append_full (d : Kd α) {w0 W : World} (base : Nat) (hgd : o.guard = none) (s x : Operand) (t e : TypeId) (z : Value) (bytes : Nat)
    (ho : o.op = .call { callee := .builtin .append, args := #[s, x], argTypes := #[t, t] })
    (ht : P.underlying t = some (.slice e)) (hinfo : (P.info? e).map (fun i => (i.zero, i.size, i.bytes)) = some (some z, d.sz, bytes)) (hz : z.cells.size = d.sz) (hs0 : 0 < d.sz) (hb0 : 0 < bytes)
    (A0 : Option Addr) (c0 : Nat) (xs ys : List α) (A : Option Addr) (m c : Nat) (hs : a.eval s = .slice A0 xs.length c0) (hx : a.eval x = .slice A m c) (hfull : c0 = xs.length) (hm0 : 0 < m)
    (HS : ReadsRow (d.M W base fun _ => False) d.sz W A0 xs.length xs) (HR : ReadsRow (d.M W base fun _ => False) d.sz W A m ys)
    (HB : Below base w0 W) (hbase : base ≤ W.heap.size) (hl : (xs.length + m) * bytes ≤ 140737488355328)
    (h : ∀ v1 w1, d.R e w1 base (fun _ => True) v1 (xs ++ ys) → Below base w0 w1 → W.grownBy w1 none → wpList P ops Q rest (a.put o.dst v1) w1) :
    wpList P ops Q (o :: rest) a W := by
  obtain ⟨i0, hi, hzz⟩ := Option.map_eq_some_iff.1 hinfo
  simp only [Prod.mk.injEq] at hzz
  obtain ⟨hz0, hz1, hz2⟩ := hzz
  have hm : ys.length = m := HR.1
  have hlen : xs.length + m ≤ 140737488355328 := Nat.le_trans (Nat.le_mul_of_pos_right _ hb0) hl
  obtain ⟨ad, rfl, _⟩ := HR.2.2 hm0
  obtain ⟨news, hnM, hnc⟩ := ReadsRow.inner_ HR
  have hone : ∀ u ∈ news, u.oneCell' = true := by
    intro u hu
    obtain ⟨q, hq, rfl⟩ := List.mem_iff_getElem.1 hu
    have hql : q / d.sz < ys.length := by
      rw [Nat.div_lt_iff_lt_mul hs0]
      rw [← hnM.1]
      exact hq
    have hc := hnM.2 (q / d.sz) _ (List.getElem?_eq_getElem hql)
    refine d.K_one (d.K_of_M hc) _ ?_
    rw [List.mem_iff_getElem?]
    refine ⟨q % d.sz, ?_⟩
    rw [List.getElem?_take, if_pos (Nat.mod_lt _ hs0), List.getElem?_drop, Nat.mul_comm, Nat.div_add_mod, List.getElem?_eq_getElem hq]
  obtain ⟨olds, hoM, hoc⟩ : ∃ olds, Reps (d.M W base fun _ => False) d.sz xs olds ∧ ∀ b, A0 = some b → ∀ j u, olds[j]? = some u → W.cell? (b.add j) = some u := by
    rcases A0 with _ | b
    · have h0 : xs = [] := by
        rcases Nat.eq_zero_or_pos xs.length with h0 | h0
        · exact List.eq_nil_of_length_eq_zero h0
        · obtain ⟨ad, h, _⟩ := HS.2.2 h0
          cases h
      subst h0
      exact ⟨[], Reps.none _ _, fun _ hb => by cases hb⟩
    · obtain ⟨olds, h1, h2⟩ := ReadsRow.inner_ HS
      exact ⟨olds, h1, fun b' hb j u hj => by cases hb; exact h2 j u hj⟩
  have hnone : A0 = none → xs.length = 0 ∧ c0 = 0 := by
    intro hn
    rcases Nat.eq_zero_or_pos xs.length with h0 | h0
    · exact ⟨h0, by omega⟩
    · obtain ⟨ad, h, _⟩ := HS.2.2 h0
      rw [hn] at h
      cases h
  refine wpList_append_grows W hgd s x t ho e i0 z d.sz bytes ht hi hz0 hz1 hz2 hz hs0 A0 xs.length c0 olds hs hnone hoM.1 hoc ad m c news hx (by rw [hnM.1, hm]) hnc hone (by omega) (by simp only [maxLen]; omega) hl ?_
  intro v' w' r1 r2
  have hgt := fun k hk => (World.ownsRow.lt r1 k hk).1
  have step : ∀ {q : α} {c : List Value}, d.M W base (fun _ => False) q c → d.M w' base (fun k => True ∧ some k ≠ v'.ownBlock) q c := by
    intro q c hq
    exact d.M_mono (fun k hk => hk.1.elim) (d.M_move (w1 := w') (fun k hk => hk.1.elim) (d.M_bound hq))
  exact h v' w' ⟨fun k _ => trivial, olds ++ news, by rw [List.length_append, hm]; exact World.ownsRow.mono r1 hbase, Kd.reps_append (hoM.imp_ (fun _ _ hq => step hq)) (hnM.imp_ (fun _ _ hq => step hq))⟩ (pw_below_grown HB none hbase r2 (fun k hk => by cases hk)) r2
/-- The same, of one element that was just laid down. -/
theorem R_append1_full (d : Kd α) {w0 W : World} (base : Nat) (hgd : o.guard = none) (s x : Operand) (t e : TypeId) (z : Value) (bytes : Nat)
    (ho : o.op = .call { callee := .builtin .append, args := #[s, x], argTypes := #[t, t] })
    (ht : P.underlying t = some (.slice e)) (hinfo : (P.info? e).map (fun i => (i.zero, i.size, i.bytes)) = some (some z, d.sz, bytes)) (hz : z.cells.size = d.sz) (hs0 : 0 < d.sz) (hb0 : 0 < bytes)
    (A0 : Option Addr) (c0 : Nat) (xs : List α) (p : α) (cs : List Value) (hs : a.eval s = .slice A0 xs.length c0) (hx : a.eval x = .slice (some ⟨W.heap.size, 0, none⟩) 1 1) (hp : d.M W base (fun _ => False) p cs) (hfull : c0 = xs.length)
    (HS : ReadsRow (d.M W base fun _ => False) d.sz W A0 xs.length xs)
    (HB : Below base w0 W) (hbase : base ≤ W.heap.size) (hl : (xs.length + 1) * bytes ≤ 140737488355328)
    (h : ∀ v1 w1, d.R e w1 base (fun _ => True) v1 (xs ++ [p]) → Below base w0 w1 → W.grownBy w1 none → wpList P ops Q rest (a.put o.dst v1) w1) :
    wpList P ops Q (o :: rest) a (W.alloc (.cells cs.toArray e)) := by
  have hb : Below W.heap.size W (W.alloc (.cells cs.toArray e)) := below_alloc (Below.refl _ _) _
  have step : ∀ {q : α} {c : List Value}, d.M W base (fun _ => False) q c → d.M (W.alloc (.cells cs.toArray e)) base (fun _ => False) q c := by
    intro q c hq
    exact d.M_mono (fun k hk => hk.1.elim) (d.M_move (w1 := W.alloc (.cells cs.toArray e)) (fun k hk => hk.1.elim) (d.M_bound hq))
  refine R_append_full d (W := W.alloc (.cells cs.toArray e)) base hgd s x t e z bytes ho ht hinfo hz hs0 hb0 A0 c0 xs [p] _ 1 1 hs hx hfull (by omega) (ReadsRow.imp_ HS hb (fun _ _ hq => step hq)) ⟨rfl, by omega, fun _ => ⟨_, rfl, fun j q hj => ?_⟩⟩ (pw_below_grown HB none hbase ⟨rfl, rfl, rfl, by simp, fun k hk _ => heap_alloc_old W _ hk⟩ (fun k hk => by cases hk)) (by simp; omega) hl (fun v1 w1 h1 h2 h3 => h v1 w1 h1 h2 (World.grownBy.trans (b := W.alloc (.cells cs.toArray e)) ⟨rfl, rfl, rfl, by simp, fun k hk _ => heap_alloc_old W _ hk⟩ h3))
  rcases j with _ | j
  · have : p = q := by simpa using hj
    subst this
    refine ⟨cs, d.K_len (d.K_of_M hp), step hp, fun i u hu => ?_⟩
    have hlt : i < cs.length := by
      rcases Nat.lt_or_ge i cs.length with h | h
      · exact h
      · rw [List.getElem?_eq_none h] at hu; cases hu
    rw [Addr.add_lit, World.cell?_alloc_new]
    simpa using hu
  · simp at hj
/-- The same of a row that came in, whose elements may lead on: what comes is a row of one's own; its elements lead to what they led to. -/
theorem V_append1_full (d : Kd α) {w0 W : World} (hgd : o.guard = none) (s x : Operand) (t e : TypeId) (z : Value) (bytes : Nat)
    (ho : o.op = .call { callee := .builtin .append, args := #[s, x], argTypes := #[t, t] })
    (ht : P.underlying t = some (.slice e)) (hinfo : (P.info? e).map (fun i => (i.zero, i.size, i.bytes)) = some (some z, d.sz, bytes)) (hz : z.cells.size = d.sz) (hs0 : 0 < d.sz) (hb0 : 0 < bytes)
    (A0 : Option Addr) (xs : List α) (p : α) (cs : List Value) (ok okp : Nat → Prop) (hs : a.eval s = .slice A0 xs.length xs.length) (hx : a.eval x = .slice (some ⟨W.heap.size, 0, none⟩) 1 1) (hp : Kd.FK d W okp p cs) (hokp : ∀ k, okp k → ok k) (hfresh : ∀ k, W.heap.size ≤ k → ok k)
    (HS : Kd.F d W ok A0 xs.length xs) (HB : Below w0.heap.size w0 W) (hl : (xs.length + 1) * bytes ≤ 140737488355328)
    (h : ∀ v1 w1, Kd.N d e w1 w0.heap.size ok v1 (xs ++ [p]) → Below w0.heap.size w0 w1 → W.grownBy w1 none → wpList P ops Q rest (a.put o.dst v1) w1) :
    wpList P ops Q (o :: rest) a (W.alloc (.cells cs.toArray e)) := by
  obtain ⟨rows, hrl, hr, hf⟩ := Kd.reads_raw (Kd.F_rows HS) (fun y c hk => ⟨d.K_len (Kd.FK_now hk), d.K_one (Kd.FK_now hk)⟩)
  refine R_append1_full (Kd.raw d.sz) (w0 := W) W.heap.size hgd s x t e z bytes ho ht hinfo hz hs0 hb0 A0 rows.length rows cs cs (by rw [hrl]; exact hs) hx (Kd.FK_raw hp) rfl (row_len hr hrl.symm) (Below.refl _ _) (Nat.le_refl _) (by rw [hrl]; exact hl) ?_
  intro v1 w1 hR hb hg
  have hfr := Kd.R_base hR
  have step : ∀ {y : α} {c : List Value} {o' : Nat → Prop}, Kd.FK d W o' y c → (∀ k, o' k → ok k) → Kd.FK d w1 (fun k => ok k ∧ some k ≠ v1.ownBlock) y c := by
    intro y c o' hq ho'
    refine Kd.FK_mono (Kd.FK_step (Kd.FK_bound hq) (fun k hk hlt => hg.block k hlt (by simp))) (fun k hk => ⟨ho' k hk.1, fun he => ?_⟩)
    have := hfr k he.symm
    have := hk.2
    omega
  refine h v1 w1 ⟨fun k hk => hfresh k (hfr k hk), rows ++ [cs], by rw [List.length_append, List.length_append, hrl]; rfl, Kd.raw_tight (Kd.R_lower hR HB.size), fun j y c hy hc => ?_⟩ (below_step HB hb) hg
  rcases Nat.lt_or_ge j xs.length with hlt | hge
  · rw [List.getElem?_append_left hlt] at hy
    rw [List.getElem?_append_left (by omega)] at hc
    exact step (hf j y c hy hc) (fun _ hk => hk)
  · rw [List.getElem?_append_right hge] at hy
    rw [List.getElem?_append_right (by omega), hrl] at hc
    rcases hq : j - xs.length with _ | q
    · rw [hq] at hy hc
      simp only [List.getElem?_cons_zero, Option.some.injEq] at hy hc
      rw [← hy, ← hc]
      exact step hp hokp
    · rw [hq] at hy
      simp at hy
end
/-! what only new blocks and draws have come to -/
def Eld (w w' : World) : Prop := Below w.heap.size w w'
instance eldR (w : World) : Nonempty (Eld w w) := ⟨Below.refl _ _⟩
instance eldN (w w' : World) (n : Nat) [z : Nonempty (Eld w w')] : Nonempty (Eld w (w'.drewN n)) := z.elim fun h => ⟨pw_below_drewN h n⟩
instance eldD (w w' : World) [z : Nonempty (Eld w w')] : Nonempty (Eld w w'.drew) := z.elim fun h => ⟨below_drew1 h⟩
instance eldA (w w' : World) (o : Obj) [z : Nonempty (Eld w w')] : Nonempty (Eld w (w'.alloc o)) := z.elim fun h => ⟨below_alloc h o⟩
section
variable {α : Type} {d : Kd α} {e base n : Nat} {ok : Nat → Prop} {v : Value} {xs : List α} {w0 w w' : World}
theorem zV [z : Nonempty (Eld w w')] (h : Kd.V d e w base ok v xs) : Kd.V d e w' base ok v xs := z.elim fun b => Kd.V_below h b
theorem zN [z : Nonempty (Eld w w')] (h : Kd.N d e w base ok v xs) : Kd.N d e w' base ok v xs := z.elim fun b => Kd.N_below h b
theorem zR [z : Nonempty (Eld w w')] (h : Kd.R d e w base ok v xs) : Kd.R d e w' base ok v xs := z.elim fun b => Kd.R_below h b
theorem zB [z : Nonempty (Eld w w')] {g : Nat} {o : Obj} (h : w.heap[g]? = some o) : w'.heap[g]? = some o := z.elim fun b => (Below.block b g (blk_lt h)).trans h
theorem zH [z : Nonempty (Eld w w')] (h : Below w0.heap.size w0 w) : Below w0.heap.size w0 w' := z.elim fun b => below_step h b
end
/-! what only blocks, draws and stores into some blocks have come to -/
/-- w' is w but for new blocks, draws, and stores into the blocks gs. -/
structure Off (gs : List Nat) (w w' : World) : Prop where
  out : ∀ k, k < w.heap.size → (∀ g ∈ gs, k ≠ g) → w'.heap[k]? = w.heap[k]?
  size : w.heap.size ≤ w'.heap.size
structure InL (g : Nat) (gs : List Nat) : Prop where
  out : g ∈ gs
instance inH (g : Nat) (gs : List Nat) : Nonempty (InL g (g :: gs)) := ⟨⟨List.mem_cons_self⟩⟩
instance inT (g h : Nat) (gs : List Nat) [z : Nonempty (InL g gs)] : Nonempty (InL g (h :: gs)) := z.elim fun b => ⟨⟨List.mem_cons_of_mem _ b.out⟩⟩
instance offR (gs : List Nat) (w : World) : Nonempty (Off gs w w) := ⟨⟨fun _ _ _ => rfl, Nat.le_refl _⟩⟩
instance offA (gs : List Nat) (w w' : World) (o : Obj) [z : Nonempty (Off gs w w')] : Nonempty (Off gs w (w'.alloc o)) := z.elim fun b => ⟨⟨fun k h1 h2 => (Below.heap_alloc w' o k (Nat.lt_of_lt_of_le h1 b.size)).trans (b.out k h1 h2), Nat.le_trans b.size (by simp)⟩⟩
instance offD (gs : List Nat) (w w' : World) [z : Nonempty (Off gs w w')] : Nonempty (Off gs w w'.drew) := z.elim fun b => ⟨⟨fun k h1 h2 => b.out k h1 h2, b.size⟩⟩
instance offN (gs : List Nat) (w w' : World) (n : Nat) [z : Nonempty (Off gs w w')] : Nonempty (Off gs w (w'.drewN n)) := z.elim fun b => ⟨⟨fun k h1 h2 => b.out k h1 h2, b.size⟩⟩
instance offS (gs : List Nat) (w w' : World) (g i : Nat) (v : Value) [z : Nonempty (Off gs w w')] [y : Nonempty (InL g gs)] : Nonempty (Off gs w (w'.setCell ⟨g, i, none⟩ v)) := z.elim fun b => y.elim fun q => ⟨⟨fun k h1 h2 => (Below.heap_setCell w' ⟨g, i, none⟩ v k (h2 g q.out)).trans (b.out k h1 h2), by have := b.size; simpa using this⟩⟩
section
variable {α : Type} {d : Kd α} {e base : Nat} {ok ok' : Nat → Prop} {v : Value} {xs : List α} {w w' : World} {g g1 g2 g3 : Nat} {o : Obj} {a : Addr} {u : Value}
theorem fB (h1 : g ≠ g1) [z : Nonempty (Off [g1] w w')] (h : w.heap[g]? = some o) : w'.heap[g]? = some o := z.elim fun b => (b.out g (blk_lt h) (by simpa using h1)).trans h
theorem fB2 (h1 : g ≠ g1) (h2 : g ≠ g2) [z : Nonempty (Off [g1, g2] w w')] (h : w.heap[g]? = some o) : w'.heap[g]? = some o := z.elim fun b => (b.out g (blk_lt h) (by simpa using ⟨h1, h2⟩)).trans h
theorem fC (h1 : a.block ≠ g1) [z : Nonempty (Off [g1] w w')] (h : w.cell? a = some u) : w'.cell? a = some u := z.elim fun b => by
  have := b.out a.block (World.block_lt_of_cell? _ _ h) (by simpa using h1)
  rw [← h]
  simp [World.cell?, this]
theorem fV (h : Kd.V d e w base ok v xs) (p1 : ∀ k, ok k → ok k ∧ k ≠ g1) (f : ∀ k, ok k ∧ k ≠ g1 → ok' k) [z : Nonempty (Off [g1] w w')] : Kd.V d e w' base ok' v xs := z.elim fun b =>
  Kd.V_mono (Kd.V_step h fun k h1 h2 => b.out k h2 (by simpa using (p1 k h1).2)) fun k hk => f k (p1 k hk)
theorem fV2 (h : Kd.V d e w base ok v xs) (p1 : ∀ k, ok k → ok k ∧ k ≠ g1) (p2 : ∀ k, ok k ∧ k ≠ g1 → (ok k ∧ k ≠ g1) ∧ k ≠ g2) (f : ∀ k, (ok k ∧ k ≠ g1) ∧ k ≠ g2 → ok' k) [z : Nonempty (Off [g1, g2] w w')] : Kd.V d e w' base ok' v xs := z.elim fun b =>
  Kd.V_mono (Kd.V_step h fun k h1 h2 => b.out k h2 (by simpa using ⟨(p1 k h1).2, (p2 k (p1 k h1)).2⟩)) fun k hk => f k (p2 k (p1 k hk))
theorem fV3 (h : Kd.V d e w base ok v xs) (p1 : ∀ k, ok k → ok k ∧ k ≠ g1) (p2 : ∀ k, ok k ∧ k ≠ g1 → (ok k ∧ k ≠ g1) ∧ k ≠ g2) (p3 : ∀ k, (ok k ∧ k ≠ g1) ∧ k ≠ g2 → ((ok k ∧ k ≠ g1) ∧ k ≠ g2) ∧ k ≠ g3) (f : ∀ k, ((ok k ∧ k ≠ g1) ∧ k ≠ g2) ∧ k ≠ g3 → ok' k) [z : Nonempty (Off [g1, g2, g3] w w')] : Kd.V d e w' base ok' v xs := z.elim fun b =>
  Kd.V_mono (Kd.V_step h fun k h1 h2 => b.out k h2 (by simpa using ⟨(p1 k h1).2, (p2 k (p1 k h1)).2, (p3 k (p2 k (p1 k h1))).2⟩)) fun k hk => f k (p3 k (p2 k (p1 k hk)))
theorem fR (h : Kd.R d e w base ok v xs) (p1 : ∀ k, ok k → ok k ∧ k ≠ g1) (f : ∀ k, ok k ∧ k ≠ g1 → ok' k) [z : Nonempty (Off [g1] w w')] : Kd.R d e w' base ok' v xs := z.elim fun b =>
  Kd.R_mono (Kd.R_step h fun k h1 h2 => b.out k h2 (by simpa using (p1 k h1).2)) fun k hk => f k (p1 k hk)
theorem fR2 (h : Kd.R d e w base ok v xs) (p1 : ∀ k, ok k → ok k ∧ k ≠ g1) (p2 : ∀ k, ok k ∧ k ≠ g1 → (ok k ∧ k ≠ g1) ∧ k ≠ g2) (f : ∀ k, (ok k ∧ k ≠ g1) ∧ k ≠ g2 → ok' k) [z : Nonempty (Off [g1, g2] w w')] : Kd.R d e w' base ok' v xs := z.elim fun b =>
  Kd.R_mono (Kd.R_step h fun k h1 h2 => b.out k h2 (by simpa using ⟨(p1 k h1).2, (p2 k (p1 k h1)).2⟩)) fun k hk => f k (p2 k (p1 k hk))
end
theorem sT {α : Type _} (l : List α) (i : Nat) (a : α) : l.toArray.setIfInBounds i a = (l.set i a).toArray := by simp only [List.setIfInBounds_toArray]
theorem s0 {α : Type _} (l : List α) (a b : α) : (a :: l).set 0 b = b :: l := rfl
theorem s1 {α : Type _} (l : List α) (a b : α) (n : Nat) : (a :: l).set (n + 1) b = a :: l.set n b := rfl
/-! a block's cells, all at once -/

/-- The world gets a letter: of it is told what Q tells. -/
theorem settle_ {p : Program} {c : Code} {K : Exit → Act → World → Prop} {a : Act} {w0 : World} (R : World → Prop) (hq : R w0) (h : ∀ w', R w' → Code.wp p c K a w') : Code.wp p c K a w0 := h _ hq

theorem bk2 {w : World} {g : Nat} {t : TypeId} {c0 c1 : Value} (h : w.heap[g]? = some (.cells #[c0, c1] t (0, 0))) : w.cell? ⟨g, 0, none⟩ = some c0 ∧ w.cell? ⟨g, 1, none⟩ = some c1 ∧ w.frozen? ⟨g, 0, none⟩ = false ∧ w.frozen? ⟨g, 1, none⟩ = false :=
  ⟨(blk_cell h 0).trans rfl, (blk_cell h 1).trans rfl, blk_frozen h 0, blk_frozen h 1⟩
theorem bk3 {w : World} {g : Nat} {t : TypeId} {c0 c1 c2 : Value} (h : w.heap[g]? = some (.cells #[c0, c1, c2] t (0, 0))) : w.cell? ⟨g, 0, none⟩ = some c0 ∧ w.cell? ⟨g, 1, none⟩ = some c1 ∧ w.cell? ⟨g, 2, none⟩ = some c2 ∧ w.frozen? ⟨g, 0, none⟩ = false ∧ w.frozen? ⟨g, 1, none⟩ = false ∧ w.frozen? ⟨g, 2, none⟩ = false :=
  ⟨(blk_cell h 0).trans rfl, (blk_cell h 1).trans rfl, (blk_cell h 2).trans rfl, blk_frozen h 0, blk_frozen h 1, blk_frozen h 2⟩
theorem bk4 {w : World} {g : Nat} {t : TypeId} {c0 c1 c2 c3 : Value} (h : w.heap[g]? = some (.cells #[c0, c1, c2, c3] t (0, 0))) : w.cell? ⟨g, 0, none⟩ = some c0 ∧ w.cell? ⟨g, 1, none⟩ = some c1 ∧ w.cell? ⟨g, 2, none⟩ = some c2 ∧ w.cell? ⟨g, 3, none⟩ = some c3 ∧ w.frozen? ⟨g, 0, none⟩ = false ∧ w.frozen? ⟨g, 1, none⟩ = false ∧ w.frozen? ⟨g, 2, none⟩ = false ∧ w.frozen? ⟨g, 3, none⟩ = false :=
  ⟨(blk_cell h 0).trans rfl, (blk_cell h 1).trans rfl, (blk_cell h 2).trans rfl, (blk_cell h 3).trans rfl, blk_frozen h 0, blk_frozen h 1, blk_frozen h 2, blk_frozen h 3⟩
theorem bk5 {w : World} {g : Nat} {t : TypeId} {c0 c1 c2 c3 c4 : Value} (h : w.heap[g]? = some (.cells #[c0, c1, c2, c3, c4] t (0, 0))) : w.cell? ⟨g, 0, none⟩ = some c0 ∧ w.cell? ⟨g, 1, none⟩ = some c1 ∧ w.cell? ⟨g, 2, none⟩ = some c2 ∧ w.cell? ⟨g, 3, none⟩ = some c3 ∧ w.cell? ⟨g, 4, none⟩ = some c4 ∧ w.frozen? ⟨g, 0, none⟩ = false ∧ w.frozen? ⟨g, 1, none⟩ = false ∧ w.frozen? ⟨g, 2, none⟩ = false ∧ w.frozen? ⟨g, 3, none⟩ = false ∧ w.frozen? ⟨g, 4, none⟩ = false :=
  ⟨(blk_cell h 0).trans rfl, (blk_cell h 1).trans rfl, (blk_cell h 2).trans rfl, (blk_cell h 3).trans rfl, (blk_cell h 4).trans rfl, blk_frozen h 0, blk_frozen h 1, blk_frozen h 2, blk_frozen h 3, blk_frozen h 4⟩
theorem bk6 {w : World} {g : Nat} {t : TypeId} {c0 c1 c2 c3 c4 c5 : Value} (h : w.heap[g]? = some (.cells #[c0, c1, c2, c3, c4, c5] t (0, 0))) : w.cell? ⟨g, 0, none⟩ = some c0 ∧ w.cell? ⟨g, 1, none⟩ = some c1 ∧ w.cell? ⟨g, 2, none⟩ = some c2 ∧ w.cell? ⟨g, 3, none⟩ = some c3 ∧ w.cell? ⟨g, 4, none⟩ = some c4 ∧ w.cell? ⟨g, 5, none⟩ = some c5 ∧ w.frozen? ⟨g, 0, none⟩ = false ∧ w.frozen? ⟨g, 1, none⟩ = false ∧ w.frozen? ⟨g, 2, none⟩ = false ∧ w.frozen? ⟨g, 3, none⟩ = false ∧ w.frozen? ⟨g, 4, none⟩ = false ∧ w.frozen? ⟨g, 5, none⟩ = false :=
  ⟨(blk_cell h 0).trans rfl, (blk_cell h 1).trans rfl, (blk_cell h 2).trans rfl, (blk_cell h 3).trans rfl, (blk_cell h 4).trans rfl, (blk_cell h 5).trans rfl, blk_frozen h 0, blk_frozen h 1, blk_frozen h 2, blk_frozen h 3, blk_frozen h 4, blk_frozen h 5⟩
theorem bk7 {w : World} {g : Nat} {t : TypeId} {c0 c1 c2 c3 c4 c5 c6 : Value} (h : w.heap[g]? = some (.cells #[c0, c1, c2, c3, c4, c5, c6] t (0, 0))) : w.cell? ⟨g, 0, none⟩ = some c0 ∧ w.cell? ⟨g, 1, none⟩ = some c1 ∧ w.cell? ⟨g, 2, none⟩ = some c2 ∧ w.cell? ⟨g, 3, none⟩ = some c3 ∧ w.cell? ⟨g, 4, none⟩ = some c4 ∧ w.cell? ⟨g, 5, none⟩ = some c5 ∧ w.cell? ⟨g, 6, none⟩ = some c6 ∧ w.frozen? ⟨g, 0, none⟩ = false ∧ w.frozen? ⟨g, 1, none⟩ = false ∧ w.frozen? ⟨g, 2, none⟩ = false ∧ w.frozen? ⟨g, 3, none⟩ = false ∧ w.frozen? ⟨g, 4, none⟩ = false ∧ w.frozen? ⟨g, 5, none⟩ = false ∧ w.frozen? ⟨g, 6, none⟩ = false :=
  ⟨(blk_cell h 0).trans rfl, (blk_cell h 1).trans rfl, (blk_cell h 2).trans rfl, (blk_cell h 3).trans rfl, (blk_cell h 4).trans rfl, (blk_cell h 5).trans rfl, (blk_cell h 6).trans rfl, blk_frozen h 0, blk_frozen h 1, blk_frozen h 2, blk_frozen h 3, blk_frozen h 4, blk_frozen h 5, blk_frozen h 6⟩
theorem bk8 {w : World} {g : Nat} {t : TypeId} {c0 c1 c2 c3 c4 c5 c6 c7 : Value} (h : w.heap[g]? = some (.cells #[c0, c1, c2, c3, c4, c5, c6, c7] t (0, 0))) : w.cell? ⟨g, 0, none⟩ = some c0 ∧ w.cell? ⟨g, 1, none⟩ = some c1 ∧ w.cell? ⟨g, 2, none⟩ = some c2 ∧ w.cell? ⟨g, 3, none⟩ = some c3 ∧ w.cell? ⟨g, 4, none⟩ = some c4 ∧ w.cell? ⟨g, 5, none⟩ = some c5 ∧ w.cell? ⟨g, 6, none⟩ = some c6 ∧ w.cell? ⟨g, 7, none⟩ = some c7 ∧ w.frozen? ⟨g, 0, none⟩ = false ∧ w.frozen? ⟨g, 1, none⟩ = false ∧ w.frozen? ⟨g, 2, none⟩ = false ∧ w.frozen? ⟨g, 3, none⟩ = false ∧ w.frozen? ⟨g, 4, none⟩ = false ∧ w.frozen? ⟨g, 5, none⟩ = false ∧ w.frozen? ⟨g, 6, none⟩ = false ∧ w.frozen? ⟨g, 7, none⟩ = false :=
  ⟨(blk_cell h 0).trans rfl, (blk_cell h 1).trans rfl, (blk_cell h 2).trans rfl, (blk_cell h 3).trans rfl, (blk_cell h 4).trans rfl, (blk_cell h 5).trans rfl, (blk_cell h 6).trans rfl, (blk_cell h 7).trans rfl, blk_frozen h 0, blk_frozen h 1, blk_frozen h 2, blk_frozen h 3, blk_frozen h 4, blk_frozen h 5, blk_frozen h 6, blk_frozen h 7⟩
theorem bk9 {w : World} {g : Nat} {t : TypeId} {c0 c1 c2 c3 c4 c5 c6 c7 c8 : Value} (h : w.heap[g]? = some (.cells #[c0, c1, c2, c3, c4, c5, c6, c7, c8] t (0, 0))) : w.cell? ⟨g, 0, none⟩ = some c0 ∧ w.cell? ⟨g, 1, none⟩ = some c1 ∧ w.cell? ⟨g, 2, none⟩ = some c2 ∧ w.cell? ⟨g, 3, none⟩ = some c3 ∧ w.cell? ⟨g, 4, none⟩ = some c4 ∧ w.cell? ⟨g, 5, none⟩ = some c5 ∧ w.cell? ⟨g, 6, none⟩ = some c6 ∧ w.cell? ⟨g, 7, none⟩ = some c7 ∧ w.cell? ⟨g, 8, none⟩ = some c8 ∧ w.frozen? ⟨g, 0, none⟩ = false ∧ w.frozen? ⟨g, 1, none⟩ = false ∧ w.frozen? ⟨g, 2, none⟩ = false ∧ w.frozen? ⟨g, 3, none⟩ = false ∧ w.frozen? ⟨g, 4, none⟩ = false ∧ w.frozen? ⟨g, 5, none⟩ = false ∧ w.frozen? ⟨g, 6, none⟩ = false ∧ w.frozen? ⟨g, 7, none⟩ = false ∧ w.frozen? ⟨g, 8, none⟩ = false :=
  ⟨(blk_cell h 0).trans rfl, (blk_cell h 1).trans rfl, (blk_cell h 2).trans rfl, (blk_cell h 3).trans rfl, (blk_cell h 4).trans rfl, (blk_cell h 5).trans rfl, (blk_cell h 6).trans rfl, (blk_cell h 7).trans rfl, (blk_cell h 8).trans rfl, blk_frozen h 0, blk_frozen h 1, blk_frozen h 2, blk_frozen h 3, blk_frozen h 4, blk_frozen h 5, blk_frozen h 6, blk_frozen h 7, blk_frozen h 8⟩
theorem bk10 {w : World} {g : Nat} {t : TypeId} {c0 c1 c2 c3 c4 c5 c6 c7 c8 c9 : Value} (h : w.heap[g]? = some (.cells #[c0, c1, c2, c3, c4, c5, c6, c7, c8, c9] t (0, 0))) : w.cell? ⟨g, 0, none⟩ = some c0 ∧ w.cell? ⟨g, 1, none⟩ = some c1 ∧ w.cell? ⟨g, 2, none⟩ = some c2 ∧ w.cell? ⟨g, 3, none⟩ = some c3 ∧ w.cell? ⟨g, 4, none⟩ = some c4 ∧ w.cell? ⟨g, 5, none⟩ = some c5 ∧ w.cell? ⟨g, 6, none⟩ = some c6 ∧ w.cell? ⟨g, 7, none⟩ = some c7 ∧ w.cell? ⟨g, 8, none⟩ = some c8 ∧ w.cell? ⟨g, 9, none⟩ = some c9 ∧ w.frozen? ⟨g, 0, none⟩ = false ∧ w.frozen? ⟨g, 1, none⟩ = false ∧ w.frozen? ⟨g, 2, none⟩ = false ∧ w.frozen? ⟨g, 3, none⟩ = false ∧ w.frozen? ⟨g, 4, none⟩ = false ∧ w.frozen? ⟨g, 5, none⟩ = false ∧ w.frozen? ⟨g, 6, none⟩ = false ∧ w.frozen? ⟨g, 7, none⟩ = false ∧ w.frozen? ⟨g, 8, none⟩ = false ∧ w.frozen? ⟨g, 9, none⟩ = false :=
  ⟨(blk_cell h 0).trans rfl, (blk_cell h 1).trans rfl, (blk_cell h 2).trans rfl, (blk_cell h 3).trans rfl, (blk_cell h 4).trans rfl, (blk_cell h 5).trans rfl, (blk_cell h 6).trans rfl, (blk_cell h 7).trans rfl, (blk_cell h 8).trans rfl, (blk_cell h 9).trans rfl, blk_frozen h 0, blk_frozen h 1, blk_frozen h 2, blk_frozen h 3, blk_frozen h 4, blk_frozen h 5, blk_frozen h 6, blk_frozen h 7, blk_frozen h 8, blk_frozen h 9⟩
theorem bk11 {w : World} {g : Nat} {t : TypeId} {c0 c1 c2 c3 c4 c5 c6 c7 c8 c9 c10 : Value} (h : w.heap[g]? = some (.cells #[c0, c1, c2, c3, c4, c5, c6, c7, c8, c9, c10] t (0, 0))) : w.cell? ⟨g, 0, none⟩ = some c0 ∧ w.cell? ⟨g, 1, none⟩ = some c1 ∧ w.cell? ⟨g, 2, none⟩ = some c2 ∧ w.cell? ⟨g, 3, none⟩ = some c3 ∧ w.cell? ⟨g, 4, none⟩ = some c4 ∧ w.cell? ⟨g, 5, none⟩ = some c5 ∧ w.cell? ⟨g, 6, none⟩ = some c6 ∧ w.cell? ⟨g, 7, none⟩ = some c7 ∧ w.cell? ⟨g, 8, none⟩ = some c8 ∧ w.cell? ⟨g, 9, none⟩ = some c9 ∧ w.cell? ⟨g, 10, none⟩ = some c10 ∧ w.frozen? ⟨g, 0, none⟩ = false ∧ w.frozen? ⟨g, 1, none⟩ = false ∧ w.frozen? ⟨g, 2, none⟩ = false ∧ w.frozen? ⟨g, 3, none⟩ = false ∧ w.frozen? ⟨g, 4, none⟩ = false ∧ w.frozen? ⟨g, 5, none⟩ = false ∧ w.frozen? ⟨g, 6, none⟩ = false ∧ w.frozen? ⟨g, 7, none⟩ = false ∧ w.frozen? ⟨g, 8, none⟩ = false ∧ w.frozen? ⟨g, 9, none⟩ = false ∧ w.frozen? ⟨g, 10, none⟩ = false :=
  ⟨(blk_cell h 0).trans rfl, (blk_cell h 1).trans rfl, (blk_cell h 2).trans rfl, (blk_cell h 3).trans rfl, (blk_cell h 4).trans rfl, (blk_cell h 5).trans rfl, (blk_cell h 6).trans rfl, (blk_cell h 7).trans rfl, (blk_cell h 8).trans rfl, (blk_cell h 9).trans rfl, (blk_cell h 10).trans rfl, blk_frozen h 0, blk_frozen h 1, blk_frozen h 2, blk_frozen h 3, blk_frozen h 4, blk_frozen h 5, blk_frozen h 6, blk_frozen h 7, blk_frozen h 8, blk_frozen h 9, blk_frozen h 10⟩
theorem bk12 {w : World} {g : Nat} {t : TypeId} {c0 c1 c2 c3 c4 c5 c6 c7 c8 c9 c10 c11 : Value} (h : w.heap[g]? = some (.cells #[c0, c1, c2, c3, c4, c5, c6, c7, c8, c9, c10, c11] t (0, 0))) : w.cell? ⟨g, 0, none⟩ = some c0 ∧ w.cell? ⟨g, 1, none⟩ = some c1 ∧ w.cell? ⟨g, 2, none⟩ = some c2 ∧ w.cell? ⟨g, 3, none⟩ = some c3 ∧ w.cell? ⟨g, 4, none⟩ = some c4 ∧ w.cell? ⟨g, 5, none⟩ = some c5 ∧ w.cell? ⟨g, 6, none⟩ = some c6 ∧ w.cell? ⟨g, 7, none⟩ = some c7 ∧ w.cell? ⟨g, 8, none⟩ = some c8 ∧ w.cell? ⟨g, 9, none⟩ = some c9 ∧ w.cell? ⟨g, 10, none⟩ = some c10 ∧ w.cell? ⟨g, 11, none⟩ = some c11 ∧ w.frozen? ⟨g, 0, none⟩ = false ∧ w.frozen? ⟨g, 1, none⟩ = false ∧ w.frozen? ⟨g, 2, none⟩ = false ∧ w.frozen? ⟨g, 3, none⟩ = false ∧ w.frozen? ⟨g, 4, none⟩ = false ∧ w.frozen? ⟨g, 5, none⟩ = false ∧ w.frozen? ⟨g, 6, none⟩ = false ∧ w.frozen? ⟨g, 7, none⟩ = false ∧ w.frozen? ⟨g, 8, none⟩ = false ∧ w.frozen? ⟨g, 9, none⟩ = false ∧ w.frozen? ⟨g, 10, none⟩ = false ∧ w.frozen? ⟨g, 11, none⟩ = false :=
  ⟨(blk_cell h 0).trans rfl, (blk_cell h 1).trans rfl, (blk_cell h 2).trans rfl, (blk_cell h 3).trans rfl, (blk_cell h 4).trans rfl, (blk_cell h 5).trans rfl, (blk_cell h 6).trans rfl, (blk_cell h 7).trans rfl, (blk_cell h 8).trans rfl, (blk_cell h 9).trans rfl, (blk_cell h 10).trans rfl, (blk_cell h 11).trans rfl, blk_frozen h 0, blk_frozen h 1, blk_frozen h 2, blk_frozen h 3, blk_frozen h 4, blk_frozen h 5, blk_frozen h 6, blk_frozen h 7, blk_frozen h 8, blk_frozen h 9, blk_frozen h 10, blk_frozen h 11⟩
end Go.Proofs.YtpbkdphilcodmaaV
