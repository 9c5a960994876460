/- Functions: their contracts, entries, returns, calls; pure consequences of facts; loops. -/
import Derived.Test.YthgeodagikmpjaaL2
namespace Go.Proofs.Ythgeodagikmpjaa.L
open Go Go.Proofs.Ythgeodagikmpjaa.Pu
set_option linter.unusedVariables false

/-- A block that is no row of cells. -/
def objc (b : Nat) (o : Obj) : Chunk where
  fp := (· = b)
  p γ w := w.heap[b]? = some o ∧ o.isCells = false ∧ γ b = 0
  lt := fun ⟨h, _⟩ hb => by subst hb; exact (Array.getElem?_eq_some_iff.1 h).1
  stable := fun hs _ ⟨h, g, k⟩ => ⟨(hs b rfl).1.trans h, g, (hs b rfl).2.trans k⟩

/-- The contract of a function: what is owned and what is known before, and after. -/
def Ctr (P : Program) (f : FuncId) (args : List Value) (M : List Chunk) (F : List Fact) (R : Value → List Chunk → List Fact → Prop) : Prop :=
  ∀ γ w, HM γ w M → (∀ g ∈ F, g.p γ w) → GhOk γ w → Calls P f args.toArray w fun en w' => ∃ ret M' F' γ', en = .returned ret ∧ R ret M' F' ∧ HM γ' w' M' ∧ (∀ g ∈ F', g.p γ' w') ∧
    (∀ c ∈ M', ∀ b, c.fp b → fpM M b ∨ w.heap.size ≤ b) ∧ Fr (fpM M) γ w γ' w' ∧ GhOk γ' w'

def entersOf (P : Program) (f : FuncId) : Bool :=
  match P.funcs[f]? with
  | some fn => !(fn.name == "runtime.NumGoroutine") && fn.body.isSome
  | none => false
theorem enters_run {P : Program} {f : FuncId} (h : entersOf P f = true) (args : Array Value) (w : World) : (callFunc f args).run P w = .ok (.enter f args) w := by
  unfold entersOf at h
  split at h
  · rename_i fn hfn
    simp only [Bool.and_eq_true, Bool.not_eq_true', beq_eq_false_iff_ne, ne_eq] at h
    obtain ⟨h1, h2⟩ := h
    cases hb : fn.body with
    | none => rw [hb] at h2; cases h2
    | some c => simp [callFunc, hfn, h1, hb]
  · cases h

section
variable {P : Program} {r : Option Nat} {e : Env} {o : Oper} {Kn : St → Prop} {s : St} {γ γ' : Gh} {w w' : World} {a : Act}

/-! ### Pure consequences, new facts -/
def Pre (s : St) (φ : Prop) : Prop := ∀ γ w, (∀ f ∈ s.F, f.p γ w) → (∀ c ∈ s.M, c.p γ w) → φ

theorem Tr.pure {c : Code} {Q : SPost} {φ : Prop} (hp : Pre s φ) (h : φ → Tr P r e c Q s) : Tr P r e c Q s := fun γ a w hh => h (hp γ w hh.facts hh.hm.all) γ a w hh
theorem TrL.pure {ops : Array Oper} {l : List Oper} {φ : Prop} (hp : Pre s φ) (h : φ → TrL P r e ops l Kn s) : TrL P r e ops l Kn s := fun γ a w hh => h (hp γ w hh.facts hh.hm.all) γ a w hh

theorem TrL.weaken {ops : Array Oper} {l : List Oper} (t : St) (hL : ∀ p ∈ t.L, s.L.lookup p.1 = some p.2) (hM : t.M.Sublist s.M) (hF : ∀ f ∈ t.F, f ∈ s.F) (hD : t.D = s.D) (h : TrL P r e ops l Kn t) : TrL P r e ops l Kn s :=
  fun γ a w hh => h γ a w (hh.weaken hL hM hF hD)

theorem TrL.mono {ops : Array Oper} {l : List Oper} {Kn' : St → Prop} (h : TrL P r e ops l Kn s) (hk : ∀ s', Kn s' → Kn' s') : TrL P r e ops l Kn' s :=
  fun γ a w hh Q hQ => h γ a w hh Q fun s' γ' a' w' k hh' => hQ s' γ' a' w' (hk _ k) hh'

/-- The chunks in another order. -/
theorem Holds.perm {M' : List Chunk} (h : Holds e s γ a w) (hp : s.M.Perm M') : Holds e { s with M := M' } γ a w where
  size := h.size
  slots := h.slots
  defers := h.defers
  hm := ⟨fun c hc => h.hm.all c (hp.mem_iff.2 hc), (hp.pairwise_iff (fun {x y} hxy b hy hx => hxy b hx hy)).1 h.hm.sep⟩
  own c hc := h.own c (hp.mem_iff.2 hc)
  facts := h.facts
  fr := h.fr
  ok := h.ok

theorem perm_front : ∀ {M : List Chunk} {k : Nat} {c : Chunk}, M[k]? = some c → M.Perm (c :: M.eraseIdx k) := by
  intro M
  induction M with
  | nil => intro k c h; simp at h
  | cons d M ih =>
    intro k c h
    cases k with
    | zero => simp at h; subst h; exact .refl _
    | succ k =>
      simp at h
      rw [List.eraseIdx_cons_succ]
      exact ((ih h).cons d).trans (.swap _ _ _)

theorem OpTr.front {k : Nat} {c : Chunk} (hk : s.M[k]? = some c) (h : OpTr P r e o Kn { s with M := c :: s.M.eraseIdx k }) : OpTr P r e o Kn s :=
  fun γ a w hh => h γ a w (hh.perm (perm_front hk))
theorem OpTr.weaken (t : St) (hL : ∀ p ∈ t.L, s.L.lookup p.1 = some p.2) (hM : t.M.Sublist s.M) (hF : ∀ f ∈ t.F, f ∈ s.F) (hD : t.D = s.D) (h : OpTr P r e o Kn t) : OpTr P r e o Kn s :=
  fun γ a w hh => h γ a w (hh.weaken hL hM hF hD)
theorem OpTr.pure {φ : Prop} (hp : Pre s φ) (h : φ → OpTr P r e o Kn s) : OpTr P r e o Kn s := fun γ a w hh => h (hp γ w hh.facts hh.hm.all) γ a w hh

/-! ### Calls -/
theorem evs_eval (hh : Holds e s γ a w) : ∀ {xs : List Operand} {vs : List Value}, xs.map (ev s.L) = vs.map some → xs.map a.eval = vs := by
  intro xs
  induction xs with
  | nil => intro vs h; cases vs <;> simp_all
  | cons y l ih =>
    intro vs h
    cases vs with
    | nil => simp at h
    | cons u us => simp only [List.map_cons, List.cons.injEq] at h; simp [hh.eval h.1, ih h.2]

theorem HM.append_of {A B : List Chunk} (h1 : HM γ w A) (h2 : HM γ w B) (hd : ∀ c ∈ A, ∀ d ∈ B, ∀ b, c.fp b → ¬ d.fp b) : HM γ w (A ++ B) :=
  ⟨fun c hc => by rcases List.mem_append.1 hc with q | q; exact h1.all c q; exact h2.all c q, List.pairwise_append.2 ⟨h1.sep, h2.sep, hd⟩⟩

theorem calls_any {f : FuncId} {args : Array Value} {R : Ending → World → Prop} (h : Calls P f args w R) (r : Option Nat) (n : Nat) : CallsIn (fen r) n P f args w R := by
  have h1 := (callsIn_wide (n := n)).2 h
  cases r with
  | none => exact h1
  | some l => exact CallsIn.inRound l h1

/-- A call of a known function by its contract: the chunks Mp (at the head) and the facts Fp are handed over. -/
theorem op_call {f : FuncId} {fo : Operand} {xs : List Operand} {tys : Array TypeId} {vs cap : List Value} {Mp Mr : List Chunk} {Fp : List Fact} {R : Value → List Chunk → List Fact → Prop} (hop : o.op = .call { callee := .value fo, args := xs.toArray, argTypes := tys })
    (hf : ev s.L fo = some (.func (.func f) #[] cap.toArray)) (hxs : xs.map (ev s.L) = vs.map some) (hen : entersOf P f = true) (hc : Ctr P f (vs ++ cap) Mp Fp R) (hM : s.M = Mp ++ Mr) (hF : ∀ g ∈ Fp, g ∈ s.F) (hd : ∀ d, o.dst = some d → d < e.N)
    (h : ∀ ret M' F', R ret M' F' → Kn (match o.dst with
      | some d => ({ s with M := M' ++ Mr, F := s.F ++ F' } : St).put d ret
      | none => { s with M := M' ++ Mr, F := s.F ++ F' })) : OpTr P r e o Kn s := by
  intro γ a w hh K Q hK
  refine ⟨fun f _ => fen_fn r f, ?_⟩
  have hargs : (xs.toArray.map a.eval) = vs.toArray := by rw [List.map_toArray, evs_eval hh hxs]
  have hrun : (execOp a.eval o).run P w = .ok (.enter f (vs ++ cap).toArray) w := by
    simp only [execOp, hop, resolve, hh.eval hf, Deferred.ofValue, Sem.run_bind, Sem.run_pure, Result.andThen, hargs, invoke]
    have : (#[] ++ vs.toArray ++ cap.toArray : Array Value) = (vs ++ cap).toArray := by simp
    rw [this, enters_run hen]
  rw [semAt_eq _ _ _ (by rw [hop]; intro c; simp), hrun, Oper.uponIn_enter]
  refine ⟨fun hds => by simp [fen] at hds, ?_⟩
  have hm0 := hh.hm
  rw [hM] at hm0
  have hsep := List.pairwise_append.1 hm0.sep
  have hmp : HM γ w Mp := ⟨fun c hc' => hm0.all c (List.mem_append_left _ hc'), hsep.1⟩
  have hmr : HM γ w Mr := ⟨fun c hc' => hm0.all c (List.mem_append_right _ hc'), hsep.2.1⟩
  have hcall := hc γ w hmp (fun g hg => hh.facts g (hF g hg)) hh.ok
  refine (calls_any hcall r _).mono ?_
  rintro en w' ⟨ret, M', F', γ', rfl, hR, hM', hF', hfp, hfr, hok'⟩
  have hX : ∀ b, fpM Mp b → e.bs b ∨ e.w0.heap.size ≤ b := fun b ⟨c, hc1, hc2⟩ => hh.own c (by rw [hM]; exact List.mem_append_left _ hc1) b hc2
  have hmr' : HM γ' w' Mr := hmr.keep hfr (fun c hc' b hb ⟨d, hd1, hd2⟩ => hsep.2.2 d hd1 c hc' b hd2 hb)
  have hsz : e.w0.heap.size ≤ w.heap.size := hh.fr.le.size
  have hall : HM γ' w' (M' ++ Mr) := hM'.append_of hmr' (fun c hc1 d hd1 b hb hdb => by
    rcases hfp c hc1 b hb with ⟨q, hq1, hq2⟩ | q
    · exact hsep.2.2 q hq1 d hd1 b hq2 hdb
    · have := d.lt (hmr.all d hd1) hdb; omega)
  have hown : ∀ c ∈ M' ++ Mr, ∀ b, c.fp b → e.bs b ∨ e.w0.heap.size ≤ b := fun c hc1 b hb => by
    rcases List.mem_append.1 hc1 with q | q
    · rcases hfp c q b hb with q' | q'
      · exact hX b q'
      · exact .inr (by omega)
    · exact hh.own c (by rw [hM]; exact List.mem_append_right _ q) b hb
  have hst := hh.step (M' := M' ++ Mr) hfr hX hall hown hok'
  have hst2 : Holds e { s with M := M' ++ Mr, F := s.F ++ F' } γ' a w' :=
    { size := hst.size, slots := hst.slots, defers := hst.defers, hm := hst.hm, own := hst.own, fr := hst.fr, ok := hst.ok
      facts := fun g hg => by rcases List.mem_append.1 hg with q | q; exact hst.facts g q; exact hF' g q }
  have hk := h ret M' F' hR
  cases hdst : o.dst with
  | none => rw [hdst] at hk; exact hK _ γ' _ _ hk hst2
  | some d => rw [hdst] at hk; exact hK _ γ' _ _ hk (hst2.put d ret (hd d hdst))

/-! ### Entry and return -/
def slots0 (vs : List Value) (i : Nat := 0) : List (Nat × Value) :=
  match vs with
  | [] => []
  | v :: vs => (i, v) :: slots0 vs (i + 1)

theorem slots0_lookup : ∀ (vs : List Value) (i j : Nat) (v : Value), (slots0 vs i).lookup j = some v → i ≤ j ∧ vs[j - i]? = some v := by
  intro vs
  induction vs with
  | nil => intro i j v h; simp [slots0] at h
  | cons u us ih =>
    intro i j v h
    rw [slots0, List.lookup_cons] at h
    split at h
    · rename_i hb
      simp at hb
      subst hb
      simp at h
      subst h
      simp
    · rename_i hb
      simp at hb
      obtain ⟨h1, h2⟩ := ih (i + 1) j v h
      refine ⟨by omega, ?_⟩
      rw [show j - i = (j - (i + 1)) + 1 by omega]
      simpa using h2

/-- A result variable's value. -/
def resV (P : Program) (e : Env) (s : St) (rv : ResultVar) (v : Value) : Prop :=
  ∀ γ a w, Holds e s γ a w → (match rv with
    | .tmp t => (Pure.pure (a.tmps.getD t undef) : Sem Value)
    | .cell c t => do loadVar t (← asAddr (a.tmps.getD c undef))).run P w = .ok v w

theorem resv_tmp {t : Nat} {v : Value} (h : ev s.L (.tmp t) = some v) : resV P e s (.tmp t) v := fun γ a w hh => by
  have := hh.eval h
  simp only [Act.eval] at this
  simp [this]

theorem resv_cell {t k b off n : Nat} {T Tb : TypeId} {ag : Bool} {c : List Value} {v : Value} (hx : ev s.L (.tmp t) = some (.pointer (some ⟨b, off, none⟩)))
    (hk : s.M[k]? = some (cells b c Tb)) (ht : tyOf P T = some (ag, n)) (hn : ag = false → n = 1) (hl : ((c.drop off).take n).length = n) (hv : mkv ag ((c.drop off).take n) = v) : resV P e s (.cell t T) v := fun γ a w hh => by
  have hc := hh.hm.all _ (List.mem_of_getElem? hk)
  have hev := hh.eval hx
  simp only [Act.eval] at hev
  have := run_loadVar' (w := w) ht hn ⟨b, off, none⟩ ((c.drop off).take n) hl (fun j u hu => by
      rw [add_off, cell_of_cells hc]
      rw [List.getElem?_take] at hu
      split at hu
      · rwa [List.getElem?_drop] at hu
      · cases hu)
  simp only [hev, asAddr, Sem.run_bind, Sem.run_pure, Result.andThen, this, hv]

inductive All2 {α β : Type} (R : α → β → Prop) : List α → List β → Prop
  | nil : All2 R [] []
  | cons {x : α} {y : β} {xs : List α} {ys : List β} (h : R x y) (t : All2 R xs ys) : All2 R (x :: xs) (y :: ys)

def ret1 : List Value → Value
  | [v] => v
  | vs => .tuple vs.toArray

theorem run_mapM_res (hh : Holds e s γ a w) : ∀ (rvs : List ResultVar) (vs : List Value), All2 (resV P e s) rvs vs →
    (rvs.mapM (m := Sem) fun
      | .tmp t => Pure.pure (a.tmps.getD t undef)
      | .cell c t => do loadVar t (← asAddr (a.tmps.getD c undef))).run P w = .ok vs w := by
  intro rvs vs hf
  induction hf with
  | nil => rfl
  | cons h1 _ ih =>
    rw [List.mapM_cons, Sem.run_bind]
    have := h1 γ a w hh
    rename_i rv v rvs vs _
    have h2 : (match rv with
      | .tmp t => (Pure.pure (a.tmps.getD t undef) : Sem Value)
      | .cell c t => do loadVar t (← asAddr (a.tmps.getD c undef))).run P w = .ok v w := this
    rw [h2, Result.andThen_ok, Sem.run_bind, ih]
    rfl

theorem run_results (hh : Holds e s γ a w) {fn : Func} {rvs : List ResultVar} {vs : List Value} (hr : fn.results = rvs.toArray) (hf : All2 (resV P e s) rvs vs) : (results fn a.tmps).run P w = .ok (ret1 vs) w := by
  unfold results
  rw [hr, Sem.run_bind, List.mapM_toArray, Sem.run_map]
  refine (congrArg (fun z : Result (List Value) => (z.andThen fun a w' => Result.ok a.toArray w').andThen fun a w' => Sem.run P (Pure.pure (if h : a.size = 1 then a[0] else Value.tuple a)) w') (run_mapM_res hh rvs vs hf)).trans ?_
  simp only [Result.andThen_ok, Sem.run_pure]
  clear hf
  match vs with
  | [] => rfl
  | [v] => rfl
  | v :: u :: vs => simp [ret1]

def marks (ds : List Nat) : List Deferred := ds.map fun d => { target := .collected d, args := #[] }

/-- What a body must have reached where it ends: the results' values; the loops' marks, each with its block; what is handed back. -/
def RetOk (P : Program) (e : Env) (rvs : List ResultVar) (R : Value → List Chunk → List Fact → Prop) (s : St) : Prop :=
  ∃ vs M' F' ds Mr, R (ret1 vs) M' F' ∧ All2 (resV P e { s with M := Mr, D := [] }) rvs vs ∧ s.D = marks ds ∧ s.M.Perm ((ds.map fun d => objc d (.deferred (some []))) ++ Mr) ∧ M'.Sublist Mr ∧ (∀ f ∈ F', f ∈ s.F)

def retQ (P : Program) (e : Env) (rvs : List ResultVar) (R : Value → List Chunk → List Fact → Prop) : SPost
  | .normal, s | .ret, s => RetOk P e rvs R s
  | _, _ => False

theorem retOk_plain {rvs : List ResultVar} {R : Value → List Chunk → List Fact → Prop} (vs : List Value) (M' : List Chunk) (F' : List Fact) (hD : s.D = []) (hR : R (ret1 vs) M' F') (hv : All2 (resV P e s) rvs vs) (hM : M'.Sublist s.M) (hF : ∀ f ∈ F', f ∈ s.F) : RetOk P e rvs R s := by
  obtain ⟨L, M, F, D⟩ := s
  simp only at hD
  subst hD
  exact ⟨vs, M', F', [], M, hR, hv, rfl, .refl _, hM, hF⟩

end
end Go.Proofs.Ythgeodagikmpjaa.L
