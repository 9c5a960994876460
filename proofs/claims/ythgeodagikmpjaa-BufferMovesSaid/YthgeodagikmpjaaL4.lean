/- The entry of a function; loops. -/
import Derived.Test.YthgeodagikmpjaaL3
namespace Go.Proofs.Ythgeodagikmpjaa.L
open Go Go.Proofs.Ythgeodagikmpjaa.Pu
set_option linter.unusedVariables false

section
variable {P : Program} {r : Option Nat} {e : Env} {o : Oper} {Kn : St → Prop} {s : St} {γ γ' : Gh} {w w' : World} {a : Act}

theorem cell_not_cells {b : Nat} {ob : Obj} (h : w.heap[b]? = some ob) (hn : ob.isCells = false) (j : Nat) : w.cell? ⟨b, j, none⟩ = none := by
  unfold World.cell?
  rw [h]
  cases ob <;> simp_all [Obj.isCells]

/-- A block that is no row of cells becomes another such one. -/
theorem Fr.putObj {b : Nat} {o1 o2 : Obj} (h : (objc b o1).p γ w) (h2 : o2.isCells = false) : Fr (· = b) γ w γ (w.putObj b o2) where
  le := ⟨by simp, fun _ => Nat.le_refl _, fun x j hj => by
    have hne : x ≠ b := fun q => by subst q; rw [h.2.2] at hj; omega
    exact World.cell?_of_block (World.putObj_heap_other hne)⟩
  os := rfl
  tape := rfl
  output := rfl
  block x _ hx := World.putObj_heap_other hx
  gh _ _ _ := rfl

theorem objc_put {b : Nat} {o1 o2 : Obj} (h : (objc b o1).p γ w) (h2 : o2.isCells = false) : (objc b o2).p γ (w.putObj b o2) :=
  ⟨World.putObj_heap_same (Array.getElem?_eq_some_iff.1 h.1).1, h2, h.2.2⟩

theorem GhOk.size (h : GhOk γ w) (hs : w'.heap.size = w.heap.size) : GhOk γ w' := fun b hb => h b (by omega)

/-- The marks are taken up, one by one. -/
theorem leaves_marks {fn : Func} {R' : Ending → World → Prop} {tmps : Array Value} {L : List (Nat × Value)} {F : List Fact} {Mr : List Chunk} : ∀ (ds : List Nat) (γ : Gh) (a : Act) (w : World),
    a.tmps = tmps → Holds e ⟨L, (ds.map fun d => objc d (.deferred (some []))) ++ Mr, F, marks ds⟩ γ a w → (∀ γ' w', Holds e ⟨L, Mr, F, []⟩ γ' ⟨tmps, []⟩ w' → ∃ v, (results fn tmps).run P w' = .ok v w' ∧ R' (.returned v) w') →
    LeavesInM Fence.wide 0 P fn tmps R' (marks ds) .returning w := by
  intro ds
  induction ds with
  | nil =>
    intro γ a w ha hh hfin
    have := hfin γ w { size := by rw [← ha]; exact hh.size, slots := by rw [← ha]; exact hh.slots, defers := rfl, hm := hh.hm, own := hh.own, facts := hh.facts, fr := hh.fr, ok := hh.ok }
    exact this
  | cons d ds ih =>
    intro γ a w ha hh hfin
    have hd : (objc d (.deferred (some []))).p γ w := hh.hm.all _ (by simp)
    refine ⟨by simp, .inl ⟨d, _, rfl, run_takeDeferred hd.1, ?_⟩⟩
    have fr : Fr (· = d) γ w γ (w.putObj d (.deferred none)) := Fr.putObj hd rfl
    have hsep := List.pairwise_cons.1 hh.hm.sep
    have hm' : HM γ (w.putObj d (.deferred none)) ((ds.map fun d => objc d (.deferred (some []))) ++ Mr) := by
      have h0 : HM γ w ((ds.map fun d => objc d (.deferred (some []))) ++ Mr) := ⟨fun c hc => hh.hm.all c (List.mem_cons_of_mem _ hc), hsep.2⟩
      exact h0.keep fr (fun c hc b hb hbd => hsep.1 c hc b hbd hb)
    have h2 := hh.step fr (fun b hb => hh.own _ List.mem_cons_self b hb) hm' (fun c hc => hh.own c (List.mem_cons_of_mem _ hc)) (hh.ok.size (by simp))
    exact ih γ ⟨tmps, marks ds⟩ _ rfl { size := by have := h2.size; rw [ha] at this; exact this, slots := by have := h2.slots; rw [ha] at this; exact this, defers := rfl, hm := h2.hm, own := h2.own, facts := h2.facts, fr := h2.fr, ok := h2.ok } hfin

/-- A function's contract, from its body. -/
theorem ctr_of {f : FuncId} {fn : Func} {c : Code} {args : List Value} {M : List Chunk} {F : List Fact} {R : Value → List Chunk → List Fact → Prop} {N : Nat} {rvs : List ResultVar} (hf : P.funcs[f]? = some fn) (hb : fn.body = some c) (hN : fn.ntmps = N) (hr : fn.results = rvs.toArray) (hle : args.length ≤ N)
    (h : ∀ γ0 w0, Tr P none ⟨N, fpM M, γ0, w0⟩ c (retQ P ⟨N, fpM M, γ0, w0⟩ rvs R) ⟨slots0 args, M, F, []⟩) : Ctr P f args M F R := by
  intro γ w hm hF hok
  refine (callsIn_wide (n := 0)).1 ?_
  refine callsIn_of_wp_marks hf hb trivial ?_ rfl
  have h0 : Holds ⟨N, fpM M, γ, w⟩ ⟨slots0 args, M, F, []⟩ γ { tmps := args.toArray ++ Array.replicate (fn.ntmps - args.toArray.size) undef, defers := [] } w :=
    { size := by simp [hN]; omega
      slots := fun i v hi => by
        obtain ⟨_, h2⟩ := slots0_lookup args 0 i v hi
        simp only [Nat.sub_zero] at h2
        have hlt := (List.getElem?_eq_some_iff.1 h2).1
        rw [Array.getElem?_append_left (by simpa using hlt)]
        simpa using h2
      defers := rfl
      hm := hm
      own := fun c hc b hb => .inl ⟨c, hc, hb⟩
      facts := hF
      fr := Fr.refl _ _ _
      ok := hok }
  have key : ∀ s' γ' a' w', RetOk P ⟨N, fpM M, γ, w⟩ rvs R s' → Holds ⟨N, fpM M, γ, w⟩ s' γ' a' w' →
      LeavesInM Fence.wide 0 P fn a'.tmps (fun en w' => ∃ ret M' F' γ', en = .returned ret ∧ R ret M' F' ∧ HM γ' w' M' ∧ (∀ g ∈ F', g.p γ' w') ∧
        (∀ c ∈ M', ∀ b, c.fp b → fpM M b ∨ w.heap.size ≤ b) ∧ Fr (fpM M) γ w γ' w' ∧ GhOk γ' w') a'.defers .returning w' := by
    rintro s' γ' a' w' ⟨vs, M', F', ds, Mr, hR, hv, hD, hM, hM', hF'⟩ hh
    have h1 := hh.perm hM
    have ha : a'.defers = marks ds := hh.defers.trans hD
    rw [ha]
    refine leaves_marks (e := ⟨N, fpM M, γ, w⟩) (L := s'.L) (F := s'.F) (Mr := Mr) ds γ' a' w' rfl ?_ ?_
    · rw [← hD]; exact h1
    · intro γ2 w2 h2
      refine ⟨ret1 vs, run_results (s := { s' with M := Mr, D := [] }) h2 hr hv, ret1 vs, M', F', γ2, rfl, hR, ⟨fun c hc => h2.hm.all c (hM'.subset hc), h2.hm.sep.sublist hM'⟩, fun g hg => h2.facts g (hF' g hg), fun c hc b hb => h2.own c (hM'.subset hc) b hb, h2.fr, h2.ok⟩
  refine wpIn_mono (h γ w γ _ w h0) ?_
  rintro x a' w' ⟨hf', s', γ', q, hh'⟩
  cases x with
  | normal => exact key s' γ' a' w' q hh'
  | ret => exact key s' γ' a' w' q hh'
  | exit i => exact q.elim
  | goto l => exact hf'.elim
  | panic ch => exact hf'.elim
  | outgrown => exact hf'.elim

/-! ### Loops -/
theorem stepsIn_of_next {I : Machine → Prop} {m m1 m2 m' : Machine} (h1 : step P m1 = .next m) (h2 : step P m2 = .next m) (hI : I m2) (hs : StepsIn I P m1 m') (hne : m' ≠ m1) : StepsIn I P m2 m' := by
  cases hs with
  | refl => exact absurd rfl hne
  | head _ hx hrest =>
    rw [h1] at hx
    cases hx
    exact .head hI h2 hrest

theorem exitTo_length {id : Nat} : ∀ {k k' : List Item}, exitTo id k = some k' → k'.length < k.length := by
  intro k
  induction k with
  | nil => intro k' h; simp [exitTo] at h
  | cons x k ih =>
    intro k' h
    cases x <;> first
      | (simp only [exitTo] at h; have := ih h; simp; omega)
      | (simp only [exitTo] at h; split at h; (simp at h; subst h; simp); (have := ih h; simp; omega))

theorem lone_inj {fr fr' : Frame} {cs cs' : List Frame} {w w' : World} (h : lone fr cs w = lone fr' cs' w') : fr = fr' := by
  simp only [lone, Machine.mk.injEq] at h
  have h2 := congrArg (fun (x : Array Goroutine) => (x[0]?).map (·.frame)) h.2.1
  simpa using h2

/-- A loop is a round, and then the loop. -/
theorem wpIn_unroll {F : Fence} {n : Nat} {c : Code} {Q : Exit → Act → World → Prop} (hQ : ∀ x a w, Q x a w → fine x)
    (h : c.wpIn F n P (Exit.then (fun a' w' => (Code.loop c).wpIn F n P Q a' w') Q) a w) : (Code.loop c).wpIn F n P Q a w := by
  intro b k cs hro hb hr
  obtain ⟨x, a1, w1, hq, harr⟩ := h b (.inLoop c :: k) cs hro hb hr
  have h0 : ∀ a w, (lone (b.atR a (.code (.loop c) :: k)) cs w).fenced P F := fun a w => fenced_calm hb hr rfl
  cases x with
  | normal =>
    have hq' : (Code.loop c).wpIn F n P Q a1 w1 := hq
    obtain ⟨e2, a2, w2, hq2, harr2⟩ := hq' b k cs hro hb hr
    refine ⟨e2, a2, w2, hq2, .of_steps (StepsIn.trans (.one (h0 a w) stepR_loop) harr) ?_⟩
    have hI : (lone (b.atR a1 (.inLoop c :: k)) cs w1).fenced P F := fenced_calm hb hr rfl
    have tr : ∀ m', m' ≠ lone (b.atR a1 (.code (.loop c) :: k)) cs w1 → StepsIn (Machine.fenced P F) P (lone (b.atR a1 (.code (.loop c) :: k)) cs w1) m' → StepsIn (Machine.fenced P F) P (lone (b.atR a1 (.inLoop c :: k)) cs w1) m' :=
      fun m' hne hs => stepsIn_of_next stepR_loop stepR_inLoop hI hs hne
    have hlen : ∀ a' w' (k' : List Item), k'.length ≤ k.length → lone (b.atR a' k') cs w' ≠ lone (b.atR a1 (.code (.loop c) :: k)) cs w1 := by
      intro a' w' k' hk q
      have := congrArg Frame.todo (lone_inj q)
      simp only [Frame.atR] at this
      rw [this] at hk
      simp at hk
      omega
    cases e2 with
    | normal => exact tr _ (hlen _ _ _ (Nat.le_refl _)) harr2
    | exit id =>
      refine ⟨fun k' hk => tr _ (hlen _ _ _ (Nat.le_of_lt (exitTo_length hk))) (harr2.1 k' hk), fun hr' hk => ?_⟩
      obtain ⟨k1, hk1, hs⟩ := harr2.2 hr' hk
      refine ⟨k1, hk1, tr _ (fun q => ?_) hs⟩
      have := congrArg Frame.todo (lone_inj q)
      simp [Frame.atR] at this
    | ret =>
      refine ⟨fun hn => ?_, fun hs => ?_⟩
      · obtain ⟨todo, hs⟩ := harr2.1 hn
        refine ⟨todo, tr _ (fun q => ?_) hs⟩
        have := congrArg Frame.mode (lone_inj q)
        simp [Frame.atR] at this
      · obtain ⟨k1, hs'⟩ := harr2.2 hs
        refine ⟨k1, tr _ (fun q => ?_) hs'⟩
        have := congrArg Frame.todo (lone_inj q)
        simp [Frame.atR] at this
    | goto l => exact (hQ _ _ _ hq2).elim
    | panic ch => exact (hQ _ _ _ hq2).elim
    | outgrown => exact (hQ _ _ _ hq2).elim
  | exit id => exact ⟨_, a1, w1, hq, .of_steps (.one (h0 a w) stepR_loop) (.pass (x := .inLoop c) rfl (fun _ _ => .inl (by simp)) harr)⟩
  | ret => exact ⟨_, a1, w1, hq, .of_steps (.one (h0 a w) stepR_loop) (.pass (x := .inLoop c) rfl (fun _ _ => .inl (by simp)) harr)⟩
  | goto l => exact (hQ _ _ _ hq).elim
  | panic ch => exact (hQ _ _ _ hq).elim
  | outgrown => exact (hQ _ _ _ hq).elim

theorem Tr.loop {c : Code} {Q : SPost} (h : Tr P r e c (qthen (fun s' => Tr P r e (.loop c) Q s') Q) s) : Tr P r e (.loop c) Q s := by
  intro γ a w hh
  refine wpIn_unroll (fun x a w q => q.1) (wpIn_mono (h γ a w hh) ?_)
  rintro x a' w' ⟨hf, s', γ', q, hh'⟩
  cases x with
  | normal => exact q γ' a' w' hh'
  | exit i => exact ⟨hf, s', γ', q, hh'⟩
  | ret => exact ⟨hf, s', γ', q, hh'⟩
  | goto l => exact hf.elim
  | panic ch => exact hf.elim
  | outgrown => exact hf.elim
end
end Go.Proofs.Ythgeodagikmpjaa.L
