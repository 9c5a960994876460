/- A range over a function: what yield does to what the body owns; the function's contract; the statement. -/
import Derived.Test.YthgeodagikmpjaaL14
import Derived.RangeFuncIn
import Derived.RangeFuncRecord
namespace Go.Proofs.Ythgeodagikmpjaa.L
open Go Go.Proofs.Ythgeodagikmpjaa.Pu
set_option linter.unusedVariables false

/-- Pieces of memory and facts as one piece. -/
def bag (M : List Chunk) (F : List Fact) : Chunk where
  fp := fpM M
  p γ w := HM γ w M ∧ ∀ f ∈ F, f.p γ w
  lt := fun ⟨h, _⟩ ⟨c, hc, hb⟩ => c.lt (h.all c hc) hb
  stable := fun hs hle ⟨h, hf⟩ => ⟨⟨fun c hc => c.stable (fun b hb => hs b ⟨c, hc, hb⟩) hle (h.all c hc), h.sep⟩, fun f hf' => f.mono hle (hf f hf')⟩
/-- No piece. -/
def noc : Chunk := ⟨fun _ => False, fun _ _ => False, fun h => h.elim, fun _ _ h => h⟩

section
variable {P : Program} {r : Option Nat} {e : Env} {o : Oper} {Kn : St → Prop} {s : St} {γ γ' : Gh} {w w' : World} {a : Act}

theorem bag_split {M N : List Chunk} {F : List Fact} : HM γ w (bag M F :: N) ↔ HM γ w (M ++ N) ∧ ∀ f ∈ F, f.p γ w := by
  constructor
  · rintro ⟨h1, h2⟩
    have hb := h1 _ List.mem_cons_self
    have hs := List.pairwise_cons.1 h2
    refine ⟨⟨fun c hc => ?_, List.pairwise_append.2 ⟨hb.1.sep, hs.2, fun c hc d hd b hb' hdb => hs.1 d hd b ⟨c, hc, hb'⟩ hdb⟩⟩, hb.2⟩
    rcases List.mem_append.1 hc with q | q
    · exact hb.1.all c q
    · exact h1 c (List.mem_cons_of_mem _ q)
  · rintro ⟨⟨h1, h2⟩, hf⟩
    have hs := List.pairwise_append.1 h2
    refine ⟨fun c hc => ?_, List.pairwise_cons.2 ⟨fun d hd b ⟨c, hc, hcb⟩ hdb => hs.2.2 c hc d hd b hcb hdb, hs.2.1⟩⟩
    rcases List.mem_cons.1 hc with q | q
    · subst q; exact ⟨⟨fun c hc => h1 c (List.mem_append_left _ hc), hs.1⟩, hf⟩
    · exact h1 c (List.mem_append_right _ q)
theorem fpM_cons {c : Chunk} {M : List Chunk} {b : Nat} : fpM (c :: M) b ↔ c.fp b ∨ fpM M b := by
  constructor
  · rintro ⟨d, hd, hb⟩
    rcases List.mem_cons.1 hd with q | q
    · subst q; exact .inl hb
    · exact .inr ⟨d, q, hb⟩
  · rintro (q | ⟨d, hd, hb⟩)
    · exact ⟨c, List.mem_cons_self, q⟩
    · exact ⟨d, List.mem_cons_of_mem _ hd, hb⟩
theorem fpM_app {M N : List Chunk} {b : Nat} : fpM (M ++ N) b ↔ fpM M b ∨ fpM N b := by
  constructor
  · rintro ⟨d, hd, hb⟩
    rcases List.mem_append.1 hd with q | q
    · exact .inl ⟨d, q, hb⟩
    · exact .inr ⟨d, q, hb⟩
  · rintro (⟨d, hd, hb⟩ | ⟨d, hd, hb⟩)
    · exact ⟨d, List.mem_append_left _ hd, hb⟩
    · exact ⟨d, List.mem_append_right _ hd, hb⟩
theorem fpM_bag {M N : List Chunk} {F : List Fact} {b : Nat} : fpM (bag M F :: N) b ↔ fpM (M ++ N) b := by
  rw [fpM_cons, fpM_app]; rfl

/-- What a callee, or a round, leaves. -/
def Left (R : Value → List Chunk → List Fact → Prop) (M : List Chunk) (γ : Gh) (w : World) (en : Ending) (w' : World) : Prop :=
  ∃ ret M' F' γ', en = .returned ret ∧ R ret M' F' ∧ HM γ' w' M' ∧ (∀ g ∈ F', g.p γ' w') ∧
    (∀ c ∈ M', ∀ b, c.fp b → fpM M b ∨ w.heap.size ≤ b) ∧ Fr (fpM M) γ w γ' w' ∧ GhOk γ' w'
/-- The contract of yield, in whatever frame it is called. -/
def YCtr (P : Program) (l : Nat) (args : List Value) (M : List Chunk) (F : List Fact) (R : Value → List Chunk → List Fact → Prop) : Prop :=
  ∀ r γ w, HM γ w M → (∀ g ∈ F, g.p γ w) → GhOk γ w → YieldAt (fen r) 0 P l args.toArray w (Left R M γ w)

/-- Behind a callee that was handed the chunks Mp. -/
theorem Holds.back {R : Value → List Chunk → List Fact → Prop} {Mp Mr : List Chunk} {en : Ending} (hh : Holds e s γ a w) (hM : s.M = Mp ++ Mr) (h : Left R Mp γ w en w') :
    ∃ ret M' F' γ', en = .returned ret ∧ R ret M' F' ∧ Holds e { s with M := M' ++ Mr, F := s.F ++ F' } γ' a w' := by
  obtain ⟨ret, M', F', γ', rfl, hR, hM', hF', hfp, hfr, hok'⟩ := h
  refine ⟨ret, M', F', γ', rfl, hR, ?_⟩
  have hm0 := hh.hm
  rw [hM] at hm0
  have hsep := List.pairwise_append.1 hm0.sep
  have hmr : HM γ w Mr := ⟨fun c hc' => hm0.all c (List.mem_append_right _ hc'), hsep.2.1⟩
  have hX : ∀ b, fpM Mp b → e.bs b ∨ e.w0.heap.size ≤ b := fun b ⟨c, hc1, hc2⟩ => hh.own c (by rw [hM]; exact List.mem_append_left _ hc1) b hc2
  have hmr' : HM γ' w' Mr := hmr.keep hfr (fun c hc' b hb ⟨d, hd1, hd2⟩ => hsep.2.2 d hd1 c hc' b hd2 hb)
  have hsz : e.w0.heap.size ≤ w.heap.size := hh.fr.le.size
  have hall : HM γ' w' (M' ++ Mr) := hM'.append_of hmr' (fun c hc1 d hd1 b hb hdb => by
    rcases hfp c hc1 b hb with ⟨q, hq1, hq2⟩ | q
    · exact hsep.2.2 q hq1 d hd1 b hq2 hdb
    · have := d.lt (hmr.all d hd1) hdb; omega)
  have hown : ∀ c ∈ M' ++ Mr, ∀ b, c.fp b → e.bs b ∨ e.w0.heap.size ≤ b := fun c hc1 b hb => by
    rcases List.mem_append.1 hc1 with q | q
    · rcases hfp c q b hb with q' | q'
      · exact hX b q'
      · exact .inr (by omega)
    · exact hh.own c (by rw [hM]; exact List.mem_append_right _ q) b hb
  have hst := hh.step (M' := M' ++ Mr) hfr hX hall hown hok'
  exact { size := hst.size, slots := hst.slots, defers := hst.defers, hm := hst.hm, own := hst.own, fr := hst.fr, ok := hst.ok
          facts := fun g hg => by rcases List.mem_append.1 hg with q | q; exact hst.facts g q; exact hF' g q }

theorem v_indexStr' {T : TypeId} {x y : Operand} {kd : IntKind} {i z : Int} {str : ByteArray} (hop : o.op = .index T x y) (hT : P.underlying T = some .string) (hx : ev s.L x = some (.string str)) (hy : ev s.L y = some (.int kd i)) (hz : rdb str i = some z) : OpV P e o s (.int .u8 z) := by
  obtain ⟨h0, c, h1, rfl⟩ := rdb_some hz
  exact v_indexStr hop hT hx hy h0 h1
/-- A call of yield. -/
theorem op_yield {l : Nat} {fo : Operand} {xs : List Operand} {tys : Array TypeId} {vs : List Value} {Mp Mr : List Chunk} {Fp : List Fact} {R : Value → List Chunk → List Fact → Prop} (ks rs js : List Nat) (hop : o.op = .call { callee := .value fo, args := xs.toArray, argTypes := tys })
    (hf : ev s.L fo = some (.func (.yield l) #[] #[])) (hxs : xs.map (ev s.L) = vs.map some) (hc : YCtr P l vs Mp Fp R) (hn : (ks ++ rs).Nodup) (hM : (ks ++ rs).map (s.M[·]?) = (Mp ++ Mr).map some) (hF : js.map (s.F[·]?) = Fp.map some) {d : Nat} (ho : o.dst = some d) (hN : d < e.N)
    (h : ∀ ret M' F', R ret M' F' → Kn ((s.cc (M' ++ Mr) F').put d ret)) : OpTr P r e o Kn s := by
  intro γ a w hh K Q hK
  refine ⟨fun f _ => fen_fn r f, ?_⟩
  have hh' : Holds e { s with M := Mp ++ Mr } γ a w := { size := hh.size, slots := hh.slots, defers := hh.defers, hm := hh.hm.places hn hM, own := fun c hc => hh.own c (mem_of_places hM c hc), facts := hh.facts, fr := hh.fr, ok := hh.ok }
  have hsep := List.pairwise_append.1 hh'.hm.sep
  have hmp : HM γ w Mp := ⟨fun c hc' => hh'.hm.all c (List.mem_append_left _ hc'), hsep.1⟩
  obtain ⟨fn, tmps, assign, body, hy, hr⟩ := hc r γ w hmp (fun g hg => hh.facts g (mem_of_places hF g hg)) hh.ok
  have hargs : (xs.toArray.map a.eval) = vs.toArray := by rw [List.map_toArray, evs_eval hh hxs]
  have hrun : (execOp a.eval o).run P w = .ok (.round l fn tmps assign body) w := by
    simp only [execOp, hop, resolve, hh.eval hf, Deferred.ofValue, Sem.run_bind, Sem.run_pure, Result.andThen, hargs, invoke]
    simpa using hy
  rw [semAt_eq _ _ _ (by rw [hop]; intro c; simp), hrun, Oper.uponIn_round]
  refine ⟨fun hds => by simp [fen] at hds, hr.mono ?_⟩
  intro en w' hl
  obtain ⟨ret, M', F', γ', rfl, hR, h2⟩ := hh'.back rfl hl
  simp only [ho]
  exact hK _ γ' _ _ (h ret M' F' hR) (h2.put d ret hN)

/-- A block that is no row of cells is laid. -/
theorem Holds.newObj (h : Holds e s γ a w) (ob : Obj) (hc : ob.isCells = false) : Holds e { s with M := objc w.heap.size ob :: s.M } γ a (w.alloc ob) := by
  have fr : Fr (fun _ => False) γ w γ (w.alloc ob) :=
    { le := ⟨by simp, fun b => Nat.le_refl _, fun b j hj => by
        have : b < w.heap.size := by
          rcases Nat.lt_or_ge b w.heap.size with q | q
          · exact q
          · rw [h.ok b q] at hj; omega
        exact World.cell?_alloc_lt w _ _ this⟩
      os := rfl, tape := rfl, output := rfl
      block := fun b hb _ => by simp only [World.alloc, Array.getElem?_push]; rw [if_neg (by omega)]
      gh := fun _ _ _ => rfl }
  have hsz : e.w0.heap.size ≤ w.heap.size := h.fr.le.size
  refine h.step fr (fun b hb => hb.elim) ?_ ?_ ?_
  · refine (h.hm.keep fr (fun _ _ _ _ q => q)).cons ⟨World.alloc_heap_new w ob, hc, h.ok _ (Nat.le_refl _)⟩ ?_
    intro d hd b hb hdb
    have : b = w.heap.size := hb
    have := d.lt (h.hm.all d hd) hdb
    omega
  · intro c hc b hb
    rcases List.mem_cons.1 hc with q | q
    · subst q
      have : b = w.heap.size := hb
      exact .inr (by omega)
    · exact h.own c q b hb
  · have := h.ok.alloc ob 0
    rwa [upd_self_ok h.ok] at this

/-- The head's block becomes another one, and is no longer spoken of. -/
theorem Holds.dropObj {l : Nat} {o1 : Obj} {M : List Chunk} (h : Holds e s γ a w) (hM : s.M = objc l o1 :: M) (o2 : Obj) (h2 : o2.isCells = false) : Holds e { s with M := M } γ a (w.putObj l o2) := by
  have hm0 := h.hm
  rw [hM] at hm0
  have hp := hm0.all _ List.mem_cons_self
  have hs := List.pairwise_cons.1 hm0.sep
  have fr : Fr (· = l) γ w γ (w.putObj l o2) := Fr.putObj hp h2
  refine h.step fr (fun b hb => h.own _ (by rw [hM]; exact List.mem_cons_self) b hb) ?_ (fun c hc => h.own c (by rw [hM]; exact List.mem_cons_of_mem _ hc)) (h.ok.size (by simp))
  have h0 : HM γ w M := ⟨fun c hc => hm0.all c (List.mem_cons_of_mem _ hc), hs.2⟩
  exact h0.keep fr (fun c hc b hb hbd => hs.1 c hc b hbd hb)

theorem zipL_lookup : ∀ (ps : List Nat) (vs : List Value) (L : List (Nat × Value)) (i : Nat), ((ps.zip vs) ++ L).lookup i = ((ps.zip vs).lookup i).or (L.lookup i) := by
  intro ps
  induction ps with
  | nil => intro vs L i; simp
  | cons p ps ih =>
    intro vs L i
    cases vs with
    | nil => simp
    | cons v vs =>
      simp only [List.zip_cons_cons, List.cons_append, List.lookup_cons]
      split
      · rfl
      · exact ih vs L i
theorem zip_not : ∀ (ps : List Nat) (vs : List Value) (i : Nat), i ∉ ps → (ps.zip vs).lookup i = none := by
  intro ps
  induction ps with
  | nil => intro vs i _; simp
  | cons p ps ih =>
    intro vs i hi
    cases vs with
    | nil => simp
    | cons v vs =>
      simp only [List.mem_cons, not_or] at hi
      simp only [List.zip_cons_cons, List.lookup_cons]
      rw [beq_eq_false_iff_ne.2 hi.1]
      exact ih vs i hi.2
theorem fold_get : ∀ (ps : List Nat) (vs : List Value) (t : Array Value) (i : Nat) (v : Value), ps.Nodup → (∀ p ∈ ps, p < t.size) →
    (((ps.zip vs).lookup i).or t[i]?) = some v → ((ps.zip vs).foldl (fun tmps (q : Nat × Value) => tmps.setIfInBounds q.1 q.2) t)[i]? = some v := by
  intro ps
  induction ps with
  | nil => intro vs t i v _ _ h; simpa using h
  | cons p ps ih =>
    intro vs t i v hn hb h
    cases vs with
    | nil => simpa using h
    | cons u vs =>
      simp only [List.zip_cons_cons, List.foldl_cons]
      have hn' := List.nodup_cons.1 hn
      refine ih vs _ i v hn'.2 (fun q hq => by rw [Array.size_setIfInBounds]; exact hb q (List.mem_cons_of_mem _ hq)) ?_
      simp only [List.zip_cons_cons, List.lookup_cons] at h
      by_cases hip : i = p
      · subst hip
        rw [zip_not _ _ _ hn'.1]
        simp only [beq_self_eq_true] at h
        rw [Option.none_or, Array.getElem?_setIfInBounds_self_of_lt (hb i List.mem_cons_self)]
        exact h
      · rw [beq_eq_false_iff_ne.2 hip] at h
        rw [Array.getElem?_setIfInBounds_ne (Ne.symm hip)]
        exact h
theorem fold_size : ∀ (l : List (Nat × Value)) (t : Array Value), (l.foldl (fun tmps (q : Nat × Value) => tmps.setIfInBounds q.1 q.2) t).size = t.size := by
  intro l
  induction l with
  | nil => intro t; rfl
  | cons q l ih => intro t; rw [List.foldl_cons, ih, Array.size_setIfInBounds]

/-- How a round ends: the body goes on, or leaves. -/
def qround {D E ι ιE : Type} (e : Env) (y : D ⊕ E) (TM : D → ι → List Chunk) (TF : D → ι → List Fact) (EM : E → ιE → List Chunk) (EF : E → ιE → List Fact) (jmp : E → Code) : SPost
  | .normal, s => ∃ d m, y = .inl d ∧ Imp e s ⟨[], TM d m, TF d m, []⟩
  | .ret, s => ∃ q m, y = .inr q ∧ jmp q = .ret ∧ Imp e s ⟨[], EM q m, EF q m, []⟩
  | .exit i, s => ∃ q m, y = .inr q ∧ jmp q = .exit i ∧ Imp e s ⟨[], EM q m, EF q m, []⟩
  | _, _ => False
/-- Behind the assignments to the loop's variables. -/
def qassign (K : St → Prop) : SPost
  | .normal, s => s.D = [] ∧ K s
  | _, _ => False

/-- The memory between two rounds. -/
def cfam {D E ι ιE : Type} (l b : Nat) (rec : LoopState → Option Code → Loop) (TM : D → ι → List Chunk) (TF : D → ι → List Fact) (EM : E → ιE → List Chunk) (EF : E → ιE → List Fact) (jmp : E → Code) : D ⊕ E → ι ⊕ ιE → Chunk
  | .inl d, .inl m => bag (objc l (.loop (rec .ready none)) :: objc b (.deferred (some [])) :: TM d m) (TF d m)
  | .inr q, .inr m => bag (objc l (.loop (rec .done (some (jmp q)))) :: objc b (.deferred (some [])) :: EM q m) (EF q m)
  | _, _ => noc

/-- One round, as yield's caller sees it. -/
theorem round_of {X D E ι ιE μ : Type} {l b N : Nat} {fn : FuncId} {tmps : Array Value} {ps : List Nat} {assign body : Code} {rec : LoopState → Option Code → Loop} {df : Nat} {L : List (Nat × Value)} (hrec : rec = fun st pe => { state := st, pending := pe, fn := fn, tmps := tmps, params := ps.toArray, assign := assign, body := body, defers := df })
    {TM : D → ι → List Chunk} {TF : D → ι → List Fact} {EM : E → ιE → List Chunk} {EF : E → ιE → List Fact} {jmp : E → Code} {step : X → D → Option (D ⊕ E)} {encs : X → μ → List Value} {FX : X → μ → List Fact}
    (hN : tmps.size = N) (hL : ∀ i v, L.lookup i = some v → tmps[i]? = some v) (hpn : ps.Nodup) (hpb : ∀ p ∈ ps, p < N) (hpl : ∀ x xm, (encs x xm).length = ps.length)
    (hbody : ∀ bs1 γ1 w1 x xm d m y, step x d = some y →
      Tr P (some l) ⟨N, bs1, γ1, w1⟩ assign (qassign fun s' => ∀ bs2 γ2 w2, Tr P (some l) ⟨N, bs2, γ2, w2⟩ body (qround ⟨N, bs2, γ2, w2⟩ y TM TF EM EF jmp) s') ⟨ps.zip (encs x xm) ++ L, TM d m, TF d m ++ FX x xm, []⟩)
    (x : X) (xm : μ) (σ : D ⊕ E) (m : ι ⊕ ιE) (bo : Bool) (σ' : D ⊕ E) (hst : yl step x σ = some (bo, σ')) :
    YCtr P l (encs x xm) [cfam l b rec TM TF EM EF jmp σ m] (FX x xm) (fun ret M' F' => ∃ m', ret = .bool bo ∧ M' = [cfam l b rec TM TF EM EF jmp σ' m'] ∧ F' = []) := by
  intro r γ w hm hFX hok
  match σ, m, hst, hm with
  | .inr q, _, hst, _ => simp [yl] at hst
  | .inl d, .inr m, _, hm => exact (hm.all _ List.mem_cons_self).elim
  | .inl d, .inl m, hst, hm =>
  obtain ⟨y, hy, hyb⟩ : ∃ y, step x d = some y ∧ (match y with | .inl d' => (true, .inl d') | .inr q => (false, .inr q) : Bool × (D ⊕ E)) = (bo, σ') := by
    simp only [yl, Option.map_eq_some_iff] at hst
    obtain ⟨y, h1, h2⟩ := hst
    exact ⟨y, h1, by cases y <;> exact h2⟩
  have hm1 := bag_split.1 hm
  rw [List.append_nil] at hm1
  obtain ⟨hm2, hTF⟩ := hm1
  have hsl := List.pairwise_cons.1 hm2.sep
  have hsb := List.pairwise_cons.1 hsl.2
  have hl : (objc l (.loop (rec .ready none))).p γ w := hm2.all _ (by simp)
  have hb : (objc b (.deferred (some []))).p γ w := hm2.all _ (by simp)
  have hmT : HM γ w (TM d m) := ⟨fun c hc => hm2.all c (by simp [hc]), hsb.2⟩
  have hlT : ¬ fpM (TM d m) l := fun ⟨c, hc, hcl⟩ => hsl.1 c (by simp [hc]) l rfl hcl
  have hbT : ¬ fpM (TM d m) b := fun ⟨c, hc, hcl⟩ => hsb.1 c hc b rfl hcl
  have hlb : l ≠ b := fun q => hsl.1 _ List.mem_cons_self l rfl q
  have hllt : l < w.heap.size := (Array.getElem?_eq_some_iff.1 hl.1).1
  have hblt : b < w.heap.size := (Array.getElem?_eq_some_iff.1 hb.1).1
  have hyr := run_yield (P := P) (args := (encs x xm).toArray) hl.1 (by rw [hrec]; simpa using hpl x xm)
  rw [hrec] at hyr
  refine ⟨fn, _, assign, body, hyr, roundIn_of_wpIn (fen_fn r fn) ?_⟩
  have etm : (ps.toArray.zip (encs x xm).toArray).foldl (fun t (q : Nat × Value) => t.setIfInBounds q.1 q.2) tmps = (ps.zip (encs x xm)).foldl (fun t (q : Nat × Value) => t.setIfInBounds q.1 q.2) tmps := by
    rw [List.zip_toArray]; simp
  have hh : Holds ⟨N, fpM (TM d m), γ, w⟩ ⟨ps.zip (encs x xm) ++ L, TM d m, TF d m ++ FX x xm, []⟩ γ { tmps := (ps.toArray.zip (encs x xm).toArray).foldl (fun t (q : Nat × Value) => t.setIfInBounds q.1 q.2) tmps, defers := [] } w :=
    { size := by rw [etm]; exact (fold_size _ _).trans hN
      slots := fun i v hi => by
        rw [etm]
        refine fold_get ps _ _ i v hpn (fun p hp => by rw [hN]; exact hpb p hp) ?_
        simp only at hi
        rw [zipL_lookup] at hi
        cases hz : (ps.zip (encs x xm)).lookup i with
        | some u => rw [hz] at hi; exact hi
        | none => rw [hz] at hi; rw [Option.none_or] at hi ⊢; exact hL i v hi
      defers := rfl
      hm := hmT
      own := fun c hc b hb => .inl ⟨c, hc, hb⟩
      facts := fun f hf => by rcases List.mem_append.1 hf with q | q; exact hTF f q; exact hFX f q
      fr := Fr.refl _ _ _
      ok := hok }
  have key : ∀ γ1 a1 w1 s1, Holds ⟨N, fpM (TM d m), γ, w⟩ s1 γ1 a1 w1 → s1.D = [] → (∀ bs2 γ2 w2, Tr P (some l) ⟨N, bs2, γ2, w2⟩ body (qround ⟨N, bs2, γ2, w2⟩ y TM TF EM EF jmp) s1) →
      ∃ w2, (Instr.beginRound l).run P w1 = .ok () w2 ∧ body.wpIn (fen (some l)) 0 P (roundPost P l (Left (fun ret M' F' => ∃ m', ret = .bool bo ∧ M' = [cfam l b rec TM TF EM EF jmp σ' m'] ∧ F' = []) [cfam l b rec TM TF EM EF jmp (.inl d) (.inl m)] γ w)) a1 w2 := by
    intro γ1 a1 w1 s1 h1 hD hb2
    have hl1 : w1.heap[l]? = some (.loop (rec .ready none)) := (h1.fr.block l hllt hlT).trans hl.1
    have hg1 : γ1 l = 0 := (h1.fr.gh l hllt hlT).trans hl.2.2
    have hb1 : w1.heap[b]? = some (.deferred (some [])) := (h1.fr.block b hblt hbT).trans hb.1
    have hp1 : (objc l (.loop (rec .ready none))).p γ1 w1 := ⟨hl1, rfl, hg1⟩
    refine ⟨_, run_beginRound hl1 (by rw [hrec]), ?_⟩
    have fr12 : Fr (· = l) γ1 w1 γ1 (w1.putObj l (.loop { rec .ready none with state := .busy })) := Fr.putObj hp1 rfl
    have hnl : ∀ c ∈ s1.M, ∀ x, c.fp x → ¬ x = l := fun c hc x hx hxl => by
      subst hxl
      rcases h1.own c hc x hx with q | q
      · exact hlT q
      · simp only at q; omega
    have h2 : Holds ⟨N, fun x => fpM (TM d m) x ∨ w.heap.size ≤ x, γ1, w1.putObj l (.loop { rec .ready none with state := .busy })⟩ s1 γ1 a1 (w1.putObj l (.loop { rec .ready none with state := .busy })) :=
      { size := h1.size, slots := h1.slots, defers := h1.defers
        hm := h1.hm.keep fr12 hnl
        own := fun c hc x hx => .inl (h1.own c hc x hx)
        facts := fun f hf => f.mono fr12.le (h1.facts f hf)
        fr := Fr.refl _ _ _
        ok := h1.ok.size (by simp) }
    have hsz1 : w.heap.size ≤ w1.heap.size := h1.fr.le.size
    have hbe : ¬ (fpM (TM d m) l ∨ w.heap.size ≤ l) := fun q => q.elim hlT (by omega)
    have hbb : ¬ (fpM (TM d m) b ∨ w.heap.size ≤ b) := fun q => q.elim hbT (by omega)
    -- the round's end
    have fin : ∀ (jump : Option Code) (γ3 : Gh) (a3 : Act) (w3 : World) (s3 : St) (M3 : List Chunk) (F3 : List Fact) (bo' : Bool) (σ3 : D ⊕ E) (m3 : ι ⊕ ιE), bo' = jump.isNone →
        cfam l b rec TM TF EM EF jmp σ3 m3 = bag (objc l (.loop (rec (if jump.isNone then .ready else .done) jump)) :: objc b (.deferred (some [])) :: M3) F3 → (bo', σ3) = (bo, σ') →
        Holds ⟨N, fun x => fpM (TM d m) x ∨ w.heap.size ≤ x, γ1, w1.putObj l (.loop { rec .ready none with state := .busy })⟩ ⟨[], M3, F3, []⟩ γ3 a3 w3 →
        ∃ v w4, (Instr.endRound l jump).run P w3 = .ok v w4 ∧ Left (fun ret M' F' => ∃ m', ret = .bool bo ∧ M' = [cfam l b rec TM TF EM EF jmp σ' m'] ∧ F' = []) [cfam l b rec TM TF EM EF jmp (.inl d) (.inl m)] γ w (.returned v) w4 := by
      intro jump γ3 a3 w3 s3 M3 F3 bo' σ3 m3 hbo hc3 hbs h3
      cases hbs
      have hl2 : (w1.putObj l (.loop { rec .ready none with state := .busy })).heap[l]? = some (.loop { rec .ready none with state := .busy }) := World.putObj_heap_same (by omega)
      have hb2 : (w1.putObj l (.loop { rec .ready none with state := .busy })).heap[b]? = some (.deferred (some [])) := (World.putObj_heap_other (Ne.symm hlb)).trans hb1
      have hl3 : w3.heap[l]? = some (.loop { rec .ready none with state := .busy }) := (h3.fr.block l (by simp only [World.putObj_size]; omega) hbe).trans hl2
      have hb3 : w3.heap[b]? = some (.deferred (some [])) := (h3.fr.block b (by simp only [World.putObj_size]; omega) hbb).trans hb2
      have hg3 : γ3 l = 0 := (h3.fr.gh l (by simp only [World.putObj_size]; omega) hbe).trans hg1
      have hgb3 : γ3 b = 0 := (h3.fr.gh b (by simp only [World.putObj_size]; omega) hbb).trans ((h1.fr.gh b hblt hbT).trans hb.2.2)
      have hr := run_endRound (P := P) jump hl3
      have erec : ({ ({ rec .ready none with state := .busy } : Loop) with state := if jump.isNone then .ready else .done, pending := jump } : Loop) = rec (if jump.isNone then .ready else .done) jump := by rw [hrec]
      rw [erec] at hr
      have hp3 : (objc l (.loop { rec .ready none with state := .busy })).p γ3 w3 := ⟨hl3, rfl, hg3⟩
      have fr34 : Fr (· = l) γ3 w3 γ3 (w3.putObj l (.loop (rec (if jump.isNone then .ready else .done) jump))) := Fr.putObj hp3 rfl
      have hnl3 : ∀ c ∈ M3, ∀ x, c.fp x → ¬ x = l := fun c hc x hx hxl => by
        subst hxl
        rcases h3.own c hc x hx with q | q
        · exact hbe q
        · simp only [World.putObj_size] at q; omega
      have hnb3 : ∀ c ∈ M3, ∀ x, c.fp x → ¬ x = b := fun c hc x hx hxl => by
        subst hxl
        rcases h3.own c hc x hx with q | q
        · exact hbb q
        · simp only [World.putObj_size] at q; omega
      refine ⟨_, _, hr, .bool jump.isNone, [cfam l b rec TM TF EM EF jmp σ' m3], [], γ3, rfl, ⟨m3, by rw [hbo], rfl, rfl⟩, ?_, by simp, ?_, ?_, h3.ok.size (by simp)⟩
      · rw [hc3, bag_split, List.append_nil]
        refine ⟨?_, fun f hf => f.mono fr34.le (h3.facts f hf)⟩
        refine HM.cons (HM.cons (h3.hm.keep fr34 hnl3) ⟨(World.putObj_heap_other (Ne.symm hlb)).trans hb3, rfl, hgb3⟩ (fun c hc x hx => fun hcx => hnb3 c hc x hcx hx)) (objc_put hp3 rfl) ?_
        intro c hc x hx hcx
        rcases List.mem_cons.1 hc with q | q
        · subst q; exact hlb (hx.symm.trans hcx)
        · exact hnl3 c q x hcx hx
      · intro c hc x hx
        rw [List.mem_singleton] at hc
        subst hc
        rw [hc3] at hx
        have hin : ∀ z, (z = l ∨ z = b ∨ fpM (TM d m) z) → fpM [cfam l b rec TM TF EM EF jmp (.inl d) (.inl m)] z := fun z hz => by
          show fpM (bag _ _ :: []) z
          rw [fpM_bag, List.append_nil, fpM_cons, fpM_cons]
          exact hz
        rcases fpM_cons.1 hx with q | q
        · exact .inl (hin x (.inl q))
        rcases fpM_cons.1 q with q | q
        · exact .inl (hin x (.inr (.inl q)))
        obtain ⟨c, hc, hcx⟩ := q
        rcases h3.own c hc x hcx with (q | q) | q
        · exact .inl (hin x (.inr (.inr q)))
        · exact .inr q
        · simp only [World.putObj_size] at q; exact .inr (by omega)
      · have hin : ∀ z, (z = l ∨ z = b ∨ fpM (TM d m) z) → fpM [cfam l b rec TM TF EM EF jmp (.inl d) (.inl m)] z := fun z hz => by
          show fpM (bag _ _ :: []) z
          rw [fpM_bag, List.append_nil, fpM_cons, fpM_cons]
          exact hz
        have f1 : Fr (fpM [cfam l b rec TM TF EM EF jmp (.inl d) (.inl m)]) γ w γ1 w1 := (Fr.refl _ γ w).trans h1.fr (fun z _ hz => hin z (.inr (.inr hz)))
        have f2 := f1.trans fr12 (fun z _ hz => hin z (.inl hz))
        have f3 := f2.trans h3.fr (fun z hz hq => hq.elim (fun q => hin z (.inr (.inr q))) (fun q => by omega))
        exact f3.trans fr34 (fun z _ hz => hin z (.inl hz))
    refine wpIn_mono (hb2 _ _ _ γ1 a1 _ h2) ?_
    rintro ex a3 w3 ⟨hf, s3, γ3, q, h3⟩
    cases ex with
    | normal =>
      obtain ⟨d3, m3, rfl, hi⟩ := q
      exact fin none γ3 a3 w3 s3 _ _ true (.inl d3) (.inl m3) rfl rfl hyb (hi _ _ _ h3)
    | ret =>
      obtain ⟨q3, m3, rfl, hj, hi⟩ := q
      exact fin (some .ret) γ3 a3 w3 s3 _ _ false (.inr q3) (.inr m3) rfl (by simp only [cfam, hj]; rfl) hyb (hi _ _ _ h3)
    | exit i =>
      obtain ⟨q3, m3, rfl, hj, hi⟩ := q
      exact fin (some (.exit i)) γ3 a3 w3 s3 _ _ false (.inr q3) (.inr m3) rfl (by simp only [cfam, hj]; rfl) hyb (hi _ _ _ h3)
    | goto i => exact q.elim
    | panic ch => exact q.elim
    | outgrown => exact q.elim
  have hasg : assign.wpIn (fen (some l)) 0 P (fun ex a1 w1 => ex = .normal ∧ ∃ s1 γ1, Holds ⟨N, fpM (TM d m), γ, w⟩ s1 γ1 a1 w1 ∧ s1.D = [] ∧ ∀ bs2 γ2 w2, Tr P (some l) ⟨N, bs2, γ2, w2⟩ body (qround ⟨N, bs2, γ2, w2⟩ y TM TF EM EF jmp) s1) { tmps := (ps.toArray.zip (encs x xm).toArray).foldl (fun t (q : Nat × Value) => t.setIfInBounds q.1 q.2) tmps, defers := [] } w := by
    refine wpIn_mono (hbody (fpM (TM d m)) γ w x xm d m y hy γ _ w hh) ?_
    rintro ex a1 w1 ⟨hf, s1, γ1, q, h1⟩
    cases ex with
    | normal => exact ⟨rfl, s1, γ1, h1, q.1, q.2⟩
    | ret => exact q.elim
    | exit i => exact q.elim
    | goto i => exact q.elim
    | panic ch => exact q.elim
    | outgrown => exact q.elim
  refine wpIn_mono hasg ?_
  rintro ex a1 w1 ⟨rfl, s1, γ1, h1, hD, hb2⟩
  exact key γ1 a1 w1 s1 h1 hD hb2

theorem ps_lt {ps : List Nat} {N : Nat} (h : ps.all (fun p => Nat.ble (p + 1) N) = true) : ∀ p ∈ ps, p < N := fun p hp => Nat.le_of_ble_eq_true (List.all_eq_true.1 h p hp)
def dmark (b : Nat) : Deferred := { target := .collected b, args := #[] }
/-- The statement 'for .. := range g { .. }', outside a round. -/
theorem Tr.rangeF {X D E ι ιE μ κ : Type} {g : Operand} {ps : List Nat} {assign body : Code} {gf : Nat} {cap : List Value} {Q : SPost}
    {TM : D → ι → List Chunk} {TF : D → ι → List Fact} {EM : E → ιE → List Chunk} {EF : E → ιE → List Fact} {jmp : E → Code} {step : X → D → Option (D ⊕ E)} {encs : X → μ → List Value} {FX : X → μ → List Fact}
    {d0 : D} {m0 : ι} {x : D ⊕ E} {Mp Mr : List Chunk} {Fp : List Fact} {Mq : κ → List Chunk} {Fq : κ → List Fact} (ks jt jp : List Nat)
    (hg : ev s.L g = some (.func (.func gf) #[] cap.toArray)) (hen : entersOf P gf = true)
    (hn : ks.Nodup) (hM : ks.map (s.M[·]?) = (TM d0 m0 ++ (Mp ++ Mr)).map some) (hTF : jt.map (s.F[·]?) = (TF d0 m0).map some) (hF : jp.map (s.F[·]?) = Fp.map some)
    (hit : ∀ (l : Nat) (C : D ⊕ E → ι ⊕ ιE → Chunk), (∀ x xm σ m bo σ', yl step x σ = some (bo, σ') → YCtr P l (encs x xm) [C σ m] (FX x xm) (fun ret M' F' => ∃ m', ret = .bool bo ∧ M' = [C σ' m'] ∧ F' = [])) →
      Ctr P gf (.func (.yield l) #[] #[] :: cap) (C (.inl d0) (.inl m0) :: Mp) Fp (fun ret M' F' => ∃ m' k, M' = C x m' :: Mq k ∧ F' = Fq k))
    (hpn : ps.Nodup) (hpb : ∀ p ∈ ps, p < e.N) (hpl : ∀ x xm, (encs x xm).length = ps.length)
    (hbody : ∀ l bs1 γ1 w1 x xm d m y, step x d = some y →
      Tr P (some l) ⟨e.N, bs1, γ1, w1⟩ assign (qassign fun s' => ∀ bs2 γ2 w2, Tr P (some l) ⟨e.N, bs2, γ2, w2⟩ body (qround ⟨e.N, bs2, γ2, w2⟩ y TM TF EM EF jmp) s') ⟨ps.zip (encs x xm) ++ s.L, TM d m, TF d m ++ FX x xm, []⟩)
    (hcn : ∀ d m k b, x = .inl d → Q .normal ⟨s.L, objc b (.deferred (some [])) :: (TM d m ++ (Mq k ++ Mr)), s.F ++ (Fq k ++ TF d m), dmark b :: s.D⟩)
    (hcx : ∀ q m k b, x = .inr q → Tr P none e (jmp q) Q ⟨s.L, objc b (.deferred (some [])) :: (EM q m ++ (Mq k ++ Mr)), s.F ++ (Fq k ++ EF q m), dmark b :: s.D⟩) :
    Tr P none e (.rangeFunc g ps.toArray assign body) Q s := by
  intro γ a w hh0
  have hh : Holds e { s with M := TM d0 m0 ++ (Mp ++ Mr) } γ a w := { size := hh0.size, slots := hh0.slots, defers := hh0.defers, hm := hh0.hm.places hn hM, own := fun c hc => hh0.own c (mem_of_places hM c hc), facts := hh0.facts, fr := hh0.fr, ok := hh0.ok }
  refine wpIn_rangeFunc ?_
  intro fn hfn
  obtain ⟨rec, hrec⟩ : ∃ rec : LoopState → Option Code → Loop, rec = fun st pe => { state := st, pending := pe, fn := fn, tmps := a.tmps, params := ps.toArray, assign := assign, body := body, defers := w.heap.size } := ⟨_, rfl⟩
  have h1 := hh.newObj (.deferred (some [])) rfl
  have h2 := h1.newObj (.loop (rec .ready none)) rfl
  have hro : (fen none).round = none := rfl
  rw [hro]
  refine ⟨w.heap.size + 1, [dmark w.heap.size], (w.alloc (.deferred (some []))).alloc (.loop (rec .ready none)), { target := .fn (.func gf) cap.toArray, args := #[.func (.yield (w.heap.size + 1)) #[] #[]] }, (w.alloc (.deferred (some []))).alloc (.loop (rec .ready none)), gf,
    #[.func (.yield (w.heap.size + 1)) #[] #[]] ++ cap.toArray, (w.alloc (.deferred (some []))).alloc (.loop (rec .ready none)), ?_, ?_, ?_, ?_, fun hds => by simp [fen] at hds, ?_⟩
  · rw [hrec]; exact run_enterLoop_outer _ _ _ _ _
  · simp only [resolve, hh.eval hg]
    simp [go_sem]
  · intro f' _; exact fen_fn none f'
  · simp [invoke, go_sem, enters_run hen]
  · have hsz : (w.alloc (.deferred (some []))).heap.size = w.heap.size + 1 := by simp
    rw [hsz] at h2
    have hyield := round_of (P := P) (E := E) (ιE := ιE) (l := w.heap.size + 1) (b := w.heap.size) (N := e.N) (L := s.L) (EM := EM) (EF := EF) (jmp := jmp) hrec hh.size hh.slots hpn hpb hpl (hbody (w.heap.size + 1))
    have hctr := hit (w.heap.size + 1) (cfam (w.heap.size + 1) w.heap.size rec TM TF EM EF jmp) hyield
    have hin : Holds e { s with M := (cfam (w.heap.size + 1) w.heap.size rec TM TF EM EF jmp (.inl d0) (.inl m0) :: Mp) ++ Mr } γ a ((w.alloc (.deferred (some []))).alloc (.loop (rec .ready none))) :=
      { size := h2.size, slots := h2.slots, defers := h2.defers
        hm := bag_split.2 ⟨by simpa using h2.hm, fun f hf => h2.facts f (mem_of_places hTF f hf)⟩
        own := fun c hc b hb => by
          have hall : ∀ z, fpM (objc (w.heap.size + 1) (.loop (rec .ready none)) :: objc w.heap.size (.deferred (some [])) :: (TM d0 m0 ++ (Mp ++ Mr))) z → e.bs z ∨ e.w0.heap.size ≤ z := fun z ⟨c, hc, hz⟩ => h2.own c hc z hz
          refine hall b ?_
          have : fpM (bag _ _ :: (Mp ++ Mr)) b := ⟨c, hc, hb⟩
          rw [fpM_bag] at this
          simpa using this
        facts := h2.facts, fr := h2.fr, ok := h2.ok }
    have hsep := List.pairwise_append.1 hin.hm.sep
    have hmp : HM γ _ (cfam (w.heap.size + 1) w.heap.size rec TM TF EM EF jmp (.inl d0) (.inl m0) :: Mp) := ⟨fun c hc' => hin.hm.all c (List.mem_append_left _ hc'), hsep.1⟩
    have hcall := hctr γ _ hmp (fun g hg => hin.facts g (mem_of_places hF g hg)) hin.ok
    have eargs : (#[.func (.yield (w.heap.size + 1)) #[] #[]] ++ cap.toArray : Array Value) = (.func (.yield (w.heap.size + 1)) #[] #[] :: cap).toArray := by simp
    rw [eargs]
    refine (calls_any hcall none _).mono ?_
    intro en w' hl
    obtain ⟨ret, M', F', γ', rfl, ⟨m', k, rfl, rfl⟩, h3⟩ := hin.back (s := { s with M := (cfam (w.heap.size + 1) w.heap.size rec TM TF EM EF jmp (.inl d0) (.inl m0) :: Mp) ++ Mr }) rfl hl
    -- the loop's record is closed
    have fin : ∀ (st : LoopState) (pe : Option Code) (M3 : List Chunk) (F3 : List Fact), st ≠ .busy → cfam (w.heap.size + 1) w.heap.size rec TM TF EM EF jmp x m' = bag (objc (w.heap.size + 1) (.loop (rec st pe)) :: objc w.heap.size (.deferred (some [])) :: M3) F3 →
        ∃ w4, (Instr.endLoop (w.heap.size + 1)).run P w' = .ok pe w4 ∧ Holds e ⟨s.L, objc w.heap.size (.deferred (some [])) :: (M3 ++ (Mq k ++ Mr)), s.F ++ (Fq k ++ F3), dmark w.heap.size :: s.D⟩ γ' { a with defers := [dmark w.heap.size] ++ a.defers } w4 := by
      intro st pe M3 F3 hst hc
      have hm3 : HM γ' w' (cfam (w.heap.size + 1) w.heap.size rec TM TF EM EF jmp x m' :: (Mq k ++ Mr)) := by simpa using h3.hm
      rw [hc] at hm3
      have hm4 := bag_split.1 hm3
      have h4 : Holds e ⟨s.L, objc (w.heap.size + 1) (.loop (rec st pe)) :: (objc w.heap.size (.deferred (some [])) :: (M3 ++ (Mq k ++ Mr))), s.F ++ (Fq k ++ F3), dmark w.heap.size :: s.D⟩ γ' { a with defers := [dmark w.heap.size] ++ a.defers } w' :=
        { size := h3.size, slots := h3.slots, defers := by rw [← hh0.defers]; rfl
          hm := by simpa using hm4.1
          own := fun c hc' b hb => by
            have hall : ∀ z, fpM (cfam (w.heap.size + 1) w.heap.size rec TM TF EM EF jmp x m' :: (Mq k ++ Mr)) z → e.bs z ∨ e.w0.heap.size ≤ z := fun z ⟨c, hc, hz⟩ => h3.own c (by simpa using hc) z hz
            refine hall b ?_
            rw [hc, fpM_bag]
            exact ⟨c, by simpa using hc', hb⟩
          facts := fun f hf => by
            rcases List.mem_append.1 hf with q | q
            · exact h3.facts f (List.mem_append_left _ q)
            rcases List.mem_append.1 q with q | q
            · exact h3.facts f (List.mem_append_right _ q)
            · exact hm4.2 f q
          fr := h3.fr, ok := h3.ok }
      have hp := h4.hm.all _ List.mem_cons_self
      refine ⟨_, ?_, h4.dropObj rfl (.loop { rec st pe with state := .exhausted }) rfl⟩
      have := run_endLoop (P := P) hp.1 (by rw [hrec]; exact hst)
      rw [this, hrec]
    match x, m', fin, hcn, hcx, h3 with
    | .inl d, .inr m', _, _, _, h3 => exact (h3.hm.all _ List.mem_cons_self).elim
    | .inr q, .inl m', _, _, _, h3 => exact (h3.hm.all _ List.mem_cons_self).elim
    | .inl d, .inl m', fin, hcn, _, _ =>
      obtain ⟨w4, hr, h5⟩ := fin .ready none _ _ (by simp) rfl
      exact ⟨none, w4, hr, trivial, _, γ', hcn d m' k _ rfl, h5⟩
    | .inr q, .inr m', fin, _, hcx, _ =>
      obtain ⟨w4, hr, h5⟩ := fin .done (some (jmp q)) _ _ (by simp) rfl
      exact ⟨some (jmp q), w4, hr, hcx q m' k _ rfl γ' _ w4 h5⟩

/-- The end of a body in which loops over functions left their marks. -/
theorem ret_rm {rvs : List ResultVar} {R : Value → List Chunk → List Fact → Prop} (t : St) (vs : List Value) (M' X : List Chunk) (ds : List Nat) (hI : Imp e s t) (hD : t.D = ds.map dmark) (hM : t.M = (ds.map fun d => objc d (.deferred (some []))) ++ (M' ++ X)) (hR : R (ret1 vs) M' t.F) (hv : All2 (resV P e { t with M := M' ++ X, D := [] }) rvs vs) : qret e (retQ P e rvs R) .ret s :=
  ⟨t, hI, vs, M', t.F, ds, M' ++ X, hR, hv, hD, hM ▸ List.Perm.refl _, List.sublist_append_left _ _, fun _ h => h⟩
theorem ret_nm {rvs : List ResultVar} {R : Value → List Chunk → List Fact → Prop} (t : St) (vs : List Value) (M' X : List Chunk) (ds : List Nat) (hI : Imp e s t) (hD : t.D = ds.map dmark) (hM : t.M = (ds.map fun d => objc d (.deferred (some []))) ++ (M' ++ X)) (hR : R (ret1 vs) M' t.F) (hv : All2 (resV P e { t with M := M' ++ X, D := [] }) rvs vs) : qret e (retQ P e rvs R) .normal s :=
  ⟨t, hI, vs, M', t.F, ds, M' ++ X, hR, hv, hD, hM ▸ List.Perm.refl _, List.sublist_append_left _ _, fun _ h => h⟩
theorem Ctr.mono {f : FuncId} {args : List Value} {M : List Chunk} {F : List Fact} {R R' : Value → List Chunk → List Fact → Prop} (h : Ctr P f args M F R) (hR : ∀ ret M' F', R ret M' F' → R' ret M' F') : Ctr P f args M F R' :=
  fun γ w hm hF hok => (h γ w hm hF hok).mono fun en w' ⟨ret, M', F', γ', h1, h2, h3⟩ => ⟨ret, M', F', γ', h1, hR _ _ _ h2, h3⟩
end
end Go.Proofs.Ythgeodagikmpjaa.L
