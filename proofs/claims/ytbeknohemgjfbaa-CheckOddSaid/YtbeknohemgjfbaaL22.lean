/- A range over a function: what yield does to what the body owns; the function's contract; the statement. Bits of numbers; bytes as a string; strings that are compared. Slices that are owned whole: made, stored into, copied into, cut, sealed; texts as bytes; pointers that are compared with nil. Copies into owned slices; texts as bytes; pointers and nil; parts of slices with an end to their room. Literal slices that are owned; bytes that are converted to bytes (they are marked); cap of none. Owned slices that grow; owned slices of slices: their elements read and laid. Elements with slices in them: structs as elements of slices, read and laid. Maps whose keys are known where they are laid; functions that are compared with nil. -/
import Derived.Test.YtbeknohemgjfbaaL14
import Derived.RangeFuncIn
import Derived.RangeFuncRecord
import Derived.Laws.BytesArg
import Derived.Laws.Strings
import Derived.Laws.MakeOwn
import Derived.Laws.CopyRow
import Derived.Laws.IdiomCopy
import Derived.Laws.IdiomStrings
import Derived.MapKept
namespace Go.Proofs.Ytbeknohemgjfbaa.L
open Go Go.Proofs.Ytbeknohemgjfbaa.Pu
set_option linter.unusedVariables false

/-- Pieces of memory and facts as one piece. -/
def bag (M : List Chunk) (F : List Fact) : Chunk where
  fp := fpM M
  p γ w := HM γ w M ∧ ∀ f ∈ F, f.p γ w
  lt := fun ⟨h, _⟩ ⟨c, hc, hb⟩ => c.lt (h.all c hc) hb
  stable := fun hs hle ⟨h, hf⟩ => ⟨⟨fun c hc => c.stable (fun b hb => hs b ⟨c, hc, hb⟩) hle (h.all c hc), h.sep⟩, fun f hf' => f.mono hle (hf f hf')⟩
/-- No piece. -/
def noc : Chunk := ⟨fun _ => False, fun _ _ => False, fun h => h.elim, fun _ _ h => h⟩

section
variable {P : Program} {r : Option Nat} {e : Env} {o : Oper} {Kn : St → Prop} {s : St} {γ γ' : Gh} {w w' : World} {a : Act}

theorem bag_split {M N : List Chunk} {F : List Fact} : HM γ w (bag M F :: N) ↔ HM γ w (M ++ N) ∧ ∀ f ∈ F, f.p γ w := by
  constructor
  · rintro ⟨h1, h2⟩
    have hb := h1 _ List.mem_cons_self
    have hs := List.pairwise_cons.1 h2
    refine ⟨⟨fun c hc => ?_, List.pairwise_append.2 ⟨hb.1.sep, hs.2, fun c hc d hd b hb' hdb => hs.1 d hd b ⟨c, hc, hb'⟩ hdb⟩⟩, hb.2⟩
    rcases List.mem_append.1 hc with q | q
    · exact hb.1.all c q
    · exact h1 c (List.mem_cons_of_mem _ q)
  · rintro ⟨⟨h1, h2⟩, hf⟩
    have hs := List.pairwise_append.1 h2
    refine ⟨fun c hc => ?_, List.pairwise_cons.2 ⟨fun d hd b ⟨c, hc, hcb⟩ hdb => hs.2.2 c hc d hd b hcb hdb, hs.2.1⟩⟩
    rcases List.mem_cons.1 hc with q | q
    · subst q; exact ⟨⟨fun c hc => h1 c (List.mem_append_left _ hc), hs.1⟩, hf⟩
    · exact h1 c (List.mem_append_right _ q)
theorem fpM_cons {c : Chunk} {M : List Chunk} {b : Nat} : fpM (c :: M) b ↔ c.fp b ∨ fpM M b := by
  constructor
  · rintro ⟨d, hd, hb⟩
    rcases List.mem_cons.1 hd with q | q
    · subst q; exact .inl hb
    · exact .inr ⟨d, q, hb⟩
  · rintro (q | ⟨d, hd, hb⟩)
    · exact ⟨c, List.mem_cons_self, q⟩
    · exact ⟨d, List.mem_cons_of_mem _ hd, hb⟩
theorem fpM_app {M N : List Chunk} {b : Nat} : fpM (M ++ N) b ↔ fpM M b ∨ fpM N b := by
  constructor
  · rintro ⟨d, hd, hb⟩
    rcases List.mem_append.1 hd with q | q
    · exact .inl ⟨d, q, hb⟩
    · exact .inr ⟨d, q, hb⟩
  · rintro (⟨d, hd, hb⟩ | ⟨d, hd, hb⟩)
    · exact ⟨d, List.mem_append_left _ hd, hb⟩
    · exact ⟨d, List.mem_append_right _ hd, hb⟩
theorem fpM_bag {M N : List Chunk} {F : List Fact} {b : Nat} : fpM (bag M F :: N) b ↔ fpM (M ++ N) b := by
  rw [fpM_cons, fpM_app]; rfl

/-- What a callee, or a round, leaves. -/
def Left (R : Value → List Chunk → List Fact → Prop) (M : List Chunk) (γ : Gh) (w : World) (en : Ending) (w' : World) : Prop :=
  ∃ ret M' F' γ', en = .returned ret ∧ R ret M' F' ∧ HM γ' w' M' ∧ (∀ g ∈ F', g.p γ' w') ∧
    (∀ c ∈ M', ∀ b, c.fp b → fpM M b ∨ w.heap.size ≤ b) ∧ Fr (fpM M) γ w γ' w' ∧ GhOk γ' w'
/-- The contract of yield, in whatever frame it is called. -/
def YCtr (P : Program) (l : Nat) (args : List Value) (M : List Chunk) (F : List Fact) (R : Value → List Chunk → List Fact → Prop) : Prop :=
  ∀ r γ w, HM γ w M → (∀ g ∈ F, g.p γ w) → GhOk γ w → YieldAt (fen r) 0 P l args.toArray w (Left R M γ w)

/-- Behind a callee that was handed the chunks Mp. -/
theorem Holds.back {R : Value → List Chunk → List Fact → Prop} {Mp Mr : List Chunk} {en : Ending} (hh : Holds e s γ a w) (hM : s.M = Mp ++ Mr) (h : Left R Mp γ w en w') :
    ∃ ret M' F' γ', en = .returned ret ∧ R ret M' F' ∧ Holds e { s with M := M' ++ Mr, F := s.F ++ F' } γ' a w' := by
  obtain ⟨ret, M', F', γ', rfl, hR, hM', hF', hfp, hfr, hok'⟩ := h
  refine ⟨ret, M', F', γ', rfl, hR, ?_⟩
  have hm0 := hh.hm
  rw [hM] at hm0
  have hsep := List.pairwise_append.1 hm0.sep
  have hmr : HM γ w Mr := ⟨fun c hc' => hm0.all c (List.mem_append_right _ hc'), hsep.2.1⟩
  have hX : ∀ b, fpM Mp b → e.bs b ∨ e.w0.heap.size ≤ b := fun b ⟨c, hc1, hc2⟩ => hh.own c (by rw [hM]; exact List.mem_append_left _ hc1) b hc2
  have hmr' : HM γ' w' Mr := hmr.keep hfr (fun c hc' b hb ⟨d, hd1, hd2⟩ => hsep.2.2 d hd1 c hc' b hd2 hb)
  have hsz : e.w0.heap.size ≤ w.heap.size := hh.fr.le.size
  have hall : HM γ' w' (M' ++ Mr) := hM'.append_of hmr' (fun c hc1 d hd1 b hb hdb => by
    rcases hfp c hc1 b hb with ⟨q, hq1, hq2⟩ | q
    · exact hsep.2.2 q hq1 d hd1 b hq2 hdb
    · have := d.lt (hmr.all d hd1) hdb; omega)
  have hown : ∀ c ∈ M' ++ Mr, ∀ b, c.fp b → e.bs b ∨ e.w0.heap.size ≤ b := fun c hc1 b hb => by
    rcases List.mem_append.1 hc1 with q | q
    · rcases hfp c q b hb with q' | q'
      · exact hX b q'
      · exact .inr (by omega)
    · exact hh.own c (by rw [hM]; exact List.mem_append_right _ q) b hb
  have hst := hh.step (M' := M' ++ Mr) hfr hX hall hown hok'
  exact { size := hst.size, slots := hst.slots, defers := hst.defers, hm := hst.hm, own := hst.own, fr := hst.fr, ok := hst.ok
          facts := fun g hg => by rcases List.mem_append.1 hg with q | q; exact hst.facts g q; exact hF' g q }

theorem v_indexStr' {T : TypeId} {x y : Operand} {kd : IntKind} {i z : Int} {str : ByteArray} (hop : o.op = .index T x y) (hT : P.underlying T = some .string) (hx : ev s.L x = some (.string str)) (hy : ev s.L y = some (.int kd i)) (hz : rdb str i = some z) : OpV P e o s (.int .u8 z) := by
  obtain ⟨h0, c, h1, rfl⟩ := rdb_some hz
  exact v_indexStr hop hT hx hy h0 h1
/-- A call of yield. -/
theorem op_yield {l : Nat} {fo : Operand} {xs : List Operand} {tys : Array TypeId} {vs : List Value} {Mp Mr : List Chunk} {Fp : List Fact} {R : Value → List Chunk → List Fact → Prop} (ks rs js : List Nat) (hop : o.op = .call { callee := .value fo, args := xs.toArray, argTypes := tys })
    (hf : ev s.L fo = some (.func (.yield l) #[] #[])) (hxs : xs.map (ev s.L) = vs.map some) (hc : YCtr P l vs Mp Fp R) (hn : (ks ++ rs).Nodup) (hM : (ks ++ rs).map (s.M[·]?) = (Mp ++ Mr).map some) (hF : js.map (s.F[·]?) = Fp.map some) {d : Nat} (ho : o.dst = some d) (hN : d < e.N)
    (h : ∀ ret M' F', R ret M' F' → Kn ((s.cc (M' ++ Mr) F').put d ret)) : OpTr P r e o Kn s := by
  intro γ a w hh K Q hK
  refine ⟨fun f _ => fen_fn r f, ?_⟩
  have hh' : Holds e { s with M := Mp ++ Mr } γ a w := { size := hh.size, slots := hh.slots, defers := hh.defers, hm := hh.hm.places hn hM, own := fun c hc => hh.own c (mem_of_places hM c hc), facts := hh.facts, fr := hh.fr, ok := hh.ok }
  have hsep := List.pairwise_append.1 hh'.hm.sep
  have hmp : HM γ w Mp := ⟨fun c hc' => hh'.hm.all c (List.mem_append_left _ hc'), hsep.1⟩
  obtain ⟨fn, tmps, assign, body, hy, hr⟩ := hc r γ w hmp (fun g hg => hh.facts g (mem_of_places hF g hg)) hh.ok
  have hargs : (xs.toArray.map a.eval) = vs.toArray := by rw [List.map_toArray, evs_eval hh hxs]
  have hrun : (execOp a.eval o).run P w = .ok (.round l fn tmps assign body) w := by
    simp only [execOp, hop, resolve, hh.eval hf, Deferred.ofValue, Sem.run_bind, Sem.run_pure, Result.andThen, hargs, invoke]
    simpa using hy
  rw [semAt_eq _ _ _ (by rw [hop]; intro c; simp), hrun, Oper.uponIn_round]
  refine ⟨fun hds => by simp [fen] at hds, hr.mono ?_⟩
  intro en w' hl
  obtain ⟨ret, M', F', γ', rfl, hR, h2⟩ := hh'.back rfl hl
  simp only [ho]
  exact hK _ γ' _ _ (h ret M' F' hR) (h2.put d ret hN)

/-- A block that is no row of cells is laid. -/
theorem Holds.newObj (h : Holds e s γ a w) (ob : Obj) (hc : ob.isCells = false) : Holds e { s with M := objc w.heap.size ob :: s.M } γ a (w.alloc ob) := by
  have fr : Fr (fun _ => False) γ w γ (w.alloc ob) :=
    { le := ⟨by simp, fun b => Nat.le_refl _, fun b j hj => by
        have : b < w.heap.size := by
          rcases Nat.lt_or_ge b w.heap.size with q | q
          · exact q
          · rw [h.ok b q] at hj; omega
        exact World.cell?_alloc_lt w _ _ this⟩
      os := rfl, tape := rfl, output := rfl
      block := fun b hb _ => by simp only [World.alloc, Array.getElem?_push]; rw [if_neg (by omega)]
      gh := fun _ _ _ => rfl }
  have hsz : e.w0.heap.size ≤ w.heap.size := h.fr.le.size
  refine h.step fr (fun b hb => hb.elim) ?_ ?_ ?_
  · refine (h.hm.keep fr (fun _ _ _ _ q => q)).cons ⟨World.alloc_heap_new w ob, hc, h.ok _ (Nat.le_refl _)⟩ ?_
    intro d hd b hb hdb
    have : b = w.heap.size := hb
    have := d.lt (h.hm.all d hd) hdb
    omega
  · intro c hc b hb
    rcases List.mem_cons.1 hc with q | q
    · subst q
      have : b = w.heap.size := hb
      exact .inr (by omega)
    · exact h.own c q b hb
  · have := h.ok.alloc ob 0
    rwa [upd_self_ok h.ok] at this

/-- The head's block becomes another one, and is no longer spoken of. -/
theorem Holds.dropObj {l : Nat} {o1 : Obj} {M : List Chunk} (h : Holds e s γ a w) (hM : s.M = objc l o1 :: M) (o2 : Obj) (h2 : o2.isCells = false) : Holds e { s with M := M } γ a (w.putObj l o2) := by
  have hm0 := h.hm
  rw [hM] at hm0
  have hp := hm0.all _ List.mem_cons_self
  have hs := List.pairwise_cons.1 hm0.sep
  have fr : Fr (· = l) γ w γ (w.putObj l o2) := Fr.putObj hp h2
  refine h.step fr (fun b hb => h.own _ (by rw [hM]; exact List.mem_cons_self) b hb) ?_ (fun c hc => h.own c (by rw [hM]; exact List.mem_cons_of_mem _ hc)) (h.ok.size (by simp))
  have h0 : HM γ w M := ⟨fun c hc => hm0.all c (List.mem_cons_of_mem _ hc), hs.2⟩
  exact h0.keep fr (fun c hc b hb hbd => hs.1 c hc b hbd hb)

theorem zipL_lookup : ∀ (ps : List Nat) (vs : List Value) (L : List (Nat × Value)) (i : Nat), ((ps.zip vs) ++ L).lookup i = ((ps.zip vs).lookup i).or (L.lookup i) := by
  intro ps
  induction ps with
  | nil => intro vs L i; simp
  | cons p ps ih =>
    intro vs L i
    cases vs with
    | nil => simp
    | cons v vs =>
      simp only [List.zip_cons_cons, List.cons_append, List.lookup_cons]
      split
      · rfl
      · exact ih vs L i
theorem zip_not : ∀ (ps : List Nat) (vs : List Value) (i : Nat), i ∉ ps → (ps.zip vs).lookup i = none := by
  intro ps
  induction ps with
  | nil => intro vs i _; simp
  | cons p ps ih =>
    intro vs i hi
    cases vs with
    | nil => simp
    | cons v vs =>
      simp only [List.mem_cons, not_or] at hi
      simp only [List.zip_cons_cons, List.lookup_cons]
      rw [beq_eq_false_iff_ne.2 hi.1]
      exact ih vs i hi.2
theorem fold_get : ∀ (ps : List Nat) (vs : List Value) (t : Array Value) (i : Nat) (v : Value), ps.Nodup → (∀ p ∈ ps, p < t.size) →
    (((ps.zip vs).lookup i).or t[i]?) = some v → ((ps.zip vs).foldl (fun tmps (q : Nat × Value) => tmps.setIfInBounds q.1 q.2) t)[i]? = some v := by
  intro ps
  induction ps with
  | nil => intro vs t i v _ _ h; simpa using h
  | cons p ps ih =>
    intro vs t i v hn hb h
    cases vs with
    | nil => simpa using h
    | cons u vs =>
      simp only [List.zip_cons_cons, List.foldl_cons]
      have hn' := List.nodup_cons.1 hn
      refine ih vs _ i v hn'.2 (fun q hq => by rw [Array.size_setIfInBounds]; exact hb q (List.mem_cons_of_mem _ hq)) ?_
      simp only [List.zip_cons_cons, List.lookup_cons] at h
      by_cases hip : i = p
      · subst hip
        rw [zip_not _ _ _ hn'.1]
        simp only [beq_self_eq_true] at h
        rw [Option.none_or, Array.getElem?_setIfInBounds_self_of_lt (hb i List.mem_cons_self)]
        exact h
      · rw [beq_eq_false_iff_ne.2 hip] at h
        rw [Array.getElem?_setIfInBounds_ne (Ne.symm hip)]
        exact h
theorem fold_size : ∀ (l : List (Nat × Value)) (t : Array Value), (l.foldl (fun tmps (q : Nat × Value) => tmps.setIfInBounds q.1 q.2) t).size = t.size := by
  intro l
  induction l with
  | nil => intro t; rfl
  | cons q l ih => intro t; rw [List.foldl_cons, ih, Array.size_setIfInBounds]

/-- How a round ends: the body goes on, or leaves. -/
def qround {D E ι ιE : Type} (e : Env) (y : D ⊕ E) (TM : D → ι → List Chunk) (TF : D → ι → List Fact) (EM : E → ιE → List Chunk) (EF : E → ιE → List Fact) (jmp : E → Code) : SPost
  | .normal, s => ∃ d m, y = .inl d ∧ Imp e s ⟨[], TM d m, TF d m, []⟩
  | .ret, s => ∃ q m, y = .inr q ∧ jmp q = .ret ∧ Imp e s ⟨[], EM q m, EF q m, []⟩
  | .exit i, s => ∃ q m, y = .inr q ∧ jmp q = .exit i ∧ Imp e s ⟨[], EM q m, EF q m, []⟩
  | _, _ => False
/-- Behind the assignments to the loop's variables. -/
def qassign (K : St → Prop) : SPost
  | .normal, s => s.D = [] ∧ K s
  | _, _ => False

/-- The memory between two rounds. -/
def cfam {D E ι ιE : Type} (l b : Nat) (rec : LoopState → Option Code → Loop) (TM : D → ι → List Chunk) (TF : D → ι → List Fact) (EM : E → ιE → List Chunk) (EF : E → ιE → List Fact) (jmp : E → Code) : D ⊕ E → ι ⊕ ιE → Chunk
  | .inl d, .inl m => bag (objc l (.loop (rec .ready none)) :: objc b (.deferred (some [])) :: TM d m) (TF d m)
  | .inr q, .inr m => bag (objc l (.loop (rec .done (some (jmp q)))) :: objc b (.deferred (some [])) :: EM q m) (EF q m)
  | _, _ => noc

/-- One round, as yield's caller sees it. -/
theorem round_of {X D E ι ιE μ : Type} {l b N : Nat} {fn : FuncId} {tmps : Array Value} {ps : List Nat} {assign body : Code} {rec : LoopState → Option Code → Loop} {df : Nat} {L : List (Nat × Value)} (hrec : rec = fun st pe => { state := st, pending := pe, fn := fn, tmps := tmps, params := ps.toArray, assign := assign, body := body, defers := df })
    {TM : D → ι → List Chunk} {TF : D → ι → List Fact} {EM : E → ιE → List Chunk} {EF : E → ιE → List Fact} {jmp : E → Code} {step : X → D → Option (D ⊕ E)} {encs : X → μ → List Value} {FX : X → μ → List Fact}
    (hN : tmps.size = N) (hL : ∀ i v, L.lookup i = some v → tmps[i]? = some v) (hpn : ps.Nodup) (hpb : ∀ p ∈ ps, p < N) (hpl : ∀ x xm, (encs x xm).length = ps.length)
    (hbody : ∀ bs1 γ1 w1 x xm d m y, step x d = some y →
      Tr P (some l) ⟨N, bs1, γ1, w1⟩ assign (qassign fun s' => ∀ bs2 γ2 w2, Tr P (some l) ⟨N, bs2, γ2, w2⟩ body (qround ⟨N, bs2, γ2, w2⟩ y TM TF EM EF jmp) s') ⟨ps.zip (encs x xm) ++ L, TM d m, TF d m ++ FX x xm, []⟩)
    (x : X) (xm : μ) (σ : D ⊕ E) (m : ι ⊕ ιE) (bo : Bool) (σ' : D ⊕ E) (hst : yl step x σ = some (bo, σ')) :
    YCtr P l (encs x xm) [cfam l b rec TM TF EM EF jmp σ m] (FX x xm) (fun ret M' F' => ∃ m', ret = .bool bo ∧ M' = [cfam l b rec TM TF EM EF jmp σ' m'] ∧ F' = []) := by
  intro r γ w hm hFX hok
  match σ, m, hst, hm with
  | .inr q, _, hst, _ => simp [yl] at hst
  | .inl d, .inr m, _, hm => exact (hm.all _ List.mem_cons_self).elim
  | .inl d, .inl m, hst, hm =>
  obtain ⟨y, hy, hyb⟩ : ∃ y, step x d = some y ∧ (match y with | .inl d' => (true, .inl d') | .inr q => (false, .inr q) : Bool × (D ⊕ E)) = (bo, σ') := by
    simp only [yl, Option.map_eq_some_iff] at hst
    obtain ⟨y, h1, h2⟩ := hst
    exact ⟨y, h1, by cases y <;> exact h2⟩
  have hm1 := bag_split.1 hm
  rw [List.append_nil] at hm1
  obtain ⟨hm2, hTF⟩ := hm1
  have hsl := List.pairwise_cons.1 hm2.sep
  have hsb := List.pairwise_cons.1 hsl.2
  have hl : (objc l (.loop (rec .ready none))).p γ w := hm2.all _ (by simp)
  have hb : (objc b (.deferred (some []))).p γ w := hm2.all _ (by simp)
  have hmT : HM γ w (TM d m) := ⟨fun c hc => hm2.all c (by simp [hc]), hsb.2⟩
  have hlT : ¬ fpM (TM d m) l := fun ⟨c, hc, hcl⟩ => hsl.1 c (by simp [hc]) l rfl hcl
  have hbT : ¬ fpM (TM d m) b := fun ⟨c, hc, hcl⟩ => hsb.1 c hc b rfl hcl
  have hlb : l ≠ b := fun q => hsl.1 _ List.mem_cons_self l rfl q
  have hllt : l < w.heap.size := (Array.getElem?_eq_some_iff.1 hl.1).1
  have hblt : b < w.heap.size := (Array.getElem?_eq_some_iff.1 hb.1).1
  have hyr := run_yield (P := P) (args := (encs x xm).toArray) hl.1 (by rw [hrec]; simpa using hpl x xm)
  rw [hrec] at hyr
  refine ⟨fn, _, assign, body, hyr, roundIn_of_wpIn (fen_fn r fn) ?_⟩
  have etm : (ps.toArray.zip (encs x xm).toArray).foldl (fun t (q : Nat × Value) => t.setIfInBounds q.1 q.2) tmps = (ps.zip (encs x xm)).foldl (fun t (q : Nat × Value) => t.setIfInBounds q.1 q.2) tmps := by
    rw [List.zip_toArray]; simp
  have hh : Holds ⟨N, fpM (TM d m), γ, w⟩ ⟨ps.zip (encs x xm) ++ L, TM d m, TF d m ++ FX x xm, []⟩ γ { tmps := (ps.toArray.zip (encs x xm).toArray).foldl (fun t (q : Nat × Value) => t.setIfInBounds q.1 q.2) tmps, defers := [] } w :=
    { size := by rw [etm]; exact (fold_size _ _).trans hN
      slots := fun i v hi => by
        rw [etm]
        refine fold_get ps _ _ i v hpn (fun p hp => by rw [hN]; exact hpb p hp) ?_
        simp only at hi
        rw [zipL_lookup] at hi
        cases hz : (ps.zip (encs x xm)).lookup i with
        | some u => rw [hz] at hi; exact hi
        | none => rw [hz] at hi; rw [Option.none_or] at hi ⊢; exact hL i v hi
      defers := rfl
      hm := hmT
      own := fun c hc b hb => .inl ⟨c, hc, hb⟩
      facts := fun f hf => by rcases List.mem_append.1 hf with q | q; exact hTF f q; exact hFX f q
      fr := Fr.refl _ _ _
      ok := hok }
  have key : ∀ γ1 a1 w1 s1, Holds ⟨N, fpM (TM d m), γ, w⟩ s1 γ1 a1 w1 → s1.D = [] → (∀ bs2 γ2 w2, Tr P (some l) ⟨N, bs2, γ2, w2⟩ body (qround ⟨N, bs2, γ2, w2⟩ y TM TF EM EF jmp) s1) →
      ∃ w2, (Instr.beginRound l).run P w1 = .ok () w2 ∧ body.wpIn (fen (some l)) 0 P (roundPost P l (Left (fun ret M' F' => ∃ m', ret = .bool bo ∧ M' = [cfam l b rec TM TF EM EF jmp σ' m'] ∧ F' = []) [cfam l b rec TM TF EM EF jmp (.inl d) (.inl m)] γ w)) a1 w2 := by
    intro γ1 a1 w1 s1 h1 hD hb2
    have hl1 : w1.heap[l]? = some (.loop (rec .ready none)) := (h1.fr.block l hllt hlT).trans hl.1
    have hg1 : γ1 l = 0 := (h1.fr.gh l hllt hlT).trans hl.2.2
    have hb1 : w1.heap[b]? = some (.deferred (some [])) := (h1.fr.block b hblt hbT).trans hb.1
    have hp1 : (objc l (.loop (rec .ready none))).p γ1 w1 := ⟨hl1, rfl, hg1⟩
    refine ⟨_, run_beginRound hl1 (by rw [hrec]), ?_⟩
    have fr12 : Fr (· = l) γ1 w1 γ1 (w1.putObj l (.loop { rec .ready none with state := .busy })) := Fr.putObj hp1 rfl
    have hnl : ∀ c ∈ s1.M, ∀ x, c.fp x → ¬ x = l := fun c hc x hx hxl => by
      subst hxl
      rcases h1.own c hc x hx with q | q
      · exact hlT q
      · simp only at q; omega
    have h2 : Holds ⟨N, fun x => fpM (TM d m) x ∨ w.heap.size ≤ x, γ1, w1.putObj l (.loop { rec .ready none with state := .busy })⟩ s1 γ1 a1 (w1.putObj l (.loop { rec .ready none with state := .busy })) :=
      { size := h1.size, slots := h1.slots, defers := h1.defers
        hm := h1.hm.keep fr12 hnl
        own := fun c hc x hx => .inl (h1.own c hc x hx)
        facts := fun f hf => f.mono fr12.le (h1.facts f hf)
        fr := Fr.refl _ _ _
        ok := h1.ok.size (by simp) }
    have hsz1 : w.heap.size ≤ w1.heap.size := h1.fr.le.size
    have hbe : ¬ (fpM (TM d m) l ∨ w.heap.size ≤ l) := fun q => q.elim hlT (by omega)
    have hbb : ¬ (fpM (TM d m) b ∨ w.heap.size ≤ b) := fun q => q.elim hbT (by omega)
    -- the round's end
    have fin : ∀ (jump : Option Code) (γ3 : Gh) (a3 : Act) (w3 : World) (s3 : St) (M3 : List Chunk) (F3 : List Fact) (bo' : Bool) (σ3 : D ⊕ E) (m3 : ι ⊕ ιE), bo' = jump.isNone →
        cfam l b rec TM TF EM EF jmp σ3 m3 = bag (objc l (.loop (rec (if jump.isNone then .ready else .done) jump)) :: objc b (.deferred (some [])) :: M3) F3 → (bo', σ3) = (bo, σ') →
        Holds ⟨N, fun x => fpM (TM d m) x ∨ w.heap.size ≤ x, γ1, w1.putObj l (.loop { rec .ready none with state := .busy })⟩ ⟨[], M3, F3, []⟩ γ3 a3 w3 →
        ∃ v w4, (Instr.endRound l jump).run P w3 = .ok v w4 ∧ Left (fun ret M' F' => ∃ m', ret = .bool bo ∧ M' = [cfam l b rec TM TF EM EF jmp σ' m'] ∧ F' = []) [cfam l b rec TM TF EM EF jmp (.inl d) (.inl m)] γ w (.returned v) w4 := by
      intro jump γ3 a3 w3 s3 M3 F3 bo' σ3 m3 hbo hc3 hbs h3
      cases hbs
      have hl2 : (w1.putObj l (.loop { rec .ready none with state := .busy })).heap[l]? = some (.loop { rec .ready none with state := .busy }) := World.putObj_heap_same (by omega)
      have hb2 : (w1.putObj l (.loop { rec .ready none with state := .busy })).heap[b]? = some (.deferred (some [])) := (World.putObj_heap_other (Ne.symm hlb)).trans hb1
      have hl3 : w3.heap[l]? = some (.loop { rec .ready none with state := .busy }) := (h3.fr.block l (by simp only [World.putObj_size]; omega) hbe).trans hl2
      have hb3 : w3.heap[b]? = some (.deferred (some [])) := (h3.fr.block b (by simp only [World.putObj_size]; omega) hbb).trans hb2
      have hg3 : γ3 l = 0 := (h3.fr.gh l (by simp only [World.putObj_size]; omega) hbe).trans hg1
      have hgb3 : γ3 b = 0 := (h3.fr.gh b (by simp only [World.putObj_size]; omega) hbb).trans ((h1.fr.gh b hblt hbT).trans hb.2.2)
      have hr := run_endRound (P := P) jump hl3
      have erec : ({ ({ rec .ready none with state := .busy } : Loop) with state := if jump.isNone then .ready else .done, pending := jump } : Loop) = rec (if jump.isNone then .ready else .done) jump := by rw [hrec]
      rw [erec] at hr
      have hp3 : (objc l (.loop { rec .ready none with state := .busy })).p γ3 w3 := ⟨hl3, rfl, hg3⟩
      have fr34 : Fr (· = l) γ3 w3 γ3 (w3.putObj l (.loop (rec (if jump.isNone then .ready else .done) jump))) := Fr.putObj hp3 rfl
      have hnl3 : ∀ c ∈ M3, ∀ x, c.fp x → ¬ x = l := fun c hc x hx hxl => by
        subst hxl
        rcases h3.own c hc x hx with q | q
        · exact hbe q
        · simp only [World.putObj_size] at q; omega
      have hnb3 : ∀ c ∈ M3, ∀ x, c.fp x → ¬ x = b := fun c hc x hx hxl => by
        subst hxl
        rcases h3.own c hc x hx with q | q
        · exact hbb q
        · simp only [World.putObj_size] at q; omega
      refine ⟨_, _, hr, .bool jump.isNone, [cfam l b rec TM TF EM EF jmp σ' m3], [], γ3, rfl, ⟨m3, by rw [hbo], rfl, rfl⟩, ?_, by simp, ?_, ?_, h3.ok.size (by simp)⟩
      · rw [hc3, bag_split, List.append_nil]
        refine ⟨?_, fun f hf => f.mono fr34.le (h3.facts f hf)⟩
        refine HM.cons (HM.cons (h3.hm.keep fr34 hnl3) ⟨(World.putObj_heap_other (Ne.symm hlb)).trans hb3, rfl, hgb3⟩ (fun c hc x hx => fun hcx => hnb3 c hc x hcx hx)) (objc_put hp3 rfl) ?_
        intro c hc x hx hcx
        rcases List.mem_cons.1 hc with q | q
        · subst q; exact hlb (hx.symm.trans hcx)
        · exact hnl3 c q x hcx hx
      · intro c hc x hx
        rw [List.mem_singleton] at hc
        subst hc
        rw [hc3] at hx
        have hin : ∀ z, (z = l ∨ z = b ∨ fpM (TM d m) z) → fpM [cfam l b rec TM TF EM EF jmp (.inl d) (.inl m)] z := fun z hz => by
          show fpM (bag _ _ :: []) z
          rw [fpM_bag, List.append_nil, fpM_cons, fpM_cons]
          exact hz
        rcases fpM_cons.1 hx with q | q
        · exact .inl (hin x (.inl q))
        rcases fpM_cons.1 q with q | q
        · exact .inl (hin x (.inr (.inl q)))
        obtain ⟨c, hc, hcx⟩ := q
        rcases h3.own c hc x hcx with (q | q) | q
        · exact .inl (hin x (.inr (.inr q)))
        · exact .inr q
        · simp only [World.putObj_size] at q; exact .inr (by omega)
      · have hin : ∀ z, (z = l ∨ z = b ∨ fpM (TM d m) z) → fpM [cfam l b rec TM TF EM EF jmp (.inl d) (.inl m)] z := fun z hz => by
          show fpM (bag _ _ :: []) z
          rw [fpM_bag, List.append_nil, fpM_cons, fpM_cons]
          exact hz
        have f1 : Fr (fpM [cfam l b rec TM TF EM EF jmp (.inl d) (.inl m)]) γ w γ1 w1 := (Fr.refl _ γ w).trans h1.fr (fun z _ hz => hin z (.inr (.inr hz)))
        have f2 := f1.trans fr12 (fun z _ hz => hin z (.inl hz))
        have f3 := f2.trans h3.fr (fun z hz hq => hq.elim (fun q => hin z (.inr (.inr q))) (fun q => by omega))
        exact f3.trans fr34 (fun z _ hz => hin z (.inl hz))
    refine wpIn_mono (hb2 _ _ _ γ1 a1 _ h2) ?_
    rintro ex a3 w3 ⟨hf, s3, γ3, q, h3⟩
    cases ex with
    | normal =>
      obtain ⟨d3, m3, rfl, hi⟩ := q
      exact fin none γ3 a3 w3 s3 _ _ true (.inl d3) (.inl m3) rfl rfl hyb (hi _ _ _ h3)
    | ret =>
      obtain ⟨q3, m3, rfl, hj, hi⟩ := q
      exact fin (some .ret) γ3 a3 w3 s3 _ _ false (.inr q3) (.inr m3) rfl (by simp only [cfam, hj]; rfl) hyb (hi _ _ _ h3)
    | exit i =>
      obtain ⟨q3, m3, rfl, hj, hi⟩ := q
      exact fin (some (.exit i)) γ3 a3 w3 s3 _ _ false (.inr q3) (.inr m3) rfl (by simp only [cfam, hj]; rfl) hyb (hi _ _ _ h3)
    | goto i => exact q.elim
    | panic ch => exact q.elim
    | outgrown => exact q.elim
  have hasg : assign.wpIn (fen (some l)) 0 P (fun ex a1 w1 => ex = .normal ∧ ∃ s1 γ1, Holds ⟨N, fpM (TM d m), γ, w⟩ s1 γ1 a1 w1 ∧ s1.D = [] ∧ ∀ bs2 γ2 w2, Tr P (some l) ⟨N, bs2, γ2, w2⟩ body (qround ⟨N, bs2, γ2, w2⟩ y TM TF EM EF jmp) s1) { tmps := (ps.toArray.zip (encs x xm).toArray).foldl (fun t (q : Nat × Value) => t.setIfInBounds q.1 q.2) tmps, defers := [] } w := by
    refine wpIn_mono (hbody (fpM (TM d m)) γ w x xm d m y hy γ _ w hh) ?_
    rintro ex a1 w1 ⟨hf, s1, γ1, q, h1⟩
    cases ex with
    | normal => exact ⟨rfl, s1, γ1, h1, q.1, q.2⟩
    | ret => exact q.elim
    | exit i => exact q.elim
    | goto i => exact q.elim
    | panic ch => exact q.elim
    | outgrown => exact q.elim
  refine wpIn_mono hasg ?_
  rintro ex a1 w1 ⟨rfl, s1, γ1, h1, hD, hb2⟩
  exact key γ1 a1 w1 s1 h1 hD hb2

theorem ps_lt {ps : List Nat} {N : Nat} (h : ps.all (fun p => Nat.ble (p + 1) N) = true) : ∀ p ∈ ps, p < N := fun p hp => Nat.le_of_ble_eq_true (List.all_eq_true.1 h p hp)
def dmark (b : Nat) : Deferred := { target := .collected b, args := #[] }
/-- The statement 'for .. := range g { .. }', outside a round. -/
theorem Tr.rangeF {X D E ι ιE μ κ : Type} {g : Operand} {ps : List Nat} {assign body : Code} {gf : Nat} {cap : List Value} {Q : SPost}
    {TM : D → ι → List Chunk} {TF : D → ι → List Fact} {EM : E → ιE → List Chunk} {EF : E → ιE → List Fact} {jmp : E → Code} {step : X → D → Option (D ⊕ E)} {encs : X → μ → List Value} {FX : X → μ → List Fact}
    {d0 : D} {m0 : ι} {x : D ⊕ E} {Mp Mr : List Chunk} {Fp : List Fact} {Mq : κ → List Chunk} {Fq : κ → List Fact} (ks jt jp : List Nat)
    (hg : ev s.L g = some (.func (.func gf) #[] cap.toArray)) (hen : entersOf P gf = true)
    (hn : ks.Nodup) (hM : ks.map (s.M[·]?) = (TM d0 m0 ++ (Mp ++ Mr)).map some) (hTF : jt.map (s.F[·]?) = (TF d0 m0).map some) (hF : jp.map (s.F[·]?) = Fp.map some)
    (hit : ∀ (l : Nat) (C : D ⊕ E → ι ⊕ ιE → Chunk), (∀ x xm σ m bo σ', yl step x σ = some (bo, σ') → YCtr P l (encs x xm) [C σ m] (FX x xm) (fun ret M' F' => ∃ m', ret = .bool bo ∧ M' = [C σ' m'] ∧ F' = [])) →
      Ctr P gf (.func (.yield l) #[] #[] :: cap) (C (.inl d0) (.inl m0) :: Mp) Fp (fun ret M' F' => ∃ m' k, M' = C x m' :: Mq k ∧ F' = Fq k))
    (hpn : ps.Nodup) (hpb : ∀ p ∈ ps, p < e.N) (hpl : ∀ x xm, (encs x xm).length = ps.length)
    (hbody : ∀ l bs1 γ1 w1 x xm d m y, step x d = some y →
      Tr P (some l) ⟨e.N, bs1, γ1, w1⟩ assign (qassign fun s' => ∀ bs2 γ2 w2, Tr P (some l) ⟨e.N, bs2, γ2, w2⟩ body (qround ⟨e.N, bs2, γ2, w2⟩ y TM TF EM EF jmp) s') ⟨ps.zip (encs x xm) ++ s.L, TM d m, TF d m ++ FX x xm, []⟩)
    (hcn : ∀ d m k b, x = .inl d → Q .normal ⟨s.L, objc b (.deferred (some [])) :: (TM d m ++ (Mq k ++ Mr)), s.F ++ (Fq k ++ TF d m), dmark b :: s.D⟩)
    (hcx : ∀ q m k b, x = .inr q → Tr P none e (jmp q) Q ⟨s.L, objc b (.deferred (some [])) :: (EM q m ++ (Mq k ++ Mr)), s.F ++ (Fq k ++ EF q m), dmark b :: s.D⟩) :
    Tr P none e (.rangeFunc g ps.toArray assign body) Q s := by
  intro γ a w hh0
  have hh : Holds e { s with M := TM d0 m0 ++ (Mp ++ Mr) } γ a w := { size := hh0.size, slots := hh0.slots, defers := hh0.defers, hm := hh0.hm.places hn hM, own := fun c hc => hh0.own c (mem_of_places hM c hc), facts := hh0.facts, fr := hh0.fr, ok := hh0.ok }
  refine wpIn_rangeFunc ?_
  intro fn hfn
  obtain ⟨rec, hrec⟩ : ∃ rec : LoopState → Option Code → Loop, rec = fun st pe => { state := st, pending := pe, fn := fn, tmps := a.tmps, params := ps.toArray, assign := assign, body := body, defers := w.heap.size } := ⟨_, rfl⟩
  have h1 := hh.newObj (.deferred (some [])) rfl
  have h2 := h1.newObj (.loop (rec .ready none)) rfl
  have hro : (fen none).round = none := rfl
  rw [hro]
  refine ⟨w.heap.size + 1, [dmark w.heap.size], (w.alloc (.deferred (some []))).alloc (.loop (rec .ready none)), { target := .fn (.func gf) cap.toArray, args := #[.func (.yield (w.heap.size + 1)) #[] #[]] }, (w.alloc (.deferred (some []))).alloc (.loop (rec .ready none)), gf,
    #[.func (.yield (w.heap.size + 1)) #[] #[]] ++ cap.toArray, (w.alloc (.deferred (some []))).alloc (.loop (rec .ready none)), ?_, ?_, ?_, ?_, fun hds => by simp [fen] at hds, ?_⟩
  · rw [hrec]; exact run_enterLoop_outer _ _ _ _ _
  · simp only [resolve, hh.eval hg]
    simp [go_sem]
  · intro f' _; exact fen_fn none f'
  · simp [invoke, go_sem, enters_run hen]
  · have hsz : (w.alloc (.deferred (some []))).heap.size = w.heap.size + 1 := by simp
    rw [hsz] at h2
    have hyield := round_of (P := P) (E := E) (ιE := ιE) (l := w.heap.size + 1) (b := w.heap.size) (N := e.N) (L := s.L) (EM := EM) (EF := EF) (jmp := jmp) hrec hh.size hh.slots hpn hpb hpl (hbody (w.heap.size + 1))
    have hctr := hit (w.heap.size + 1) (cfam (w.heap.size + 1) w.heap.size rec TM TF EM EF jmp) hyield
    have hin : Holds e { s with M := (cfam (w.heap.size + 1) w.heap.size rec TM TF EM EF jmp (.inl d0) (.inl m0) :: Mp) ++ Mr } γ a ((w.alloc (.deferred (some []))).alloc (.loop (rec .ready none))) :=
      { size := h2.size, slots := h2.slots, defers := h2.defers
        hm := bag_split.2 ⟨by simpa using h2.hm, fun f hf => h2.facts f (mem_of_places hTF f hf)⟩
        own := fun c hc b hb => by
          have hall : ∀ z, fpM (objc (w.heap.size + 1) (.loop (rec .ready none)) :: objc w.heap.size (.deferred (some [])) :: (TM d0 m0 ++ (Mp ++ Mr))) z → e.bs z ∨ e.w0.heap.size ≤ z := fun z ⟨c, hc, hz⟩ => h2.own c hc z hz
          refine hall b ?_
          have : fpM (bag _ _ :: (Mp ++ Mr)) b := ⟨c, hc, hb⟩
          rw [fpM_bag] at this
          simpa using this
        facts := h2.facts, fr := h2.fr, ok := h2.ok }
    have hsep := List.pairwise_append.1 hin.hm.sep
    have hmp : HM γ _ (cfam (w.heap.size + 1) w.heap.size rec TM TF EM EF jmp (.inl d0) (.inl m0) :: Mp) := ⟨fun c hc' => hin.hm.all c (List.mem_append_left _ hc'), hsep.1⟩
    have hcall := hctr γ _ hmp (fun g hg => hin.facts g (mem_of_places hF g hg)) hin.ok
    have eargs : (#[.func (.yield (w.heap.size + 1)) #[] #[]] ++ cap.toArray : Array Value) = (.func (.yield (w.heap.size + 1)) #[] #[] :: cap).toArray := by simp
    rw [eargs]
    refine (calls_any hcall none _).mono ?_
    intro en w' hl
    obtain ⟨ret, M', F', γ', rfl, ⟨m', k, rfl, rfl⟩, h3⟩ := hin.back (s := { s with M := (cfam (w.heap.size + 1) w.heap.size rec TM TF EM EF jmp (.inl d0) (.inl m0) :: Mp) ++ Mr }) rfl hl
    -- the loop's record is closed
    have fin : ∀ (st : LoopState) (pe : Option Code) (M3 : List Chunk) (F3 : List Fact), st ≠ .busy → cfam (w.heap.size + 1) w.heap.size rec TM TF EM EF jmp x m' = bag (objc (w.heap.size + 1) (.loop (rec st pe)) :: objc w.heap.size (.deferred (some [])) :: M3) F3 →
        ∃ w4, (Instr.endLoop (w.heap.size + 1)).run P w' = .ok pe w4 ∧ Holds e ⟨s.L, objc w.heap.size (.deferred (some [])) :: (M3 ++ (Mq k ++ Mr)), s.F ++ (Fq k ++ F3), dmark w.heap.size :: s.D⟩ γ' { a with defers := [dmark w.heap.size] ++ a.defers } w4 := by
      intro st pe M3 F3 hst hc
      have hm3 : HM γ' w' (cfam (w.heap.size + 1) w.heap.size rec TM TF EM EF jmp x m' :: (Mq k ++ Mr)) := by simpa using h3.hm
      rw [hc] at hm3
      have hm4 := bag_split.1 hm3
      have h4 : Holds e ⟨s.L, objc (w.heap.size + 1) (.loop (rec st pe)) :: (objc w.heap.size (.deferred (some [])) :: (M3 ++ (Mq k ++ Mr))), s.F ++ (Fq k ++ F3), dmark w.heap.size :: s.D⟩ γ' { a with defers := [dmark w.heap.size] ++ a.defers } w' :=
        { size := h3.size, slots := h3.slots, defers := by rw [← hh0.defers]; rfl
          hm := by simpa using hm4.1
          own := fun c hc' b hb => by
            have hall : ∀ z, fpM (cfam (w.heap.size + 1) w.heap.size rec TM TF EM EF jmp x m' :: (Mq k ++ Mr)) z → e.bs z ∨ e.w0.heap.size ≤ z := fun z ⟨c, hc, hz⟩ => h3.own c (by simpa using hc) z hz
            refine hall b ?_
            rw [hc, fpM_bag]
            exact ⟨c, by simpa using hc', hb⟩
          facts := fun f hf => by
            rcases List.mem_append.1 hf with q | q
            · exact h3.facts f (List.mem_append_left _ q)
            rcases List.mem_append.1 q with q | q
            · exact h3.facts f (List.mem_append_right _ q)
            · exact hm4.2 f q
          fr := h3.fr, ok := h3.ok }
      have hp := h4.hm.all _ List.mem_cons_self
      refine ⟨_, ?_, h4.dropObj rfl (.loop { rec st pe with state := .exhausted }) rfl⟩
      have := run_endLoop (P := P) hp.1 (by rw [hrec]; exact hst)
      rw [this, hrec]
    match x, m', fin, hcn, hcx, h3 with
    | .inl d, .inr m', _, _, _, h3 => exact (h3.hm.all _ List.mem_cons_self).elim
    | .inr q, .inl m', _, _, _, h3 => exact (h3.hm.all _ List.mem_cons_self).elim
    | .inl d, .inl m', fin, hcn, _, _ =>
      obtain ⟨w4, hr, h5⟩ := fin .ready none _ _ (by simp) rfl
      exact ⟨none, w4, hr, trivial, _, γ', hcn d m' k _ rfl, h5⟩
    | .inr q, .inr m', fin, _, hcx, _ =>
      obtain ⟨w4, hr, h5⟩ := fin .done (some (jmp q)) _ _ (by simp) rfl
      exact ⟨some (jmp q), w4, hr, hcx q m' k _ rfl γ' _ w4 h5⟩

/-- The end of a body in which loops over functions left their marks. -/
theorem ret_rm {rvs : List ResultVar} {R : Value → List Chunk → List Fact → Prop} (t : St) (vs : List Value) (M' X : List Chunk) (ds : List Nat) (hI : Imp e s t) (hD : t.D = ds.map dmark) (hM : t.M = (ds.map fun d => objc d (.deferred (some []))) ++ (M' ++ X)) (hR : R (ret1 vs) M' t.F) (hv : All2 (resV P e { t with M := M' ++ X, D := [] }) rvs vs) : qret e (retQ P e rvs R) .ret s :=
  ⟨t, hI, vs, M', t.F, ds, M' ++ X, hR, hv, hD, hM ▸ List.Perm.refl _, List.sublist_append_left _ _, fun _ h => h⟩
theorem ret_nm {rvs : List ResultVar} {R : Value → List Chunk → List Fact → Prop} (t : St) (vs : List Value) (M' X : List Chunk) (ds : List Nat) (hI : Imp e s t) (hD : t.D = ds.map dmark) (hM : t.M = (ds.map fun d => objc d (.deferred (some []))) ++ (M' ++ X)) (hR : R (ret1 vs) M' t.F) (hv : All2 (resV P e { t with M := M' ++ X, D := [] }) rvs vs) : qret e (retQ P e rvs R) .normal s :=
  ⟨t, hI, vs, M', t.F, ds, M' ++ X, hR, hv, hD, hM ▸ List.Perm.refl _, List.sublist_append_left _ _, fun _ h => h⟩
theorem Ctr.mono {f : FuncId} {args : List Value} {M : List Chunk} {F : List Fact} {R R' : Value → List Chunk → List Fact → Prop} (h : Ctr P f args M F R) (hR : ∀ ret M' F', R ret M' F' → R' ret M' F') : Ctr P f args M F R' :=
  fun γ w hm hF hok => (h γ w hm hF hok).mono fun en w' ⟨ret, M', F', γ', h1, h2, h3⟩ => ⟨ret, M', F', γ', h1, hR _ _ _ h2, h3⟩
end
end Go.Proofs.Ytbeknohemgjfbaa.L
namespace Go.Proofs.Ytbeknohemgjfbaa.L
open Go Go.Proofs.Ytbeknohemgjfbaa.Pu
set_option linter.unusedVariables false

section
variable {a b : Int}
theorem ar_and_u64 : arith .and .u64 a b = some (.int .u64 (wu64 (andk 64 a b))) := rfl
theorem ar_or_u64 : arith .or .u64 a b = some (.int .u64 (wu64 (ork 64 a b))) := rfl
theorem ar_xor_u64 : arith .xor .u64 a b = some (.int .u64 (wu64 (xork 64 a b))) := rfl
theorem ar_andNot_u64 : arith .andNot .u64 a b = some (.int .u64 (wu64 (andnk 64 a b))) := rfl
theorem ar_and_u8 : arith .and .u8 a b = some (.int .u8 (wu8 (andk 8 a b))) := rfl
theorem ar_or_u8 : arith .or .u8 a b = some (.int .u8 (wu8 (ork 8 a b))) := rfl
theorem ar_xor_u8 : arith .xor .u8 a b = some (.int .u8 (wu8 (xork 8 a b))) := rfl
theorem ar_and_i64 : arith .and .i64 a b = some (.int .i64 (wi64 (andk 64 a b))) := by
  show some (Value.int .i64 (IntKind.i64.wrap _)) = _
  rw [wrap_i64]; rfl
theorem ar_or_i64 : arith .or .i64 a b = some (.int .i64 (wi64 (ork 64 a b))) := by
  show some (Value.int .i64 (IntKind.i64.wrap _)) = _
  rw [wrap_i64]; rfl
end

section
variable {P : Program} {r : Option Nat} {e : Env} {o : Oper} {Kn : St → Prop} {s : St} {γ γ' : Gh} {w w' : World} {a : Act}
theorem row_ints {k : IntKind} {xs : List Int} {ds : List Value} (h : Row (rInt k) γ w xs ds) : ds = xs.map (.int k) := by
  induction h with
  | nil => rfl
  | cons hx _ ih =>
    have : _ = [Value.int k _] := hx
    rw [this, ih]; rfl
theorem conv_bstr {P : Program} {T T' e' : TypeId} {A : Option Addr} {n c : Nat} {xs : List Int} {γ : Gh} {w : World} (hT : P.underlying T = some (.slice e')) (he : P.underlying e' = some (.int .u8)) (hT' : P.underlying T' = some .string) (hn : n = xs.length) (hf : SlP (rInt .u8) γ w A c xs) :
    (convert T T' (.slice A n c)).run P w = .ok (.string (bstr xs)) w := by
  cases A with
  | none =>
    obtain rfl := hf.nil rfl
    subst hn
    rw [List.length_nil, run_convert_bytes_nil w T e' hT he 0 c T' hT']
    rfl
  | some ad =>
    obtain ⟨hs, ds, hr, hc⟩ := hf.row ad rfl
    have hds := row_ints hr
    by_cases hxs : xs = []
    · subst hxs
      have hl : (loadCells ad 0).run P w = .ok (([] : List Int).map (Value.int .u8)).toArray w := by simp [loadCells, loadCellsFrom, Sem.run_pure]
      subst hn
      rw [run_convert_bytes_string w T T' e' _ _ c hT he hT', List.length_nil, run_bytesToString w ad 0 c [] hl]
      rfl
    · have hsp := hs hxs
      obtain ⟨b, off, spot⟩ := ad
      simp only at hsp
      subst hsp
      refine run_convert_bytes_arg w T e' hT he b off n c xs hn.symm (fun i hi => ?_) T' hT'
      have hi' : i < xs.length := by omega
      refine (hc i _ ?_).1
      rw [hds, List.getElem?_map, List.getElem?_eq_getElem hi', List.getD_eq_getElem?_getD, List.getElem?_eq_getElem hi']
      rfl
/-- Bytes as a string. -/
theorem v_bstr {T T' e' : TypeId} {x : Operand} {A : Option Addr} {n c k : Nat} {xs : List Int} (hop : o.op = .convert T T' x) (hT : P.underlying T = some (.slice e')) (he : P.underlying e' = some (.int .u8)) (hT' : P.underlying T' = some .string) (hx : ev s.L x = some (.slice A n c)) (hn : n = xs.length) (hk : s.F[k]? = some (slF (rInt .u8) A c xs)) :
    OpV P e o s (.string (bstr xs)) :=
  ⟨(by rw [hop]; intro c; simp), (fun γ a w hh => by
    have hf : SlP (rInt .u8) γ w A c xs := hh.facts _ (List.mem_of_getElem? hk)
    simp only [execOp, hop, hh.eval hx, Sem.run_bind, conv_bstr hT he hT' hn hf, Result.andThen, Sem.run_pure])⟩
theorem bytes_eq {x y : ByteArray} : (x.toList == y.toList) = decide (x = y) := by
  rw [ByteArray.toList_eq, ByteArray.toList_eq, Bool.eq_iff_iff, beq_iff_eq, decide_eq_true_eq]
  constructor
  · intro h
    obtain ⟨x⟩ := x
    obtain ⟨y⟩ := y
    exact congrArg ByteArray.mk (Array.toList_inj.1 h)
  · intro h; rw [h]
theorem v_streq {T T' : TypeId} {x y : Operand} {u v : ByteArray} (hop : o.op = .binOp .eql T x y T') (hx : ev s.L x = some (.string u)) (hy : ev s.L y = some (.string v)) : OpV P e o s (.bool (decide (u = v))) :=
  ⟨(by rw [hop]; intro c; simp), (fun γ a w hh => by
    simp only [execOp, hop, hh.eval hx, hh.eval hy]
    simp [eqGuard, binOp, Op.stringOp, ← bytes_eq])⟩
theorem v_strne {T T' : TypeId} {x y : Operand} {u v : ByteArray} (hop : o.op = .binOp .neq T x y T') (hx : ev s.L x = some (.string u)) (hy : ev s.L y = some (.string v)) : OpV P e o s (.bool (decide (¬ u = v))) :=
  ⟨(by rw [hop]; intro c; simp), (fun γ a w hh => by
    simp only [execOp, hop, hh.eval hx, hh.eval hy]
    simp only [decide_not, ← bytes_eq]
    simp [eqGuard, binOp, Op.stringOp])⟩
end
end Go.Proofs.Ytbeknohemgjfbaa.L
namespace Go.Proofs.Ytbeknohemgjfbaa.L
open Go Go.Proofs.Ytbeknohemgjfbaa.Pu
set_option linter.unusedVariables false

/-- A slice that is owned, with the room behind it: nothing of its block is sealed. -/
def arr {α : Type} (rp : Rep α) (E : TypeId) (A : Option Addr) (n c : Nat) (ys : List α) : Chunk where
  fp b := ∃ off sp, A = some ⟨b, off, sp⟩
  p γ w := ys.length = n ∧ n ≤ c ∧ n ≤ top ∧ ((A = none ∧ n = 0 ∧ c = 0) ∨ ∃ b cur, A = some ⟨b, 0, none⟩ ∧ (cells b cur E).p γ w ∧ cur.length = c * rp.sz ∧ Row rp γ w ys (cur.take (n * rp.sz)))
  lt := fun {γ w b} h hb => by
    obtain ⟨off, sp, hA⟩ := hb
    rcases h.2.2.2 with ⟨h, _⟩ | ⟨b', cur, h, hc, _⟩
    · rw [h] at hA; cases hA
    · rw [h] at hA; cases hA; exact Chunk.lt _ hc rfl
  stable := fun {γ w γ' w'} hs hle h => by
    obtain ⟨h1, h2, h3, h4⟩ := h
    refine ⟨h1, h2, h3, ?_⟩
    rcases h4 with h | ⟨b', cur, h, hc, hl, hr⟩
    · exact .inl h
    · exact .inr ⟨b', cur, h, Chunk.stable _ (fun b hb => by cases hb; exact hs b' ⟨_, _, h⟩) hle hc, hl, hr.mono hle⟩

section
variable {P : Program} {r : Option Nat} {e : Env} {o : Oper} {Kn : St → Prop} {s : St} {γ γ' : Gh} {w w' : World} {a : Act}
variable {α : Type} {rp : Rep α} {E : TypeId} {A : Option Addr} {n c k : Nat} {ys : List α}

/-! ### Sealed -/
theorem Holds.shut (hh : Holds e s γ a w) (hk : s.M[k]? = some (arr rp E A n c ys)) : n = ys.length ∧ ∃ γ', Holds e { s with M := s.M.eraseIdx k, F := s.F ++ [slF rp A c ys] } γ' a w := by
  have hp := hh.perm (perm_front hk)
  obtain ⟨h1, h2, h3, h4⟩ := hp.hm.all _ List.mem_cons_self
  refine ⟨h1.symm, ?_⟩
  have hsep := List.pairwise_cons.1 hp.hm.sep
  rcases h4 with ⟨rfl, h0, _⟩ | ⟨b, cur, rfl, hc, hl, hr⟩
  · have hy : ys = [] := List.eq_nil_of_length_eq_zero (by omega)
    subst hy
    refine ⟨γ, Holds.addF (s := { s with M := s.M.eraseIdx k }) (f := slF rp none c []) ?_ ⟨by simp, by simp, fun _ => rfl, fun a ha => by cases ha⟩⟩
    exact { size := hp.size, slots := hp.slots, defers := hp.defers, facts := hp.facts, fr := hp.fr, ok := hp.ok, hm := ⟨fun d hd => hp.hm.all d (List.mem_cons_of_mem _ hd), hsep.2⟩, own := fun d hd => hp.own d (List.mem_cons_of_mem _ hd) }
  · have hblt : b < w.heap.size := Chunk.lt _ hc rfl
    have fr : Fr (· = b) γ w (upd γ b (n * rp.sz)) w := {
      le := ⟨Nat.le_refl _, fun x => by
        by_cases hx : x = b
        · subst hx; rw [hc.2]; exact Nat.zero_le _
        · rw [upd_other _ _ hx]; exact Nat.le_refl _, fun _ _ _ => rfl⟩
      os := rfl
      tape := rfl
      output := rfl
      block := fun _ _ _ => rfl
      gh := fun x _ hx => upd_other _ _ hx }
    have hm0 : HM γ w (s.M.eraseIdx k) := ⟨fun d hd => hp.hm.all d (List.mem_cons_of_mem _ hd), hsep.2⟩
    have hm1 := hm0.keep fr (fun d hd x hx hxb => by subst hxb; exact hsep.1 d hd x ⟨_, _, rfl⟩ hx)
    have hst := hp.step fr (fun x hx => by subst hx; exact hp.own _ List.mem_cons_self x ⟨_, _, rfl⟩) hm1 (fun d hd => hp.own d (List.mem_cons_of_mem _ hd)) (fun x hx => by rw [upd_other _ _ (by omega)]; exact hp.ok x hx)
    refine ⟨_, hst.addF (f := slF rp (some ⟨b, 0, none⟩) c ys) ⟨by omega, by omega, (fun q => by cases q), fun q hq => ?_⟩⟩
    cases hq
    refine ⟨fun _ => rfl, cur.take (n * rp.sz), hr.mono fr.le, fun j v hv => ?_⟩
    rw [List.getElem?_take] at hv
    split at hv
    · rename_i hj
      refine ⟨?_, by rw [upd_same]; simp only [Nat.zero_add]; exact hj⟩
      rw [Nat.zero_add, cell_of_cells hc]; exact hv
    · cases hv
/-- Sealed, but what comes behind may be written yet. -/
theorem Holds.shutG (hh : Holds e s γ a w) (hk : s.M[k]? = some (arr rp E A n c ys)) : n = ys.length ∧ ∃ γ', Holds e { s with M := s.M.set k (grow E rp.sz (.slice A n c) n (A.map (·.block))), F := s.F ++ [slF rp A c ys] } γ' a w := by
  obtain ⟨h1, h2, h3, h4⟩ := hh.hm.all _ (List.mem_of_getElem? hk)
  refine ⟨h1.symm, ?_⟩
  rcases h4 with ⟨rfl, h0, hc0⟩ | ⟨b, cur, rfl, hc, hl, hr⟩
  · have hy : ys = [] := List.eq_nil_of_length_eq_zero (by omega)
    subst hy
    subst h0
    subst hc0
    refine ⟨γ, Holds.addF (s := { s with M := s.M.set k (grow E rp.sz (.slice none 0 0) 0 none) }) (f := slF rp none 0 []) ?_ (SlP.empty rp γ w)⟩
    exact { size := hh.size, slots := hh.slots, defers := hh.defers, facts := hh.facts, fr := hh.fr, ok := hh.ok
            hm := hh.hm.set hk (Fr.refl _ γ w) (.inl ⟨rfl, none, rfl⟩) (fun b hb => by cases hb)
            own := fun d hd b hb => by
              rcases List.mem_or_eq_of_mem_set hd with t | t
              · exact hh.own d t b hb
              · subst t; cases hb }
  · have hblt : b < w.heap.size := Chunk.lt _ hc rfl
    have hfp : ∀ q, (arr rp E (some ⟨b, 0, none⟩) n c ys).fp q ↔ q = b := fun q => ⟨fun ⟨_, _, hA⟩ => by cases hA; rfl, fun hq => by subst hq; exact ⟨_, _, rfl⟩⟩
    have fr : Fr (arr rp E (some ⟨b, 0, none⟩) n c ys).fp γ w (upd γ b (n * rp.sz)) w := {
      le := ⟨Nat.le_refl _, fun x => by
        by_cases hx : x = b
        · subst hx; rw [hc.2]; exact Nat.zero_le _
        · rw [upd_other _ _ hx]; exact Nat.le_refl _, fun _ _ _ => rfl⟩
      os := rfl
      tape := rfl
      output := rfl
      block := fun _ _ _ => rfl
      gh := fun x _ hx => upd_other _ _ (fun q => hx ((hfp x).2 q)) }
    have hst := hh.step fr (fun x hx => hh.own _ (List.mem_of_getElem? hk) x hx) (hh.hm.set hk fr (c' := grow E rp.sz (.slice (some ⟨b, 0, none⟩) n c) n (some b)) (.inr ⟨b, c, cur.toArray, rfl, rfl, hc.1, h2, by simpa using hl, upd_same _ _ _⟩) (fun x hx => .inl ((hfp x).2 (by cases hx; rfl))))
      (fun d hd x hx => by
        rcases List.mem_or_eq_of_mem_set hd with t | t
        · exact hh.own d t x hx
        · subst t; exact hh.own _ (List.mem_of_getElem? hk) x ((hfp x).2 (by cases hx; rfl))) (fun x hx => by rw [upd_other _ _ (by omega)]; exact hh.ok x hx)
    refine ⟨_, hst.addF (f := slF rp (some ⟨b, 0, none⟩) c ys) ⟨by omega, by omega, (fun q => by cases q), fun q hq => ?_⟩⟩
    cases hq
    refine ⟨fun _ => rfl, cur.take (n * rp.sz), hr.mono fr.le, fun j v hv => ?_⟩
    rw [List.getElem?_take] at hv
    split at hv
    · rename_i hj
      refine ⟨?_, by rw [upd_same]; simp only [Nat.zero_add]; exact hj⟩
      rw [Nat.zero_add, cell_of_cells hc]; exact hv
    · cases hv
theorem Tr.shutG {cd : Code} {Q : SPost} (t : St) (k : Nat) (hk : s.M[k]? = some (arr rp E A n c ys)) (ht : n = ys.length → ({ s with M := s.M.set k (grow E rp.sz (.slice A n c) n (A.map (·.block))), F := s.F ++ [slF rp A c ys] } : St) = t) (h : Tr P r e cd Q t) : Tr P r e cd Q s := fun γ a w hh => by
  obtain ⟨hn, γ', h2⟩ := hh.shutG hk
  rw [ht hn] at h2
  exact h γ' a w h2
theorem Tr.shut {cd : Code} {Q : SPost} (t : St) (k : Nat) (hk : s.M[k]? = some (arr rp E A n c ys)) (ht : n = ys.length → ({ s with M := s.M.eraseIdx k, F := s.F ++ [slF rp A c ys] } : St) = t) (h : Tr P r e cd Q t) : Tr P r e cd Q s := fun γ a w hh => by
  obtain ⟨hn, γ', h2⟩ := hh.shut hk
  rw [ht hn] at h2
  exact h γ' a w h2
theorem TrL.shut {ops : Array Oper} {l : List Oper} (t : St) (k : Nat) (hk : s.M[k]? = some (arr rp E A n c ys)) (ht : n = ys.length → ({ s with M := s.M.eraseIdx k, F := s.F ++ [slF rp A c ys] } : St) = t) (h : TrL P r e ops l Kn t) : TrL P r e ops l Kn s := fun γ a w hh => by
  obtain ⟨hn, γ', h2⟩ := hh.shut hk
  rw [ht hn] at h2
  exact h γ' a w h2
theorem OpTr.shut (t : St) (k : Nat) (hk : s.M[k]? = some (arr rp E A n c ys)) (ht : n = ys.length → ({ s with M := s.M.eraseIdx k, F := s.F ++ [slF rp A c ys] } : St) = t) (h : OpTr P r e o Kn t) : OpTr P r e o Kn s := fun γ a w hh => by
  obtain ⟨hn, γ', h2⟩ := hh.shut hk
  rw [ht hn] at h2
  exact h γ' a w h2
/-- The number of elements, said anew. -/
theorem Tr.renorm {cd : Code} {Q : SPost} (t : St) (k : Nat) (hk : s.M[k]? = some (arr rp E A n c ys)) (ht : n = ys.length → s = t) (h : Tr P r e cd Q t) : Tr P r e cd Q s := fun γ a w hh => by
  have hn := (hh.hm.all _ (List.mem_of_getElem? hk)).1
  rw [← ht hn.symm] at h
  exact h γ a w hh
theorem TrL.renorm {ops : Array Oper} {l : List Oper} (t : St) (k : Nat) (hk : s.M[k]? = some (arr rp E A n c ys)) (ht : n = ys.length → s = t) (h : TrL P r e ops l Kn t) : TrL P r e ops l Kn s := fun γ a w hh => by
  have hn := (hh.hm.all _ (List.mem_of_getElem? hk)).1
  rw [← ht hn.symm] at h
  exact h γ a w hh
/-- None is owned of nobody's slice. -/
theorem Holds.arrNil (rp : Rep α) (E : TypeId) (hh : Holds e s γ a w) : Holds e { s with M := arr rp E none 0 0 [] :: s.M } γ a w :=
  { size := hh.size, slots := hh.slots, defers := hh.defers, facts := hh.facts, fr := hh.fr, ok := hh.ok
    hm := hh.hm.cons ⟨rfl, Nat.le_refl _, by simp, .inl ⟨rfl, rfl, rfl⟩⟩ (fun d hd b hb => by obtain ⟨_, _, hA⟩ := hb; cases hA)
    own := fun d hd b hb => by
      rcases List.mem_cons.1 hd with q | q
      · subst q; obtain ⟨_, _, hA⟩ := hb; cases hA
      · exact hh.own d q b hb }
theorem Tr.arrNil {cd : Code} {Q : SPost} (rp : Rep α) (E : TypeId) (h : Tr P r e cd Q { s with M := arr rp E none 0 0 [] :: s.M }) : Tr P r e cd Q s := fun γ a w hh => h γ a w (hh.arrNil rp E)
theorem Imp.arrNil {t : St} (rp : Rep α) (E : TypeId) (h : Imp e { s with M := arr rp E none 0 0 [] :: s.M } t) : Imp e s t := fun γ a w hh => h γ a w (hh.arrNil rp E)

/-! ### Made -/
theorem range_mul (zc : Array Value) (m : Nat) (hm : zc.size = m) : ∀ n, (List.range (n * m)).map (fun j => zc[j % zc.size]!) = (List.replicate n zc.toList).flatten := by
  intro n
  induction n with
  | zero => simp
  | succ n ih =>
    rw [Nat.add_mul, Nat.one_mul, List.range_add, List.map_append, ih, List.replicate_succ', List.flatten_append]
    congr 1
    simp only [List.flatten_cons, List.flatten_nil, List.append_nil, List.map_map]
    apply List.ext_getElem
    · simp [hm]
    · intro i h1 h2
      simp only [List.length_map, List.length_range] at h1
      simp only [List.getElem_map, List.getElem_range, Function.comp]
      rw [hm, Nat.mul_comm, Nat.mul_add_mod, Nat.mod_eq_of_lt h1, getElem!_pos zc i (by omega)]
      simp
theorem row_replicate {z : α} {cs : List Value} (hz : rp.R γ w z cs) : ∀ n, Row rp γ w (List.replicate n z) (List.replicate n cs).flatten := by
  intro n
  induction n with
  | zero => exact .nil
  | succ n ih => rw [List.replicate_succ, List.replicate_succ, List.flatten_cons]; exact .cons hz ih
theorem op_make {d by_ : Nat} {T : TypeId} {x y : Operand} {ag : Bool} {kl kc : IntKind} {l : Int} {zc : List Value} {z : α} (ho : o.dst = some d) (hN : d < e.N) (hop : o.op = .makeSlice T x y) (hT : sliceOf P T = some E) (ht : tyOf P E = some (ag, rp.sz)) (hz : zeroOf P E = some zc) (hzl : zc.length = rp.sz) (hby : bytesOf P E = some by_)
    (hx : ev s.L x = some (.int kl l)) (hy : ev s.L y = some (.int kc l)) (h0 : 0 ≤ l) (hb : l.toNat * by_ ≤ big) (hb2 : l.toNat ≤ big) (hR : ∀ γ w, rp.R γ w z zc)
    (h : ∀ A, Kn (({ s with M := arr rp E A l.toNat l.toNat (List.replicate l.toNat z) :: s.M } : St).put d (.slice A l.toNat l.toNat))) : OpTr P r e o Kn s := by
  intro γ a w hh K Q hK
  refine ⟨fun f _ => fen_fn r f, ?_⟩
  obtain ⟨i, hi, hsz⟩ := tyOf_info ht
  obtain ⟨i', zv, hi', hz', hzc⟩ := zeroOf_info hz
  obtain ⟨i'', hi'', hby'⟩ := bytesOf_info hby
  rw [hi] at hi' hi''
  cases hi'
  cases hi''
  have hb' : (i.bytes : Int) * l ≤ 281474976710656 := by
    have h1 : ((l.toNat * by_ : Nat) : Int) ≤ 140737488355328 := Int.ofNat_le.2 hb
    rw [Int.natCast_mul, Int.toNat_of_nonneg h0] at h1
    rw [hby', Int.mul_comm]
    omega
  have hr := run_make (P := P) w T E i zv (sliceOf_und hT) hi hz' kl kc l l h0 (Int.le_refl _) hb' (by simp only [big] at hb2; omega)
  have hcells : madeCells zv.cells (l.toNat * i.size) = ((List.replicate l.toNat zc).flatten).toArray := by
    apply Array.ext'
    rw [← hzc, ← range_mul zv.cells i.size (by rw [hsz, ← hzl, ← hzc]; simp) l.toNat]
    simp [madeCells]
  rw [hcells] at hr
  have hrun : (execOp a.eval o).run P w = .ok (.value (.slice (some ⟨w.heap.size, 0, none⟩) l.toNat l.toNat)) (w.alloc (.cells ((List.replicate l.toNat zc).flatten).toArray E)) := by
    simp only [execOp, hop, Sem.run_bind, hh.eval hx, hh.eval hy, hr, Result.andThen, Sem.run_pure]
  rw [semAt_eq _ _ _ (by rw [hop]; intro c; simp), hrun, Oper.uponIn_value, ho]
  have hn := hh.new (List.replicate l.toNat zc).flatten E
  have hlen : ((List.replicate l.toNat zc).flatten).length = l.toNat * rp.sz := (row_replicate (hR γ w) l.toNat).len.trans (by rw [List.length_replicate])
  refine hK _ γ _ _ (h (some ⟨w.heap.size, 0, none⟩)) (Holds.put ?_ d _ hN)
  have hc : (cells w.heap.size (List.replicate l.toNat zc).flatten E).p γ (w.alloc (.cells ((List.replicate l.toNat zc).flatten).toArray E)) := hn.hm.all _ List.mem_cons_self
  have hsep := List.pairwise_cons.1 hn.hm.sep
  exact { size := hn.size, slots := hn.slots, defers := hn.defers, facts := hn.facts, fr := hn.fr, ok := hn.ok
          hm := HM.cons ⟨fun d hd => hn.hm.all d (List.mem_cons_of_mem _ hd), hsep.2⟩ ⟨List.length_replicate .., Nat.le_refl _, by simp only [big] at hb2; simp only [top]; omega, .inr ⟨_, _, rfl, hc, hlen, by rw [← hlen, List.take_length]; exact row_replicate (hR _ _) _⟩⟩ (fun d hd b hb => by
            obtain ⟨off, sp, hA⟩ := hb
            cases hA
            exact hsep.1 d hd _ rfl)
          own := fun d hd b hb => by
            rcases List.mem_cons.1 hd with q | q
            · subst q
              obtain ⟨off, sp, hA⟩ := hb
              cases hA
              exact hn.own _ List.mem_cons_self _ rfl
            · exact hn.own d (List.mem_cons_of_mem _ q) b hb }

theorem op_make' {d by_ : Nat} {T : TypeId} {x y : Operand} {ag : Bool} {kl kc : IntKind} {l : Int} {zc : List Value} {z : α} (ho : o.dst = some d) (hN : d < e.N) (hop : o.op = .makeSlice T x y) (hT : sliceOf P T = some E) (ht : tyOf P E = some (ag, rp.sz)) (hz : zeroOf P E = some zc) (hzl : zc.length = rp.sz) (hby : bytesOf P E = some by_)
    (hx : ev s.L x = some (.int kl l)) (hy : ev s.L y = some (.int kc l)) (h0 : 0 ≤ l) (hn : l.toNat = n) (hb : n * by_ ≤ big ∧ n ≤ big) (hR : ∀ γ w, rp.R γ w z zc)
    (h : ∀ A, Kn (({ s with M := arr rp E A n n (List.replicate n z) :: s.M } : St).put d (.slice A n n))) : OpTr P r e o Kn s := by
  subst hn
  exact op_make ho hN hop hT ht hz hzl hby hx hy h0 hb.1 hb.2 hR h

/-! ### Elements -/
theorem arr_some (h : (arr rp E A n c ys).p γ w) {i : Int} {z : α} (hi : rdo ys i = some z) : ∃ b cur, A = some ⟨b, 0, none⟩ ∧ (cells b cur E).p γ w ∧ cur.length = c * rp.sz ∧ Row rp γ w ys (cur.take (n * rp.sz)) := by
  obtain ⟨h0, h1, h2⟩ := rdo_some hi
  rcases h.2.2.2 with ⟨_, q, _⟩ | q
  · have := h.1; omega
  · exact q
theorem v_indexA {m : Nat} {T : TypeId} {x y : Operand} {kd : IntKind} {i : Int} {ag : Bool} {z : α} (hop : o.op = .indexAddr T x y) (hT : sliceOf P T = some E) (ht : tyOf P E = some (ag, m)) (hx : ev s.L x = some (.slice A n c)) (hy : ev s.L y = some (.int kd i)) (hk : s.M[k]? = some (arr rp E A n c ys)) (hi : rdo ys i = some z) :
    OpV P e o s (.pointer (some ⟨ablk A, aoff A + i.toNat * m, none⟩)) :=
  ⟨(by rw [hop]; intro c; simp), (fun γ a w hh => by
    obtain ⟨h0, h1, h2⟩ := rdo_some hi
    have hc := hh.hm.all _ (List.mem_of_getElem? hk)
    obtain ⟨b, cur, rfl, _⟩ := arr_some hc hi
    have hn := hc.1
    have h1' : i < (n : Int) := by omega
    simp only [execOp, hop, hh.eval hx, hh.eval hy, Instr.indexAt, asIntOf, Sem.run_bind, Sem.run_pure, Result.andThen, run_und' (sliceOf_und hT)]
    simp [h0, h1', run_sizeOf' ht, add_off, ablk, aoff])⟩
theorem row_ground {g : α → List Value} {sz : Nat} {hl1 : ∀ x, (g x).length = sz} {h1 : ∀ x, ∀ v ∈ g x, v.oneCell' = true} {xs : List α} {ds : List Value} (h : Row (ground sz g hl1 h1) γ w xs ds) : Row (ground sz g hl1 h1) γ' w' xs ds := by
  induction h with
  | nil => exact .nil
  | cons hx _ ih => exact .cons hx ih
theorem v_loadA {g : α → List Value} {sz : Nat} {hl1 : ∀ x, (g x).length = sz} {h1 : ∀ x, ∀ v ∈ g x, v.oneCell' = true} {m j : Nat} {T : TypeId} {x : Operand} {i : Int} {ag : Bool} {z : α} {v : Value} (hop : o.op = .load T x)
    (ht : tyOf P T = some (ag, m)) (hm : ag = false → m = 1) (hx : ev s.L x = some (.pointer (some ⟨ablk A, aoff A + i.toNat * sz + j, none⟩))) (hk : s.M[k]? = some (arr (ground sz g hl1 h1) E A n c ys)) (hi : rdo ys i = some z)
    (hl : (((g z).drop j).take m).length = m) (hv : mkv ag (((g z).drop j).take m) = v) : OpV P e o s v :=
  ⟨(by rw [hop]; intro c; simp), (fun γ a w hh => by
    obtain ⟨h0, h1', h2⟩ := rdo_some hi
    obtain ⟨b, cur, rfl, hc, hcl, hr⟩ := arr_some (hh.hm.all _ (List.mem_of_getElem? hk)) hi
    obtain ⟨cs, hcs, hds⟩ := hr.get h2
    have hcs' : cs = g z := hcs
    subst hcs'
    have := run_loadVar' (w := w) ht hm ⟨b, 0 + i.toNat * sz + j, none⟩ (((g z).drop j).take m) hl (fun q u hu => by
      rw [add_off, cell_of_cells hc]
      rw [List.getElem?_take] at hu
      split at hu
      · rw [List.getElem?_drop] at hu
        rw [← hds, List.getElem?_take] at hu
        split at hu
        · rw [List.getElem?_drop, List.getElem?_take] at hu
          split at hu
          · simp only [ground] at hu
            rw [show 0 + i.toNat * sz + j + q = i.toNat * sz + (j + q) by omega]
            exact hu
          · cases hu
        · cases hu
      · cases hu)
    have hx' := hh.eval hx
    simp only [ablk, aoff, Option.map_some, Option.getD_some] at hx'
    simp only [execOp, hop, hx', Instr.loadAt, Instr.sureAddr, Sem.run_bind, Sem.run_pure, Result.andThen, this, hv])⟩
theorem row_flat {g : α → List Value} {sz : Nat} {hl1 : ∀ x, (g x).length = sz} {h1 : ∀ x, ∀ v ∈ g x, v.oneCell' = true} {xs : List α} {ds : List Value} : Row (ground sz g hl1 h1) γ w xs ds ↔ ds = (xs.map g).flatten := by
  constructor
  · intro h
    induction h with
    | nil => rfl
    | cons hx _ ih =>
      have hx' : _ = g _ := hx
      rw [hx', ih]; rfl
  · rintro rfl
    induction xs with
    | nil => exact .nil
    | cons x xs ih => exact Row.cons (r := ground sz g hl1 h1) (x := x) (cs := g x) rfl ih
theorem spl_flat {g : α → List Value} {sz : Nat} (hl1 : ∀ x, (g x).length = sz) : ∀ (xs : List α) (i j : Nat) (z z' : α) (vs : List Value) (rest : List Value), xs[i]? = some z → j + vs.length ≤ sz → spl (g z) j vs = g z' →
    spl ((xs.map g).flatten ++ rest) (i * sz + j) vs = ((xs.set i z').map g).flatten ++ rest := by
  intro xs
  induction xs with
  | nil => intro i j z z' vs rest h; simp at h
  | cons x xs ih =>
    intro i j z z' vs rest h hj hz
    have hgx := hl1 x
    cases i with
    | zero =>
      have hxz : x = z := by simpa using h
      subst hxz
      rw [List.set_cons_zero, List.map_cons, List.map_cons, List.flatten_cons, List.flatten_cons, ← hz, Nat.zero_mul, Nat.zero_add]
      unfold spl
      rw [List.append_assoc, List.append_assoc (g x), List.take_append_of_le_length (by omega), List.drop_append_of_le_length (by omega)]
      simp [List.append_assoc]
    | succ i =>
      rw [List.set_cons_succ, List.map_cons, List.map_cons, List.flatten_cons, List.flatten_cons, List.append_assoc, List.append_assoc, ← ih i j z z' vs rest (by simpa using h) hj hz]
      unfold spl
      have e : (i + 1) * sz + j = (g x).length + (i * sz + j) := by rw [hgx, Nat.add_mul]; omega
      rw [e, List.take_length_add_append, Nat.add_assoc, List.drop_length_add_append]
      simp [List.append_assoc]
theorem op_storeA {g : α → List Value} {sz : Nat} {hl1 : ∀ x, (g x).length = sz} {h1 : ∀ x, ∀ v ∈ g x, v.oneCell' = true} {m j : Nat} {T : TypeId} {x y : Operand} {i : Int} {ag : Bool} {z z' : α} {v : Value} (ho : o.dst = none) (hop : o.op = .store T x y)
    (hx : ev s.L x = some (.pointer (some ⟨ablk A, aoff A + i.toNat * sz + j, none⟩))) (hy : ev s.L y = some v) (hk : s.M[k]? = some (arr (ground sz g hl1 h1) E A n c ys)) (ht : tyOf P T = some (ag, m)) (hl : v.cells.toList.length = m) (hi : rdo ys i = some z) (hfit : j + m ≤ sz)
    (hone : ∀ u ∈ v.cells.toList, u.oneCell' = true) (hz : spl (g z) j v.cells.toList = g z') (h : Kn { s with M := s.M.set k (arr (ground sz g hl1 h1) E A n c (ys.set i.toNat z')) }) : OpTr P r e o Kn s := by
  intro γ a w hh K Q hK
  obtain ⟨h0, h1', h2⟩ := rdo_some hi
  have hA := hh.hm.all _ (List.mem_of_getElem? hk)
  obtain ⟨b, cur, rfl, hc, hcl, hr⟩ := arr_some hA hi
  obtain ⟨p1, p2, p3, _⟩ := hA
  have hlt : k < s.M.length := (List.getElem?_eq_some_iff.1 hk).1
  have hfp : ∀ q, (arr (ground sz g hl1 h1) E (some ⟨b, 0, none⟩) n c ys).fp q ↔ q = b := fun q => ⟨fun ⟨_, _, hA⟩ => by cases hA; rfl, fun hq => by subst hq; exact ⟨_, _, rfl⟩⟩
  -- the chunk as plain cells
  have hh1 : Holds e { s with M := s.M.set k (cells b cur E) } γ a w :=
    { size := hh.size, slots := hh.slots, defers := hh.defers, facts := hh.facts, fr := hh.fr, ok := hh.ok
      hm := hh.hm.set hk (Fr.refl _ γ w) hc (fun q hq => .inl ((hfp q).2 hq))
      own := fun d hd q hq => by
        rcases List.mem_or_eq_of_mem_set hd with t | t
        · exact hh.own d t q hq
        · subst t; exact hh.own _ (List.mem_of_getElem? hk) q ((hfp q).2 hq) }
  have hcl' : cur.length = c * sz := hcl
  have hi' : i.toNat < n := by rw [← p1]; exact (List.getElem?_eq_some_iff.1 h2).1
  have hin : i.toNat * sz + sz ≤ n * sz := by rw [← Nat.succ_mul]; exact Nat.mul_le_mul_right _ hi'
  have hnc : n * sz ≤ c * sz := Nat.mul_le_mul_right _ p2
  have hflat : cur.take (n * sz) = (ys.map g).flatten := row_flat.1 hr
  have hspl : spl cur (i.toNat * sz + j) v.cells.toList = ((ys.set i.toNat z').map g).flatten ++ cur.drop (n * sz) := by
    conv => lhs; rw [← List.take_append_drop (n * sz) cur, hflat]
    exact spl_flat hl1 ys i.toNat j z z' _ _ h2 (by rw [hl]; exact hfit) hz
  have hlf : (((ys.set i.toNat z').map g).flatten).length = n * sz := by
    have := (row_flat (γ := γ) (w := w) (hl1 := hl1) (h1 := h1)).2 (rfl : ((ys.set i.toNat z').map g).flatten = _)
    rw [this.len, List.length_set, p1]
    rfl
  refine op_store (s := { s with M := s.M.set k (cells b cur E) }) (k := k) (b := b) (off := i.toNat * sz + j) (c := cur) (Tb := E) (Kn := fun s' => s' = { s with M := (s.M.set k (cells b cur E)).set k (cells b (((ys.set i.toNat z').map g).flatten ++ cur.drop (n * sz)) E) }) ho hop ?_ hy (by rw [List.getElem?_set_self hlt]) ht hl (by omega) hone hspl rfl γ a w hh1 K Q ?_
  · rw [hx]; simp [ablk, aoff]
  · intro s' γ1 a1 w1 hs' hh2
    subst hs'
    rw [List.set_set] at hh2
    have hk2 : (s.M.set k (cells b (((ys.set i.toNat z').map g).flatten ++ cur.drop (n * sz)) E))[k]? = some (cells b (((ys.set i.toNat z').map g).flatten ++ cur.drop (n * sz)) E) := by rw [List.getElem?_set_self hlt]
    have hc2 := hh2.hm.all _ (List.mem_of_getElem? hk2)
    refine hK _ γ1 a1 w1 h ?_
    have hm3 := hh2.hm.set hk2 (Fr.refl _ γ1 w1) (c' := arr (ground sz g hl1 h1) E (some ⟨b, 0, none⟩) n c (ys.set i.toNat z')) ⟨by rw [List.length_set]; exact p1, p2, p3, .inr ⟨b, _, rfl, hc2, by rw [List.length_append, hlf, List.length_drop]; show _ = c * sz; omega, by
      show Row (ground sz g hl1 h1) γ1 w1 (ys.set i.toNat z') (List.take (n * sz) _)
      rw [List.take_append_of_le_length (by omega), List.take_of_length_le (by omega)]
      exact row_flat.2 rfl⟩⟩ (fun q hq => .inl (by obtain ⟨_, _, hA⟩ := hq; cases hA; rfl))
    rw [List.set_set] at hm3
    exact { size := hh2.size, slots := hh2.slots, defers := hh2.defers, facts := hh2.facts, fr := hh2.fr, ok := hh2.ok, hm := hm3
            own := fun d hd q hq => by
              rcases List.mem_or_eq_of_mem_set hd with t | t
              · exact hh.own d t q hq
              · subst t
                obtain ⟨_, _, hA⟩ := hq
                cases hA
                exact hh.own _ (List.mem_of_getElem? hk) _ ⟨_, _, rfl⟩ }

/-! ### Cut, copied, grown -/
theorem op_cutA {d m : Nat} {T : TypeId} {x y : Operand} {ag : Bool} {kd : IntKind} {i : Int} (ho : o.dst = some d) (hN : d < e.N) (hop : o.op = .slice T x none (some y) none) (hT : sliceOf P T = some E) (ht : tyOf P E = some (ag, m)) (hx : ev s.L x = some (.slice A n c)) (hy : ev s.L y = some (.int kd i)) (hk : s.M[k]? = some (arr rp E A n c ys)) (hi : 0 ≤ i ∧ i ≤ ys.length)
    (h : Kn (({ s with M := s.M.set k (arr rp E A i.toNat c (ys.take i.toNat)) } : St).put d (.slice A i.toNat c))) : OpTr P r e o Kn s := by
  intro γ a w hh K Q hK
  have hA := hh.hm.all _ (List.mem_of_getElem? hk)
  obtain ⟨p1, p2, p3, p4⟩ := hA
  have hA0 : slA A 0 c m = A := by
    unfold slA
    split
    · rfl
    · rcases p4 with ⟨rfl, _⟩ | ⟨b, cur, rfl, _⟩
      · rfl
      · simp [add_off]
  have hv := (v_slice (e := e) (s := s) (P := P) (l := 0) (h := i.toNat) (m := c) hop hT ht hx rfl ⟨kd, i, hy, hi.1, rfl⟩ rfl (by omega) (by omega) (Nat.le_refl _) (by simp) rfl rfl)
  rw [hA0] at hv
  refine OpTr.v (Kn := fun s' => s' = s.put d (.slice A i.toNat c)) hv ho hN rfl γ a w hh K Q ?_
  intro s' γ1 a1 w1 hs' hh2
  subst hs'
  refine hK _ γ1 a1 w1 h ?_
  have hk2 : (s.put d (.slice A i.toNat c)).M[k]? = some (arr rp E A n c ys) := hk
  obtain ⟨q1, q2, q3, q4⟩ := hh2.hm.all _ (List.mem_of_getElem? hk2)
  have hm3 := hh2.hm.set hk2 (Fr.refl _ γ1 w1) (c' := arr rp E A i.toNat c (ys.take i.toNat)) ⟨by rw [List.length_take]; omega, by omega, by omega, by
    rcases q4 with ⟨hA, hn, hc0⟩ | ⟨b, cur, hA, hc, hl, hr⟩
    · exact .inl ⟨hA, by omega, hc0⟩
    · refine .inr ⟨b, cur, hA, hc, hl, ?_⟩
      have := hr.take i.toNat
      rwa [List.take_take, Nat.min_eq_left (Nat.mul_le_mul_right _ (by omega))] at this⟩ (fun q hq => .inl hq)
  exact { size := hh2.size, slots := hh2.slots, defers := hh2.defers, facts := hh2.facts, fr := hh2.fr, ok := hh2.ok, hm := hm3
          own := fun d' hd q hq => by
            rcases List.mem_or_eq_of_mem_set hd with t | t
            · exact hh2.own d' t q hq
            · subst t; exact hh2.own _ (List.mem_of_getElem? hk2) q hq }
theorem op_cutA' {d m n' : Nat} {T : TypeId} {x y : Operand} {ag : Bool} {kd : IntKind} {i : Int} (ho : o.dst = some d) (hN : d < e.N) (hop : o.op = .slice T x none (some y) none) (hT : sliceOf P T = some E) (ht : tyOf P E = some (ag, m)) (hx : ev s.L x = some (.slice A n c)) (hy : ev s.L y = some (.int kd i)) (hk : s.M[k]? = some (arr rp E A n c ys)) (hi : 0 ≤ i ∧ i ≤ ys.length) (hn : i.toNat = n')
    (h : Kn (({ s with M := s.M.set k (arr rp E A n' c (ys.take n')) } : St).put d (.slice A n' c))) : OpTr P r e o Kn s := by
  subst hn
  exact op_cutA ho hN hop hT ht hx hy hk hi h
/-- append(none, y...), still owned. -/
theorem op_appendN {d ky by_ m cy : Nat} {T : TypeId} {x y : Operand} {ag : Bool} {zs : List α} {B : Option Addr} {zc : List Value} (ho : o.dst = some d) (hN : d < e.N)
    (hop : o.op = .call { callee := .builtin .append, args := #[x, y], argTypes := #[T, T] }) (hT : sliceOf P T = some E) (ht : tyOf P E = some (ag, rp.sz)) (hz : zeroOf P E = some zc) (hzl : zc.length = rp.sz) (hby : bytesOf P E = some by_)
    (hx : ev s.L x = some (.slice none 0 0)) (hy : ev s.L y = some (.slice B m cy)) (hm : m = zs.length) (hfy : s.F[ky]? = some (slF rp B cy zs)) (hb : (0 + zs.length) * by_ ≤ big) (hb2 : 0 + zs.length ≤ big)
    (h : ∀ A' c', Kn (({ s with M := arr rp E A' zs.length c' zs :: s.M } : St).put d (.slice A' zs.length c'))) : OpTr P r e o Kn s := by
  intro γ a w hh K Q hK
  refine ⟨fun f _ => fen_fn r f, ?_⟩
  subst hm
  obtain ⟨i, hi, hsz⟩ := tyOf_info ht
  obtain ⟨i', z, hi', hz', hzc⟩ := zeroOf_info hz
  obtain ⟨i'', hi'', hby'⟩ := bytesOf_info hby
  rw [hi] at hi' hi''
  cases hi'
  cases hi''
  have hy0 : SlP rp γ w B cy zs := hh.facts _ (List.mem_of_getElem? hfy)
  rw [semAt_eq _ _ _ (by rw [hop]; intro c; simp)]
  by_cases h0 : zs.length = 0
  · have hzs : zs = [] := List.eq_nil_of_length_eq_zero h0
    subst hzs
    have hr := run_append_same (P := P) (w := w) (ty := o.type) (sliceOf_und hT) hi none B 0 0 cy (Nat.le_refl _)
    have hrun : (execOp a.eval o).run P w = .ok (.value (.slice none 0 0)) w := by
      simp only [execOp, hop, resolve, invoke, builtin, Sem.run_bind, Sem.run_pure, Result.andThen_ok, List.map_toArray, List.map_cons, List.map_nil, hh.eval hx, hh.eval hy, List.length_nil, hr]
    rw [hrun, Oper.uponIn_value, ho]
    exact hK _ γ _ _ (h none 0) ((hh.arrNil rp E).put d _ hN)
  · obtain ⟨ad, hB⟩ : ∃ ad, B = some ad := by
      cases B with
      | none => exact absurd (by rw [hy0.nil rfl]; rfl) h0
      | some ad => exact ⟨ad, rfl⟩
    subst hB
    obtain ⟨hspot', dy, hry, hcy⟩ := hy0.row ad rfl
    have hspot : ad.spot = none := hspot' (fun q => h0 (by rw [q]; rfl))
    have hny : ∀ j v, dy[j]? = some v → w.cell? (ad.add j) = some v := fun j v hv => by
      obtain ⟨qb, qo, qs⟩ := ad
      simp at hspot
      subst hspot
      rw [add_off]
      exact (hcy j v hv).1
    simp only [big] at hb hb2
    have hr := run_append_nil (P := P) w T o.type E i z (sliceOf_und hT) hi hz' ad zs.length cy dy (by rw [hry.len, hsz]) hny (by omega) (by omega) (by rw [hby']; simp at hb; omega)
    have hge := grownCap_ge w zs.length 0 E
    generalize grownCap w zs.length 0 E = cap at hr hge
    have hcell : (Builtin.zeroCells z.cells (cap - zs.length)).toList.length = (cap - zs.length) * rp.sz := by
      have := size_zeroCells z.cells (cap - zs.length)
      rw [Array.length_toList, this, ← hzl, ← hzc]; simp
    have hrun : (execOp a.eval o).run P w = .ok (.value (.slice (some ⟨w.heap.size, 0, none⟩) zs.length cap)) (w.drew.alloc (.cells (dy ++ (Builtin.zeroCells z.cells (cap - zs.length)).toList).toArray E)) := by
      simp only [execOp, hop, resolve, invoke, builtin, Sem.run_bind, Sem.run_pure, Result.andThen_ok, List.map_toArray, List.map_cons, List.map_nil, hh.eval hx, hh.eval hy, hr]
      congr 3
      apply Array.ext'
      simp
    rw [hrun, Oper.uponIn_value, ho]
    have hd : Holds e s γ a w.drew := { size := hh.size, slots := hh.slots, defers := hh.defers, facts := fun f hf => Fact.mono f (⟨Nat.le_refl _, fun _ => Nat.le_refl _, fun _ _ _ => rfl⟩ : Le γ w γ w.drew) (hh.facts f hf), fr := ⟨⟨hh.fr.le.size, hh.fr.le.up, hh.fr.le.cell⟩, hh.fr.os, hh.fr.tape, hh.fr.output, hh.fr.block, hh.fr.gh⟩, ok := hh.ok, hm := ⟨fun d hd => Chunk.stable (γ := γ) (w := w) (γ' := γ) (w' := w.drew) d (fun _ _ => ⟨rfl, rfl⟩) ⟨Nat.le_refl _, fun _ => Nat.le_refl _, fun _ _ _ => rfl⟩ (hh.hm.all d hd), hh.hm.sep⟩, own := hh.own }
    have hn := hd.new (dy ++ (Builtin.zeroCells z.cells (cap - zs.length)).toList) E
    have hc := hn.hm.all _ List.mem_cons_self
    have hsep := List.pairwise_cons.1 hn.hm.sep
    refine hK _ γ _ _ (h (some ⟨w.heap.size, 0, none⟩) cap) (Holds.put ?_ d _ hN)
    exact { size := hn.size, slots := hn.slots, defers := hn.defers, facts := hn.facts, fr := hn.fr, ok := hn.ok
            hm := HM.cons ⟨fun d hd => hn.hm.all d (List.mem_cons_of_mem _ hd), hsep.2⟩ ⟨rfl, hge, hy0.bd, .inr ⟨_, _, rfl, hc, by rw [List.length_append, hcell, hry.len, ← Nat.add_mul]; congr 1; omega, by
              rw [← hry.len, List.take_append_of_le_length (Nat.le_refl _), List.take_length]
              have hlen0 := hry
              exact hry.mono (⟨by simp [World.alloc], fun _ => Nat.le_refl _, fun b j hj => by
                have hb : b < w.heap.size := by
                  rcases Nat.lt_or_ge b w.heap.size with q | q
                  · exact q
                  · have := hh.ok b q; omega
                exact World.cell?_of_block (heap_alloc_old w.drew _ _ hb)⟩ : Le γ w γ _)⟩⟩ (fun d hd b hb => by
              obtain ⟨off, sp, hA⟩ := hb
              cases hA
              exact hsep.1 d hd _ rfl)
            own := fun d hd b hb => by
              rcases List.mem_cons.1 hd with q | q
              · subst q
                obtain ⟨off, sp, hA⟩ := hb
                cases hA
                exact hn.own _ List.mem_cons_self _ rfl
              · exact hn.own d (List.mem_cons_of_mem _ q) b hb }
end
end Go.Proofs.Ytbeknohemgjfbaa.L
namespace Go.Proofs.Ytbeknohemgjfbaa.L
open Go Go.Proofs.Ytbeknohemgjfbaa.Pu
set_option linter.unusedVariables false

section
variable {P : Program} {r : Option Nat} {e : Env} {o : Oper} {Kn : St → Prop} {s : St} {γ γ' : Gh} {w w' : World} {a : Act}
variable {α : Type} {rp : Rep α} {E : TypeId} {A : Option Addr} {n c k : Nat} {ys : List α}

/-- copy(x, y), whose elements are of one cell. -/
theorem op_copy {g : α → List Value} {hl1 : ∀ x, (g x).length = 1} {h1 : ∀ x, ∀ v ∈ g x, v.oneCell' = true} {d ky m cy : Nat} {T T2 : TypeId} {x y : Operand} {ag : Bool} {zs : List α} {B : Option Addr} (ho : o.dst = some d) (hN : d < e.N)
    (hop : o.op = .call { callee := .builtin .copy, args := #[x, y], argTypes := #[T, T2] }) (hT : sliceOf P T = some E) (ht : tyOf P E = some (ag, 1))
    (hx : ev s.L x = some (.slice A n c)) (hy : ev s.L y = some (.slice B m cy)) (hm : m = zs.length) (hk : s.M[k]? = some (arr (ground 1 g hl1 h1) E A n c ys)) (hfy : s.F[ky]? = some (slF (ground 1 g hl1 h1) B cy zs))
    (h : Kn (({ s with M := s.M.set k (arr (ground 1 g hl1 h1) E A n c (zs.take ys.length ++ ys.drop zs.length)) } : St).put d (.int .i64 (min (zs.length : Int) (ys.length : Int))))) : OpTr P r e o Kn s := by
  intro γ a w hh K Q hK
  refine ⟨fun f _ => fen_fn r f, ?_⟩
  subst hm
  have hA := hh.hm.all _ (List.mem_of_getElem? hk)
  obtain ⟨p1, p2, p3, p4⟩ := hA
  have hlt : k < s.M.length := (List.getElem?_eq_some_iff.1 hk).1
  have hy0 : SlP (ground 1 g hl1 h1) γ w B cy zs := hh.facts _ (List.mem_of_getElem? hfy)
  obtain ⟨i, hi, hsz⟩ := tyOf_info ht
  have hs1 : (P.info? E).map (·.size) = some 1 := by rw [hi]; simp [hsz]
  have hgo : ∀ q : Nat, goInt (q : Int) = .int .i64 (q : Int) := fun q => rfl
  have hmin : ((min zs.length ys.length : Nat) : Int) = min (zs.length : Int) (ys.length : Int) := by omega
  rw [semAt_eq _ _ _ (by rw [hop]; intro c; simp)]
  by_cases h0 : min zs.length ys.length = 0
  · have hr := run_copy_none (P := P) w T T2 o.type E A B n c zs.length cy (sliceOf_und hT) hs1 (by rw [← p1]; exact h0)
    have hrun : (execOp a.eval o).run P w = .ok (.value (.int .i64 (min (zs.length : Int) (ys.length : Int)))) w := by
      have e0 : goInt 0 = .int .i64 (min (zs.length : Int) (ys.length : Int)) := by rw [← hmin, h0, ← hgo]; rfl
      rw [← e0]
      simp only [execOp, hop, resolve, invoke, builtin, Sem.run_bind, Sem.run_pure, Result.andThen_ok, List.map_toArray, List.map_cons, List.map_nil, hh.eval hx, hh.eval hy, hr]
    rw [hrun, Oper.uponIn_value, ho]
    have hys : zs.take ys.length ++ ys.drop zs.length = ys := by
      by_cases hz : zs.length = 0
      · have : zs = [] := List.eq_nil_of_length_eq_zero hz
        subst this; simp
      · have : ys = [] := List.eq_nil_of_length_eq_zero (by omega)
        subst this; simp
    rw [hys] at h
    have hset : s.M.set k (arr (ground 1 g hl1 h1) E A n c ys) = s.M := by
      apply List.ext_getElem?
      intro j
      rw [List.getElem?_set]
      split
      · rename_i hj; subst hj; exact hk.symm
      · rfl
    rw [hset] at h
    exact hK _ γ _ _ h (hh.put d _ hN)
  · rcases p4 with ⟨rfl, hn0⟩ | ⟨b, cur, rfl, hc, hcl, hrow⟩
    · omega
    · obtain ⟨ad, hB⟩ : ∃ ad, B = some ad := by
        cases B with
        | none => have := hy0.nil rfl; subst this; simp at h0
        | some ad => exact ⟨ad, rfl⟩
      subst hB
      obtain ⟨hspot', dz, hrz, hcz⟩ := hy0.row ad rfl
      have hspot : ad.spot = none := hspot' (fun q => by subst q; simp at h0)
      have hdz : dz = (zs.map g).flatten := row_flat.1 hrz
      have hdy : cur.take (n * 1) = (ys.map g).flatten := row_flat.1 hrow
      have hcl' : cur.length = c * 1 := hcl
      have hlz : dz.length = zs.length * 1 := hrz.len
      have hly : (cur.take (n * 1)).length = ys.length * 1 := hrow.len
      have hr := run_copy_row (P := P) w T T2 o.type E b 0 n c ad zs.length cy cur.toArray E (dz.take n) (sliceOf_und hT) hs1 hc.1 (by rw [List.length_take, hlz]; simp only [Nat.min_def]; split <;> split <;> omega) (fun j v hv => by
        rw [List.getElem?_take] at hv
        split at hv
        · obtain ⟨qb, qo, qs⟩ := ad
          simp at hspot
          subst hspot
          rw [add_off]
          exact (hcz j v hv).1
        · cases hv) (by rw [List.length_take, hlz]; simp only [List.size_toArray]; omega) (fun v hv => hrz.one v (List.mem_of_mem_take hv))
      have hq : (dz.take n).length = min zs.length ys.length := by rw [List.length_take, hlz, p1]; omega
      rw [hq] at hr
      -- the new cells
      have hnew : (cur.toArray.toList.take 0 ++ dz.take n ++ cur.toArray.toList.drop (0 + min zs.length ys.length)) = ((zs.take ys.length ++ ys.drop zs.length).map g).flatten ++ cur.drop n := by
        have e1 : ∀ (l : List α) (j : Nat), ((l.map g).flatten).take j = ((l.take j).map g).flatten := by
          intro l
          induction l with
          | nil => intro j; simp
          | cons x l ih =>
            intro j
            cases j with
            | zero => simp
            | succ j =>
              have hgx := hl1 x
              rw [List.map_cons, List.flatten_cons, List.take_succ_cons, List.map_cons, List.flatten_cons, ← ih j]
              match hg : g x, hgx with
              | [v], _ => simp
        have e2 : ∀ (l : List α) (j : Nat), ((l.map g).flatten).drop j = ((l.drop j).map g).flatten := by
          intro l
          induction l with
          | nil => intro j; simp
          | cons x l ih =>
            intro j
            cases j with
            | zero => simp
            | succ j =>
              have hgx := hl1 x
              rw [List.map_cons, List.flatten_cons, List.drop_succ_cons, ← ih j]
              match hg : g x, hgx with
              | [v], _ => simp
        rw [Nat.mul_one] at hdy
        have ec : cur = (ys.map g).flatten ++ cur.drop n := by rw [← hdy, List.take_append_drop]
        have hfl : ((ys.map g).flatten).length = n := by rw [← hdy, List.length_take]; omega
        rw [List.take_zero, List.nil_append, Nat.zero_add, List.map_append, List.flatten_append, hdz, e1, ← e2, p1, List.append_assoc]
        congr 1
        show cur.drop _ = _
        conv => lhs; rw [ec]
        by_cases hzy : zs.length ≤ n
        · rw [Nat.min_eq_left hzy, List.drop_append_of_le_length (by omega)]
        · have d1 : ((ys.map g).flatten).drop n = [] := List.drop_of_length_le (by omega)
          have d2 : ((ys.map g).flatten).drop zs.length = [] := List.drop_of_length_le (by omega)
          rw [Nat.min_eq_right (by omega), List.drop_append_of_le_length (by omega), d1, d2]
      rw [hnew] at hr
      have hrun : (execOp a.eval o).run P w = .ok (.value (.int .i64 (min (zs.length : Int) (ys.length : Int)))) (w.setRow b (((zs.take ys.length ++ ys.drop zs.length).map g).flatten ++ cur.drop n).toArray) := by
        rw [← hmin, ← hgo]
        simp only [execOp, hop, resolve, invoke, builtin, Sem.run_bind, Sem.run_pure, Result.andThen_ok, List.map_toArray, List.map_cons, List.map_nil, hh.eval hx, hh.eval hy, hr]
      rw [hrun, Oper.uponIn_value, ho]
      have fr := Fr.setRow hc (((zs.take ys.length ++ ys.drop zs.length).map g).flatten ++ cur.drop n)
      have hfp : ∀ q, (arr (ground 1 g hl1 h1) E (some ⟨b, 0, none⟩) n c ys).fp q ↔ q = b := fun q => ⟨fun ⟨_, _, hA⟩ => by cases hA; rfl, fun hq => by subst hq; exact ⟨_, _, rfl⟩⟩
      have fr' : Fr (arr (ground 1 g hl1 h1) E (some ⟨b, 0, none⟩) n c ys).fp γ w γ (w.setRow b (((zs.take ys.length ++ ys.drop zs.length).map g).flatten ++ cur.drop n).toArray) :=
        ⟨fr.le, fr.os, fr.tape, fr.output, fun x hx hn => fr.block x hx (fun q => hn ((hfp x).2 q)), fun x hx hn => fr.gh x hx (fun q => hn ((hfp x).2 q))⟩
      have hll : (zs.take ys.length ++ ys.drop zs.length).length = n := by rw [List.length_append, List.length_take, List.length_drop]; omega
      have hflen : (((zs.take ys.length ++ ys.drop zs.length).map g).flatten).length = n := by
        have := (row_flat (γ := γ) (w := w) (hl1 := hl1) (h1 := h1)).2 (rfl : ((zs.take ys.length ++ ys.drop zs.length).map g).flatten = _)
        rw [this.len, hll]
        exact Nat.mul_one _
      refine hK _ γ _ _ h (Holds.put ?_ d _ hN)
      refine hh.step fr' (fun x hx => hh.own _ (List.mem_of_getElem? hk) x hx) (hh.hm.set hk fr' ⟨hll, p2, p3, .inr ⟨b, _, rfl, ⟨setRow_heap w b cur.toArray _ E (0, 0) hc.1, hc.2⟩, ?_, ?_⟩⟩ (fun x hx => .inl hx)) ?_ (fun x hx => hh.ok x (by simpa using hx))
      · rw [List.length_append, hflen, List.length_drop]; show _ = c * 1; omega
      · show Row (ground 1 g hl1 h1) γ _ _ (List.take (n * 1) _)
        have t1 : (((zs.take ys.length ++ ys.drop zs.length).map g).flatten).take n = ((zs.take ys.length ++ ys.drop zs.length).map g).flatten := List.take_of_length_le (by omega)
        rw [Nat.mul_one, List.take_append_of_le_length (by omega), t1]
        exact row_flat.2 rfl
      · intro d' hd x hx'
        rcases List.mem_or_eq_of_mem_set hd with q | q
        · exact hh.own d' q x hx'
        · subst q; exact hh.own _ (List.mem_of_getElem? hk) x hx'

/-- A text's bytes. -/
theorem op_strb {d : Nat} {T T' e' : TypeId} {x : Operand} {u : ByteArray} (ho : o.dst = some d) (hN : d < e.N) (hop : o.op = .convert T T' x) (hT : P.underlying T = some .string) (hT' : P.underlying T' = some (.slice e')) (he : P.underlying e' = some (.int .u8))
    (hx : ev s.L x = some (.string u)) (hlen : u.size ≤ big) (h : ∀ A c, Kn (({ s with F := s.F ++ [slF (rInt .u8) A c (bytesL u)] } : St).put d (.slice A (bytesL u).length c))) : OpTr P r e o Kn s := by
  intro γ a w hh K Q hK
  refine ⟨fun f _ => fen_fn r f, ?_⟩
  have hbl : (bytesL u).length = u.size := by unfold bytesL; rw [List.length_map, Array.length_toList]; rfl
  have hr := run_bytes_of_string (P := P) w T T' e' u hT hT' he
  rw [hbl] at h
  have hge := grownCap_ge w u.size 0 e'
  generalize grownCap w u.size 0 e' = cap at hr hge
  have hrun : (execOp a.eval o).run P w = .ok (.value (.slice (some ⟨w.heap.size, 0, none⟩) u.size cap)) (w.drew.alloc (.cells (bytesRow u cap) e' ((bytesRow u cap).size, (bytesRow u cap).size + 1))) := by
    simp only [execOp, hop, Sem.run_bind, hh.eval hx, hr, Result.andThen, Sem.run_pure]
  rw [semAt_eq _ _ _ (by rw [hop]; intro c; simp), hrun, Oper.uponIn_value, ho]
  generalize hob : (Obj.cells (bytesRow u cap) e' ((bytesRow u cap).size, (bytesRow u cap).size + 1)) = ob
  have hnew : (w.drew.alloc ob).heap[w.heap.size]? = some ob := heap_alloc_new w.drew ob
  have fr : Fr (fun _ => False) γ w (upd γ w.heap.size u.size) (w.drew.alloc ob) := {
    le := ⟨by simp [World.alloc], fun x => by
      by_cases hx : x = w.heap.size
      · subst hx; rw [hh.ok _ (Nat.le_refl _)]; exact Nat.zero_le _
      · rw [upd_other _ _ hx]; exact Nat.le_refl _, fun x j hj => by
      have hb : x < w.heap.size := by
        rcases Nat.lt_or_ge x w.heap.size with q | q
        · exact q
        · have := hh.ok x q; omega
      exact World.cell?_of_block (heap_alloc_old w.drew _ _ hb)⟩
    os := rfl
    tape := rfl
    output := rfl
    block := fun x hx _ => heap_alloc_old w.drew ob _ hx
    gh := fun x hx _ => upd_other _ _ (by omega) }
  have hst := hh.step fr (fun b hb => hb.elim) (hh.hm.keep fr (fun _ _ _ _ q => q)) hh.own (fun x hx => by
    rw [upd_other _ _ (by simp [World.alloc] at hx; omega)]
    exact hh.ok x (by simp [World.alloc] at hx; omega))
  refine hK _ _ _ _ (h (some ⟨w.heap.size, 0, none⟩) cap) ((hst.addF (f := slF (rInt .u8) (some ⟨w.heap.size, 0, none⟩) cap (bytesL u)) ⟨by omega, by simp only [big] at hlen; simp only [top]; omega, (fun q => by cases q), fun q hq => ?_⟩).put d _ hN)
  cases hq
  refine ⟨fun _ => rfl, (bytesL u).map (fun x => Value.int .u8 x), ?_, fun j v hv => ?_⟩
  · generalize bytesL u = l
    induction l with
    | nil => exact .nil
    | cons x l ih => exact Row.cons (r := rInt .u8) (x := x) (cs := [.int .u8 x]) rfl ih
  · have hj : j < u.size := by rw [← hbl]; simpa using (List.getElem?_eq_some_iff.1 hv).1
    refine ⟨?_, by rw [upd_same]; simp only [Nat.zero_add]; exact hj⟩
    rw [Nat.zero_add]
    have : (w.drew.alloc ob).cell? ⟨w.heap.size, j, none⟩ = (bytesRow u cap)[j]? := by
      unfold World.cell?
      simp only []
      rw [hnew, ← hob]
      rfl
    rw [this, ← hv]
    have hj' : j < (u.data.map (fun b => Value.int .u8 (b.toNat : Int))).size := by rw [Array.size_map]; exact hj
    unfold bytesRow bytesL
    rw [Array.getElem?_append_left hj']
    simp
    rfl

theorem run_equal_pnil {T E' : TypeId} (hT : P.underlying T = some (.pointer E')) (p : Option Addr) (w : World) : (Op.equal T (.pointer p) (.pointer none)).run P w = .ok p.isNone w := by
  have : ∀ d, (Op.equalIn (d + 1) T (.pointer p) (.pointer none)).run P w = .ok p.isNone w := by
    intro d
    cases p <;> simp only [Op.equalIn, Sem.run_bind, run_und' hT, Result.andThen, Sem.run_pure, Option.isNone]
  exact this 9999
/-- Pointers and nil. -/
theorem v_pnil {T T' E' : TypeId} {x y : Operand} {p : Option Addr} {b : Bool} (hop : o.op = .binOp .eql T x y T') (hT : P.underlying T = some (.pointer E')) (hx : ev s.L x = some (.pointer p)) (hy : ev s.L y = some (.pointer none)) (hb : p.isNone = b) : OpV P e o s (.bool b) :=
  ⟨(by rw [hop]; intro c; simp), (fun γ a w hh => by
    subst hb
    simp only [execOp, hop, hh.eval hx, hh.eval hy]
    simp [eqGuard, binOp, run_equal_pnil hT])⟩
theorem v_pnilne {T T' E' : TypeId} {x y : Operand} {p : Option Addr} {b : Bool} (hop : o.op = .binOp .neq T x y T') (hT : P.underlying T = some (.pointer E')) (hx : ev s.L x = some (.pointer p)) (hy : ev s.L y = some (.pointer none)) (hb : (!p.isNone) = b) : OpV P e o s (.bool b) :=
  ⟨(by rw [hop]; intro c; simp), (fun γ a w hh => by
    subst hb
    simp only [execOp, hop, hh.eval hx, hh.eval hy]
    simp [eqGuard, binOp, run_equal_pnil hT])⟩

/-- s[:i:m] -/
theorem slx5_v {T : TypeId} {x y z : Operand} {ag : Bool} {sz : Nat} {kd kd2 : IntKind} {i m : Int} {xs : List α} (hop : o.op = .slice T x none (some y) (some z)) (hT : sliceOf P T = some E) (ht : tyOf P E = some (ag, sz)) (hx : ev s.L x = some (.slice A n c)) (hn : n = xs.length) (hy : ev s.L y = some (.int kd i)) (hz : ev s.L z = some (.int kd2 m)) (h : 0 ≤ i ∧ i ≤ m ∧ m ≤ xs.length) (hk : s.F[k]? = some (slF rp A c xs)) :
    OpV P e o s (.slice (slA A 0 m.toNat sz) (xs.take i.toNat).length m.toNat) :=
  ⟨by rw [hop]; intro c; simp, fun γ a w hh => by
    have hc := slF_lec hk hh.facts
    subst hn
    exact (v_slice (l := 0) (h := i.toNat) (m := m.toNat) hop hT ht hx rfl ⟨kd, i, hy, h.1, rfl⟩ ⟨kd2, m, hz, by omega, rfl⟩ (by omega) (by omega) (by omega) (by simp) (by rw [List.length_take]; omega) rfl).run γ a w hh⟩
theorem slx5_f {i m : Int} {xs : List α} (hk : s.F[k]? = some (slF rp A c xs)) (h : 0 ≤ i ∧ i ≤ m ∧ m ≤ xs.length) : ∀ γ w, (∀ g ∈ s.F, g.p γ w) → (∀ c ∈ s.M, c.p γ w) → (slF rp (slA A 0 m.toNat rp.sz) m.toNat (xs.take i.toNat)).p γ w := fun γ w hF hM => by
  have hc := slF_lec hk hF
  exact slF_part (l := 0) (h := i.toNat) (m := m.toNat) hk (by omega) (by omega) (by omega) (by omega) rfl rfl γ w hF hM
theorem Tr.renormF {cd : Code} {Q : SPost} (f : Nat → St) (k : Nat) (hi : Imp e s (f n)) (hk : (f n).M[k]? = some (arr rp E A n c ys)) (h : Tr P r e cd Q (f ys.length)) : Tr P r e cd Q s := fun γ a w hh => by
  have h2 := hi γ a w hh
  have hn := (h2.hm.all _ (List.mem_of_getElem? hk)).1
  rw [← hn] at h2
  exact h γ a w h2
theorem TrL.renormF {ops : Array Oper} {l : List Oper} (f : Nat → St) (k : Nat) (hi : Imp e s (f n)) (hk : (f n).M[k]? = some (arr rp E A n c ys)) (h : TrL P r e ops l Kn (f ys.length)) : TrL P r e ops l Kn s := fun γ a w hh => by
  have h2 := hi γ a w hh
  have hn := (h2.hm.all _ (List.mem_of_getElem? hk)).1
  rw [← hn] at h2
  exact h γ a w h2
theorem TrL.shut' {ops : Array Oper} {l : List Oper} (k : Nat) (hk : s.M[k]? = some (arr rp E A n c ys)) (h : TrL P r e ops l Kn { s with M := s.M.eraseIdx k, F := s.F ++ [slF rp A c ys] }) : TrL P r e ops l Kn s := TrL.shut _ k hk (fun _ => rfl) h
theorem Tr.shut' {cd : Code} {Q : SPost} (k : Nat) (hk : s.M[k]? = some (arr rp E A n c ys)) (h : Tr P r e cd Q { s with M := s.M.eraseIdx k, F := s.F ++ [slF rp A c ys] }) : Tr P r e cd Q s := Tr.shut _ k hk (fun _ => rfl) h
theorem Tr.shutG' {cd : Code} {Q : SPost} (k : Nat) (hk : s.M[k]? = some (arr rp E A n c ys)) (h : Tr P r e cd Q { s with M := s.M.set k (grow E rp.sz (.slice A n c) n (A.map (·.block))), F := s.F ++ [slF rp A c ys] }) : Tr P r e cd Q s := Tr.shutG _ k hk (fun _ => rfl) h

/-! ### In short words -/
theorem op_makeS {d by_ : Nat} {T : TypeId} {x y : Operand} {ag : Bool} {kl kc : IntKind} {l : Int} {zc : List Value} {z : α} (ho : o.dst = some d) (hN : d < e.N) (hop : o.op = .makeSlice T x y) (hT : sliceOf P T = some E) (ht : tyOf P E = some (ag, rp.sz)) (hz : zeroOf P E = some zc) (hzl : zc.length = rp.sz) (hby : bytesOf P E = some by_)
    (hx : ev s.L x = some (.int kl l)) (hy : ev s.L y = some (.int kc l)) (h0 : 0 ≤ l) (hn : l.toNat = n) (hb : n * by_ ≤ 140737488355328 ∧ n ≤ 140737488355328) (hR : ∀ γ w, rp.R γ w z zc)
    (h : ∀ A, Kn ((s.cm (arr rp E A n n (List.replicate n z))).put d (.slice A n n))) : OpTr P r e o Kn s := op_make' ho hN hop hT ht hz hzl hby hx hy h0 hn hb hR h
theorem op_storeAS {g : α → List Value} {sz : Nat} {hl1 : ∀ x, (g x).length = sz} {h1 : ∀ x, ∀ v ∈ g x, v.oneCell' = true} {m j : Nat} {T : TypeId} {x y : Operand} {i : Int} {ag : Bool} {z z' : α} {v : Value} (ho : o.dst = none) (hop : o.op = .store T x y)
    (hx : ev s.L x = some (.pointer (some ⟨ablk A, aoff A + i.toNat * sz + j, none⟩))) (hy : ev s.L y = some v) (hk : s.M[k]? = some (arr (ground sz g hl1 h1) E A n c ys)) (ht : tyOf P T = some (ag, m)) (hl : v.cells.toList.length = m) (hi : rdo ys i = some z) (hfit : j + m ≤ sz)
    (hone : ∀ u ∈ v.cells.toList, u.oneCell' = true) (hz : spl (g z) j v.cells.toList = g z') (h : Kn (s.sm k (arr (ground sz g hl1 h1) E A n c (ys.set i.toNat z')))) : OpTr P r e o Kn s := op_storeA ho hop hx hy hk ht hl hi hfit hone hz h
theorem op_cutAS {d m n' : Nat} {T : TypeId} {x y : Operand} {ag : Bool} {kd : IntKind} {i : Int} (ho : o.dst = some d) (hN : d < e.N) (hop : o.op = .slice T x none (some y) none) (hT : sliceOf P T = some E) (ht : tyOf P E = some (ag, m)) (hx : ev s.L x = some (.slice A n c)) (hy : ev s.L y = some (.int kd i)) (hk : s.M[k]? = some (arr rp E A n c ys)) (hi : 0 ≤ i ∧ i ≤ ys.length) (hn : i.toNat = n')
    (h : Kn ((s.sm k (arr rp E A n' c (ys.take n'))).put d (.slice A n' c))) : OpTr P r e o Kn s := op_cutA' ho hN hop hT ht hx hy hk hi hn h
theorem op_appendNS {d ky by_ m cy : Nat} {T : TypeId} {x y : Operand} {ag : Bool} {zs : List α} {B : Option Addr} {zc : List Value} (ho : o.dst = some d) (hN : d < e.N)
    (hop : o.op = .call { callee := .builtin .append, args := #[x, y], argTypes := #[T, T] }) (hT : sliceOf P T = some E) (ht : tyOf P E = some (ag, rp.sz)) (hz : zeroOf P E = some zc) (hzl : zc.length = rp.sz) (hby : bytesOf P E = some by_)
    (hx : ev s.L x = some (.slice none 0 0)) (hy : ev s.L y = some (.slice B m cy)) (hm : m = zs.length) (hfy : s.F[ky]? = some (slF rp B cy zs)) (hb : (0 + zs.length) * by_ ≤ big ∧ 0 + zs.length ≤ big)
    (h : ∀ A' c', Kn ((s.cm (arr rp E A' zs.length c' zs)).put d (.slice A' zs.length c'))) : OpTr P r e o Kn s := op_appendN ho hN hop hT ht hz hzl hby hx hy hm hfy hb.1 hb.2 h
theorem op_copyS {g : α → List Value} {hl1 : ∀ x, (g x).length = 1} {h1 : ∀ x, ∀ v ∈ g x, v.oneCell' = true} {d ky m cy : Nat} {T T2 : TypeId} {x y : Operand} {ag : Bool} {zs : List α} {B : Option Addr} (ho : o.dst = some d) (hN : d < e.N)
    (hop : o.op = .call { callee := .builtin .copy, args := #[x, y], argTypes := #[T, T2] }) (hT : sliceOf P T = some E) (ht : tyOf P E = some (ag, 1))
    (hx : ev s.L x = some (.slice A n c)) (hy : ev s.L y = some (.slice B m cy)) (hm : m = zs.length) (hk : s.M[k]? = some (arr (ground 1 g hl1 h1) E A n c ys)) (hfy : s.F[ky]? = some (slF (ground 1 g hl1 h1) B cy zs))
    (h : Kn ((s.sm k (arr (ground 1 g hl1 h1) E A n c (zs.take ys.length ++ ys.drop zs.length))).put d (.int .i64 (min (zs.length : Int) (ys.length : Int))))) : OpTr P r e o Kn s := op_copy ho hN hop hT ht hx hy hm hk hfy h
theorem op_strbS {d : Nat} {T T' e' : TypeId} {x : Operand} {u : ByteArray} (ho : o.dst = some d) (hN : d < e.N) (hop : o.op = .convert T T' x) (hT : P.underlying T = some .string) (hT' : P.underlying T' = some (.slice e')) (he : P.underlying e' = some (.int .u8))
    (hx : ev s.L x = some (.string u)) (hlen : u.size ≤ 140737488355328) (h : ∀ A c, Kn ((s.cf (slF (rInt .u8) A c (bytesL u))).put d (.slice A (bytesL u).length c))) : OpTr P r e o Kn s := op_strb ho hN hop hT hT' he hx hlen h
theorem Imp.arrNil' {t : St} (rp : Rep α) (E : TypeId) (h : Imp e (s.cm (arr rp E none 0 0 [])) t) : Imp e s t := Imp.arrNil rp E h
end
end Go.Proofs.Ytbeknohemgjfbaa.L
namespace Go.Proofs.Ytbeknohemgjfbaa.L
open Go Go.Proofs.Ytbeknohemgjfbaa.Pu
set_option linter.unusedVariables false

section
variable {P : Program} {r : Option Nat} {e : Env} {o : Oper} {Kn : St → Prop} {s : St} {γ γ' : Gh} {w w' : World} {a : Act}
variable {α : Type} {rp : Rep α} {E : TypeId} {A : Option Addr} {n c k : Nat} {ys : List α}

theorem v_cap {x : Operand} {T : TypeId} (hop : o.op = .call { callee := .builtin .cap, args := #[x], argTypes := #[T] }) (hT : sliceOf P T = some E) (hx : ev s.L x = some (.slice A n c)) : OpV P e o s (.int .i64 c) :=
  ⟨(by rw [hop]; intro c; simp), (fun γ a w hh => by
    simp [execOp, hop, hh.eval hx, resolve, invoke, builtin, Builtin.cap_, run_und' (sliceOf_und hT), goInt])⟩

/-- A block becomes an owned slice. -/
theorem Holds.newA (hh : Holds e s γ a w) (cs : List Value) (E : TypeId) (n : Nat) (hl : cs.length = n * rp.sz) (hy : ys.length = n) (hn : n ≤ top) (hr : ∀ γ w, Row rp γ w ys cs) : Holds e (s.cm (arr rp E (some ⟨w.heap.size, 0, none⟩) n n ys)) γ a (w.alloc (.cells cs.toArray E)) := by
  have h1 := hh.new cs E
  have hc := h1.hm.all _ List.mem_cons_self
  have hsep := List.pairwise_cons.1 h1.hm.sep
  exact { size := h1.size, slots := h1.slots, defers := h1.defers, facts := h1.facts, fr := h1.fr, ok := h1.ok
          hm := HM.cons ⟨fun d hd => h1.hm.all d (List.mem_cons_of_mem _ hd), hsep.2⟩ ⟨hy, Nat.le_refl _, hn, .inr ⟨_, _, rfl, hc, hl, by rw [← hl, List.take_length]; exact hr _ _⟩⟩ (fun d hd b hb => by
            obtain ⟨off, sp, hA⟩ := hb
            cases hA
            exact hsep.1 d hd _ rfl)
          own := fun d hd b hb => by
            rcases List.mem_cons.1 hd with q | q
            · subst q
              obtain ⟨off, sp, hA⟩ := hb
              cases hA
              exact h1.own _ List.mem_cons_self _ rfl
            · exact h1.own d (List.mem_cons_of_mem _ q) b hb }

theorem op_buildSliceA {d len : Nat} {T : TypeId} {ag : Bool} {ps : List (Nat × Operand)} {vs zc out : List Value} (ho : o.dst = some d) (hN : d < e.N) (hop : o.op = .buildSlice T len ps.toArray) (hT : sliceOf P T = some E) (ht : tyOf P E = some (ag, rp.sz)) (hz : zeroOf P E = some zc)
    (hps : ps.map (fun p => ev s.L p.2) = vs.map some) (hout : fillL (fun i => some (i * rp.sz, rp.sz)) (if len * rp.sz = 0 then [] else zrow zc (len * rp.sz)) ((ps.map (·.1)).zip (vs.map fun v => v.cells.toList)) = some out) (hbig : len * rp.sz ≤ 16777216) (hbig2 : len ≤ big) (hlen : ys.length = len)
    (hrow : ∀ γ w, Row rp γ w ys out) (h : ∀ A, Kn ((s.cm (arr rp E A len len ys)).put d (.slice A len len))) : OpTr P r e o Kn s := by
  intro γ a w hh K Q hK
  refine ⟨fun f _ => fen_fn r f, ?_⟩
  obtain ⟨z, hz1, hz2⟩ := run_zeroValue' (w := w) hz
  have hfill := fill_list (fun i => some (i * rp.sz, rp.sz)) ((ps.map (·.1)).zip vs) _ out (by rw [zip_cells]; exact hout)
  have hpe : (ps.toArray.map fun p => (p.1, a.eval p.2)) = ((ps.map (·.1)).zip vs).toArray := by rw [List.map_toArray, parts_eval hh hps]
  have hlim : ¬ (len * rp.sz > 2 ^ 24) := by omega
  have hcells : ((Array.range (len * rp.sz)).map fun j => zc.toArray[j % zc.toArray.size]!) = (zrow zc (len * rp.sz)).toArray := by
    apply Array.ext'
    simp [zrow]
  have hrun : (execOp a.eval o).run P w = .ok (.value (.slice (some ⟨w.heap.size, 0, none⟩) len len)) (w.alloc (.cells out.toArray E)) := by
    simp only [execOp, hop, Instr.buildSlice, Sem.run_bind, run_und' (sliceOf_und hT), Result.andThen_ok, run_sizeOf' ht, hlim, if_false, Sem.run_ite]
    by_cases h0 : len * rp.sz = 0
    · simp only [h0, if_true, Sem.run_pure, Result.andThen_ok]
      rw [if_pos h0] at hfill
      have hf' : Instr.fill (fun i => some (i * rp.sz, rp.sz)) ((Array.range 0).map fun j => (#[] : Array Value)[j % (#[] : Array Value).size]!) ((ps.map (·.1)).zip vs) = some out.toArray := by
        have he : ((Array.range 0).map fun j => (#[] : Array Value)[j % (#[] : Array Value).size]!) = #[] := by apply Array.ext'; simp
        rw [he]; exact hfill
      simp only [hpe]
      rw [hf']
      simp [newRow]
    · simp only [h0, if_false, hz2, Result.andThen_ok, Sem.run_pure, hz1, hcells]
      rw [if_neg h0] at hfill
      simp only [hpe]
      rw [hfill]
      simp [newRow]
  rw [semAt_eq _ _ _ (by rw [hop]; intro c; simp), hrun, Oper.uponIn_value, ho]
  have hll := (hrow γ w).len
  exact hK _ γ _ _ (h (some ⟨w.heap.size, 0, none⟩)) ((hh.newA out E len (by rw [hll, hlen]) hlen (by simp only [big] at hbig2; simp only [top]; omega) hrow).put d _ hN)

/-- Bytes as bytes: what follows them is marked; they are sealed. -/
theorem op_convSame {d : Nat} {T e' : TypeId} {x : Operand} (ho : o.dst = some d) (hN : d < e.N) (hop : o.op = .convert T T x) (hT : P.underlying T = some (.slice e')) (he : P.underlying e' = some (.int .u8)) (hx : ev s.L x = some (.slice A n c)) (hk : s.M[k]? = some (arr rp E A n c ys)) (hn0 : n ≠ 0)
    (h : Kn (({ s with M := s.M.eraseIdx k, F := s.F ++ [slF rp A c ys] } : St).put d (.slice A n c))) : OpTr P r e o Kn s := by
  intro γ a w hh K Q hK
  refine ⟨fun f _ => fen_fn r f, ?_⟩
  have hp := hh.perm (perm_front hk)
  obtain ⟨h1, h2, h3, h4⟩ := hp.hm.all _ List.mem_cons_self
  have hsep := List.pairwise_cons.1 hp.hm.sep
  rcases h4 with ⟨rfl, h0, _⟩ | ⟨b, cur, rfl, hc, hl, hr⟩
  · exact absurd h0 hn0
  · have hblt : b < w.heap.size := Chunk.lt _ hc rfl
    have hsh : w.shape? b = some (E, cur.length) := by
      unfold World.shape?
      rw [hc.1]
      simp
    have hfz : w.freeze ⟨b, cur.length, none⟩ 1 = { w with heap := w.heap.modify b fun
        | .cells c elem (lo, hi) => .cells c elem (if lo == hi then (cur.length, cur.length + 1) else (min lo cur.length, max hi (cur.length + 1)))
        | o => o } := rfl
    have hrun : (execOp a.eval o).run P w = .ok (.value (.slice (some ⟨b, 0, none⟩) n c)) (w.freeze ⟨b, cur.length, none⟩ 1) := by
      simp [execOp, hop, hh.eval hx, convert, run_underlying hT, run_underlying he, markStringish, hsh]
    rw [semAt_eq _ _ _ (by rw [hop]; intro c; simp), hrun, Oper.uponIn_value, ho]
    generalize hw : w.freeze ⟨b, cur.length, none⟩ 1 = w1
    have hoth : ∀ x, x ≠ b → w1.heap[x]? = w.heap[x]? := fun x hx => by
      rw [← hw, hfz]
      show (w.heap.modify b _)[x]? = _
      rw [Array.getElem?_modify, if_neg (fun q => hx q.symm)]
    have hsame : w1.heap[b]? = some (.cells cur.toArray E (cur.length, cur.length + 1)) := by
      rw [← hw, hfz]
      show (w.heap.modify b _)[b]? = _
      rw [Array.getElem?_modify, if_pos rfl, hc.1]
      rfl
    have hsize : w1.heap.size = w.heap.size := by
      rw [← hw, hfz]
      show (w.heap.modify b _).size = _
      rw [Array.size_modify]
    have fr : Fr (· = b) γ w (upd γ b (n * rp.sz)) w1 := {
      le := ⟨by omega, fun x => by
        by_cases hx : x = b
        · subst hx; rw [hc.2]; exact Nat.zero_le _
        · rw [upd_other _ _ hx]; exact Nat.le_refl _, fun x j hj => by
        have hx : x ≠ b := fun q => by subst q; rw [hc.2] at hj; omega
        exact World.cell?_of_block (hoth x hx)⟩
      os := by rw [← hw]; rfl
      tape := by rw [← hw]; rfl
      output := by rw [← hw]; rfl
      block := fun x _ hx => hoth x hx
      gh := fun x _ hx => upd_other _ _ hx }
    have hm0 : HM γ w (s.M.eraseIdx k) := ⟨fun d hd => hp.hm.all d (List.mem_cons_of_mem _ hd), hsep.2⟩
    have hm1 := hm0.keep fr (fun d hd q hq hqb => hsep.1 d hd b ⟨_, _, rfl⟩ (hqb ▸ hq))
    have hst := hp.step fr (fun x hx => by subst hx; exact hp.own _ List.mem_cons_self x ⟨_, _, rfl⟩) hm1 (fun d hd => hp.own d (List.mem_cons_of_mem _ hd)) (fun x hx => by rw [upd_other _ _ (by omega)]; exact hp.ok x (by omega))
    refine hK _ _ _ _ h (Holds.put (s := { s with M := s.M.eraseIdx k, F := s.F ++ [slF rp (some ⟨b, 0, none⟩) c ys] }) (hst.addF (f := slF rp (some ⟨b, 0, none⟩) c ys) ⟨by omega, by omega, (fun q => by cases q), fun q hq => ?_⟩) d _ hN)
    cases hq
    refine ⟨fun _ => rfl, cur.take (n * rp.sz), hr.mono fr.le, fun j v hv => ?_⟩
    rw [List.getElem?_take] at hv
    split at hv
    · rename_i hj
      refine ⟨?_, by rw [upd_same]; simp only [Nat.zero_add]; exact hj⟩
      simp only [Nat.zero_add, World.cell?, hsame]
      simpa using hv
    · cases hv

/-- append(none, make(n)...), still owned. -/
theorem run_append_zeros {t t2 ty : TypeId} {i : TypeInfo} {z : Value} {kd kd2 : IntKind} (ht : P.underlying t = some (.slice E)) (ht2 : P.underlying t2 = some (.int kd2)) (hi : P.info? E = some i) (hz : i.zero = some z) (m : Nat) (h0 : 0 < m) (hsz : 0 < i.size) (h63 : (m : Int) ≤ 9223372036854775807) (h48 : m * i.bytes ≤ 281474976710656) :
    (Builtin.append_ #[t, t2] ty #[.slice none 0 0, .int kd (m : Int)]).run P w =
      .ok (.slice (some ⟨w.heap.size, 0, none⟩) m (grownCap w m 0 E)) (w.drew.alloc (.cells (Builtin.zeroCells z.cells m ++ Builtin.zeroCells z.cells (grownCap w m 0 E - m)) E)) := by
  have hn : m ≠ 0 := by omega
  have wl : IntKind.i64.wrap (m : Int) = m := by rw [IntKind.wrap_i64]; omega
  have h63' : ¬ (9223372036854775807 < (m : Int)) := by omega
  have h48' : ¬ (281474976710656 < Builtin.nextslicecap m 0 * i.bytes) := by rw [nextslicecap_zero h0]; omega
  have h48i : ¬ (281474976710656 < (m : Int) * (i.bytes : Int)) := by
    have h1 := Int.ofNat_le.2 h48
    rw [Int.natCast_mul] at h1
    omega
  have hneg : ¬ (m : Int) < 0 := by omega
  have hms : ¬ (m * i.size = 0) := by
    have := Nat.mul_pos h0 hsz
    omega
  have hms2 : ¬ (m = 0 ∨ i.size = 0) := by omega
  simp [Builtin.append_, run_underlying ht, run_underlying ht2, sizeOf, typeInfo, zeroValue, hi, hz, asInt, asIntOf, wl, hn, hneg, h63', h48', h48i, hms, hms2, Question.forced, run_firstCells_none, newRow, grownCap]
theorem op_appendZ {d by_ m : Nat} {T T2 : TypeId} {x y : Operand} {ag : Bool} {kd kd2 : IntKind} {l : Int} {z : α} {zc : List Value} (ho : o.dst = some d) (hN : d < e.N)
    (hop : o.op = .call { callee := .builtin .append, args := #[x, y], argTypes := #[T, T2] }) (hT : sliceOf P T = some E) (hT2 : P.underlying T2 = some (.int kd2)) (ht : tyOf P E = some (ag, rp.sz)) (hz : zeroOf P E = some zc) (hzl : zc.length = rp.sz) (hsz0 : 0 < rp.sz) (hby : bytesOf P E = some by_)
    (hx : ev s.L x = some (.slice none 0 0)) (hy : ev s.L y = some (.int kd l)) (hl : 0 < l) (hm : l.toNat = m) (hb : m * by_ ≤ 140737488355328 ∧ m ≤ 140737488355328) (hR : ∀ γ w, rp.R γ w z zc)
    (h : ∀ A' c', Kn ((s.cm (arr rp E A' m c' (List.replicate m z))).put d (.slice A' m c'))) : OpTr P r e o Kn s := by
  intro γ a w hh K Q hK
  refine ⟨fun f _ => fen_fn r f, ?_⟩
  obtain ⟨i, hi, hsz⟩ := tyOf_info ht
  obtain ⟨i', zv, hi', hz', hzc⟩ := zeroOf_info hz
  obtain ⟨i'', hi'', hby'⟩ := bytesOf_info hby
  rw [hi] at hi' hi''
  cases hi'
  cases hi''
  have hlm : l = (m : Int) := by omega
  have hr := run_append_zeros (P := P) (w := w) (kd := kd) (ty := o.type) (sliceOf_und hT) hT2 hi hz' m (by omega) (by omega) (by omega) (by rw [hby']; omega)
  have hge := grownCap_ge w m 0 E
  generalize grownCap w m 0 E = cap at hr hge
  have hzs : zv.cells.size = rp.sz := by rw [← hzl, ← hzc]; simp
  have hzc2 : ∀ q, Builtin.zeroCells zv.cells q = ((List.replicate q zc).flatten).toArray := fun q => by
    apply Array.ext'
    rw [← hzc, ← range_mul zv.cells rp.sz hzs q]
    simp [Builtin.zeroCells, hzs]
  have hcells : Builtin.zeroCells zv.cells m ++ Builtin.zeroCells zv.cells (cap - m) = ((List.replicate m zc).flatten ++ (List.replicate (cap - m) zc).flatten).toArray := by rw [hzc2, hzc2]; simp
  rw [hcells] at hr
  have hrun : (execOp a.eval o).run P w = .ok (.value (.slice (some ⟨w.heap.size, 0, none⟩) m cap)) (w.drew.alloc (.cells ((List.replicate m zc).flatten ++ (List.replicate (cap - m) zc).flatten).toArray E)) := by
    subst hlm
    simp only [execOp, hop, resolve, invoke, builtin, Sem.run_bind, Sem.run_pure, Result.andThen_ok, List.map_toArray, List.map_cons, List.map_nil, hh.eval hx, hh.eval hy, hr]
  rw [semAt_eq _ _ _ (by rw [hop]; intro c; simp), hrun, Oper.uponIn_value, ho]
  have hd : Holds e s γ a w.drew := { size := hh.size, slots := hh.slots, defers := hh.defers, facts := fun f hf => Fact.mono f (⟨Nat.le_refl _, fun _ => Nat.le_refl _, fun _ _ _ => rfl⟩ : Le γ w γ w.drew) (hh.facts f hf), fr := ⟨⟨hh.fr.le.size, hh.fr.le.up, hh.fr.le.cell⟩, hh.fr.os, hh.fr.tape, hh.fr.output, hh.fr.block, hh.fr.gh⟩, ok := hh.ok, hm := ⟨fun d hd => Chunk.stable (γ := γ) (w := w) (γ' := γ) (w' := w.drew) d (fun _ _ => ⟨rfl, rfl⟩) ⟨Nat.le_refl _, fun _ => Nat.le_refl _, fun _ _ _ => rfl⟩ (hh.hm.all d hd), hh.hm.sep⟩, own := hh.own }
  have hn := hd.new ((List.replicate m zc).flatten ++ (List.replicate (cap - m) zc).flatten) E
  have hc := hn.hm.all _ List.mem_cons_self
  have hsep := List.pairwise_cons.1 hn.hm.sep
  have hl1 : ∀ q, ((List.replicate q zc).flatten).length = q * rp.sz := fun q => (row_replicate (hR γ w) q).len.trans (by rw [List.length_replicate])
  refine hK _ γ _ _ (h (some ⟨w.heap.size, 0, none⟩) cap) (Holds.put ?_ d _ hN)
  exact { size := hn.size, slots := hn.slots, defers := hn.defers, facts := hn.facts, fr := hn.fr, ok := hn.ok
          hm := HM.cons ⟨fun d hd => hn.hm.all d (List.mem_cons_of_mem _ hd), hsep.2⟩ ⟨List.length_replicate .., hge, by simp only [top]; omega, .inr ⟨_, _, rfl, hc, by rw [List.length_append, hl1, hl1, ← Nat.add_mul]; congr 1; omega, by
            rw [← hl1 m, List.take_append_of_le_length (Nat.le_refl _), List.take_length]
            exact row_replicate (hR _ _) _⟩⟩ (fun d hd b hb => by
            obtain ⟨off, sp, hA⟩ := hb
            cases hA
            exact hsep.1 d hd _ rfl)
          own := fun d hd b hb => by
            rcases List.mem_cons.1 hd with q | q
            · subst q
              obtain ⟨off, sp, hA⟩ := hb
              cases hA
              exact hn.own _ List.mem_cons_self _ rfl
            · exact hn.own d (List.mem_cons_of_mem _ q) b hb }

/-- Is a slice nobody's? -/
theorem run_equal_slnil {T E' : TypeId} (hT : P.underlying T = some (.slice E')) (A : Option Addr) (n c : Nat) (w : World) : (Op.equal T (.slice A n c) (.slice none 0 0)).run P w = .ok A.isNone w := by
  have : ∀ d, (Op.equalIn (d + 1) T (.slice A n c) (.slice none 0 0)).run P w = .ok A.isNone w := by
    intro d
    cases A <;> simp only [Op.equalIn, Sem.run_bind, run_und' hT, Result.andThen, Sem.run_pure, Option.isNone]
  exact this 9999
theorem v_slnil {T T' E' : TypeId} {x y : Operand} (hop : o.op = .binOp .eql T x y T') (hT : P.underlying T = some (.slice E')) (hx : ev s.L x = some (.slice A n c)) (hy : ev s.L y = some (.slice none 0 0)) : OpV P e o s (.bool A.isNone) :=
  ⟨(by rw [hop]; intro c; simp), (fun γ a w hh => by
    simp only [execOp, hop, hh.eval hx, hh.eval hy]
    simp [eqGuard, binOp, run_equal_slnil hT])⟩
theorem nil_pre {k : Nat} (hk : s.F[k]? = some (slF rp A c ys)) (hA : A = none) : Pre s (ys = []) := fun γ w hF _ => (hF _ (List.mem_of_getElem? hk) : SlP rp γ w A c ys).nil hA
theorem isN {A : Option Addr} (h : A = none) : A.isNone = true := by rw [h]; rfl
theorem isS {A : Option Addr} (h : ¬ A = none) : A.isNone = false := by cases A with
  | none => exact absurd rfl h
  | some a => rfl

/-- What is promised outlives a call that leaves all chunks as they are. -/
theorem kp_cc {d : Nat} {v : Value} {M' : List Chunk} {F' : List Fact} (ks : List Nat) (hd : s.L.lookup d = none) (hn : ks.Nodup) (hM : ks.map (M'[·]?) = s.M.map some) : Imp e ((s.cc M' F').put d v) s := fun γ a w hh => by
  have h1 : Holds e (s.cc M' F') γ a w := Holds.putBack (s := s.cc M' F') (X := s.cc M' F') rfl hd (List.Sublist.refl _) (fun _ h => h) rfl γ a w hh
  exact { size := h1.size, slots := h1.slots, defers := h1.defers, hm := h1.hm.places hn hM, own := fun c hc => h1.own c (mem_of_places hM c hc), facts := fun f hf => h1.facts f (List.mem_append_left _ hf), fr := h1.fr, ok := h1.ok }
end
end Go.Proofs.Ytbeknohemgjfbaa.L
namespace Go.Proofs.Ytbeknohemgjfbaa.L
open Go Go.Proofs.Ytbeknohemgjfbaa.Pu
set_option linter.unusedVariables false

section
variable {P : Program} {r : Option Nat} {e : Env} {o : Oper} {Kn : St → Prop} {s : St} {γ γ' : Gh} {w w' : World} {a : Act}
variable {α : Type} {rp : Rep α} {E : TypeId} {A : Option Addr} {n c k : Nat} {xs ys : List α}

theorem Le.drew : Le γ w γ w.drew := ⟨Nat.le_refl _, fun _ => Nat.le_refl _, fun _ _ _ => rfl⟩
/-- A new block with elements, and room behind them. -/
theorem arr_fresh (hok : GhOk γ w) {ds rest : List Value} {cap : Nat} (hr : Row rp γ w xs ds) (hrest : rest.length = (cap - xs.length) * rp.sz) (hcap : xs.length ≤ cap) (htop : xs.length ≤ top) :
    (arr rp E (some ⟨w.heap.size, 0, none⟩) xs.length cap xs).p γ (w.drew.alloc (.cells (ds ++ rest).toArray E)) ∧ Fr (fun _ => False) γ w γ (w.drew.alloc (.cells (ds ++ rest).toArray E)) ∧ GhOk γ (w.drew.alloc (.cells (ds ++ rest).toArray E)) := by
  have hok' : GhOk γ w.drew := hok
  have fr0 := Fr.alloc hok' (ds ++ rest).toArray E 0
  rw [upd_self_ok hok'] at fr0
  have fr : Fr (fun _ => False) γ w γ (w.drew.alloc (.cells (ds ++ rest).toArray E)) := ⟨⟨fr0.le.size, fr0.le.up, fr0.le.cell⟩, fr0.os, fr0.tape, fr0.output, fun b hb hn => fr0.block b hb hn, fun b hb hn => fr0.gh b hb hn⟩
  refine ⟨⟨rfl, hcap, htop, .inr ⟨w.heap.size, ds ++ rest, rfl, ⟨heap_alloc_new w.drew _, hok _ (Nat.le_refl _)⟩, ?_, ?_⟩⟩, fr, ?_⟩
  · rw [List.length_append, hr.len, hrest, ← Nat.add_mul]; congr 1; omega
  · rw [← hr.len, List.take_append_of_le_length (Nat.le_refl _), List.take_length]
    exact hr.mono fr.le
  · have := hok'.alloc (.cells (ds ++ rest).toArray E) 0
    rwa [upd_self_ok hok'] at this
theorem append_stepA {t ty : TypeId} {i : TypeInfo} {z : Value} {B : Option Addr} {cy : Nat} (ht : P.underlying t = some (.slice E)) (hi : P.info? E = some i) (hz : i.zero = some z) (hsz : i.size = rp.sz) (hzs : z.cells.size = rp.sz)
    (hc : (arr rp E A xs.length c xs).p γ w) (hy : SlP rp γ w B cy ys) (hb : (xs.length + ys.length) * i.bytes ≤ big) (hb2 : xs.length + ys.length ≤ big) (hok : GhOk γ w) :
    ∃ A' c' w', (Builtin.append_ #[t, t] ty #[.slice A xs.length c, .slice B ys.length cy]).run P w = .ok (.slice A' (xs ++ ys).length c') w' ∧ (arr rp E A' (xs ++ ys).length c' (xs ++ ys)).p γ w' ∧
      Fr (arr rp E A xs.length c xs).fp γ w γ w' ∧ (∀ b, (arr rp E A' (xs ++ ys).length c' (xs ++ ys)).fp b → (arr rp E A xs.length c xs).fp b ∨ w.heap.size ≤ b) ∧ GhOk γ w' := by
  have hc0 := hc
  obtain ⟨q1, q2, q3, q4⟩ := hc
  have weak : ∀ {w1}, Fr (fun _ => False) γ w γ w1 → Fr (arr rp E A xs.length c xs).fp γ w γ w1 := fun h => ⟨h.le, h.os, h.tape, h.output, fun b hb _ => h.block b hb (fun q => q), fun b hb _ => h.gh b hb (fun q => q)⟩
  by_cases hm : ys.length = 0
  · have : ys = [] := List.eq_nil_of_length_eq_zero hm
    subst this
    refine ⟨A, c, w, ?_, ?_, Fr.refl _ _ _, fun b hb => .inl ?_, hok⟩
    · simp only [List.append_nil, List.length_nil]
      exact run_append_same ht hi A B xs.length c cy q2
    · rw [List.append_nil]; exact hc0
    · rw [List.append_nil] at hb; exact hb
  · obtain ⟨ad, hB⟩ : ∃ ad, B = some ad := by
      cases B with
      | none => exact absurd (by rw [hy.nil rfl]; rfl) hm
      | some ad => exact ⟨ad, rfl⟩
    subst hB
    obtain ⟨hspot', dy, hry, hcy⟩ := hy.row ad rfl
    have hspot : ad.spot = none := hspot' (fun q => hm (by rw [q]; rfl))
    have hly : dy.length = ys.length * i.size := by rw [hry.len, hsz]
    have hny : ∀ j v, dy[j]? = some v → w.cell? (ad.add j) = some v := fun j v hv => by
      obtain ⟨qb, qo, qs⟩ := ad
      simp at hspot
      subst hspot
      rw [add_off]
      exact (hcy j v hv).1
    have hlen : (xs ++ ys).length = xs.length + ys.length := List.length_append
    simp only [big] at hb hb2
    have h63 : ((xs.length + ys.length : Nat) : Int) ≤ 9223372036854775807 := by omega
    have zl : ∀ q, (Builtin.zeroCells z.cells q).toList.length = q * rp.sz := fun q => by rw [Array.length_toList, size_zeroCells, hzs]
    rcases q4 with ⟨rfl, h0, rfl⟩ | ⟨b, cur, rfl, hcur, hcl, hrx⟩
    · have hx0 : xs = [] := List.eq_nil_of_length_eq_zero h0
      subst hx0
      have hr := run_append_nil (P := P) w t ty E i z ht hi hz ad ys.length cy dy hly hny (by omega) (by omega) (by simp at hb; omega)
      have hge := grownCap_ge w ys.length 0 E
      generalize grownCap w ys.length 0 E = cap at hr hge
      obtain ⟨f1, f2, f3⟩ := arr_fresh (E := E) (rest := (Builtin.zeroCells z.cells (cap - ys.length)).toList) hok hry (zl _) hge hy.bd
      have hcells : dy.toArray ++ Builtin.zeroCells z.cells (cap - ys.length) = (dy ++ (Builtin.zeroCells z.cells (cap - ys.length)).toList).toArray := by apply Array.ext'; simp
      rw [hcells] at hr
      refine ⟨_, cap, _, hr, f1, weak f2, fun b hb => .inr ?_, f3⟩
      obtain ⟨_, _, hA⟩ := hb
      cases hA
      exact Nat.le_refl _
    · by_cases hroom : xs.length + ys.length ≤ c
      · have hn1 : xs.length * rp.sz ≤ c * rp.sz := Nat.mul_le_mul_right _ q2
        have hfit : xs.length * i.size + dy.length ≤ cur.toArray.size := by
          rw [hly, hsz, ← Nat.add_mul, List.size_toArray, hcl]; exact Nat.mul_le_mul_right _ hroom
        have hr := run_append_room (P := P) w t ty E i ht hi b xs.length c cur.toArray hcur.1 ad ys.length cy dy hly hny hry.one hroom hfit
        have fr := Fr.setRow hcur (cur.take (xs.length * rp.sz) ++ dy ++ cur.drop (xs.length * rp.sz + dy.length))
        have hrow : (cur.toArray.toList.take (xs.length * i.size) ++ dy ++ cur.toArray.toList.drop (xs.length * i.size + dy.length)) = cur.take (xs.length * rp.sz) ++ dy ++ cur.drop (xs.length * rp.sz + dy.length) := by rw [hsz]
        rw [hrow] at hr
        have hfp : ∀ q, (arr rp E (some ⟨b, 0, none⟩) xs.length c xs).fp q ↔ q = b := fun q => ⟨fun ⟨_, _, hA⟩ => by cases hA; rfl, fun hq => by subst hq; exact ⟨_, _, rfl⟩⟩
        have hxl : (cur.take (xs.length * rp.sz)).length = xs.length * rp.sz := by rw [List.length_take]; omega
        rw [hsz] at hly hfit
        rw [List.size_toArray] at hfit
        rw [← hlen] at hr
        refine ⟨some ⟨b, 0, none⟩, c, _, hr, ⟨rfl, by rw [hlen]; exact hroom, by rw [hlen]; simp only [top]; omega, .inr ⟨b, _, rfl, ⟨setRow_heap w b cur.toArray _ E (0, 0) hcur.1, hcur.2⟩, ?_, ?_⟩⟩,
          ⟨fr.le, fr.os, fr.tape, fr.output, fun x hx hn => fr.block x hx (fun q => hn ((hfp x).2 q)), fun x hx hn => fr.gh x hx (fun q => hn ((hfp x).2 q))⟩, fun x hx => .inl ?_, fun x hx => hok x (by simpa using hx)⟩
        · simp only [List.length_append, List.length_take, List.length_drop]; omega
        · have hl2 : (cur.take (xs.length * rp.sz) ++ dy).length = (xs ++ ys).length * rp.sz := by rw [List.length_append, hxl, hly, hlen, Nat.add_mul]
          rw [← hl2, List.take_append_of_le_length (Nat.le_refl _), List.take_length]
          exact (hrx.mono fr.le).append (hry.mono fr.le)
        · obtain ⟨_, _, hA⟩ := hx
          cases hA
          exact (hfp _).2 rfl
      · have hxl : (cur.take (xs.length * rp.sz)).length = xs.length * i.size := by
          have hn1 : xs.length * rp.sz ≤ c * rp.sz := Nat.mul_le_mul_right _ q2
          rw [List.length_take, hsz]; omega
        have hr := run_append_grow (P := P) w t ty E i z ht hi hz ⟨b, 0, none⟩ xs.length c (cur.take (xs.length * rp.sz)) hxl (fun j v hv => by
          rw [List.getElem?_take] at hv
          split at hv
          · rw [add_off, Nat.zero_add, cell_of_cells hcur]; exact hv
          · cases hv) ad ys.length cy dy hly hny (by omega) h63 (growslice_fits (by omega) hb)
        have hge := grownCap_ge w (xs.length + ys.length) c E
        generalize grownCap w (xs.length + ys.length) c E = cap at hr hge
        have hcells : (cur.take (xs.length * rp.sz)).toArray ++ dy.toArray ++ Builtin.zeroCells z.cells (cap - (xs.length + ys.length)) = ((cur.take (xs.length * rp.sz) ++ dy) ++ (Builtin.zeroCells z.cells (cap - (xs.length + ys.length))).toList).toArray := by apply Array.ext'; simp
        rw [hcells] at hr
        obtain ⟨f1, f2, f3⟩ := arr_fresh (E := E) (rest := (Builtin.zeroCells z.cells (cap - (xs.length + ys.length))).toList) hok (hrx.append hry) (by rw [zl, hlen]) (by rw [hlen]; exact hge) (by rw [hlen]; simp only [top]; omega)
        rw [← hlen] at hr f1 f2 f3
        refine ⟨_, cap, _, hr, f1, weak f2, fun x hx => .inr ?_, f3⟩
        obtain ⟨_, _, hA⟩ := hx
        cases hA
        exact Nat.le_refl _
/-- append(x, y...), still owned. -/
theorem op_appendAS {d ky by_ m cy : Nat} {T : TypeId} {x y : Operand} {ag : Bool} {B : Option Addr} {zc : List Value} (ho : o.dst = some d) (hN : d < e.N)
    (hop : o.op = .call { callee := .builtin .append, args := #[x, y], argTypes := #[T, T] }) (hT : sliceOf P T = some E) (ht : tyOf P E = some (ag, rp.sz)) (hz : zeroOf P E = some zc) (hzl : zc.length = rp.sz) (hby : bytesOf P E = some by_)
    (hx : ev s.L x = some (.slice A n c)) (hy : ev s.L y = some (.slice B m cy)) (hm : m = ys.length) (hk : s.M[k]? = some (arr rp E A n c xs)) (hfy : s.F[ky]? = some (slF rp B cy ys)) (hb : (xs.length + ys.length) * by_ ≤ big ∧ xs.length + ys.length ≤ big)
    (h : ∀ A' c', Kn ((s.sm k (arr rp E A' (xs ++ ys).length c' (xs ++ ys))).put d (.slice A' (xs ++ ys).length c'))) : OpTr P r e o Kn s := by
  intro γ a w hh K Q hK
  refine ⟨fun f _ => fen_fn r f, ?_⟩
  subst hm
  have hn := (hh.hm.all _ (List.mem_of_getElem? hk)).1
  subst hn
  obtain ⟨i, hi, hsz⟩ := tyOf_info ht
  obtain ⟨i', z, hi', hz', hzc⟩ := zeroOf_info hz
  obtain ⟨i'', hi'', hby'⟩ := bytesOf_info hby
  rw [hi] at hi' hi''
  cases hi'
  cases hi''
  obtain ⟨A', c', w', hr, hc', fr, hob, hok⟩ := append_stepA (ty := o.type) (sliceOf_und hT) hi hz' hsz (by rw [← hzl, ← hzc]; simp) (hh.hm.all _ (List.mem_of_getElem? hk)) (hh.facts _ (List.mem_of_getElem? hfy)) (by rw [hby']; exact hb.1) hb.2 hh.ok
  have hrun : (execOp a.eval o).run P w = .ok (.value (.slice A' (xs ++ ys).length c')) w' := by
    simp only [execOp, hop, resolve, invoke, builtin, Sem.run_bind, Sem.run_pure, Result.andThen_ok, List.map_toArray, List.map_cons, List.map_nil, hh.eval hx, hh.eval hy, hr]
  rw [semAt_eq _ _ _ (by rw [hop]; intro c; simp), hrun, Oper.uponIn_value, ho]
  refine hK _ γ _ _ (h A' c') (Holds.put (s := s.sm k (arr rp E A' (xs ++ ys).length c' (xs ++ ys))) ?_ d _ hN)
  exact hh.step fr (fun b hb => hh.own _ (List.mem_of_getElem? hk) b hb) (hh.hm.set hk fr hc' hob)
    (fun d' hd b hb => by
      rcases List.mem_or_eq_of_mem_set hd with q | q
      · exact hh.own d' q b hb
      · subst q
        rcases hob b hb with q | q
        · exact hh.own _ (List.mem_of_getElem? hk) b q
        · exact .inr (Nat.le_trans hh.fr.le.size q)) hok

/-! ### Elements that are slices -/
theorem op_loadSl {yss : List (List α)} {d : Nat} {T : TypeId} {x : Operand} {i : Int} {z : List α} (ho : o.dst = some d) (hN : d < e.N) (hop : o.op = .load T x) (ht : tyOf P T = some (false, 1)) (hx : ev s.L x = some (.pointer (some ⟨ablk A, aoff A + i.toNat * 1, none⟩))) (hk : s.M[k]? = some (arr (rSl rp) E A n c yss)) (hi : rdo yss i = some z)
    (h : ∀ B q, Kn ((s.cf (slF rp B q z)).put d (.slice B z.length q))) : OpTr P r e o Kn s := by
  intro γ a w hh K Q hK
  refine ⟨fun f _ => fen_fn r f, ?_⟩
  obtain ⟨h0, h1', h2⟩ := rdo_some hi
  obtain ⟨b, cur, rfl, hc, hcl, hr⟩ := arr_some (hh.hm.all _ (List.mem_of_getElem? hk)) hi
  obtain ⟨cs, ⟨B, q, hcs, hsl⟩, hds⟩ := hr.get h2
  subst hcs
  have hcell : w.cell? ⟨b, 0 + i.toNat * 1, none⟩ = some (.slice B z.length q) := by
    rw [cell_of_cells hc]
    have h3 : ((List.take (n * (rSl rp).sz) cur).drop (i.toNat * (rSl rp).sz))[0]? = some (.slice B z.length q) := by
      have h4 : (((List.take (n * (rSl rp).sz) cur).drop (i.toNat * (rSl rp).sz)).take (rSl rp).sz)[0]? = some (.slice B z.length q) := by rw [hds]; rfl
      rw [List.getElem?_take] at h4
      split at h4
      · exact h4
      · cases h4
    rw [List.getElem?_drop, List.getElem?_take] at h3
    split at h3
    · have e1 : (rSl rp).sz = 1 := rfl
      rw [e1] at h3
      rw [show 0 + i.toNat * 1 = i.toNat * 1 + 0 by omega]
      exact h3
    · cases h3
  have hl := run_loadVar' (w := w) ht (fun _ => rfl) ⟨b, 0 + i.toNat * 1, none⟩ [.slice B z.length q] rfl (fun j v hv => by
    match j, hv with
    | 0, hv => simp at hv; subst hv; rw [add_off]; exact hcell)
  have hx' := hh.eval hx
  simp only [ablk, aoff, Option.map_some, Option.getD_some] at hx'
  have hrun : (execOp a.eval o).run P w = .ok (.value (.slice B z.length q)) w := by
    simp only [execOp, hop, hx', Instr.loadAt, Instr.sureAddr, Sem.run_bind, Sem.run_pure, Result.andThen, hl]
    rfl
  rw [semAt_eq _ _ _ (by rw [hop]; intro c; simp), hrun, Oper.uponIn_value, ho]
  exact hK _ γ _ _ (h B q) ((hh.addF (f := slF rp B q z) hsl).put d _ hN)
theorem row_set {ds : List Value} (h : Row rp γ w ys ds) : ∀ {i : Nat} {z : α} {cs : List Value}, i < ys.length → rp.R γ w z cs → Row rp γ w (ys.set i z) (spl ds (i * rp.sz) cs) := by
  induction h with
  | nil => intro i z cs hi; simp at hi
  | @cons x xs c1 ds hx ht ih =>
    intro i z cs hi hz
    have hl := rp.len hx
    have hlz := rp.len hz
    cases i with
    | zero =>
      rw [List.set_cons_zero, Nat.zero_mul]
      have : spl (c1 ++ ds) 0 cs = cs ++ ds := by
        unfold spl
        rw [List.take_zero, List.nil_append, Nat.zero_add, hlz, ← hl, List.drop_left]
      rw [this]
      exact .cons hz ht
    | succ i =>
      rw [List.set_cons_succ]
      have : spl (c1 ++ ds) ((i + 1) * rp.sz) cs = c1 ++ spl ds (i * rp.sz) cs := by
        unfold spl
        have e : (i + 1) * rp.sz = c1.length + i * rp.sz := by rw [hl, Nat.add_mul]; omega
        rw [e, List.take_length_add_append, Nat.add_assoc, List.drop_length_add_append]
        simp [List.append_assoc]
      rw [this]
      exact .cons hx (ih (by simpa using hi) hz)
theorem op_storeSl {m : Nat} {T : TypeId} {x y : Operand} {i : Int} {ag : Bool} {z z' : α} {v : Value} (ho : o.dst = none) (hop : o.op = .store T x y)
    (hx : ev s.L x = some (.pointer (some ⟨ablk A, aoff A + i.toNat * m, none⟩))) (hy : ev s.L y = some v) (hk : s.M[k]? = some (arr rp E A n c ys)) (ht : tyOf P T = some (ag, m)) (hm : m = rp.sz) (hi : rdo ys i = some z)
    (hR : ∀ γ w, (∀ f ∈ s.F, f.p γ w) → rp.R γ w z' v.cells.toList) (h : Kn (s.sm k (arr rp E A n c (ys.set i.toNat z')))) : OpTr P r e o Kn s := by
  intro γ a w hh K Q hK
  obtain ⟨h0, h1', h2⟩ := rdo_some hi
  have hA := hh.hm.all _ (List.mem_of_getElem? hk)
  obtain ⟨b, cur, rfl, hc, hcl, hr⟩ := arr_some hA hi
  obtain ⟨p1, p2, p3, _⟩ := hA
  subst hm
  have hlt : k < s.M.length := (List.getElem?_eq_some_iff.1 hk).1
  have hfp : ∀ q, (arr rp E (some ⟨b, 0, none⟩) n c ys).fp q ↔ q = b := fun q => ⟨fun ⟨_, _, hA⟩ => by cases hA; rfl, fun hq => by subst hq; exact ⟨_, _, rfl⟩⟩
  have hR0 := hR γ w hh.facts
  have hvl := rp.len hR0
  have hi' : i.toNat < n := by rw [← p1]; exact (List.getElem?_eq_some_iff.1 h2).1
  have hin : i.toNat * rp.sz + rp.sz ≤ n * rp.sz := by rw [← Nat.succ_mul]; exact Nat.mul_le_mul_right _ hi'
  have hnc : n * rp.sz ≤ c * rp.sz := Nat.mul_le_mul_right _ p2
  refine ⟨fun f _ => fen_fn r f, ?_⟩
  have hst := run_storeCells_at P b (i.toNat * rp.sz) E v.cells.toList 0 cur.toArray w hc.1 (by simp only [Nat.add_zero, List.size_toArray]; omega) (rp.one hR0)
  simp only [Nat.add_zero] at hst
  have hrow : (cur.toArray.toList.take (i.toNat * rp.sz) ++ v.cells.toList ++ cur.toArray.toList.drop (i.toNat * rp.sz + v.cells.toList.length)) = spl cur (i.toNat * rp.sz) v.cells.toList := rfl
  rw [hrow] at hst
  have hx' := hh.eval hx
  simp only [ablk, aoff, Option.map_some, Option.getD_some, Nat.zero_add] at hx'
  have hrun : (execOp a.eval o).run P w = .ok .skip (w.setRow b (spl cur (i.toNat * rp.sz) v.cells.toList).toArray) := by
    have hsz : v.cells.size = rp.sz := by rw [← hvl]; simp
    simp only [execOp, hop, hx', hh.eval hy, Instr.storeAt, Instr.sureAddr, storeVar, Sem.run_bind, Sem.run_pure, Result.andThen, run_sizeOf' ht, hsz, ne_eq, not_true, if_false, hst]
  rw [semAt_eq _ _ _ (by rw [hop]; intro c; simp), hrun, Oper.uponIn_skip, ho]
  have fr := Fr.setRow hc (spl cur (i.toNat * rp.sz) v.cells.toList)
  have fr' : Fr (arr rp E (some ⟨b, 0, none⟩) n c ys).fp γ w γ (w.setRow b (spl cur (i.toNat * rp.sz) v.cells.toList).toArray) :=
    ⟨fr.le, fr.os, fr.tape, fr.output, fun x hx hn => fr.block x hx (fun q => hn ((hfp x).2 q)), fun x hx hn => fr.gh x hx (fun q => hn ((hfp x).2 q))⟩
  have htake : (spl cur (i.toNat * rp.sz) v.cells.toList).take (n * rp.sz) = spl (cur.take (n * rp.sz)) (i.toNat * rp.sz) v.cells.toList := by
    unfold spl
    rw [List.append_assoc, List.append_assoc, List.take_append, List.take_append, List.take_take, List.length_take, hvl, List.take_take, List.drop_take, hcl]
    rw [Nat.min_eq_left (show i.toNat * rp.sz ≤ c * rp.sz by omega), Nat.min_eq_right (show i.toNat * rp.sz ≤ n * rp.sz by omega), List.take_of_length_le (l := v.cells.toList) (by rw [hvl]; omega), Nat.min_eq_left (show i.toNat * rp.sz ≤ n * rp.sz by omega), show n * rp.sz - i.toNat * rp.sz - rp.sz = n * rp.sz - (i.toNat * rp.sz + rp.sz) by omega]
  refine hK _ γ _ _ h (hh.step fr' (fun x hx => hh.own _ (List.mem_of_getElem? hk) x hx) (hh.hm.set hk fr' ⟨by rw [List.length_set]; exact p1, p2, p3, .inr ⟨b, _, rfl, ⟨setRow_heap w b cur.toArray _ E (0, 0) hc.1, hc.2⟩, ?_, ?_⟩⟩ (fun x hx => .inl ((hfp x).2 (by obtain ⟨_, _, hA⟩ := hx; cases hA; rfl)))) ?_ (fun x hx => hh.ok x (by simpa using hx)))
  · unfold spl
    simp only [List.length_append, List.length_take, List.length_drop]
    omega
  · rw [htake]
    exact row_set (hr.mono fr.le) (by omega) (hR γ w hh.facts |> rp.mono fr.le)
  · intro d' hd q hq
    rcases List.mem_or_eq_of_mem_set hd with t | t
    · exact hh.own d' t q hq
    · subst t
      obtain ⟨_, _, hA⟩ := hq
      cases hA
      exact hh.own _ (List.mem_of_getElem? hk) _ ⟨_, _, rfl⟩
theorem v_indexAb {m : Nat} {T : TypeId} {x y : Operand} {kd : IntKind} {i : Int} {ag : Bool} (hop : o.op = .indexAddr T x y) (hT : sliceOf P T = some E) (ht : tyOf P E = some (ag, m)) (hx : ev s.L x = some (.slice A n c)) (hy : ev s.L y = some (.int kd i)) (hk : s.M[k]? = some (arr rp E A n c ys)) (h0 : 0 ≤ i) (h1 : i < ys.length) :
    OpV P e o s (.pointer (some ⟨ablk A, aoff A + i.toNat * m, none⟩)) :=
  v_indexA hop hT ht hx hy hk (z := ys[i.toNat]'(by omega)) (rdo_of h0 (List.getElem?_eq_getElem (by omega)))
end
end Go.Proofs.Ytbeknohemgjfbaa.L
namespace Go.Proofs.Ytbeknohemgjfbaa.L
open Go Go.Proofs.Ytbeknohemgjfbaa.Pu
set_option linter.unusedVariables false

/-- Data whose cells are written out by the data and by where its slices lie. -/
def opn {α ι : Type} (sz : Nat) (g : α → ι → List Value) (F : α → ι → List Fact) (hl : ∀ x m, (g x m).length = sz) (h1 : ∀ x m, ∀ v ∈ g x m, v.oneCell' = true) : Rep α where
  sz := sz
  R γ w x cs := ∃ m, cs = g x m ∧ ∀ f ∈ F x m, f.p γ w
  len := fun ⟨m, h, _⟩ => by rw [h]; exact hl _ _
  one := fun ⟨m, h, _⟩ => by rw [h]; exact h1 _ _
  mono := fun hle _ _ ⟨m, h, k⟩ => ⟨m, h, fun f hf => f.mono hle (k f hf)⟩

/-- Sealed cells that are known. -/
def cellsF (a : Addr) (vs : List Value) : Fact := ⟨fun γ w => a.spot = none ∧ ∀ j v, vs[j]? = some v → w.cell? ⟨a.block, a.off + j, none⟩ = some v ∧ a.off + j < γ a.block, fun {γ w γ' w'} hle h => by
  obtain ⟨h1, h2⟩ := h
  exact ⟨h1, fun j v hv => ⟨(hle.cell _ _ (h2 j v hv).2).trans (h2 j v hv).1, Nat.lt_of_lt_of_le (h2 j v hv).2 (hle.up _)⟩⟩⟩

def St.cfs (s : St) (l : List Fact) : St := { s with F := s.F ++ l }

theorem fcn {γ : Gh} {w : World} : ∀ f ∈ ([] : List Fact), f.p γ w := fun f hf => by cases hf
theorem fcc {γ : Gh} {w : World} {f : Fact} {l : List Fact} (h : f.p γ w) (t : ∀ g ∈ l, g.p γ w) : ∀ g ∈ f :: l, g.p γ w := fun g hg => by
  rcases List.mem_cons.1 hg with q | q
  · subst q; exact h
  · exact t g q

section
variable {P : Program} {r : Option Nat} {e : Env} {o : Oper} {Kn : St → Prop} {s : St} {γ γ' : Gh} {w w' : World} {a : Act}
variable {α ι : Type} {sz : Nat} {g : α → ι → List Value} {F : α → ι → List Fact} {hl : ∀ x m, (g x m).length = sz} {h1 : ∀ x m, ∀ v ∈ g x m, v.oneCell' = true}

theorem Holds.addFs : ∀ {l : List Fact} {s : St}, Holds e s γ a w → (∀ f ∈ l, f.p γ w) → Holds e (s.cfs l) γ a w := fun {l s} h hf =>
  { size := h.size, slots := h.slots, defers := h.defers, hm := h.hm, own := h.own, fr := h.fr, ok := h.ok
    facts := fun f q => by rcases List.mem_append.1 q with q | q; exact h.facts f q; exact hf f q }

/-- An element is opened. -/
theorem Holds.openP {k c : Nat} {i : Int} {A : Option Addr} {xs : List α} {z : α} (hh : Holds e s γ a w) (hk : s.F[k]? = some (slF (opn sz g F hl h1) A c xs)) (hi : rdo xs i = some z) :
    ∃ m, Holds e (s.cfs (F z m ++ [cellsF ⟨ablk A, aoff A + i.toNat * sz, none⟩ (g z m)])) γ a w := by
  obtain ⟨h0, h1', h2⟩ := rdo_some hi
  have hf : SlP (opn sz g F hl h1) γ w A c xs := hh.facts _ (List.mem_of_getElem? hk)
  have hA := hf.addr h2
  obtain ⟨_, ds, hr, hc⟩ := hf.row _ hA
  obtain ⟨cs, ⟨m, hcs, hz⟩, hds⟩ := hr.get h2
  subst hcs
  refine ⟨m, hh.addFs (fun f q => ?_)⟩
  rcases List.mem_append.1 q with q | q
  · exact hz f q
  · simp only [List.mem_singleton] at q
    subst q
    refine ⟨rfl, fun j v hv => ?_⟩
    have hd0 : ds[i.toNat * sz + j]? = some v := by
      have e1 : (List.take (opn sz g F hl h1).sz (List.drop (i.toNat * (opn sz g F hl h1).sz) ds))[j]? = some v := by rw [hds]; exact hv
      rw [List.getElem?_take] at e1
      split at e1
      · rw [List.getElem?_drop] at e1; exact e1
      · cases e1
    have := hc _ _ hd0
    simp only [Nat.add_assoc]
    exact this
variable {l : List Oper} {ops : Array Oper} {fl : Fl} {dn : List Nat}
theorem TrL.openP {k c : Nat} {i : Int} {A : Option Addr} {xs : List α} {z : α} (hk : s.F[k]? = some (slF (opn sz g F hl h1) A c xs)) (hi : rdo xs i = some z)
    (h : ∀ m, TrL P r e ops l Kn (s.cfs (F z m ++ [cellsF ⟨ablk A, aoff A + i.toNat * sz, none⟩ (g z m)]))) : TrL P r e ops l Kn s := fun γ a w hh => by
  obtain ⟨m, h2⟩ := hh.openP hk hi
  exact h m γ a w h2
theorem TrAny.openP {k c : Nat} {i : Int} {A : Option Addr} {xs : List α} {z : α} (hk : s.F[k]? = some (slF (opn sz g F hl h1) A c xs)) (hi : rdo xs i = some z) (hok : FlOk ops fl s)
    (h : ∀ m, FlOk ops fl (s.cfs (F z m ++ [cellsF ⟨ablk A, aoff A + i.toNat * sz, none⟩ (g z m)])) → TrAny P r e ops fl dn Kn (s.cfs (F z m ++ [cellsF ⟨ablk A, aoff A + i.toNat * sz, none⟩ (g z m)]))) : TrAny P r e ops fl dn Kn s :=
  fun fuel listed hc hu hv γ a af w hh hr Q hQ => by
    obtain ⟨m, h2⟩ := hh.openP hk hi
    refine h m ⟨hok.shaped, hok.nodup, hok.slot⟩ fuel listed hc hu (fun p hp hl => ?_) γ a af w h2 hr Q hQ
    obtain ⟨o, ho, hnd, hrun⟩ := hv p hp hl
    exact ⟨o, ho, hnd, fun γ a w hh => hrun γ a w { size := hh.size, slots := hh.slots, defers := hh.defers, hm := hh.hm, own := hh.own, facts := fun f hf => hh.facts f (List.mem_append_left _ hf), fr := hh.fr, ok := hh.ok }⟩
/-- Out of sealed cells that are known. -/
theorem v_loadCF {k n j off b : Nat} {T : TypeId} {x : Operand} {ag : Bool} {vs : List Value} {v : Value} (hop : o.op = .load T x) (ht : tyOf P T = some (ag, n)) (hn : ag = false → n = 1) (hx : ev s.L x = some (.pointer (some ⟨b, off + j, none⟩))) (hk : s.F[k]? = some (cellsF ⟨b, off, none⟩ vs))
    (hlen : ((vs.drop j).take n).length = n) (hv : mkv ag ((vs.drop j).take n) = v) : OpV P e o s v :=
  ⟨by rw [hop]; intro c; simp, fun γ a w hh => by
    have hf : (cellsF ⟨b, off, none⟩ vs).p γ w := hh.facts _ (List.mem_of_getElem? hk)
    have := run_loadVar' (w := w) ht hn ⟨b, off + j, none⟩ ((vs.drop j).take n) hlen (fun q u hu => by
      rw [add_off]
      rw [List.getElem?_take] at hu
      split at hu
      · rw [List.getElem?_drop] at hu
        rw [Nat.add_assoc]
        exact (hf.2 _ _ hu).1
      · cases hu)
    simp only [execOp, hop, hh.eval hx, Instr.loadAt, Instr.sureAddr, Sem.run_bind, Sem.run_pure, Result.andThen, this, hv]⟩
theorem kp_allE {j : Nat} {s' : St} (fl' : Fl) (hf : fl = fl') (h : AllV P e ops j s' fl') : Kp P e ops j fl s s' := by subst hf; exact kp_all h
/-- How many elements an owned slice has. -/
theorem v_lenA {β : Type} {rp : Rep β} {k n c : Nat} {x : Operand} {T E E' : TypeId} {A : Option Addr} {ys : List β} (hop : o.op = .call { callee := .builtin .len, args := #[x], argTypes := #[T] }) (hT : sliceOf P T = some E) (hx : ev s.L x = some (.slice A n c)) (hk : s.M[k]? = some (arr rp E' A n c ys)) : OpV P e o s (.int .i64 (ys.length : Int)) :=
  ⟨by rw [hop]; intro c; simp, fun γ a w hh => by
    have hn := (hh.hm.all _ (List.mem_of_getElem? hk)).1
    rw [hn]
    exact (v_len hop hT hx).run γ a w hh⟩
theorem kp_cfs {d j : Nat} {v : Value} {l : List Fact} (hd : s.L.lookup d = none) : Imp e ((s.cfs l).put d v) s := Holds.putBack rfl hd (List.Sublist.refl _) (fun _ hf => List.mem_append_left _ hf) rfl
/-- Out of an owned element. -/
theorem op_loadP {k n n' c d j : Nat} {E T : TypeId} {A : Option Addr} {ys : List α} {x : Operand} {i : Int} {ag : Bool} {z : α} (ho : o.dst = some d) (hN : d < e.N) (hop : o.op = .load T x) (ht : tyOf P T = some (ag, n')) (hn : ag = false → n' = 1) (hx : ev s.L x = some (.pointer (some ⟨ablk A, aoff A + i.toNat * sz + j, none⟩)))
    (hk : s.M[k]? = some (arr (opn sz g F hl h1) E A n c ys)) (hi : rdo ys i = some z) (hlen : ∀ m, (((g z m).drop j).take n').length = n')
    (h : ∀ m, Kn ((s.cfs (F z m)).put d (mkv ag (((g z m).drop j).take n')))) : OpTr P r e o Kn s := by
  intro γ a w hh K Q hK
  refine ⟨fun f _ => fen_fn r f, ?_⟩
  obtain ⟨h0, h1', h2⟩ := rdo_some hi
  obtain ⟨b, cur, rfl, hc, hcl, hr⟩ := arr_some (hh.hm.all _ (List.mem_of_getElem? hk)) hi
  obtain ⟨cs, ⟨m, hcs, hz⟩, hds⟩ := hr.get h2
  subst hcs
  have hl' := run_loadVar' (w := w) ht hn ⟨b, 0 + i.toNat * sz + j, none⟩ (((g z m).drop j).take n') (hlen m) (fun q v hv => by
    rw [add_off, cell_of_cells hc]
    rw [List.getElem?_take] at hv
    split at hv
    · rw [List.getElem?_drop] at hv
      have e1 : (List.take (opn sz g F hl h1).sz (List.drop (i.toNat * (opn sz g F hl h1).sz) (List.take (n * (opn sz g F hl h1).sz) cur)))[j + q]? = some v := by rw [hds]; exact hv
      rw [List.getElem?_take] at e1
      split at e1
      · rw [List.getElem?_drop, List.getElem?_take] at e1
        split at e1
        · rw [show 0 + i.toNat * sz + j + q = i.toNat * sz + (j + q) by omega]; exact e1
        · cases e1
      · cases e1
    · cases hv)
  have hx' := hh.eval hx
  simp only [ablk, aoff, Option.map_some, Option.getD_some] at hx'
  have hrun : (execOp a.eval o).run P w = .ok (.value (mkv ag (((g z m).drop j).take n'))) w := by
    simp only [execOp, hop, hx', Instr.loadAt, Instr.sureAddr, Sem.run_bind, Sem.run_pure, Result.andThen, hl']
  rw [semAt_eq _ _ _ (by rw [hop]; intro c; simp), hrun, Oper.uponIn_value, ho]
  exact hK _ γ _ _ (h m) ((hh.addFs hz).put d _ hN)
end
end Go.Proofs.Ytbeknohemgjfbaa.L
namespace Go.Proofs.Ytbeknohemgjfbaa.L
open Go Go.Proofs.Ytbeknohemgjfbaa.Pu
set_option linter.unusedVariables false

def mapOf (P : Program) (T : TypeId) : Option (TypeId × TypeId) :=
  match P.underlying T with
  | some (.map k e) => some (k, e)
  | _ => none
theorem mapOf_und {P : Program} {T k e : TypeId} (h : mapOf P T = some (k, e)) : P.underlying T = some (.map k e) := by
  unfold mapOf at h; split at h
  · rename_i k' e' he; simp at h; rw [he, h.1, h.2]
  · cases h
/-- The zero value of a type. -/
def zvOf (P : Program) (T : TypeId) : Option Value := (P.info? T).bind (·.zero)
theorem run_zvOf {P : Program} {T : TypeId} {v : Value} {w : World} (h : zvOf P T = some v) : (zeroValue T).run P w = .ok v w := by
  unfold zvOf at h
  cases hi : P.info? T with
  | none => rw [hi] at h; cases h
  | some i =>
    rw [hi] at h
    simp only [Option.bind_some] at h
    unfold zeroValue
    rw [Sem.run_bind, run_typeInfo' hi]
    simp only [Result.andThen, h]
    rfl
theorem fnow_hit {kd : IntKind} {p c : Int} {v : Value} {b i : Nat} {es : List MapEntry} (h : p = c) : Instr.findNow (.int kd) (.int kd p) (⟨.int kd c, v, b⟩ :: es) i = some (some (i, v)) := by
  subst h; simp [Instr.findNow, Instr.sameNow]
theorem fnow_miss {kd : IntKind} {p c : Int} {v : Value} {b i : Nat} {es : List MapEntry} {r : Option (Option (Nat × Value))} (h : ¬ p = c) (t : Instr.findNow (.int kd) (.int kd p) es (i + 1) = r) : Instr.findNow (.int kd) (.int kd p) (⟨.int kd c, v, b⟩ :: es) i = r := by
  have hb : (p == c) = false := by simpa using h
  simp [Instr.findNow, Instr.sameNow, hb, t]
theorem fnow_end {kd : IntKind} {p : Int} {i : Nat} : Instr.findNow (.int kd) (.int kd p) [] i = some none := rfl

section
variable {P : Program} {r : Option Nat} {e : Env} {o : Oper} {Kn : St → Prop} {s : St} {γ γ' : Gh} {w w' : World} {a : Act}

theorem Fr.allocObj (hok : GhOk γ w) (ob : Obj) : Fr (fun _ => False) γ w γ (w.alloc ob) where
  le := ⟨by simp, fun _ => Nat.le_refl _, fun b j hj => by
    have : b < w.heap.size := by
      rcases Nat.lt_or_ge b w.heap.size with q | q
      · exact q
      · rw [hok b q] at hj; omega
    exact World.cell?_alloc_lt w _ _ this⟩
  os := rfl
  tape := rfl
  output := rfl
  block b hb _ := by simp only [World.alloc, Array.getElem?_push]; rw [if_neg (by omega)]
  gh b hb _ := rfl

theorem op_makeMap {d : Nat} {T : TypeId} (ho : o.dst = some d) (hN : d < e.N) (hop : o.op = .makeMap T none) (h : ∀ b, Kn ((s.cm (objc b (.map #[] 0))).put d (.map (some b)))) : OpTr P r e o Kn s := by
  intro γ a w hh K Q hK
  refine ⟨fun f _ => fen_fn r f, ?_⟩
  have hrun : (execOp a.eval o).run P w = .ok (.value (.map (some w.heap.size))) (w.alloc (.map #[] 0)) := by
    simp [execOp, hop, Instr.makeMap]
  rw [semAt_eq _ _ _ (by rw [hop]; intro c; simp), hrun, Oper.uponIn_value, ho]
  have fr := Fr.allocObj hh.ok (.map #[] 0)
  have hsz : e.w0.heap.size ≤ w.heap.size := hh.fr.le.size
  refine hK _ γ _ _ (h w.heap.size) (Holds.put (s := s.cm (objc w.heap.size (.map #[] 0))) (hh.step fr (fun b hb => hb.elim) ?_ ?_ ?_) d _ hN)
  · refine (hh.hm.keep fr (fun _ _ _ _ q => q)).cons ⟨heap_alloc_new w _, rfl, hh.ok _ (Nat.le_refl _)⟩ ?_
    intro d hd b hb hdb
    have : b = w.heap.size := hb
    have := d.lt (hh.hm.all d hd) hdb
    omega
  · intro c hc b hb
    rcases List.mem_cons.1 hc with q | q
    · subst q
      have : b = w.heap.size := hb
      exact .inr (by omega)
    · exact hh.own c q b hb
  · intro b hb
    simp only [World.alloc, Array.size_push] at hb
    exact hh.ok b (by omega)

/-- A new key of a map whose keys are whole numbers. -/
theorem op_insert {k b cl : Nat} {T kt et : TypeId} {x y z : Operand} {kd : IntKind} {p : Int} {v : Value} {es es' : Array MapEntry} (ho : o.dst = none) (hop : o.op = .insert T x y z) (hT : mapOf P T = some (kt, et)) (hkt : P.underlying kt = some (.int kd)) (hx : ev s.L x = some (.map (some b))) (hy : ev s.L y = some (.int kd p)) (hz : ev s.L z = some v)
    (hk : s.M[k]? = some (objc b (.map es cl))) (hf : Instr.findNow (.int kd) (.int kd p) es.toList 0 = some none) (he : es.push ⟨.int kd p, v, cl⟩ = es') (h : Kn (s.sm k (objc b (.map es' (cl + 1))))) : OpTr P r e o Kn s := by
  intro γ a w hh K Q hK
  subst he
  refine ⟨fun f _ => fen_fn r f, ?_⟩
  have hc := hh.hm.all _ (List.mem_of_getElem? hk)
  have hrun : (execOp a.eval o).run P w = .ok .skip (w.putObj b (.map (es.push ⟨.int kd p, v, cl⟩) (cl + 1))) := by
    simp [execOp, hop, hh.eval hx, hh.eval hy, hh.eval hz, Instr.mapUpdate, run_underlying (mapOf_und hT), MapKept.run_getObj_map hc.1, MapKept.run_checkKey hkt (k := .int kd p) rfl, MapKept.run_findKey hkt hf, MapKept.run_setObj_map _ hc.1, Result.andThen, World.putObj]
  rw [semAt_eq _ _ _ (by rw [hop]; intro c; simp), hrun, Oper.uponIn_skip, ho]
  have fr := Fr.putObj hc (o2 := .map (es.push ⟨.int kd p, v, cl⟩) (cl + 1)) rfl
  refine hK _ γ _ _ h (hh.step fr (fun x hx' => hh.own _ (List.mem_of_getElem? hk) x hx') (hh.hm.set hk fr (objc_put hc rfl) (fun x hx' => .inl hx')) ?_ (hh.ok.size (by simp)))
  intro d hd x hx'
  rcases List.mem_or_eq_of_mem_set hd with q | q
  · exact hh.own d q x hx'
  · subst q; exact hh.own _ (List.mem_of_getElem? hk) x hx'

/-- What stands by a key, if it is there. -/
theorem v_lookupI {k b cl i : Nat} {T kt et : TypeId} {x y : Operand} {kd : IntKind} {p : Int} {v : Value} {es : Array MapEntry} (hop : o.op = .lookup T x y false) (hT : mapOf P T = some (kt, et)) (hkt : P.underlying kt = some (.int kd)) (hx : ev s.L x = some (.map (some b))) (hy : ev s.L y = some (.int kd p))
    (hk : s.M[k]? = some (objc b (.map es cl))) (hf : Instr.findNow (.int kd) (.int kd p) es.toList 0 = some (some (i, v))) : OpV P e o s v :=
  ⟨by rw [hop]; intro c; simp, fun γ a w hh => by
    have hc := hh.hm.all _ (List.mem_of_getElem? hk)
    simp [execOp, hop, hh.eval hx, hh.eval hy, Instr.lookup, run_underlying (mapOf_und hT), MapKept.run_getObj_map hc.1, MapKept.run_checkKey hkt (k := .int kd p) rfl, MapKept.run_findKey hkt hf, Result.andThen]⟩
/-- Nothing stands by a key: the zero of one cell. -/
theorem v_lookupN {k b cl : Nat} {T kt et : TypeId} {x y : Operand} {kd : IntKind} {p : Int} {v : Value} {es : Array MapEntry} (hop : o.op = .lookup T x y false) (hT : mapOf P T = some (kt, et)) (hkt : P.underlying kt = some (.int kd)) (hx : ev s.L x = some (.map (some b))) (hy : ev s.L y = some (.int kd p))
    (hk : s.M[k]? = some (objc b (.map es cl))) (hf : Instr.findNow (.int kd) (.int kd p) es.toList 0 = some none) (hz : zvOf P et = some v) : OpV P e o s v :=
  ⟨by rw [hop]; intro c; simp, fun γ a w hh => by
    have hc := hh.hm.all _ (List.mem_of_getElem? hk)
    simp [execOp, hop, hh.eval hx, hh.eval hy, Instr.lookup, run_underlying (mapOf_und hT), MapKept.run_getObj_map hc.1, MapKept.run_checkKey hkt (k := .int kd p) rfl, MapKept.run_findKey hkt hf, Result.andThen, run_zvOf hz]⟩

/-! ### Functions and nil -/
theorem run_equal_fnil {T : TypeId} {a b : Array TypeId} {c : Bool} (hT : P.underlying T = some (.func a b c)) (f : Fn) (u v : Array Value) (w : World) : (Op.equal T (.func f u v) .nilFunc).run P w = .ok false w := by
  have : ∀ d, (Op.equalIn (d + 1) T (.func f u v) .nilFunc).run P w = .ok false w := by
    intro d
    simp only [Op.equalIn, Sem.run_bind, run_und' hT, Result.andThen, Sem.run_pure]
  exact this 9999
theorem run_equal_nilnil {T : TypeId} {a b : Array TypeId} {c : Bool} (hT : P.underlying T = some (.func a b c)) (w : World) : (Op.equal T .nilFunc .nilFunc).run P w = .ok true w := by
  have : ∀ d, (Op.equalIn (d + 1) T .nilFunc .nilFunc).run P w = .ok true w := by
    intro d
    simp only [Op.equalIn, Sem.run_bind, run_und' hT, Result.andThen, Sem.run_pure]
  exact this 9999
theorem v_fnne {T T' : TypeId} {x y : Operand} {p q : Array TypeId} {c : Bool} {f : Fn} {u v : Array Value} (hop : o.op = .binOp .neq T x y T') (hT : P.underlying T = some (.func p q c)) (hx : ev s.L x = some (.func f u v)) (hy : ev s.L y = some .nilFunc) : OpV P e o s (.bool true) :=
  ⟨by rw [hop]; intro c; simp, fun γ a w hh => by
    simp only [execOp, hop, hh.eval hx, hh.eval hy]
    simp [eqGuard, binOp, run_equal_fnil hT]⟩
theorem v_nilne {T T' : TypeId} {x y : Operand} {p q : Array TypeId} {c : Bool} (hop : o.op = .binOp .neq T x y T') (hT : P.underlying T = some (.func p q c)) (hx : ev s.L x = some .nilFunc) (hy : ev s.L y = some .nilFunc) : OpV P e o s (.bool false) :=
  ⟨by rw [hop]; intro c; simp, fun γ a w hh => by
    simp only [execOp, hop, hh.eval hx, hh.eval hy]
    simp [eqGuard, binOp, run_equal_nilnil hT]⟩

/-! ### Copied into an owned slice -/
variable {α : Type} {rp : Rep α} {E : TypeId} {A : Option Addr} {n c k : Nat} {ys zs : List α}
/-- What a slice's head that is copied out of reads as. -/
def SrcRd (rp : Rep α) (γ : Gh) (w : World) (B : Option Addr) (zs : List α) : Prop := zs ≠ [] → ∃ ad ds, B = some ad ∧ ad.spot = none ∧ Row rp γ w zs ds ∧ ∀ j v, ds[j]? = some v → w.cell? ⟨ad.block, ad.off + j, none⟩ = some v
theorem src_fact {B : Option Addr} {cy ky : Nat} (hf : s.F[ky]? = some (slF rp B cy zs)) : ∀ γ w, (∀ g ∈ s.F, g.p γ w) → (∀ c ∈ s.M, c.p γ w) → SrcRd rp γ w B zs := fun γ w hF _ hne => by
  have h : SlP rp γ w B cy zs := hF _ (List.mem_of_getElem? hf)
  cases B with
  | none => exact absurd (h.nil rfl) hne
  | some ad =>
    obtain ⟨hs, ds, hr, hc⟩ := h.row ad rfl
    exact ⟨ad, ds, rfl, hs hne, hr, fun j v hv => (hc j v hv).1⟩
/-- Out of the head of an owned slice itself. -/
theorem src_head {m cc : Nat} (hk : s.M[k]? = some (arr rp E A n c ys)) : ∀ γ w, (∀ g ∈ s.F, g.p γ w) → (∀ c ∈ s.M, c.p γ w) → SrcRd rp γ w (slA A 0 cc rp.sz) (ys.take m) := fun γ w _ hM hne => by
  obtain ⟨h1, h2, h3, h4⟩ := hM _ (List.mem_of_getElem? hk)
  rcases h4 with ⟨rfl, h0, _⟩ | ⟨b, cur, rfl, hc, hl, hr⟩
  · have : ys = [] := List.eq_nil_of_length_eq_zero (by omega)
    subst this
    simp at hne
  · refine ⟨⟨b, 0, none⟩, (cur.take (n * rp.sz)).take (m * rp.sz), ?_, rfl, hr.take m, fun j v hv => ?_⟩
    · unfold slA; split
      · rfl
      · simp [add_off]
    · rw [Nat.zero_add, cell_of_cells hc]
      rw [List.getElem?_take] at hv
      split at hv
      · rw [List.getElem?_take] at hv
        split at hv
        · exact hv
        · cases hv
      · cases hv
theorem row_spl {ds cs : List Value} {l : Nat} (h : Row rp γ w ys ds) (hz : Row rp γ w zs cs) (hl : l + zs.length ≤ ys.length) : Row rp γ w (ys.take l ++ zs ++ ys.drop (l + zs.length)) (spl ds (l * rp.sz) cs) := by
  unfold spl
  have e : l * rp.sz + cs.length = (l + zs.length) * rp.sz := by rw [hz.len, Nat.add_mul]
  rw [e]
  exact ((h.take l).append hz).append (h.drop _)
theorem op_copyG {d l dn dc m cy : Nat} {T T2 : TypeId} {x y : Operand} {ag : Bool} {B D : Option Addr} (ho : o.dst = some d) (hN : d < e.N)
    (hop : o.op = .call { callee := .builtin .copy, args := #[x, y], argTypes := #[T, T2] }) (hT : sliceOf P T = some E) (ht : tyOf P E = some (ag, rp.sz))
    (hx : ev s.L x = some (.slice D dn dc)) (hD : (D = A ∧ l = 0) ∨ D = slA A l c rp.sz) (hy : ev s.L y = some (.slice B m cy)) (hm : m = zs.length) (hk : s.M[k]? = some (arr rp E A n c ys)) (hl : ys.length = n → l + dn ≤ n)
    (hsrc : ∀ γ w, (∀ g ∈ s.F, g.p γ w) → (∀ c ∈ s.M, c.p γ w) → SrcRd rp γ w B zs)
    (h : Kn ((s.sm k (arr rp E A n c (ys.take l ++ zs.take dn ++ ys.drop (l + (zs.take dn).length)))).put d (.int .i64 ((zs.take dn).length : Int)))) : OpTr P r e o Kn s := by
  intro γ a w hh K Q hK
  refine ⟨fun f _ => fen_fn r f, ?_⟩
  subst hm
  have hA := hh.hm.all _ (List.mem_of_getElem? hk)
  have hs0 := hsrc γ w hh.facts hh.hm.all
  obtain ⟨p1, p2, p3, p4⟩ := hA
  have hl := hl p1
  have hmin : (zs.take dn).length = Nat.min zs.length dn := by rw [List.length_take, Nat.min_comm]
  rw [semAt_eq _ _ _ (by rw [hop]; intro c; simp)]
  by_cases h0 : (zs.take dn).length = 0
  · have hz0 : zs.take dn = [] := List.eq_nil_of_length_eq_zero h0
    have hrun : (execOp a.eval o).run P w = .ok (.value (.int .i64 ((zs.take dn).length : Int))) w := by
      have hf : ∀ q, (Builtin.firstCells q 0 (.slice B zs.length cy)).run P w = .ok #[] w := by
        intro q
        cases B <;> simp [Builtin.firstCells, loadCells, loadCellsFrom]
      rw [hmin] at h0 ⊢
      simp only [execOp, hop, resolve, invoke, builtin, List.map_toArray, List.map_cons, List.map_nil, hh.eval hx, hh.eval hy]
      cases D <;> simp [Builtin.copy_, run_und' (sliceOf_und hT), Builtin.lenOf, h0, hf, run_sizeOf' ht, storeCells, goInt, show min zs.length dn = 0 from h0]
    rw [hrun, Oper.uponIn_value, ho]
    rw [hz0] at h ⊢
    simp only [List.append_nil, List.length_nil, Nat.add_zero, List.take_append_drop] at h ⊢
    have hset : s.sm k (arr rp E A n c ys) = s := by
      unfold St.sm
      have : s.M.set k (arr rp E A n c ys) = s.M := by
        apply List.ext_getElem?
        intro j
        rw [List.getElem?_set]
        split
        · rename_i hj; subst hj; split
          · exact hk.symm
          · rename_i hlt; exact absurd (List.getElem?_eq_some_iff.1 hk).1 hlt
        · rfl
      rw [this]
    rw [hset] at h
    exact hK _ γ _ _ h (hh.put d _ hN)
  · have hzs : zs ≠ [] := by intro q; subst q; simp at h0
    rcases p4 with ⟨rfl, hn0, _⟩ | ⟨b, cur, rfl, hcur, hcl, hrx⟩
    · exfalso; rw [List.length_take] at h0; omega
    · obtain ⟨ad, ds, rfl, hsp, hrz, hcz⟩ := hs0 hzs
      obtain ⟨db, dofs, dsp⟩ := ad
      simp only at hsp
      subst hsp
      have hrt := hrz.take dn
      have hlen := hrt.len
      have hDa : D = some ⟨b, l * rp.sz, none⟩ := by
        rcases hD with ⟨rfl, rfl⟩ | rfl
        · simp
        · unfold slA
          split
          · exfalso; rw [List.length_take] at h0; omega
          · simp [add_off]
      subst hDa
      have hld : (loadCells ⟨db, dofs, none⟩ ((zs.take dn).length * rp.sz)).run P w = .ok (ds.take (dn * rp.sz)).toArray w := by
        rw [← hlen]
        refine run_loadCells_list w _ _ (fun j v hv => ?_)
        rw [add_off]
        rw [List.getElem?_take] at hv
        split at hv
        · exact hcz j v hv
        · cases hv
      have hfit : l * rp.sz + (ds.take (dn * rp.sz)).length ≤ cur.length := by
        rw [hlen, hcl, ← Nat.add_mul]
        exact Nat.mul_le_mul_right _ (by rw [List.length_take]; omega)
      have hst := run_storeCells_at P b (l * rp.sz) E (ds.take (dn * rp.sz)) 0 cur.toArray w hcur.1 (by simp only [Nat.add_zero, List.size_toArray]; exact hfit) hrt.one
      simp only [Nat.add_zero] at hst
      have hrow : (cur.toArray.toList.take (l * rp.sz) ++ ds.take (dn * rp.sz) ++ cur.toArray.toList.drop (l * rp.sz + (ds.take (dn * rp.sz)).length)) = spl cur (l * rp.sz) (ds.take (dn * rp.sz)) := rfl
      rw [hrow] at hst
      have hrun : (execOp a.eval o).run P w = .ok (.value (.int .i64 ((zs.take dn).length : Int))) (w.setRow b (spl cur (l * rp.sz) (ds.take (dn * rp.sz))).toArray) := by
        rw [hmin] at hld ⊢
        simp only [execOp, hop, resolve, invoke, builtin, List.map_toArray, List.map_cons, List.map_nil, hh.eval hx, hh.eval hy, Sem.run_bind, Sem.run_pure, Result.andThen_ok]
        simp only [Builtin.copy_, List.getElem?_toArray, List.getElem?_cons_zero, List.getElem?_cons_succ, Sem.run_bind, run_und' (sliceOf_und hT), Result.andThen_ok, Builtin.lenOf, Sem.run_pure, run_sizeOf' ht, Builtin.firstCells, hld, List.toList_toArray, hst, goInt]
      rw [hrun, Oper.uponIn_value, ho]
      have fr := Fr.setRow hcur (spl cur (l * rp.sz) (ds.take (dn * rp.sz)))
      have hfp : ∀ q, (arr rp E (some ⟨b, 0, none⟩) n c ys).fp q ↔ q = b := fun q => ⟨fun ⟨_, _, hA⟩ => by cases hA; rfl, fun hq => by subst hq; exact ⟨_, _, rfl⟩⟩
      have fr' : Fr (arr rp E (some ⟨b, 0, none⟩) n c ys).fp γ w γ (w.setRow b (spl cur (l * rp.sz) (ds.take (dn * rp.sz))).toArray) :=
        ⟨fr.le, fr.os, fr.tape, fr.output, fun x hx hn => fr.block x hx (fun q => hn ((hfp x).2 q)), fun x hx hn => fr.gh x hx (fun q => hn ((hfp x).2 q))⟩
      have hdn : (zs.take dn).length ≤ dn := by rw [List.length_take]; omega
      have hin : l * rp.sz + (ds.take (dn * rp.sz)).length ≤ n * rp.sz := by
        rw [hlen, ← Nat.add_mul]; exact Nat.mul_le_mul_right _ (by omega)
      have hnc : n * rp.sz ≤ c * rp.sz := Nat.mul_le_mul_right _ p2
      have htake : (spl cur (l * rp.sz) (ds.take (dn * rp.sz))).take (n * rp.sz) = spl (cur.take (n * rp.sz)) (l * rp.sz) (ds.take (dn * rp.sz)) := by
        unfold spl
        generalize ds.take (dn * rp.sz) = u at *
        rw [List.append_assoc, List.append_assoc, List.take_append, List.take_append, List.take_take, List.length_take, List.take_take, List.drop_take, hcl]
        rw [Nat.min_eq_left (show l * rp.sz ≤ c * rp.sz by omega), Nat.min_eq_right (show l * rp.sz ≤ n * rp.sz by omega), List.take_of_length_le (l := u) (by omega), Nat.min_eq_left (show l * rp.sz ≤ n * rp.sz by omega), show n * rp.sz - l * rp.sz - u.length = n * rp.sz - (l * rp.sz + u.length) by omega]
      refine hK _ γ _ _ h (Holds.put (s := s.sm k (arr rp E (some ⟨b, 0, none⟩) n c (ys.take l ++ zs.take dn ++ ys.drop (l + (zs.take dn).length)))) (hh.step fr' (fun x hx => hh.own _ (List.mem_of_getElem? hk) x hx) (hh.hm.set hk fr' ⟨?_, p2, p3, .inr ⟨b, _, rfl, ⟨setRow_heap w b cur.toArray _ E (0, 0) hcur.1, hcur.2⟩, ?_, ?_⟩⟩ (fun x hx => .inl ((hfp x).2 (by obtain ⟨_, _, hA⟩ := hx; cases hA; rfl)))) ?_ (fun x hx => hh.ok x (by simpa using hx))) d _ hN)
      · simp only [List.length_append, List.length_drop, List.length_take] at hdn ⊢
        omega
      · unfold spl
        simp only [List.length_append, List.length_take, List.length_drop] at hfit ⊢
        omega
      · rw [htake]
        exact row_spl (hrx.mono fr.le) (hrt.mono fr.le) (by omega)
      · intro d' hd q hq
        rcases List.mem_or_eq_of_mem_set hd with t | t
        · exact hh.own d' t q hq
        · subst t
          obtain ⟨_, _, hA⟩ := hq
          cases hA
          exact hh.own _ (List.mem_of_getElem? hk) _ ⟨_, _, rfl⟩
/-- A part of an owned slice, to be copied into, or out of. -/
theorem v_viewLo {sz : Nat} {T : TypeId} {x y : Operand} {ag : Bool} {kd : IntKind} {i : Int} (hop : o.op = .slice T x (some y) none none) (hT : sliceOf P T = some E) (ht : tyOf P E = some (ag, sz)) (hx : ev s.L x = some (.slice A n c)) (hy : ev s.L y = some (.int kd i)) (hk : s.M[k]? = some (arr rp E A n c ys)) (h : 0 ≤ i ∧ i ≤ ys.length) :
    OpV P e o s (.slice (slA A i.toNat c sz) (n - i.toNat) (c - i.toNat)) :=
  ⟨by rw [hop]; intro c; simp, fun γ a w hh => by
    obtain ⟨h1, h2, _⟩ := hh.hm.all _ (List.mem_of_getElem? hk)
    exact (v_slice (l := i.toNat) (h := n) (m := c) hop hT ht hx ⟨kd, i, hy, h.1, rfl⟩ rfl rfl (by omega) h2 (Nat.le_refl _) (by simp) rfl rfl).run γ a w hh⟩
theorem v_viewHi {sz : Nat} {T : TypeId} {x y : Operand} {ag : Bool} {kd : IntKind} {i : Int} (hop : o.op = .slice T x none (some y) none) (hT : sliceOf P T = some E) (ht : tyOf P E = some (ag, sz)) (hx : ev s.L x = some (.slice A n c)) (hy : ev s.L y = some (.int kd i)) (hk : s.M[k]? = some (arr rp E A n c ys)) (h : 0 ≤ i ∧ i ≤ ys.length) :
    OpV P e o s (.slice (slA A 0 c sz) (ys.take i.toNat).length c) :=
  ⟨by rw [hop]; intro c; simp, fun γ a w hh => by
    obtain ⟨h1, h2, _⟩ := hh.hm.all _ (List.mem_of_getElem? hk)
    exact (v_slice (l := 0) (h := i.toNat) (m := c) hop hT ht hx rfl ⟨kd, i, hy, h.1, rfl⟩ rfl (by omega) (by omega) (Nat.le_refl _) (by simp) (by rw [List.length_take]; omega) rfl).run γ a w hh⟩
end
end Go.Proofs.Ytbeknohemgjfbaa.L
