/- States said anew; calls by places; regions that draw their order. -/
import Derived.Test.YthgeodagikmpjaaL7
import Derived.OrdersIn
namespace Go.Proofs.Ythgeodagikmpjaa.L
open Go Go.Proofs.Ythgeodagikmpjaa.Pu
set_option linter.unusedVariables false

def SubL : List (Nat × Value) → List (Nat × Value) → Prop
  | [], _ => True
  | (i, v) :: t, s => s.lookup i = some v ∧ SubL t s

theorem SubL.spec : ∀ {t s : List (Nat × Value)}, SubL t s → ∀ p ∈ t, s.lookup p.1 = some p.2 := by
  intro t
  induction t with
  | nil => intro s h p hp; simp at hp
  | cons q t ih =>
    intro s h p hp
    rcases List.mem_cons.1 hp with r | r
    · subst r; exact h.1
    · exact ih h.2 p r

section
variable {P : Program} {r : Option Nat} {e : Env} {o : Oper} {Kn : St → Prop} {s : St} {γ γ' : Gh} {w w' : World} {a : Act}

theorem mem_of_places {α : Type} {l t : List α} {js : List Nat} (h : js.map (l[·]?) = t.map some) : ∀ f ∈ t, f ∈ l := by
  intro f hf
  have : some f ∈ t.map some := List.mem_map.2 ⟨f, hf, rfl⟩
  rw [← h] at this
  obtain ⟨j, _, hj⟩ := List.mem_map.1 this
  exact List.mem_of_getElem? hj

theorem HM.places {M T : List Chunk} {ks : List Nat} (h : HM γ w M) (hn : ks.Nodup) (hM : ks.map (M[·]?) = T.map some) : HM γ w T := by
  refine ⟨fun c hc => h.all c (mem_of_places hM c hc), ?_⟩
  have hlen : ks.length = T.length := by have := congrArg List.length hM; simpa using this
  rw [List.pairwise_iff_getElem]
  intro i j hi hj hij b hb
  have gi : M[ks[i]'(by omega)]? = some T[i] := by
    have := congrArg (fun l => l[i]?) hM
    simpa [List.getElem?_map, List.getElem?_eq_getElem hi, List.getElem?_eq_getElem (show i < ks.length by omega)] using this
  have gj : M[ks[j]'(by omega)]? = some T[j] := by
    have := congrArg (fun l => l[j]?) hM
    simpa [List.getElem?_map, List.getElem?_eq_getElem hj, List.getElem?_eq_getElem (show j < ks.length by omega)] using this
  have hne : ks[i]'(by omega) ≠ ks[j]'(by omega) := by
    have := List.pairwise_iff_getElem.1 hn i j (by omega) (by omega) hij
    exact this
  obtain ⟨hi', ei⟩ := List.getElem?_eq_some_iff.1 gi
  obtain ⟨hj', ej⟩ := List.getElem?_eq_some_iff.1 gj
  have hp := List.pairwise_iff_getElem.1 h.sep
  rcases Nat.lt_or_ge (ks[i]'(by omega)) (ks[j]'(by omega)) with q | q
  · have := hp _ _ hi' hj' q b
    rw [ei, ej] at this
    exact this hb
  · have := hp _ _ hj' hi' (by omega) b
    rw [ei, ej] at this
    exact fun hjb => this hjb hb

theorem Holds.re (t : St) (ks js : List Nat) (hL : SubL t.L s.L) (hn : ks.Nodup) (hM : ks.map (s.M[·]?) = t.M.map some) (hF : js.map (s.F[·]?) = t.F.map some) (hD : t.D = s.D) (h : Holds e s γ a w) : Holds e t γ a w := by
  have h1 := h.weaken (t := { t with M := [] }) (SubL.spec hL) (List.nil_sublist _) (mem_of_places hF) hD
  exact { size := h1.size, slots := h1.slots, defers := h1.defers, hm := h.hm.places hn hM, own := fun c hc => h.own c (mem_of_places hM c hc), facts := h1.facts, fr := h1.fr, ok := h1.ok }
theorem Tr.re (t : St) (ks js : List Nat) {c : Code} {Q : SPost} (hL : SubL t.L s.L) (hn : ks.Nodup) (hM : ks.map (s.M[·]?) = t.M.map some) (hF : js.map (s.F[·]?) = t.F.map some) (hD : t.D = s.D) (h : Tr P r e c Q t) : Tr P r e c Q s :=
  fun γ a w hh => h γ a w (hh.re t ks js hL hn hM hF hD)
theorem TrL.re (t : St) (ks js : List Nat) {ops : Array Oper} {l : List Oper} (hL : SubL t.L s.L) (hn : ks.Nodup) (hM : ks.map (s.M[·]?) = t.M.map some) (hF : js.map (s.F[·]?) = t.F.map some) (hD : t.D = s.D) (h : TrL P r e ops l Kn t) : TrL P r e ops l Kn s :=
  fun γ a w hh => h γ a w (hh.re t ks js hL hn hM hF hD)

/-- A call: the chunks at the places ks and the facts at the places js are handed over; those at the places rs stay. -/
theorem op_callp {f : FuncId} {fo : Operand} {xs : List Operand} {tys : Array TypeId} {vs cap : List Value} {Mp Mr : List Chunk} {Fp : List Fact} {R : Value → List Chunk → List Fact → Prop} (ks rs js : List Nat) (hop : o.op = .call { callee := .value fo, args := xs.toArray, argTypes := tys })
    (hf : ev s.L fo = some (.func (.func f) #[] cap.toArray)) (hxs : xs.map (ev s.L) = vs.map some) (hen : entersOf P f = true) (hc : Ctr P f (vs ++ cap) Mp Fp R) (hn : (ks ++ rs).Nodup) (hM : (ks ++ rs).map (s.M[·]?) = (Mp ++ Mr).map some) (hF : js.map (s.F[·]?) = Fp.map some) (hd : ∀ d, o.dst = some d → d < e.N)
    (h : ∀ ret M' F', R ret M' F' → Kn (match o.dst with
      | some d => ({ s with M := M' ++ Mr, F := s.F ++ F' } : St).put d ret
      | none => { s with M := M' ++ Mr, F := s.F ++ F' })) : OpTr P r e o Kn s := by
  intro γ a w hh
  have hh' : Holds e { s with M := Mp ++ Mr } γ a w := { size := hh.size, slots := hh.slots, defers := hh.defers, hm := hh.hm.places hn hM, own := fun c hc => hh.own c (mem_of_places hM c hc), facts := hh.facts, fr := hh.fr, ok := hh.ok }
  exact op_call (s := { s with M := Mp ++ Mr }) hop hf hxs hen hc rfl (mem_of_places hF) hd h γ a w hh'
/-- A call that takes no chunk and gives none. -/
theorem op_call0 {f d : Nat} {fo : Operand} {xs : List Operand} {tys : Array TypeId} {vs cap : List Value} {Fp : List Fact} {R : Value → List Chunk → List Fact → Prop} (js : List Nat) (hop : o.op = .call { callee := .value fo, args := xs.toArray, argTypes := tys }) (ho : o.dst = some d) (hN : d < e.N)
    (hf : ev s.L fo = some (.func (.func f) #[] cap.toArray)) (hxs : xs.map (ev s.L) = vs.map some) (hen : entersOf P f = true) (hc : Ctr P f (vs ++ cap) [] Fp R) (hF : js.map (s.F[·]?) = Fp.map some)
    (h : ∀ ret M' F', R ret M' F' → Kn (({ s with M := M' ++ s.M, F := s.F ++ F' } : St).put d ret)) : OpTr P r e o Kn s :=
  op_call (Mr := s.M) hop hf hxs hen hc rfl (mem_of_places hF) (fun q hq => by rw [ho] at hq; cases hq; exact hN) (fun ret M' F' hR => by rw [ho]; exact h ret M' F' hR)

/-! ### Regions that draw their order -/
def waits (ops : Array Oper) (j i : Nat) : Bool := (ops[j]?).any fun o => o.after.any fun e => Region.binds .any e && e.on == i

/-- An operation that comes to a value and leaves the world, or is passed over. -/
def OpVal (P : Program) (e : Env) (ops : Array Oper) (i : Nat) (v : Value) (s : St) : Prop :=
  ∃ o, ops[i]? = some o ∧ (∀ c, o.op ≠ .defer c) ∧ ∀ γ a w, Holds e s γ a w →
    ((Region.wanted o (yielded ops a.tmps) = true ∧ (execOp a.eval o).run P w = .ok (.value v) w) ∨ (Region.wanted o (yielded ops a.tmps) = false ∧ v = undef))

theorem OpVal.plain {ops : Array Oper} {i : Nat} {v : Value} (hi : ops[i]? = some o) (hg : o.guard = none) (hv : OpV P e o s v) : OpVal P e ops i v s :=
  ⟨o, hi, hv.nd, fun γ a w hh => .inl ⟨by simp [Region.wanted, hg], hv.run γ a w hh⟩⟩
theorem OpVal.yes {ops : Array Oper} {i j d : Nat} {v : Value} {want b : Bool} (hi : ops[i]? = some o) (hg : o.guard = some (j, want)) (hd : (ops[j]?).bind (·.dst) = some d) (hb : s.L.lookup d = some (.bool b)) (hw : b = want) (hv : OpV P e o s v) : OpVal P e ops i v s :=
  ⟨o, hi, hv.nd, fun γ a w hh => .inl ⟨by simp [Region.wanted, hg, yielded_of hh hd hb, hw], hv.run γ a w hh⟩⟩
theorem OpVal.no {ops : Array Oper} {i j d : Nat} {want b : Bool} (hi : ops[i]? = some o) (hnd : ∀ c, o.op ≠ .defer c) (hg : o.guard = some (j, want)) (hd : (ops[j]?).bind (·.dst) = some d) (hb : s.L.lookup d = some (.bool b)) (hw : (b == want) = false) : OpVal P e ops i undef s :=
  ⟨o, hi, hnd, fun γ a w hh => .inr ⟨by simp [Region.wanted, hg, yielded_of hh hd hb, hw], rfl⟩⟩

abbrev Fl := List (Nat × Nat × Value)

/-- The two frames agree outside the slots of what is promised and has not come yet. -/
def Rel (fl : Fl) (listed : Array Bool) (a af : Act) : Prop :=
  a.defers = af.defers ∧ a.tmps.size = af.tmps.size ∧ ∀ t, (∀ p ∈ fl, listed.getD p.1 false = false → p.2.1 ≠ t) → a.tmps[t]? = af.tmps[t]?

def Cons (ops : Array Oper) (fl : Fl) (dn : List Nat) (listed : Array Bool) : Prop :=
  listed.size = ops.size ∧ (∀ i, listed.getD i false = true → i ∈ dn ∨ i ∈ fl.map (·.1)) ∧ ∀ i ∈ dn, listed.getD i false = true

def unl (ops : Array Oper) (listed : Array Bool) : Nat := (List.range ops.size).countP fun i => !listed.getD i false

/-- The shape that every promise keeps: its slot is its own, whoever looks at it or writes it waits for it. -/
def Shaped (ops : Array Oper) (fl : Fl) : Prop := ∀ p ∈ fl, ∃ o, ops[p.1]? = some o ∧ o.dst = some p.2.1 ∧ ∀ j oj, ops[j]? = some oj → j ≠ p.1 → (p.2.1 ∈ oj.looksAt ops ∨ oj.dst = some p.2.1) → waits ops j p.1 = true

def TrAny (P : Program) (r : Option Nat) (e : Env) (ops : Array Oper) (fl : Fl) (dn : List Nat) (Kn : St → Prop) (s : St) : Prop :=
  ∀ fuel listed, Cons ops fl dn listed → unl ops listed ≤ fuel → (∀ p ∈ fl, listed.getD p.1 false = false → OpVal P e ops p.1 p.2.2 s) → ∀ γ a af w, Holds e s γ af w → Rel fl listed a af →
    ∀ (Q : Exit → Act → World → Prop), (∀ s' γ' a' w', Kn s' → Holds e s' γ' a' w' → Q .normal a' w') → wpAnyIn (fen r) 0 P .any ops Q fuel listed a w

theorem ready_iff {ops : Array Oper} {listed : Array Bool} (hs : listed.size = ops.size) {j : Nat} : j ∈ Region.ready .any ops listed ↔ j < ops.size ∧ listed.getD j false = false ∧ ∀ i, waits ops j i = true → listed.getD i false = true := by
  rw [mem_ready]
  constructor
  · rintro ⟨h0, o, ho, hall⟩
    have hlt : j < ops.size := (Array.getElem?_eq_some_iff.1 ho).1
    refine ⟨hlt, ?_, fun i hi => ?_⟩
    · have : j < listed.size := by omega
      simpa [Array.getD_eq_getD_getElem?, this] using h0
    · simp only [waits, ho, Option.any_some, Array.any_eq_true', Bool.and_eq_true, beq_iff_eq] at hi
      obtain ⟨ed, he, hb, rfl⟩ := hi
      exact hall ed he hb
  · rintro ⟨hlt, h0, hall⟩
    refine ⟨?_, ops[j], Array.getElem?_eq_getElem hlt, fun ed he hb => hall _ ?_⟩
    · have : j < listed.size := by omega
      simpa [Array.getD_eq_getD_getElem?, this] using h0
    · simp only [waits, Array.getElem?_eq_getElem hlt, Option.any_some, Array.any_eq_true', Bool.and_eq_true, beq_iff_eq]
      exact ⟨ed, he, hb, rfl⟩

theorem getD_set {listed : Array Bool} {i j : Nat} (hi : i < listed.size) : (listed.setIfInBounds i true).getD j false = if j = i then true else listed.getD j false := by
  simp only [Array.getD_eq_getD_getElem?, Array.getElem?_setIfInBounds]
  by_cases h : i = j
  · subst h; simp [hi]
  · simp [h, show ¬ j = i from fun q => h q.symm]

theorem unl_set {ops : Array Oper} {listed : Array Bool} {i : Nat} (hs : listed.size = ops.size) (hi : i < ops.size) (h0 : listed.getD i false = false) : unl ops (listed.setIfInBounds i true) + 1 = unl ops listed := by
  have key : ∀ n, (List.range n).countP (fun j => !(listed.setIfInBounds i true).getD j false) + (if i < n then 1 else 0) = (List.range n).countP (fun j => !listed.getD j false) := by
    intro n
    induction n with
    | zero => simp
    | succ n ih =>
      rw [List.range_succ, List.countP_append, List.countP_append, List.countP_singleton, List.countP_singleton, getD_set (by omega)]
      by_cases h : n = i
      · subst h
        simp only [if_true, h0, Bool.not_true, Bool.not_false, Bool.false_eq_true, if_false, Nat.lt_irrefl, Nat.lt_succ_self] at ih ⊢
        omega
      · simp only [h, if_false]
        split at ih <;> split <;> first | omega | (split <;> omega)
  have := key ops.size
  rw [if_pos hi] at this
  exact this

/-- The frame with a value in place is as it was to whoever waits for it. -/
theorem Rel.eval {ops : Array Oper} {fl : Fl} {listed : Array Bool} {af : Act} (hsh : Shaped ops fl) (h : Rel fl listed a af) {j : Nat} {oj : Oper} (hj : ops[j]? = some oj) (hready : ∀ i, waits ops j i = true → listed.getD i false = true) (hjn : ∀ p ∈ fl, p.1 = j → listed.getD p.1 false = false → p.2.1 ∉ oj.looksAt ops) :
    (∀ x ∈ oj.op.operands, a.eval x = af.eval x) ∧ Region.wanted oj (yielded ops a.tmps) = Region.wanted oj (yielded ops af.tmps) := by
  have key : ∀ t ∈ oj.looksAt ops, a.tmps[t]? = af.tmps[t]? := by
    intro t ht
    refine h.2.2 t fun p hp hl hpt => ?_
    subst hpt
    by_cases hpj : p.1 = j
    · exact hjn p hp hpj hl ht
    · obtain ⟨o, ho, hd, hw⟩ := hsh p hp
      have := hready _ (hw j oj hj (fun q => hpj q.symm) (.inl ht))
      rw [this] at hl
      cases hl
  refine ⟨fun x hx => ?_, ?_⟩
  · cases x with
    | tmp t =>
      have := key t (List.mem_append_left _ (List.mem_filterMap.2 ⟨.tmp t, by simpa using hx, rfl⟩))
      simp [Act.eval, Array.getD_eq_getD_getElem?, this]
    | const v => rfl
    | global g => rfl
    | func f => rfl
  · unfold Region.wanted
    cases hg : oj.guard with
    | none => rfl
    | some gw =>
      obtain ⟨g, want⟩ := gw
      have : yielded ops a.tmps g = yielded ops af.tmps g := by
        unfold yielded
        cases ht : (ops[g]?).bind (·.dst) with
        | none => rfl
        | some t =>
          have := key t (by simp [Oper.looksAt, hg, ht])
          simp [this]
      simp only [this]

def noSel (ops : Array Oper) : Bool := ops.all fun o => match o.op with | .select .. => false | _ => true
theorem noSel_spec {ops : Array Oper} (h : noSel ops = true) {j : Nat} {o : Oper} (ho : ops[j]? = some o) : ∀ cs b, o.op ≠ .select cs b := by
  intro cs b heq
  have := Array.all_eq_true_iff_forall_mem.1 h o (Array.mem_of_getElem? ho)
  simp [heq] at this

/-- A promised operation comes up. -/
theorem TrAny.float {ops : Array Oper} {fl : Fl} {dn : List Nat} (hsel : noSel ops = true) (hsh : Shaped ops fl) {fuel : Nat} {listed : Array Bool} (hc : Cons ops fl dn listed) (hu : unl ops listed ≤ fuel + 1) (hv : ∀ p ∈ fl, listed.getD p.1 false = false → OpVal P e ops p.1 p.2.2 s) {γ : Gh} {a af : Act} {w : World}
    (hh : Holds e s γ af w) (hr : Rel fl listed a af) {Q : Exit → Act → World → Prop} {p : Nat × Nat × Value} (hp : p ∈ fl) (hrd : p.1 ∈ Region.ready .any ops listed) (hself : ∀ q ∈ fl, q.1 = p.1 → q = p) (hpl : ∀ o, ops[p.1]? = some o → p.2.1 ∉ o.looksAt ops) (hs : ∀ q ∈ s.L, True)
    (hslot : af.tmps[p.2.1]? = some p.2.2)
    (K : ∀ listed', Cons ops fl dn listed' → unl ops listed' ≤ fuel → (∀ q ∈ fl, listed'.getD q.1 false = false → OpVal P e ops q.1 q.2.2 s) → ∀ a', Rel fl listed' a' af → wpAnyIn (fen r) 0 P .any ops Q fuel listed' a' w) :
    wpOpIn (fen r) 0 P ops Q p.1 (wpAnyIn (fen r) 0 P .any ops Q fuel (listed.setIfInBounds p.1 true)) a w := by
  obtain ⟨hlt, h0, hw⟩ := (ready_iff hc.1).1 hrd
  obtain ⟨o, ho, hnd, hrun⟩ := hv p hp h0
  obtain ⟨o', ho', hd, hsp⟩ := hsh p hp
  rw [ho] at ho'
  cases ho'
  have hev := hr.eval hsh ho hw (fun q hq hqj hql => by rw [hself q hq hqj]; exact hpl o ho)
  have hc' : Cons ops fl dn (listed.setIfInBounds p.1 true) := by
    refine ⟨by simpa using hc.1, fun i hi => ?_, fun i hi => ?_⟩
    · rw [getD_set (by rw [hc.1]; exact hlt)] at hi
      split at hi
      · rename_i q; subst q; exact .inr (List.mem_map.2 ⟨p, hp, rfl⟩)
      · exact hc.2.1 i hi
    · rw [getD_set (by rw [hc.1]; exact hlt)]
      split
      · rfl
      · exact hc.2.2 i hi
  have hu' : unl ops (listed.setIfInBounds p.1 true) ≤ fuel := by have := unl_set hc.1 hlt h0; omega
  have hv' : ∀ q ∈ fl, (listed.setIfInBounds p.1 true).getD q.1 false = false → OpVal P e ops q.1 q.2.2 s := fun q hq hql => by
    rw [getD_set (by rw [hc.1]; exact hlt)] at hql
    split at hql
    · cases hql
    · exact hv q hq hql
  have hrel : ∀ v, v = p.2.2 → Rel fl (listed.setIfInBounds p.1 true) (a.put o.dst v) af := by
    intro v hvv
    subst hvv
    rw [hd]
    refine ⟨hr.1, by simp [Act.put, hr.2.1], fun t ht => ?_⟩
    simp only [Act.put]
    by_cases htp : t = p.2.1
    · subst htp
      have hsz : p.2.1 < a.tmps.size := by rw [hr.2.1]; exact (Array.getElem?_eq_some_iff.1 hslot).1
      rw [Array.getElem?_setIfInBounds_self_of_lt hsz, hslot]
    · rw [Array.getElem?_setIfInBounds_ne (fun q => htp q.symm)]
      refine hr.2.2 t fun q hq hql hqt => ?_
      by_cases hqp : q.1 = p.1
      · rw [hself q hq hqp] at hqt; exact htp hqt.symm
      · refine ht q hq ?_ hqt
        rw [getD_set (by rw [hc.1]; exact hlt), if_neg hqp]
        exact hql
  unfold wpOpIn
  simp only [ho]
  rcases hrun γ af w hh with ⟨hw1, hw2⟩ | ⟨hw1, hw2⟩
  · rw [hev.2, if_pos hw1]
    refine ⟨fun f _ => fen_fn r f, ?_⟩
    rw [semAt_eq _ _ _ hnd, execOp_congr o (noSel_spec hsel ho) hev.1, hw2, Oper.uponIn_value]
    exact K _ hc' hu' hv' _ (hrel _ rfl)
  · rw [hev.2, if_neg (by rw [hw1]; simp)]
    exact ⟨fun f _ => fen_fn r f, K _ hc' hu' hv' _ (hrel _ hw2.symm)⟩
end
end Go.Proofs.Ythgeodagikmpjaa.L
