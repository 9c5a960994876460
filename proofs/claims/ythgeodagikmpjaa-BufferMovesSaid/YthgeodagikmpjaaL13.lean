/- Drawn orders in which more than one step may come next. -/
import Derived.Test.YthgeodagikmpjaaL12
namespace Go.Proofs.Ythgeodagikmpjaa.L
open Go Go.Proofs.Ythgeodagikmpjaa.Pu
set_option linter.unusedVariables false

section
variable {P : Program} {r : Option Nat} {e : Env} {o : Oper} {Kn : St → Prop} {s : St} {γ γ' : Gh} {w w' : World} {a : Act} {ops : Array Oper} {fl : Fl} {dn : List Nat}

theorem TrAny.cut {ι : Type} (stJ : ι → St) (h : TrAny P r e ops fl dn (fun s' => ∃ i, Imp e s' (stJ i)) s) (hJ : ∀ i, Kn (stJ i)) : TrAny P r e ops fl dn Kn s :=
  fun fuel listed hc hu hv γ a af w hh hr Q hQ => h fuel listed hc hu hv γ a af w hh hr Q fun s' γ' a' w' ⟨i, hi⟩ hh' => hQ (stJ i) γ' a' w' (hJ i) (hi _ _ _ hh')

def StepAt (P : Program) (r : Option Nat) (e : Env) (ops : Array Oper) (fl : Fl) (dn : List Nat) (Kn : St → Prop) (s : St) (j : Nat) : Prop :=
  ∃ oj, ops[j]? = some oj ∧ (∀ γ a w, Holds e s γ a w → Region.wanted oj (yielded ops a.tmps) = true) ∧ (∀ c, oj.op ≠ .defer c) ∧ j ∉ dn ∧ j ∉ fl.map (·.1) ∧ (∀ p ∈ fl, oj.dst ≠ some p.2.1) ∧
    OpTr P r e oj (fun s' => Kp P e ops j fl s s' ∧ TrAny P r e ops fl (j :: dn) Kn s') s
inductive AllS (X : Nat → Prop) : List Nat → Prop
  | nil : AllS X []
  | cons {j : Nat} {t : List Nat} (h : X j) (k : AllS X t) : AllS X (j :: t)
theorem AllS.spec {X : Nat → Prop} {l : List Nat} (h : AllS X l) : ∀ j ∈ l, X j := by
  induction h with
  | nil => simp
  | cons h _ ih => intro j hj; rcases List.mem_cons.1 hj with q | q; (subst q; exact h); exact ih j q
def nextBs (ops : Array Oper) (fl : List Nat) (dn : List Nat) (js : List Nat) : Bool := (List.range ops.size).all fun i => js.contains i || dn.contains i || fl.contains i ||
  (List.range ops.size).any fun k => waits ops i k && !dn.contains k && !fl.contains k
theorem nextBs_spec {fls dn js : List Nat} (h : nextBs ops fls dn js = true) {i : Nat} (hi : i < ops.size) (hij : i ∉ js) (h1 : i ∉ dn) (h2 : i ∉ fls) : ∃ k, waits ops i k = true ∧ k ∉ dn ∧ k ∉ fls := by
  have := List.all_eq_true.1 h i (List.mem_range.2 hi)
  simp only [Bool.or_eq_true, List.contains_eq_mem, decide_eq_true_eq] at this
  rcases this with ((q | q) | q) | q
  · exact absurd q hij
  · exact absurd q h1
  · exact absurd q h2
  · obtain ⟨k, _, hk⟩ := List.any_eq_true.1 q
    simp only [Bool.and_eq_true, Bool.not_eq_true', decide_eq_false_iff_not] at hk
    exact ⟨k, hk.1.1, hk.1.2, hk.2⟩

/-- One of these steps is the next. -/
theorem TrAny.fork (js : List Nat) (hsel : (noSel ops && backB ops) = true) (hok : FlOk ops fl s) (hj0 : ∃ j ∈ js, j < ops.size) (hnext : nextBs ops (fl.map (·.1)) dn js = true) (h : AllS (StepAt P r e ops fl dn Kn s) js) : TrAny P r e ops fl dn Kn s := by
  simp only [Bool.and_eq_true] at hsel
  obtain ⟨hsel, hback⟩ := hsel
  obtain ⟨j0, hj0m, hj0lt⟩ := hj0
  obtain ⟨_, _, _, _, hjd0, hjf0, _, _⟩ := h.spec j0 hj0m
  intro fuel
  induction fuel with
  | zero =>
    intro listed hc hu
    have := unl_zero hu j0 hj0lt
    rcases hc.2.1 j0 this with q | q
    · exact absurd q hjd0
    · exact absurd q hjf0
  | succ fuel ih =>
    intro listed hc hu hvs γ a af w hh hr Q hQ
    have hjl0 : listed.getD j0 false = false := by
      cases hb : listed.getD j0 false with
      | false => rfl
      | true => rcases hc.2.1 j0 hb with q | q; exact absurd q hjd0; exact absurd q hjf0
    refine ⟨fun hn => absurd hn (ready_ne hc.1 hback hj0lt hjl0), fun i hi => ?_⟩
    obtain ⟨hlt, h0, hw⟩ := (ready_iff hc.1).1 hi
    by_cases hifl : i ∈ fl.map (·.1)
    · obtain ⟨p, hp, rfl⟩ := List.mem_map.1 hifl
      exact TrAny.float hsel hok.toShaped hc hu hvs hh hr hp hi (fun q hq hqp => inj_of_nodup hok.nodup hp hq hqp) (hok.own hp) (fun _ _ => trivial) (hh.slots _ _ (hok.slot p hp)) fun listed' hc' hu' hvs' a' hr' => ih listed' hc' hu' hvs' γ a' af w hh hr' Q hQ
    · by_cases hij : i ∈ js
      · obtain ⟨oj, hj, hg, hnd, hjd, hjf, hdst, hop⟩ := h.spec i hij
        have hjlt := hlt
        have hjl := h0
        have hev := hr.eval hok.toShaped hj hw (fun p hp hpj _ => absurd (List.mem_map.2 ⟨p, hp, hpj⟩) hjf)
        unfold wpOpIn
        simp only [hj]
        rw [if_pos (hev.2.trans (hg γ af w hh))]
        refine wpIn_transfer (af := af) hnd hr.1 (execOp_congr oj (noSel_spec hsel hj) hev.1) (hop γ af w hh (fun a' w' => ∃ s' γ', (Kp P e ops i fl s s' ∧ TrAny P r e ops fl (i :: dn) Kn s') ∧ Holds e s' γ' a' w') (fun _ _ _ => False) (fun s' γ' a' w' hk hh' => ⟨s', γ', hk, hh'⟩)) ?_
        rintro D v w' ⟨s', γ', ⟨hv', hk⟩, hh'⟩
        refine hk fuel (listed.setIfInBounds i true) ⟨by simpa using hc.1, fun q hq => ?_, fun q hq => ?_⟩ (by have := unl_set hc.1 hjlt hjl; omega) ?_ γ' _ _ w' hh' ?_ Q hQ
        · rw [getD_set (by rw [hc.1]; exact hjlt)] at hq
          split at hq
          · rename_i q'; subst q'; exact .inl List.mem_cons_self
          · rcases hc.2.1 q hq with q' | q'
            · exact .inl (List.mem_cons_of_mem _ q')
            · exact .inr q'
        · rw [getD_set (by rw [hc.1]; exact hjlt)]
          split
          · rfl
          · rename_i hne
            rcases List.mem_cons.1 hq with q' | q'
            · exact absurd q' hne
            · exact hc.2.2 q q'
        · intro p hp hpl
          rw [getD_set (by rw [hc.1]; exact hjlt)] at hpl
          split at hpl
          · cases hpl
          · refine hv' p hp ?_ (hvs p hp hpl)
            cases hb : waits ops i p.1 with
            | false => rfl
            | true => rw [hw _ hb] at hpl; cases hpl
        · refine ⟨?_, ?_, fun t ht => ?_⟩
          · cases oj.dst <;> rfl
          · cases hd : oj.dst <;> simp [Act.put, hr.2.1]
          · have hold : (∀ p ∈ fl, listed.getD p.1 false = false → p.2.1 ≠ t) := fun p hp hpl hpt => by
              refine ht p hp ?_ hpt
              rw [getD_set (by rw [hc.1]; exact hjlt)]
              split
              · rename_i q'; exact absurd (List.mem_map.2 ⟨p, hp, q'⟩) hjf
              · exact hpl
            have h1 := hr.2.2 t hold
            cases hd : oj.dst with
            | none => exact h1
            | some d =>
              simp only [Act.put]
              by_cases hdt : d = t
              · subst hdt
                simp only [Array.getElem?_setIfInBounds, if_true, hr.2.1]
              · rw [Array.getElem?_setIfInBounds_ne hdt, Array.getElem?_setIfInBounds_ne hdt]
                exact h1
      · have hidn : i ∉ dn := fun q => by rw [hc.2.2 i q] at h0; cases h0
        obtain ⟨k, hk1, hk2, hk3⟩ := nextBs_spec hnext hlt hij hidn hifl
        have := hw k hk1
        rcases hc.2.1 k this with q | q
        · exact absurd q hk2
        · exact absurd q hk3

def stepB3 (ops : Array Oper) (fl : List Nat) (ds : List Nat) (dn : List Nat) (j : Nat) : Bool := match ops[j]? with
  | some o => !dn.contains j && !fl.contains j && allDB o.dst ds && (match o.op with | .defer _ => false | _ => true)
  | none => false
theorem step_n {j : Nat} {oj : Oper} (hj : ops[j]? = some oj) (hb : stepB3 ops (fl.map (·.1)) (fl.map (·.2.1)) dn j = true) (hg : oj.guard = none)
    (h : OpTr P r e oj (fun s' => Kp P e ops j fl s s' ∧ TrAny P r e ops fl (j :: dn) Kn s') s) : StepAt P r e ops fl dn Kn s j := by
  simp only [stepB3, hj, Bool.and_eq_true, Bool.not_eq_true', List.contains_eq_mem, decide_eq_false_iff_not] at hb
  obtain ⟨⟨⟨h2, h3⟩, h5⟩, h6⟩ := hb
  exact ⟨oj, hj, fun _ _ _ _ => by simp [Region.wanted, hg], (fun c hc => by rw [hc] at h6; cases h6), h2, h3, allDB_spec h5, h⟩
theorem step_y {j i d : Nat} {want b : Bool} {oj : Oper} (hj : ops[j]? = some oj) (hb : stepB3 ops (fl.map (·.1)) (fl.map (·.2.1)) dn j = true)
    (hg : oj.guard = some (i, want)) (hd : (ops[i]?).bind (·.dst) = some d) (hbv : s.L.lookup d = some (.bool b)) (hw : b = want)
    (h : OpTr P r e oj (fun s' => Kp P e ops j fl s s' ∧ TrAny P r e ops fl (j :: dn) Kn s') s) : StepAt P r e ops fl dn Kn s j := by
  simp only [stepB3, hj, Bool.and_eq_true, Bool.not_eq_true', List.contains_eq_mem, decide_eq_false_iff_not] at hb
  obtain ⟨⟨⟨h2, h3⟩, h5⟩, h6⟩ := hb
  exact ⟨oj, hj, fun γ a w hh => by simp [Region.wanted, hg, yielded_of hh hd hbv, hw], (fun c hc => by rw [hc] at h6; cases h6), h2, h3, allDB_spec h5, h⟩

theorem yielded_un {s : St} (hh : Holds e s γ a w) {ops : Array Oper} {j d : Nat} (hd : (ops[j]?).bind (·.dst) = some d) (hb : s.L.lookup d = some undef) : yielded ops a.tmps j = none := by
  simp only [yielded, hd, Option.bind_some, hh.slots d _ hb]
  rfl
/-- A guarded operation whose guard itself was passed over. -/
theorem TrL.cons_un {ops : Array Oper} {o : Oper} {rest : List Oper} {j d d' : Nat} {want : Bool} (hg : o.guard = some (j, want)) (hd : (ops[j]?).bind (·.dst) = some d) (hb : s.L.lookup d = some undef)
    (ho : o.dst = some d') (hN : d' < e.N) (h : TrL P r e ops rest Kn (s.put d' undef)) : TrL P r e ops (o :: rest) Kn s := by
  intro γ a w hh Q hQ
  refine wpListIn_step fun K hK => ?_
  rw [if_neg (by simp [Region.wanted, hg, yielded_un hh hd hb])]
  refine ⟨fun f _ => fen_fn r f, hK _ _ ?_⟩
  rw [ho]
  exact h γ _ w (hh.put d' undef hN) Q hQ
theorem OpVal.un {ops : Array Oper} {i j d : Nat} {want : Bool} (hi : ops[i]? = some o) (hnd : ∀ c, o.op ≠ .defer c) (hg : o.guard = some (j, want)) (hd : (ops[j]?).bind (·.dst) = some d) (hb : s.L.lookup d = some undef) : OpVal P e ops i undef s :=
  ⟨o, hi, hnd, fun γ a w hh => .inr ⟨by simp [Region.wanted, hg, yielded_un hh hd hb], rfl⟩⟩
theorem rowc {α : Type} {rp : Rep α} {x : α} {xs : List α} {cs ds out : List Value} (h : rp.R γ w x cs) (t : Row rp γ w xs ds) (ho : cs ++ ds = out) : Row rp γ w (x :: xs) out := ho ▸ Row.cons h t
theorem rown {α : Type} {rp : Rep α} : Row rp γ w [] [] := .nil
/-- A scope of labels to which nothing jumps. -/
theorem stepR_scope {b : Frame} {k : List Item} {cs : List Frame} {c : Code} : Go.step P (lone (b.atR a (.code (.scope c) :: k)) cs w) = .next (lone (b.atR a (.code c :: .inScope c :: k)) cs w) :=
  step_lone_go (by simp [stepG, stepG.exec, Frame.atR])
theorem stepR_inScope {b : Frame} {k : List Item} {cs : List Frame} {c : Code} : Go.step P (lone (b.atR a (.inScope c :: k)) cs w) = .next (lone (b.atR a k) cs w) :=
  step_lone_go (by simp [stepG, stepG.exec, Frame.atR])
theorem wpIn_scope_fine {F : Fence} {n : Nat} {c : Code} {Q : Exit → Act → World → Prop} (hQ : ∀ x a w, Q x a w → fine x) (h : c.wpIn F n P Q a w) : (Code.scope c).wpIn F n P Q a w := by
  intro b k cs hro hb hr
  have h0 : (lone (b.atR a (.code (.scope c) :: k)) cs w).fenced P F := fenced_calm hb hr rfl
  obtain ⟨x, a1, w1, hq, harr⟩ := h b (.inScope c :: k) cs hro hb hr
  cases x with
  | normal => exact ⟨.normal, a1, w1, hq, .head h0 stepR_scope (StepsIn.trans harr (.one (fenced_calm hb hr rfl) stepR_inScope))⟩
  | exit id =>
    have hx : exitTo id (.inScope c :: k) = exitTo id k := by simp [exitTo]
    exact ⟨.exit id, a1, w1, hq, fun k' hk => .head h0 stepR_scope (harr.1 k' (by rw [hx]; exact hk)), fun hr' hk => let ⟨k1, h1, h2⟩ := harr.2 hr' (by rw [hx]; exact hk); ⟨k1, h1, .head h0 stepR_scope h2⟩⟩
  | ret => exact ⟨_, a1, w1, hq, .of_steps (.one h0 stepR_scope) harr⟩
  | goto l => exact (hQ _ _ _ hq).elim
  | panic ch => exact (hQ _ _ _ hq).elim
  | outgrown => exact (hQ _ _ _ hq).elim
theorem Tr.scope {c : Code} {Q : SPost} (h : Tr P r e c Q s) : Tr P r e (.scope c) Q s := fun γ a w hh => wpIn_scope_fine (fun _ _ _ q => q.1) (h γ a w hh)
end
end Go.Proofs.Ythgeodagikmpjaa.L
