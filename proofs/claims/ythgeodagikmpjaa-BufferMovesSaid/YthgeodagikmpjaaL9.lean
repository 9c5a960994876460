/- Regions that draw their order: what only reads is promised ahead; the rest comes up in one turn. -/
import Derived.Test.YthgeodagikmpjaaL8
namespace Go.Proofs.Ythgeodagikmpjaa.L
open Go Go.Proofs.Ythgeodagikmpjaa.Pu
set_option linter.unusedVariables false

section
variable {P : Program} {r : Option Nat} {e : Env} {o : Oper} {Kn : St → Prop} {s : St} {γ γ' : Gh} {w w' : World} {a : Act} {ops : Array Oper} {fl : Fl} {dn : List Nat}

/-- The shape of one promise, as a check. -/
def shapedB (ops : Array Oper) (i d : Nat) : Bool :=
  (match ops[i]? with
    | some o => o.dst == some d && !(o.looksAt ops).contains d
    | none => false) &&
  (List.range ops.size).all fun j => j == i || waits ops j i || match ops[j]? with
    | some oj => !(oj.looksAt ops).contains d && !(oj.dst == some d)
    | none => true

def backB (ops : Array Oper) : Bool := (List.range ops.size).all fun j => match ops[j]? with
  | some o => o.after.all fun e => !(Region.binds .any e) || decide (e.on < j)
  | none => true

theorem backB_spec (h : backB ops = true) {j i : Nat} (hw : waits ops j i = true) : i < j := by
  unfold waits at hw
  cases ho : ops[j]? with
  | none => rw [ho] at hw; simp at hw
  | some o =>
    rw [ho] at hw
    simp only [Option.any_some, Array.any_eq_true', Bool.and_eq_true, beq_iff_eq] at hw
    obtain ⟨ed, he, hb, rfl⟩ := hw
    have hlt : j < ops.size := (Array.getElem?_eq_some_iff.1 ho).1
    have h1 := List.all_eq_true.1 h j (List.mem_range.2 hlt)
    simp only [ho] at h1
    have h2 := Array.all_eq_true_iff_forall_mem.1 h1 ed he
    simpa [hb] using h2

theorem shapedB_spec {i d : Nat} (h : shapedB ops i d = true) : ∃ o, ops[i]? = some o ∧ o.dst = some d ∧ d ∉ o.looksAt ops ∧ ∀ j oj, ops[j]? = some oj → j ≠ i → (d ∈ oj.looksAt ops ∨ oj.dst = some d) → waits ops j i = true := by
  simp only [shapedB, Bool.and_eq_true] at h
  obtain ⟨h1, h2⟩ := h
  cases ho : ops[i]? with
  | none => rw [ho] at h1; cases h1
  | some o =>
    rw [ho] at h1
    simp only [Bool.and_eq_true, beq_iff_eq, Bool.not_eq_true', List.contains_eq_mem, decide_eq_false_iff_not] at h1
    refine ⟨o, rfl, h1.1, h1.2, fun j oj hj hne hl => ?_⟩
    have hlt : j < ops.size := (Array.getElem?_eq_some_iff.1 hj).1
    have h3 := List.all_eq_true.1 h2 j (List.mem_range.2 hlt)
    simp only [hj, Bool.or_eq_true, beq_iff_eq, hne, false_or, Bool.and_eq_true, Bool.not_eq_true', List.contains_eq_mem, decide_eq_false_iff_not, beq_eq_false_iff_ne, ne_eq] at h3
    rcases h3 with h3 | h3
    · exact h3
    · rcases hl with q | q
      · exact absurd q h3.1
      · exact absurd q h3.2

/-- What holds of all promises. -/
structure FlOk (ops : Array Oper) (fl : Fl) (s : St) : Prop where
  shaped : ∀ p ∈ fl, shapedB ops p.1 p.2.1 = true
  nodup : (fl.map (·.1)).Nodup
  slot : ∀ p ∈ fl, s.L.lookup p.2.1 = some p.2.2

theorem FlOk.toShaped (h : FlOk ops fl s) : Shaped ops fl := fun p hp => by
  obtain ⟨o, h1, h2, _, h3⟩ := shapedB_spec (h.shaped p hp)
  exact ⟨o, h1, h2, h3⟩
theorem FlOk.own (h : FlOk ops fl s) {p : Nat × Nat × Value} (hp : p ∈ fl) : ∀ o, ops[p.1]? = some o → p.2.1 ∉ o.looksAt ops := fun o ho => by
  obtain ⟨o', h1, _, h2, _⟩ := shapedB_spec (h.shaped p hp)
  rw [ho] at h1; cases h1; exact h2
theorem inj_of_nodup : ∀ {fl : Fl}, (fl.map (·.1)).Nodup → ∀ {p q : Nat × Nat × Value}, p ∈ fl → q ∈ fl → q.1 = p.1 → q = p := by
  intro fl
  induction fl with
  | nil => intro _ p q hp; simp at hp
  | cons x fl ih =>
    intro hn p q hp hq hqp
    rw [List.map_cons, List.nodup_cons] at hn
    rcases List.mem_cons.1 hp with h1 | h1 <;> rcases List.mem_cons.1 hq with h2 | h2
    · rw [h1, h2]
    · subst h1; exact absurd (List.mem_map.2 ⟨q, h2, hqp⟩) hn.1
    · subst h2; exact absurd (List.mem_map.2 ⟨p, h1, hqp.symm⟩) hn.1
    · exact ih hn.2 h1 h2 hqp

theorem OpVal.put {i d : Nat} {v u : Value} (hd : s.L.lookup d = none) (h : OpVal P e ops i v s) : OpVal P e ops i v (s.put d u) := by
  obtain ⟨o, ho, hnd, hrun⟩ := h
  refine ⟨o, ho, hnd, fun γ a w hh => hrun γ a w { size := hh.size, slots := fun t x ht => ?_, defers := hh.defers, hm := hh.hm, own := hh.own, facts := hh.facts, fr := hh.fr, ok := hh.ok }⟩
  refine hh.slots t x ?_
  simp only [St.put, List.lookup_cons]
  by_cases h : t = d
  · subst h; rw [hd] at ht; cases ht
  · rw [show (t == d) = false by simpa using h]; exact ht

theorem TrAny.promise {i d : Nat} {v : Value} (hok : FlOk ops fl s) (hv : OpVal P e ops i v s) (hsh : shapedB ops i d = true) (hd : s.L.lookup d = none) (hN : d < e.N) (hi : i ∉ fl.map (·.1)) (hi2 : i ∉ dn)
    (h : FlOk ops (fl ++ [(i, d, v)]) (s.put d v) → TrAny P r e ops (fl ++ [(i, d, v)]) dn Kn (s.put d v)) : TrAny P r e ops fl dn Kn s := by
  intro fuel listed hc hu hvs γ a af w hh hr Q hQ
  have hok' : FlOk ops (fl ++ [(i, d, v)]) (s.put d v) := by
    refine ⟨fun p hp => ?_, ?_, fun p hp => ?_⟩
    · rcases List.mem_append.1 hp with q | q
      · exact hok.shaped p q
      · simp at q; subst q; exact hsh
    · rw [List.map_append, List.nodup_append]
      refine ⟨hok.nodup, by simp, fun x hx y hy hxy => ?_⟩
      simp at hy
      subst hy
      subst hxy
      exact hi hx
    · simp only [St.put, List.lookup_cons]
      rcases List.mem_append.1 hp with q | q
      · have := hok.slot p q
        by_cases hpd : p.2.1 = d
        · rw [hpd, hd] at this; cases this
        · rw [show (p.2.1 == d) = false by simpa using hpd]; exact this
      · simp at q; subst q; simp
  have hil : listed.getD i false = false := by
    cases hb : listed.getD i false with
    | false => rfl
    | true => rcases hc.2.1 i hb with q | q; exact absurd q hi2; exact absurd q hi
  refine h hok' fuel listed ⟨hc.1, fun j hj => ?_, hc.2.2⟩ hu ?_ γ a (af.put (some d) v) w (hh.put d v hN) ?_ Q hQ
  · rcases hc.2.1 j hj with q | q
    · exact .inl q
    · exact .inr (by rw [List.map_append]; exact List.mem_append_left _ q)
  · intro p hp hpl
    rcases List.mem_append.1 hp with q | q
    · exact (hvs p q hpl).put hd
    · simp at q; subst q; exact hv.put hd
  · refine ⟨hr.1, by simp [Act.put, hr.2.1], fun t ht => ?_⟩
    have hdt : d ≠ t := ht (i, d, v) (by simp) hil
    simp only [Act.put]
    rw [Array.getElem?_setIfInBounds_ne hdt]
    exact hr.2.2 t fun p hp => ht p (List.mem_append_left _ hp)

/-- As long as something has not come up, something is ready. -/
theorem ready_ne {listed : Array Bool} (hs : listed.size = ops.size) (hb : backB ops = true) {j : Nat} (hj : j < ops.size) (h0 : listed.getD j false = false) : Region.ready .any ops listed ≠ [] := by
  induction j using Nat.strongRecOn with
  | _ j ih =>
    by_cases hall : ∀ i, waits ops j i = true → listed.getD i false = true
    · intro hn
      have := (ready_iff hs).2 ⟨hj, h0, hall⟩
      rw [hn] at this
      cases this
    · simp only [Classical.not_forall] at hall
      obtain ⟨i, hi, hil⟩ := hall
      have hlt := backB_spec hb hi
      exact ih i hlt (by omega) (by simpa using hil)

theorem unl_zero {listed : Array Bool} (h : unl ops listed ≤ 0) : ∀ j, j < ops.size → listed.getD j false = true := by
  intro j hj
  have : unl ops listed = 0 := by omega
  have := List.countP_eq_zero.1 this j (List.mem_range.2 hj)
  simpa using this

theorem Rel.holds {listed : Array Bool} {af : Act} (hh : Holds e s γ af w) (hr : Rel fl listed a af) (hall : ∀ p ∈ fl, listed.getD p.1 false = true) : Holds e s γ a w where
  size := hr.2.1.trans hh.size
  slots i v hi := by
    rw [hr.2.2 i (fun p hp hl => by rw [hall p hp] at hl; cases hl)]
    exact hh.slots i v hi
  defers := hr.1.trans hh.defers
  hm := hh.hm
  own := hh.own
  facts := hh.facts
  fr := hh.fr
  ok := hh.ok

/-- All has been promised or has come up. -/
theorem TrAny.done (hsel : noSel ops = true) (hback : backB ops = true) (hok : FlOk ops fl s) (hall : (List.range ops.size).all (fun i => dn.contains i || (fl.map (·.1)).contains i) = true) (h : Kn s) : TrAny P r e ops fl dn Kn s := by
  have hall' : ∀ i, i < ops.size → i ∈ dn ∨ i ∈ fl.map (·.1) := fun i hi => by
    have := List.all_eq_true.1 hall i (List.mem_range.2 hi)
    simpa using this
  intro fuel
  induction fuel with
  | zero =>
    intro listed hc hu hvs γ a af w hh hr Q hQ
    have hl := unl_zero hu
    refine ⟨?_, hQ s γ a w h (hr.holds hh fun p hp => ?_)⟩
    · cases hrd : Region.ready .any ops listed with
      | nil => rfl
      | cons x xs =>
        have := (ready_iff hc.1).1 (by rw [hrd]; exact List.mem_cons_self : x ∈ Region.ready .any ops listed)
        rw [hl x this.1] at this
        simp at this
    · obtain ⟨o, ho, _⟩ := shapedB_spec (hok.shaped p hp)
      exact hl _ (Array.getElem?_eq_some_iff.1 ho).1
  | succ fuel ih =>
    intro listed hc hu hvs γ a af w hh hr Q hQ
    refine ⟨fun hn => hQ s γ a w h (hr.holds hh fun p hp => ?_), fun i hi => ?_⟩
    · obtain ⟨o, ho, _⟩ := shapedB_spec (hok.shaped p hp)
      cases hb : listed.getD p.1 false with
      | true => rfl
      | false => exact absurd hn (ready_ne hc.1 hback (Array.getElem?_eq_some_iff.1 ho).1 hb)
    · obtain ⟨hlt, h0, _⟩ := (ready_iff hc.1).1 hi
      have hifl : i ∈ fl.map (·.1) := (hall' i hlt).resolve_left (fun q => by rw [hc.2.2 i q] at h0; cases h0)
      obtain ⟨p, hp, rfl⟩ := List.mem_map.1 hifl
      exact TrAny.float hsel hok.toShaped hc hu hvs hh hr hp hi (fun q hq hqp => inj_of_nodup hok.nodup hp hq hqp) (hok.own hp) (fun _ _ => trivial) (hh.slots _ _ (hok.slot p hp)) fun listed' hc' hu' hvs' a' hr' => ih listed' hc' hu' hvs' γ a' af w hh hr' Q hQ

/-- An operation's step, seen from a frame that agrees on what it looks at. -/
theorem wpIn_transfer {oj : Oper} {af : Act} {Kf Ka : Act → World → Prop} {Q : Exit → Act → World → Prop} (hnd : ∀ c, oj.op ≠ .defer c) (hD : a.defers = af.defers) (hev : execOp a.eval oj = execOp af.eval oj) (h : oj.wpIn (fen r) 0 P af w Kf fun _ _ _ => False)
    (hK : ∀ D v w', Kf (({ af with defers := D } : Act).put oj.dst v) w' → Ka (({ a with defers := D } : Act).put oj.dst v) w') : oj.wpIn (fen r) 0 P a w Ka Q := by
  obtain ⟨at_, ad⟩ := a
  obtain ⟨aft, afd⟩ := af
  simp only at hD
  subst hD
  obtain ⟨_, h⟩ := h
  refine ⟨fun f _ => fen_fn r f, ?_⟩
  rw [semAt_eq _ _ _ hnd] at h ⊢
  rw [hev]
  generalize (execOp (Act.mk aft ad).eval oj).run P w = res at h ⊢
  cases res with
  | ok n w' =>
    cases n <;> simp only [Oper.uponIn] at h ⊢
    case value v => exact hK ad v w' h
    case skip => exact hK ad undef w' h
    case defer d => exact hK (d :: ad) undef w' h
    case enter f args =>
      refine ⟨h.1, h.2.mono fun en w'' he => ?_⟩
      cases en with
      | returned v => exact hK ad v w'' he
      | panicked c => exact he.elim
      | outgrown => obtain ⟨_, _, he⟩ := he; exact he.elim
    case row row args => exact ⟨h.1, h.2.mono fun v w'' he => hK ad v w'' he⟩
    case round l f tmps assign body =>
      refine ⟨h.1, h.2.mono fun en w'' he => ?_⟩
      cases en with
      | returned v => exact hK ad v w'' he
      | panicked c => exact he.elim
      | outgrown => obtain ⟨_, _, he⟩ := he; exact he.elim
  | halt x w' => cases x <;> simp only [Oper.uponIn] at h ⊢

/-- What must come up next: whatever else has not been promised waits for something that has not come up. -/
def nextB (ops : Array Oper) (fl : List Nat) (dn : List Nat) (j : Nat) : Bool := (List.range ops.size).all fun i => i == j || dn.contains i || fl.contains i ||
  (List.range ops.size).any fun k => waits ops i k && !dn.contains k && !fl.contains k

theorem nextB_spec {fls dn : List Nat} {j : Nat} (h : nextB ops fls dn j = true) {i : Nat} (hi : i < ops.size) (hij : i ≠ j) (h1 : i ∉ dn) (h2 : i ∉ fls) : ∃ k, waits ops i k = true ∧ k ∉ dn ∧ k ∉ fls := by
  have h3 := List.all_eq_true.1 h i (List.mem_range.2 hi)
  simp only [Bool.or_eq_true, beq_iff_eq, hij, false_or, List.contains_eq_mem, decide_eq_true_eq, h1, h2] at h3
  obtain ⟨k, _, hk⟩ := List.any_eq_true.1 h3
  simp only [Bool.and_eq_true, Bool.not_eq_true', decide_eq_false_iff_not] at hk
  exact ⟨k, hk.1.1, hk.1.2, hk.2⟩

/-- What was promised is kept by the step j. -/
def Kp (P : Program) (e : Env) (ops : Array Oper) (j : Nat) (fl : Fl) (s s' : St) : Prop := ∀ p ∈ fl, waits ops j p.1 = false → OpVal P e ops p.1 p.2.2 s → OpVal P e ops p.1 p.2.2 s'
/-- The next step. -/
theorem TrAny.step {j : Nat} {oj : Oper} (hsel : noSel ops = true) (hback : backB ops = true) (hok : FlOk ops fl s) (hj : ops[j]? = some oj) (hg : ∀ γ a w, Holds e s γ a w → Region.wanted oj (yielded ops a.tmps) = true) (hnd : ∀ c, oj.op ≠ .defer c) (hjd : j ∉ dn) (hjf : j ∉ fl.map (·.1)) (hnext : nextB ops (fl.map (·.1)) dn j = true) (hdst : ∀ p ∈ fl, oj.dst ≠ some p.2.1)
    (h : OpTr P r e oj (fun s' => Kp P e ops j fl s s' ∧ TrAny P r e ops fl (j :: dn) Kn s') s) : TrAny P r e ops fl dn Kn s := by
  have hjlt : j < ops.size := (Array.getElem?_eq_some_iff.1 hj).1
  intro fuel
  induction fuel with
  | zero =>
    intro listed hc hu
    have := unl_zero hu j hjlt
    rcases hc.2.1 j this with q | q
    · exact absurd q hjd
    · exact absurd q hjf
  | succ fuel ih =>
    intro listed hc hu hvs γ a af w hh hr Q hQ
    have hjl : listed.getD j false = false := by
      cases hb : listed.getD j false with
      | false => rfl
      | true => rcases hc.2.1 j hb with q | q; exact absurd q hjd; exact absurd q hjf
    refine ⟨fun hn => absurd hn (ready_ne hc.1 hback hjlt hjl), fun i hi => ?_⟩
    obtain ⟨hlt, h0, hw⟩ := (ready_iff hc.1).1 hi
    by_cases hifl : i ∈ fl.map (·.1)
    · obtain ⟨p, hp, rfl⟩ := List.mem_map.1 hifl
      exact TrAny.float hsel hok.toShaped hc hu hvs hh hr hp hi (fun q hq hqp => inj_of_nodup hok.nodup hp hq hqp) (hok.own hp) (fun _ _ => trivial) (hh.slots _ _ (hok.slot p hp)) fun listed' hc' hu' hvs' a' hr' => ih listed' hc' hu' hvs' γ a' af w hh hr' Q hQ
    · by_cases hij : i = j
      · subst hij
        have hev := hr.eval hok.toShaped hj hw (fun p hp hpj _ => absurd (List.mem_map.2 ⟨p, hp, hpj⟩) hjf)
        unfold wpOpIn
        simp only [hj]
        rw [if_pos (hev.2.trans (hg γ af w hh))]
        refine wpIn_transfer (af := af) hnd hr.1 (execOp_congr oj (noSel_spec hsel hj) hev.1) (h γ af w hh (fun a' w' => ∃ s' γ', (Kp P e ops i fl s s' ∧ TrAny P r e ops fl (i :: dn) Kn s') ∧ Holds e s' γ' a' w') (fun _ _ _ => False) (fun s' γ' a' w' hk hh' => ⟨s', γ', hk, hh'⟩)) ?_
        rintro D v w' ⟨s', γ', ⟨hv', hk⟩, hh'⟩
        refine hk fuel (listed.setIfInBounds i true) ⟨by simpa using hc.1, fun q hq => ?_, fun q hq => ?_⟩ (by have := unl_set hc.1 hjlt hjl; omega) ?_ γ' _ _ w' hh' ?_ Q hQ
        · rw [getD_set (by rw [hc.1]; exact hjlt)] at hq
          split at hq
          · rename_i q'; subst q'; exact .inl List.mem_cons_self
          · rcases hc.2.1 q hq with q' | q'
            · exact .inl (List.mem_cons_of_mem _ q')
            · exact .inr q'
        · rw [getD_set (by rw [hc.1]; exact hjlt)]
          split
          · rfl
          · rename_i hne
            rcases List.mem_cons.1 hq with q' | q'
            · exact absurd q' hne
            · exact hc.2.2 q q'
        · intro p hp hpl
          rw [getD_set (by rw [hc.1]; exact hjlt)] at hpl
          split at hpl
          · cases hpl
          · refine hv' p hp ?_ (hvs p hp hpl)
            cases hb : waits ops i p.1 with
            | false => rfl
            | true => rw [hw _ hb] at hpl; cases hpl
        · refine ⟨?_, ?_, fun t ht => ?_⟩
          · cases oj.dst <;> rfl
          · cases hd : oj.dst <;> simp [Act.put, hr.2.1]
          · have hold : (∀ p ∈ fl, listed.getD p.1 false = false → p.2.1 ≠ t) := fun p hp hpl hpt => by
              refine ht p hp ?_ hpt
              rw [getD_set (by rw [hc.1]; exact hjlt)]
              split
              · rename_i q'; exact absurd (List.mem_map.2 ⟨p, hp, q'⟩) hjf
              · exact hpl
            have h1 := hr.2.2 t hold
            cases hd : oj.dst with
            | none => exact h1
            | some d =>
              simp only [Act.put]
              by_cases hdt : d = t
              · subst hdt
                simp only [Array.getElem?_setIfInBounds, if_true, hr.2.1]
              · rw [Array.getElem?_setIfInBounds_ne hdt, Array.getElem?_setIfInBounds_ne hdt]
                exact h1
      · have hidn : i ∉ dn := fun q => by rw [hc.2.2 i q] at h0; cases h0
        obtain ⟨k, hk1, hk2, hk3⟩ := nextB_spec hnext hlt hij hidn hifl
        have := hw k hk1
        rcases hc.2.1 k this with q | q
        · exact absurd q hk2
        · exact absurd q hk3

theorem Holds.drew (h : Holds e s γ a w) : Holds e s γ a w.drew := by
  have fr : Fr (fun _ => False) γ w γ w.drew := ⟨⟨Nat.le_refl _, fun _ => Nat.le_refl _, fun _ _ _ => rfl⟩, rfl, rfl, rfl, fun _ _ _ => rfl, fun _ _ _ => rfl⟩
  exact h.step fr (fun b hb => hb.elim) (h.hm.keep fr (fun _ _ _ _ q => q)) h.own h.ok

theorem Tr.regionD {id : Nat} {Q : SPost} (hm : P.follows .mixedOrders = true) (h : FlOk ops [] s → TrAny P r e ops [] [] (Q .normal) s) : Tr P r e (.region id ops true) Q s := by
  intro γ a w hh
  refine wpIn_region_any hm ?_
  refine h ⟨fun p hp => by simp at hp, by simp, fun p hp => by simp at hp⟩ ops.size _ ⟨by simp, fun i hi => ?_, fun i hi => by simp at hi⟩ ?_ (fun p hp => by simp at hp) γ a a w.drew hh.drew ⟨rfl, rfl, fun _ _ => rfl⟩ _ fun s' γ' a' w' hk hh' => ⟨trivial, s', γ', hk, hh'⟩
  · simp only [Array.getD_eq_getD_getElem?, Array.getElem?_replicate] at hi
    split at hi <;> simp at hi
  · unfold unl
    refine Nat.le_trans (List.countP_le_length) (by simp)
end
end Go.Proofs.Ythgeodagikmpjaa.L
