/- Joins, loops with a pure side, small words for tests: what the printed proofs use. -/
import Derived.Test.YthgeodagikmpjaaL9
namespace Go.Proofs.Ythgeodagikmpjaa.L
open Go Go.Proofs.Ythgeodagikmpjaa.Pu
set_option linter.unusedVariables false

theorem wrap_u64 (x : Int) : IntKind.u64.wrap x = wu64 x := rfl
theorem wrap_u32 (x : Int) : IntKind.u32.wrap x = wu32 x := rfl
theorem wrap_u8 (x : Int) : IntKind.u8.wrap x = wu8 x := rfl
theorem wrap_i64 (x : Int) : IntKind.i64.wrap x = wi64 x := by
  unfold IntKind.wrap wi64
  simp [IntKind.bits, IntKind.signed]

theorem bt_dec {p : Prop} [Decidable p] (h : p) : decide p = true := decide_eq_true h
theorem bf_dec {p : Prop} [Decidable p] (h : ¬ p) : decide p = false := decide_eq_false h
theorem bt_eq {a b : Int} (h : a = b) : (a == b) = true := beq_iff_eq.2 h
theorem bf_eq {a b : Int} (h : ¬ a = b) : (a == b) = false := beq_eq_false_iff_ne.2 h
theorem bt_ne {a b : Int} (h : ¬ a = b) : (a != b) = true := by simpa using h
theorem bf_ne {a b : Int} (h : a = b) : (a != b) = false := by simpa using h
theorem bt_b {b : Bool} (h : b = true) : b = true := h
theorem bf_b {b : Bool} (h : ¬ b = true) : b = false := by simpa using h
theorem bt_not {b : Bool} (h : b = false) : (!b) = true := by rw [h]; rfl
theorem bf_not {b : Bool} (h : b = true) : (!b) = false := by rw [h]; rfl

section
variable {P : Program} {r : Option Nat} {e : Env} {o : Oper} {Kn : St → Prop} {s : St} {γ γ' : Gh} {w w' : World} {a : Act}

def Imp (e : Env) (s t : St) : Prop := ∀ γ a w, Holds e s γ a w → Holds e t γ a w
theorem Imp.re (t : St) (ks js : List Nat) (hL : SubL t.L s.L) (hn : ks.Nodup) (hM : ks.map (s.M[·]?) = t.M.map some) (hF : js.map (s.F[·]?) = t.F.map some) (hD : t.D = s.D) : Imp e s t := fun γ a w hh => hh.re t ks js hL hn hM hF hD

/-- Two ways meet: whatever comes to the end comes to one of these states. -/
def qjoin (e : Env) {ι : Type} (stJ : ι → St) (Q : SPost) : SPost
  | .normal, s => ∃ i, Imp e s (stJ i)
  | x, s => Q x s
theorem qjoin_n {ι : Type} {stJ : ι → St} {Q : SPost} (i : ι) (h : Imp e s (stJ i)) : qjoin e stJ Q .normal s := ⟨i, h⟩
theorem qjoin_x {ι : Type} {stJ : ι → St} {Q : SPost} {i : Nat} (h : Q (.exit i) s) : qjoin e stJ Q (.exit i) s := h
theorem qjoin_r {ι : Type} {stJ : ι → St} {Q : SPost} (h : Q .ret s) : qjoin e stJ Q .ret s := h
theorem Tr.cut {c : Code} {Q : SPost} {ι : Type} (stJ : ι → St) (h : Tr P r e c (qjoin e stJ Q) s) (hJ : ∀ i, Q .normal (stJ i)) : Tr P r e c Q s := by
  intro γ a w hh
  refine wpIn_mono (h γ a w hh) ?_
  rintro x a' w' ⟨hf, s', γ', q, hh'⟩
  cases x with
  | normal => obtain ⟨i, hi⟩ := q; exact ⟨hf, stJ i, γ', hJ i, hi _ _ _ hh'⟩
  | exit i => exact ⟨hf, s', γ', q, hh'⟩
  | ret => exact ⟨hf, s', γ', q, hh'⟩
  | goto l => exact hf.elim
  | panic ch => exact hf.elim
  | outgrown => exact hf.elim
theorem TrL.cut {ops : Array Oper} {l : List Oper} {ι : Type} (n : Nat) (stJ : ι → St) (h : TrL P r e ops (l.take n) (fun s' => ∃ i, Imp e s' (stJ i)) s) (hJ : ∀ i, TrL P r e ops (l.drop n) Kn (stJ i)) : TrL P r e ops l Kn s := by
  have split : ∀ (l1 l2 : List Oper) (s : St), TrL P r e ops l1 (fun s' => TrL P r e ops l2 Kn s') s → TrL P r e ops (l1 ++ l2) Kn s := by
    intro l1
    induction l1 with
    | nil => intro l2 s h γ a w hh Q hQ; exact h γ a w hh (fun _ a' w' => wpListIn (fen r) 0 P ops Q l2 a' w') (fun s' γ' a' w' hk hh' => hk γ' a' w' hh' Q hQ)
    | cons o l1 ih =>
      intro l2 s h γ a w hh Q hQ
      -- the head's step is the same; behind it the induction
      have key : ∀ (l : List Oper) (a : Act) (w : World) (Q1 : Exit → Act → World → Prop), wpListIn (fen r) 0 P ops Q1 l a w → (∀ x a w, x ≠ .normal → Q1 x a w → Q x a w) → (∀ a w, Q1 .normal a w → wpListIn (fen r) 0 P ops Q l2 a w) → wpListIn (fen r) 0 P ops Q (l ++ l2) a w := by
        intro l
        induction l with
        | nil => intro a w Q1 h1 _ h2; exact h2 _ _ h1
        | cons o l ih2 =>
          intro a w Q1 h1 hx h2
          rw [List.cons_append]
          unfold wpListIn at h1 ⊢
          split
          · rename_i hw
            rw [if_pos hw] at h1
            obtain ⟨hab, h1⟩ := h1
            refine ⟨hab, ?_⟩
            generalize (o.semAt (fen r).round a.eval).run P w = res at h1 ⊢
            cases res with
            | ok n w' =>
              cases n <;> simp only [Oper.uponIn] at h1 ⊢
              case value v => exact ih2 _ _ Q1 h1 hx h2
              case skip => exact ih2 _ _ Q1 h1 hx h2
              case defer d => exact ih2 _ _ Q1 h1 hx h2
              case enter f args =>
                refine ⟨h1.1, h1.2.mono fun en w'' he => ?_⟩
                cases en with
                | returned v => exact ih2 _ _ Q1 he hx h2
                | panicked c => exact hx _ _ _ (by simp) he
                | outgrown => obtain ⟨a0, w0, he⟩ := he; exact ⟨a0, w0, hx _ _ _ (by simp) he⟩
              case row row args => exact ⟨h1.1, h1.2.mono fun v w'' he => ih2 _ _ Q1 he hx h2⟩
              case round l f tmps assign body =>
                refine ⟨h1.1, h1.2.mono fun en w'' he => ?_⟩
                cases en with
                | returned v => exact ih2 _ _ Q1 he hx h2
                | panicked c => exact hx _ _ _ (by simp) he
                | outgrown => obtain ⟨a0, w0, he⟩ := he; exact ⟨a0, w0, hx _ _ _ (by simp) he⟩
            | halt x w' => cases x <;> simp only [Oper.uponIn] at h1 ⊢; exact hx _ _ _ (by simp) h1
          · rename_i hw
            rw [if_neg hw] at h1
            exact ⟨h1.1, ih2 _ _ Q1 h1.2 hx h2⟩
      exact key (o :: l1) a w (fun x a' w' => match x with
        | .normal => wpListIn (fen r) 0 P ops Q l2 a' w'
        | _ => False) (h γ a w hh _ fun s' γ' a' w' hk hh' => hk γ' a' w' hh' Q hQ) (fun x a w hn hx => by cases x <;> simp at hn hx) (fun a w h => h)
  have := split (l.take n) (l.drop n) s (h.mono fun s' ⟨i, hi⟩ => fun γ a w hh => hJ i γ a w (hi _ _ _ hh))
  rwa [List.take_append_drop] at this

/-! ### A loop beside its pure side -/
def qloop (e : Env) {S X ι : Type} (y : S ⊕ X) (stI : S → ι → St) (Q : SPost) : SPost
  | .normal, s => ∃ s2 i2, y = .inl s2 ∧ Imp e s (stI s2 i2)
  | x, s => Q x s
theorem qloop_n {S X ι : Type} {stI : S → ι → St} {Q : SPost} {s2 : S} (i2 : ι) (h : Imp e s (stI s2 i2)) : qloop e (X := X) (.inl s2) stI Q .normal s := ⟨s2, i2, rfl, h⟩
theorem qloop_x {S X ι : Type} {stI : S → ι → St} {Q : SPost} {y : S ⊕ X} {i : Nat} (h : Q (.exit i) s) : qloop e y stI Q (.exit i) s := h
theorem qloop_r {S X ι : Type} {stI : S → ι → St} {Q : SPost} {y : S ⊕ X} (h : Q .ret s) : qloop e y stI Q .ret s := h

theorem Tr.loopI {c : Code} {Q : SPost} {S X ι : Type} {step : S → Option (S ⊕ X)} {x : X} {s0 : S} (stI : S → ι → St) (i0 : ι) (hx : loopO step s0 = some x) (h0 : Imp e s (stI s0 i0))
    (h : ∀ s i y, step s = some y → (∀ x', y = .inr x' → x' = x) → Tr P r e c (qloop e y stI Q) (stI s i)) : Tr P r e (.loop c) Q s := by
  have key : ∀ i, Tr P r e (.loop c) Q (stI s0 i) := by
    refine loopO_ind (motive := fun s => ∀ i, Tr P r e (.loop c) Q (stI s i)) ?_ ?_ hx
    · intro s hs i
      refine Tr.loop ((h s i _ hs (fun x' hx' => by cases hx'; rfl)).mono fun q s' hq => ?_)
      cases q with
      | normal => obtain ⟨s2, i2, hy, _⟩ := hq; cases hy
      | exit i => exact hq
      | ret => exact hq
      | goto l => exact hq
      | panic ch => exact hq
      | outgrown => exact hq
    · intro s s1 hs _ ih i
      refine Tr.loop ((h s i _ hs (fun x' hx' => by cases hx')).mono fun q s' hq => ?_)
      cases q with
      | normal =>
        obtain ⟨s2, i2, hy, hi⟩ := hq
        cases hy
        exact fun γ a w hh => ih i2 γ a w (hi _ _ _ hh)
      | exit i => exact hq
      | ret => exact hq
      | goto l => exact hq
      | panic ch => exact hq
      | outgrown => exact hq
  exact fun γ a w hh => key i0 γ a w (h0 _ _ _ hh)

/-- The promises, one by one, behind a step. -/
def AllV (P : Program) (e : Env) (ops : Array Oper) (j : Nat) (s : St) : Fl → Prop
  | [] => True
  | p :: t => (waits ops j p.1 = true ∨ OpVal P e ops p.1 p.2.2 s) ∧ AllV P e ops j s t
theorem AllV.spec {ops : Array Oper} {j : Nat} : ∀ {fl : Fl}, AllV P e ops j s fl → ∀ p ∈ fl, waits ops j p.1 = false → OpVal P e ops p.1 p.2.2 s := by
  intro fl
  induction fl with
  | nil => intro _ p hp; simp at hp
  | cons q t ih =>
    intro h p hp hw
    rcases List.mem_cons.1 hp with r | r
    · subst r
      rcases h.1 with h1 | h1
      · rw [h1] at hw; cases hw
      · exact h1
    · exact ih h.2 p r hw
def AllD (d : Option Tmp) : Fl → Prop
  | [] => True
  | p :: t => d ≠ some p.2.1 ∧ AllD d t
theorem AllD.spec {d : Option Tmp} : ∀ {fl : Fl}, AllD d fl → ∀ p ∈ fl, d ≠ some p.2.1 := by
  intro fl
  induction fl with
  | nil => intro _ p hp; simp at hp
  | cons q t ih =>
    intro h p hp
    rcases List.mem_cons.1 hp with r | r
    · subst r; exact h.1
    · exact ih h.2 p r
def allDB (d : Option Tmp) (ds : List Nat) : Bool := match d with
  | none => true
  | some d => !ds.contains d
theorem allDB_spec {d : Option Tmp} {fl : Fl} (h : allDB d (fl.map (·.2.1)) = true) : ∀ p ∈ fl, d ≠ some p.2.1 := by
  intro p hp hd
  subst hd
  simp only [allDB, Bool.not_eq_true', List.contains_eq_mem, decide_eq_false_iff_not] at h
  exact h (List.mem_map.2 ⟨p, hp, rfl⟩)

def stepB (ops : Array Oper) (fl : List Nat) (ds : List Nat) (dn : List Nat) (j : Nat) : Bool := match ops[j]? with
  | some o => o.guard.isNone && !dn.contains j && !fl.contains j && nextB ops fl dn j && allDB o.dst ds && (match o.op with | .defer _ => false | _ => true)
  | none => false

/-- The next step, its checks in one. -/
theorem TrAny.next {ops : Array Oper} {fl : Fl} {dn : List Nat} {j : Nat} {oj : Oper} (hsel : (noSel ops && backB ops) = true) (hok : FlOk ops fl s) (hj : ops[j]? = some oj) (hb : stepB ops (fl.map (·.1)) (fl.map (·.2.1)) dn j = true)
    (h : OpTr P r e oj (fun s' => Kp P e ops j fl s s' ∧ TrAny P r e ops fl (j :: dn) Kn s') s) : TrAny P r e ops fl dn Kn s := by
  simp only [Bool.and_eq_true] at hsel
  simp only [stepB, hj, Bool.and_eq_true, Bool.not_eq_true', List.contains_eq_mem, decide_eq_false_iff_not, Option.isNone_iff_eq_none] at hb
  obtain ⟨⟨⟨⟨⟨h1, h2⟩, h3⟩, h4⟩, h5⟩, h6⟩ := hb
  refine TrAny.step hsel.1 hsel.2 hok hj (fun _ _ _ _ => by simp [Region.wanted, h1]) (fun c hc => by rw [hc] at h6; cases h6) h2 h3 h4 (allDB_spec h5) h

def promB (ops : Array Oper) (fl : List Nat) (dn : List Nat) (i d : Nat) : Bool := shapedB ops i d && !fl.contains i && !dn.contains i
theorem TrAny.prom {ops : Array Oper} {fl : Fl} {dn : List Nat} {i d : Nat} {v : Value} (hok : FlOk ops fl s) (hv : OpVal P e ops i v s) (hb : promB ops (fl.map (·.1)) dn i d = true) (hd : s.L.lookup d = none) (hN : d < e.N)
    (h : FlOk ops (fl ++ [(i, d, v)]) (s.put d v) → TrAny P r e ops (fl ++ [(i, d, v)]) dn Kn (s.put d v)) : TrAny P r e ops fl dn Kn s := by
  simp only [promB, Bool.and_eq_true, Bool.not_eq_true', List.contains_eq_mem, decide_eq_false_iff_not] at hb
  exact TrAny.promise hok hv hb.1.1 hd hN hb.1.2 hb.2 h

theorem TrAny.openS {α : Type} {rp : Rep α} {k c : Nat} {i : Int} {A : Option Addr} {xs : List (List α)} {z : List α} {ops : Array Oper} {fl : Fl} {dn : List Nat} (hk : s.F[k]? = some (slF (rSl rp) A c xs)) (hi : rdo xs i = some z) (hok : FlOk ops fl s)
    (h : ∀ B q, FlOk ops fl { s with F := s.F ++ [slF rp B q z, cellF ⟨ablk A, aoff A + i.toNat * 1, none⟩ (.slice B z.length q)] } → TrAny P r e ops fl dn Kn { s with F := s.F ++ [slF rp B q z, cellF ⟨ablk A, aoff A + i.toNat * 1, none⟩ (.slice B z.length q)] }) : TrAny P r e ops fl dn Kn s :=
  fun fuel listed hc hu hv γ a af w hh hr Q hQ => by
    obtain ⟨B, q, h2⟩ := hh.openS hk hi
    refine h B q ⟨hok.shaped, hok.nodup, hok.slot⟩ fuel listed hc hu (fun p hp hl => ?_) γ a af w h2 hr Q hQ
    obtain ⟨o, ho, hnd, hrun⟩ := hv p hp hl
    exact ⟨o, ho, hnd, fun γ a w hh => hrun γ a w { size := hh.size, slots := hh.slots, defers := hh.defers, hm := hh.hm, own := hh.own, facts := fun f hf => hh.facts f (List.mem_append_left _ hf), fr := hh.fr, ok := hh.ok }⟩
theorem TrAny.addF {ops : Array Oper} {fl : Fl} {dn : List Nat} (f : Fact) (hf : ∀ γ w, (∀ g ∈ s.F, g.p γ w) → (∀ c ∈ s.M, c.p γ w) → f.p γ w) (hok : FlOk ops fl s) (h : FlOk ops fl { s with F := s.F ++ [f] } → TrAny P r e ops fl dn Kn { s with F := s.F ++ [f] }) : TrAny P r e ops fl dn Kn s :=
  fun fuel listed hc hu hv γ a af w hh hr Q hQ => by
    refine h ⟨hok.shaped, hok.nodup, hok.slot⟩ fuel listed hc hu (fun p hp hl => ?_) γ a af w (hh.addF (hf γ w hh.facts hh.hm.all)) hr Q hQ
    obtain ⟨o, ho, hnd, hrun⟩ := hv p hp hl
    exact ⟨o, ho, hnd, fun γ a w hh => hrun γ a w { size := hh.size, slots := hh.slots, defers := hh.defers, hm := hh.hm, own := hh.own, facts := fun f hf => hh.facts f (List.mem_append_left _ hf), fr := hh.fr, ok := hh.ok }⟩
theorem TrAny.pure {ops : Array Oper} {fl : Fl} {dn : List Nat} {φ : Prop} (hp : Pre s φ) (h : φ → TrAny P r e ops fl dn Kn s) : TrAny P r e ops fl dn Kn s :=
  fun fuel listed hc hu hv γ a af w hh => h (hp γ w hh.facts hh.hm.all) fuel listed hc hu hv γ a af w hh
end
end Go.Proofs.Ythgeodagikmpjaa.L
