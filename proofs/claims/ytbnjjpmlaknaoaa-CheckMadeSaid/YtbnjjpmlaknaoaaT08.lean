/- The laws of chapter 08, in plain words: what is told; longer spans and later ticks; what is dropped. -/
import Derived.Test.YtbnjjpmlaknaoaaH8
import Derived.Test.YtbnjjpmlaknaoaaT07
namespace Go.Proofs.Ytbnjjpmlaknaoaa.Pu
set_option linter.unusedVariables false

theorem made_awake8 : madeM 0 [(1, 1), (1, 1), (1, 1), (1, 1)] = [[(3, 3), (4, 4)], [(1, 2)]] := by
  have e1 : addL 2 [] 1 1 = [[(1, 1)]] := flow_of (n := 5) rfl
  have e2 : addL 2 [[(1, 1)]] 2 1 = [[(1, 1), (2, 2)]] := flow_of (n := 5) rfl
  have e3 : addL 2 [[(1, 1), (2, 2)]] 3 1 = [[(1, 1), (2, 2), (3, 3)]] := flow_of (n := 5) rfl
  have e4 : addL 2 [[(1, 1), (2, 2), (3, 3)]] 4 1 = [[(3, 3), (4, 4)], [(1, 2)]] := flow_of (n := 5) rfl
  unfold madeM
  rw [kM_zero]
  show madeS 2 [(1, 1), (1, 1), (1, 1), (1, 1)] 0 [] = _
  rw [madeS, show (0 : Int) + 1 % 1000 = 1 from rfl, show addC [] 1 1 = 0 from rfl, if_pos rfl, e1, madeS, show (1 : Int) + 1 % 1000 = 2 from rfl, show addC [[(1, 1)]] 2 1 = 0 from rfl, if_pos rfl, e2,
    madeS, show (2 : Int) + 1 % 1000 = 3 from rfl, show addC [[(1, 1), (2, 2)]] 3 1 = 0 from rfl, if_pos rfl, e3, madeS, show (3 : Int) + 1 % 1000 = 4 from rfl, show addC [[(1, 1), (2, 2), (3, 3)]] 4 1 = 0 from rfl, if_pos rfl, e4, madeS]
theorem deeds_awake8 : Deeds [(1, 1), (1, 1), (1, 1), (1, 1)] := by intro d hd; simp at hd; subst hd; decide
theorem awake8 : law08_awake = some true := by
  unfold law08_awake law08_made
  rw [made_eq (by decide) deeds_awake8, Option.bind_some, kM_zero, made_awake8]
  simp only [Option.bind_some]
  rw [eparts_eq (by decide) (by decide) (by decide) (by decide) (by decide), Option.bind_some, htotal_eq (by decide) (by decide) (by decide), Option.bind_some, if_pos (by decide),
    eof_eq (by decide) (by decide) (by decide) (by decide) (by decide), Option.bind_some, if_pos (by decide), if_pos (by decide), if_pos (by decide), eof_eq (by decide) (by decide) (by decide) (by decide) (by decide), Option.bind_some, if_pos (by decide),
    eof_eq (by decide) (by decide) (by decide) (by decide) (by decide), Option.bind_some]
  decide
theorem good_line {k : Nat} {ls : List (List Sp)} {t : Int} (h : Good k ls t) : ∀ l ∈ ls, ∀ a ∈ l, a.1 ≤ a.2 := fun l hl a ha => (turn_level h.turn l hl).2 a ha
theorem law08_EstimateTells_true (p1 : Int) (p2 : List (Int × Int)) (p3 : Int × Int) (h1 : I64 p1) (h2 : p2.length ≤ 9223372036854775807 ∧ Deeds p2) (h3 : U64 p3.1 ∧ U64 p3.2) :
    law08_EstimateTells p1 p2 p3 = some true := by
  obtain ⟨a, b⟩ := p3
  obtain ⟨⟨ha1, ha2⟩, hb1, hb2⟩ := h3
  obtain ⟨_, hd⟩ := h2
  simp only at ha1 ha2 hb1 hb2
  have hg := made_good p1 hd
  have hk := kM_le p1
  have hl := good_len (by omega) hg
  unfold law08_EstimateTells law08_made
  rw [awake8, Option.bind_some, made_eq h1.2 hd, Option.bind_some, Option.bind_some]
  simp only
  rw [eparts_eq hb1 ha2 hg.levels hl hg.wt, Option.bind_some, parts_eq hb1 ha2 hg.levels hl hg.wt, Option.bind_some, eof_eq hb1 ha2 hg.levels hl hg.wt, rof_eq hb1 ha2 hg.levels hl hg.wt]
  simp
theorem ofM_mono {ls : List (List Sp)} (hl : ∀ l ∈ ls, ∀ a ∈ l, a.1 ≤ a.2) {t s t' s' : Int} (h : ∀ x, wiT t s x = true → wiT t' s' x = true) : ofM t s ls ≤ ofM t' s' ls := by
  have e1 := two_parts (tick := t) (span := s) hl
  have e2 := two_parts (tick := t') (span := s') hl
  have m1 := wtP_mono (p := fun x => wiT t s x.1) (q := fun x => wiT t' s' x.1) (ls := ls) (fun l _ a _ => h a.1)
  have m2 := wtP_mono (p := fun x => wiT t s x.2) (q := fun x => wiT t' s' x.2) (ls := ls) (fun l _ a _ => h a.2)
  unfold ofM
  omega
theorem ofM_all {ls : List (List Sp)} {t s : Int} (h : ∀ x, wiT t s x = true) (hl : ∀ l ∈ ls, ∀ a ∈ l, a.1 ≤ a.2) : ofM t s ls = wt ls := by
  have e1 := two_parts (tick := t) (span := s) hl
  rw [wtP_all (fun l _ a _ => h a.1), wtP_all (fun l _ a _ => h a.2)] at e1
  unfold ofM
  omega
theorem law08_EstimateGrows_true (p1 : Int) (p2 : List (Int × Int)) (p3 : Int × Int × Int × Int) (h1 : I64 p1) (h2 : p2.length ≤ 9223372036854775807 ∧ Deeds p2) (h3 : U64 p3.1 ∧ U64 p3.2.1 ∧ U64 p3.2.2.1 ∧ U64 p3.2.2.2) :
    law08_EstimateGrows p1 p2 p3 = some true := by
  obtain ⟨a, b, c, d⟩ := p3
  obtain ⟨⟨ha1, ha2⟩, ⟨hb1, hb2⟩, ⟨hc1, hc2⟩, hd1, hd2⟩ := h3
  obtain ⟨_, hd⟩ := h2
  simp only at ha1 ha2 hb1 hb2 hc1 hc2 hd1 hd2
  have hg := made_good p1 hd
  have hk := kM_le p1
  have hl := good_len (by omega) hg
  have hli := good_line hg
  have hlv := hg.levels
  have hwt := hg.wt
  have e1 : a.tdiv 2 = a / 2 := Int.tdiv_eq_ediv_of_nonneg ha1
  unfold law08_EstimateGrows law08_made
  rw [awake8, Option.bind_some, made_eq h1.2 hd, Option.bind_some, Option.bind_some]
  simp only
  rw [eof_eq (by omega) ha2 hlv hl hwt, Option.bind_some, eof_eq (by omega) ha2 hlv hl hwt, Option.bind_some, eof_eq (by omega) (by omega) hlv hl hwt, Option.bind_some, eof_eq (by omega) (by omega) hlv hl hwt, Option.bind_some, if_pos trivial]
  have m1 : ofM a (min b c) (madeM p1 p2) ≤ ofM a (max b c) (madeM p1 p2) := ofM_mono hli fun x hx => by
    unfold wiT at *; rw [decide_eq_true_eq] at *; omega
  have m2 : ofM (max a d) b (madeM p1 p2) ≤ ofM (min a d) b (madeM p1 p2) := ofM_mono hli fun x hx => by
    unfold wiT at *; rw [decide_eq_true_eq] at *; omega
  rw [if_pos (by omega), if_pos (by omega), e1, wu64_of (x := a / 2) (by omega) (by omega), wu64_of (x := a / 2 + 1) (by omega) (by omega), eof_eq (by omega) (by omega) hlv hl hwt, Option.bind_some, ofM_all (fun x => by unfold wiT; rw [decide_eq_true_eq]; omega) hli,
    htotal_eq (by omega) (by omega) (fun l hl' => by have := hl l hl'; omega), Option.bind_some]
  simp
theorem wtP_drop {old p : Sp → Bool} (hm : Mono old) {ls : List (List Sp)} (ht : InTurn (line ls)) (hne : ∀ l ∈ ls, l ≠ []) (h : ∀ l ∈ ls, ∀ a ∈ l, p a = true → old a = false) : wtP p (dropM old ls) = wtP p ls := by
  obtain ⟨d1, d2, d3⟩ := drop_ref hm ht hne
  have e1 : wtP p (ls.map fun l => l.filter fun s => !old s) = wtP p ls := by
    clear d1 d2 d3 ht hne
    induction ls with
    | nil => rfl
    | cons l ls ih =>
      rw [List.map_cons, wtP, wtP, ih (fun m hm' => h m (List.mem_cons_of_mem _ hm'))]
      congr 1
      have := h l List.mem_cons_self
      clear ih h
      induction l with
      | nil => rfl
      | cons a t ih2 =>
        have h2 := ih2 (fun b hb => this b (List.mem_cons_of_mem _ hb))
        have h3 := this a List.mem_cons_self
        cases ho : old a with
        | true =>
          have hp : p a = false := by
            cases hpa : p a with
            | false => rfl
            | true => rw [h3 hpa] at ho; cases ho
          rw [List.filter_cons_of_neg (by simp [ho]), h2, List.countP_cons_of_neg (by simp [hp])]
        | false =>
          rw [List.filter_cons_of_pos (by simp [ho]), List.countP_cons, List.countP_cons, h2]
  have e2 : ∀ n, wtP p (List.replicate n []) = 0 := by
    intro n
    induction n with
    | zero => rfl
    | succ n ih => rw [List.replicate_succ, wtP, ih]; rfl
  rw [d1, wtP_append, e2] at e1
  omega
theorem law08_EstimateDrops_true (p1 : Int) (p2 : List (Int × Int)) (p3 : Int × Int × Int × Int) (h1 : I64 p1) (h2 : p2.length ≤ 9223372036854775807 ∧ Deeds p2) (h3 : U64 p3.1 ∧ U64 p3.2.1 ∧ U64 p3.2.2.1 ∧ U64 p3.2.2.2) :
    law08_EstimateDrops p1 p2 p3 = some true := by
  obtain ⟨a, b, c, d⟩ := p3
  obtain ⟨⟨ha1, ha2⟩, ⟨hb1, hb2⟩, ⟨hc1, hc2⟩, hd1, hd2⟩ := h3
  obtain ⟨_, hd⟩ := h2
  simp only at ha1 ha2 hb1 hb2 hc1 hc2 hd1 hd2
  have hg := made_good p1 hd
  have hk := kM_le p1
  have hl := good_len (by omega) hg
  have hli := good_line hg
  have hlv := hg.levels
  have hwt := hg.wt
  have ea : a.tmod 100000 = a % 100000 := Int.tmod_eq_emod_of_nonneg ha1
  have eb : b.tmod 100000 = b % 100000 := Int.tmod_eq_emod_of_nonneg hb1
  have ec : c.tmod 100000 = c % 100000 := Int.tmod_eq_emod_of_nonneg hc1
  obtain ⟨f, hf⟩ : ∃ f, f = a % 100000 := ⟨_, rfl⟩
  obtain ⟨w, hw⟩ : ∃ w, w = 1 + b % 100000 := ⟨_, rfl⟩
  have hw0 : 1 ≤ w ∧ w ≤ 100000 := by omega
  have hf0 : 0 ≤ f ∧ f < 100000 := by omega
  have ed : d.tmod w = d % w := Int.tmod_eq_emod_of_nonneg hd1
  have hs0 : 0 ≤ d % w := Int.emod_nonneg _ (by omega)
  have hs1 : d % w < w := Int.emod_lt_of_pos _ (by omega)
  unfold law08_EstimateDrops law08_made
  rw [awake8, Option.bind_some, made_eq h1.2 hd, Option.bind_some, Option.bind_some]
  simp only
  rw [ea, eb, ec, ← hf, ← hw, wu64_of (x := w) (by omega) (by omega), must_of (by omega), Option.bind_some, if_pos trivial, ed, wu64_of (x := f + c % 100000) (by omega) (by omega), wu64_of (x := 1 + d % w) (by omega) (by omega)]
  obtain ⟨tick, ht⟩ : ∃ tick, tick = f + c % 100000 := ⟨_, rfl⟩
  obtain ⟨span, hsp⟩ : ∃ span, span = 1 + d % w := ⟨_, rfl⟩
  rw [← ht, ← hsp]
  have hg2 := hg.drop (oldS_mono f w)
  rw [drop_eq (by omega) (by omega) hl (by omega), Option.bind_some, eof_eq (by omega) (by omega) hg2.levels (good_len (by omega) hg2) hg2.wt, Option.bind_some, eof_eq (by omega) (by omega) hlv hl hwt, Option.bind_some]
  have hold : ∀ s : Sp, s.1 ≤ s.2 → oldS f w s = true → wiT tick span s.1 = false ∧ wiT tick span s.2 = false := fun s hs ho => by
    simp only [oldS, oldT, decide_eq_true_eq] at ho
    unfold wiT
    rw [decide_eq_false_iff_not, decide_eq_false_iff_not]
    omega
  have e : ofM tick span (dropM (oldS f w) (madeM p1 p2)) = ofM tick span (madeM p1 p2) := by
    unfold ofM
    rw [wtP_drop (oldS_mono f w) hg.turn (shape_ne hg.shape) (fun l hl' s hs hp => ?_), wtP_drop (oldS_mono f w) hg.turn (shape_ne hg.shape) (fun l hl' s hs hp => ?_)]
    · cases ho : oldS f w s with
      | false => rfl
      | true =>
        obtain ⟨h5, h6⟩ := hold s (hli l hl' s hs) ho
        unfold cutP at hp
        rw [h6] at hp
        simp at hp
    · cases ho : oldS f w s with
      | false => rfl
      | true =>
        obtain ⟨h5, h6⟩ := hold s (hli l hl' s hs) ho
        unfold sureP at hp
        rw [h5] at hp
        cases hp
  rw [e]
  simp
end Go.Proofs.Ytbnjjpmlaknaoaa.Pu
