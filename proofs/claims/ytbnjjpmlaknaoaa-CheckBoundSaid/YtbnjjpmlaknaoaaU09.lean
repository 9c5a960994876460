/- The laws of chapter 08, in plain words: what is told; longer spans and later ticks; what is dropped. What really came, bucket by bucket: a count beside each bucket that goes the buckets' way. The laws of chapter 08, in plain words: THE BOUND; what is sure and what is cut. Whether levels of buckets may be a histogram; how many there are; the bound. The laws of chapter 09, in plain words: whether it may be; what was made may be; the bound. -/
import Derived.Test.YtbnjjpmlaknaoaaH8
import Derived.Test.YtbnjjpmlaknaoaaT07
import Derived.Test.YtbnjjpmlaknaoaaT06b
namespace Go.Proofs.Ytbnjjpmlaknaoaa.Pu
set_option linter.unusedVariables false

theorem made_awake8 : madeM 0 [(1, 1), (1, 1), (1, 1), (1, 1)] = [[(3, 3), (4, 4)], [(1, 2)]] := by
  have e1 : addL 2 [] 1 1 = [[(1, 1)]] := flow_of (n := 5) rfl
  have e2 : addL 2 [[(1, 1)]] 2 1 = [[(1, 1), (2, 2)]] := flow_of (n := 5) rfl
  have e3 : addL 2 [[(1, 1), (2, 2)]] 3 1 = [[(1, 1), (2, 2), (3, 3)]] := flow_of (n := 5) rfl
  have e4 : addL 2 [[(1, 1), (2, 2), (3, 3)]] 4 1 = [[(3, 3), (4, 4)], [(1, 2)]] := flow_of (n := 5) rfl
  unfold madeM
  rw [kM_zero]
  show madeS 2 [(1, 1), (1, 1), (1, 1), (1, 1)] 0 [] = _
  rw [madeS, show (0 : Int) + 1 % 1000 = 1 from rfl, show addC [] 1 1 = 0 from rfl, if_pos rfl, e1, madeS, show (1 : Int) + 1 % 1000 = 2 from rfl, show addC [[(1, 1)]] 2 1 = 0 from rfl, if_pos rfl, e2,
    madeS, show (2 : Int) + 1 % 1000 = 3 from rfl, show addC [[(1, 1), (2, 2)]] 3 1 = 0 from rfl, if_pos rfl, e3, madeS, show (3 : Int) + 1 % 1000 = 4 from rfl, show addC [[(1, 1), (2, 2), (3, 3)]] 4 1 = 0 from rfl, if_pos rfl, e4, madeS]
theorem deeds_awake8 : Deeds [(1, 1), (1, 1), (1, 1), (1, 1)] := by intro d hd; simp at hd; subst hd; decide
theorem awake8 : law08_awake = some true := by
  unfold law08_awake law08_made
  rw [made_eq (by decide) deeds_awake8, Option.bind_some, kM_zero, made_awake8]
  simp only [Option.bind_some]
  rw [eparts_eq (by decide) (by decide) (by decide) (by decide) (by decide), Option.bind_some, htotal_eq (by decide) (by decide) (by decide), Option.bind_some, if_pos (by decide),
    eof_eq (by decide) (by decide) (by decide) (by decide) (by decide), Option.bind_some, if_pos (by decide), if_pos (by decide), if_pos (by decide), eof_eq (by decide) (by decide) (by decide) (by decide) (by decide), Option.bind_some, if_pos (by decide),
    eof_eq (by decide) (by decide) (by decide) (by decide) (by decide), Option.bind_some]
  decide
theorem good_line {k : Nat} {ls : List (List Sp)} {t : Int} (h : Good k ls t) : ∀ l ∈ ls, ∀ a ∈ l, a.1 ≤ a.2 := fun l hl a ha => (turn_level h.turn l hl).2 a ha
theorem law08_EstimateTells_true (p1 : Int) (p2 : List (Int × Int)) (p3 : Int × Int) (h1 : I64 p1) (h2 : p2.length ≤ 9223372036854775807 ∧ Deeds p2) (h3 : U64 p3.1 ∧ U64 p3.2) :
    law08_EstimateTells p1 p2 p3 = some true := by
  obtain ⟨a, b⟩ := p3
  obtain ⟨⟨ha1, ha2⟩, hb1, hb2⟩ := h3
  obtain ⟨_, hd⟩ := h2
  simp only at ha1 ha2 hb1 hb2
  have hg := made_good p1 hd
  have hk := kM_le p1
  have hl := good_len (by omega) hg
  unfold law08_EstimateTells law08_made
  rw [awake8, Option.bind_some, made_eq h1.2 hd, Option.bind_some, Option.bind_some]
  simp only
  rw [eparts_eq hb1 ha2 hg.levels hl hg.wt, Option.bind_some, parts_eq hb1 ha2 hg.levels hl hg.wt, Option.bind_some, eof_eq hb1 ha2 hg.levels hl hg.wt, rof_eq hb1 ha2 hg.levels hl hg.wt]
  simp
theorem ofM_mono {ls : List (List Sp)} (hl : ∀ l ∈ ls, ∀ a ∈ l, a.1 ≤ a.2) {t s t' s' : Int} (h : ∀ x, wiT t s x = true → wiT t' s' x = true) : ofM t s ls ≤ ofM t' s' ls := by
  have e1 := two_parts (tick := t) (span := s) hl
  have e2 := two_parts (tick := t') (span := s') hl
  have m1 := wtP_mono (p := fun x => wiT t s x.1) (q := fun x => wiT t' s' x.1) (ls := ls) (fun l _ a _ => h a.1)
  have m2 := wtP_mono (p := fun x => wiT t s x.2) (q := fun x => wiT t' s' x.2) (ls := ls) (fun l _ a _ => h a.2)
  unfold ofM
  omega
theorem ofM_all {ls : List (List Sp)} {t s : Int} (h : ∀ x, wiT t s x = true) (hl : ∀ l ∈ ls, ∀ a ∈ l, a.1 ≤ a.2) : ofM t s ls = wt ls := by
  have e1 := two_parts (tick := t) (span := s) hl
  rw [wtP_all (fun l _ a _ => h a.1), wtP_all (fun l _ a _ => h a.2)] at e1
  unfold ofM
  omega
theorem law08_EstimateGrows_true (p1 : Int) (p2 : List (Int × Int)) (p3 : Int × Int × Int × Int) (h1 : I64 p1) (h2 : p2.length ≤ 9223372036854775807 ∧ Deeds p2) (h3 : U64 p3.1 ∧ U64 p3.2.1 ∧ U64 p3.2.2.1 ∧ U64 p3.2.2.2) :
    law08_EstimateGrows p1 p2 p3 = some true := by
  obtain ⟨a, b, c, d⟩ := p3
  obtain ⟨⟨ha1, ha2⟩, ⟨hb1, hb2⟩, ⟨hc1, hc2⟩, hd1, hd2⟩ := h3
  obtain ⟨_, hd⟩ := h2
  simp only at ha1 ha2 hb1 hb2 hc1 hc2 hd1 hd2
  have hg := made_good p1 hd
  have hk := kM_le p1
  have hl := good_len (by omega) hg
  have hli := good_line hg
  have hlv := hg.levels
  have hwt := hg.wt
  have e1 : a.tdiv 2 = a / 2 := Int.tdiv_eq_ediv_of_nonneg ha1
  unfold law08_EstimateGrows law08_made
  rw [awake8, Option.bind_some, made_eq h1.2 hd, Option.bind_some, Option.bind_some]
  simp only
  rw [eof_eq (by omega) ha2 hlv hl hwt, Option.bind_some, eof_eq (by omega) ha2 hlv hl hwt, Option.bind_some, eof_eq (by omega) (by omega) hlv hl hwt, Option.bind_some, eof_eq (by omega) (by omega) hlv hl hwt, Option.bind_some, if_pos trivial]
  have m1 : ofM a (min b c) (madeM p1 p2) ≤ ofM a (max b c) (madeM p1 p2) := ofM_mono hli fun x hx => by
    unfold wiT at *; rw [decide_eq_true_eq] at *; omega
  have m2 : ofM (max a d) b (madeM p1 p2) ≤ ofM (min a d) b (madeM p1 p2) := ofM_mono hli fun x hx => by
    unfold wiT at *; rw [decide_eq_true_eq] at *; omega
  rw [if_pos (by omega), if_pos (by omega), e1, wu64_of (x := a / 2) (by omega) (by omega), wu64_of (x := a / 2 + 1) (by omega) (by omega), eof_eq (by omega) (by omega) hlv hl hwt, Option.bind_some, ofM_all (fun x => by unfold wiT; rw [decide_eq_true_eq]; omega) hli,
    htotal_eq (by omega) (by omega) (fun l hl' => by have := hl l hl'; omega), Option.bind_some]
  simp
theorem wtP_drop {old p : Sp → Bool} (hm : Mono old) {ls : List (List Sp)} (ht : InTurn (line ls)) (hne : ∀ l ∈ ls, l ≠ []) (h : ∀ l ∈ ls, ∀ a ∈ l, p a = true → old a = false) : wtP p (dropM old ls) = wtP p ls := by
  obtain ⟨d1, d2, d3⟩ := drop_ref hm ht hne
  have e1 : wtP p (ls.map fun l => l.filter fun s => !old s) = wtP p ls := by
    clear d1 d2 d3 ht hne
    induction ls with
    | nil => rfl
    | cons l ls ih =>
      rw [List.map_cons, wtP, wtP, ih (fun m hm' => h m (List.mem_cons_of_mem _ hm'))]
      congr 1
      have := h l List.mem_cons_self
      clear ih h
      induction l with
      | nil => rfl
      | cons a t ih2 =>
        have h2 := ih2 (fun b hb => this b (List.mem_cons_of_mem _ hb))
        have h3 := this a List.mem_cons_self
        cases ho : old a with
        | true =>
          have hp : p a = false := by
            cases hpa : p a with
            | false => rfl
            | true => rw [h3 hpa] at ho; cases ho
          rw [List.filter_cons_of_neg (by simp [ho]), h2, List.countP_cons_of_neg (by simp [hp])]
        | false =>
          rw [List.filter_cons_of_pos (by simp [ho]), List.countP_cons, List.countP_cons, h2]
  have e2 : ∀ n, wtP p (List.replicate n []) = 0 := by
    intro n
    induction n with
    | zero => rfl
    | succ n ih => rw [List.replicate_succ, wtP, ih]; rfl
  rw [d1, wtP_append, e2] at e1
  omega
theorem law08_EstimateDrops_true (p1 : Int) (p2 : List (Int × Int)) (p3 : Int × Int × Int × Int) (h1 : I64 p1) (h2 : p2.length ≤ 9223372036854775807 ∧ Deeds p2) (h3 : U64 p3.1 ∧ U64 p3.2.1 ∧ U64 p3.2.2.1 ∧ U64 p3.2.2.2) :
    law08_EstimateDrops p1 p2 p3 = some true := by
  obtain ⟨a, b, c, d⟩ := p3
  obtain ⟨⟨ha1, ha2⟩, ⟨hb1, hb2⟩, ⟨hc1, hc2⟩, hd1, hd2⟩ := h3
  obtain ⟨_, hd⟩ := h2
  simp only at ha1 ha2 hb1 hb2 hc1 hc2 hd1 hd2
  have hg := made_good p1 hd
  have hk := kM_le p1
  have hl := good_len (by omega) hg
  have hli := good_line hg
  have hlv := hg.levels
  have hwt := hg.wt
  have ea : a.tmod 100000 = a % 100000 := Int.tmod_eq_emod_of_nonneg ha1
  have eb : b.tmod 100000 = b % 100000 := Int.tmod_eq_emod_of_nonneg hb1
  have ec : c.tmod 100000 = c % 100000 := Int.tmod_eq_emod_of_nonneg hc1
  obtain ⟨f, hf⟩ : ∃ f, f = a % 100000 := ⟨_, rfl⟩
  obtain ⟨w, hw⟩ : ∃ w, w = 1 + b % 100000 := ⟨_, rfl⟩
  have hw0 : 1 ≤ w ∧ w ≤ 100000 := by omega
  have hf0 : 0 ≤ f ∧ f < 100000 := by omega
  have ed : d.tmod w = d % w := Int.tmod_eq_emod_of_nonneg hd1
  have hs0 : 0 ≤ d % w := Int.emod_nonneg _ (by omega)
  have hs1 : d % w < w := Int.emod_lt_of_pos _ (by omega)
  unfold law08_EstimateDrops law08_made
  rw [awake8, Option.bind_some, made_eq h1.2 hd, Option.bind_some, Option.bind_some]
  simp only
  rw [ea, eb, ec, ← hf, ← hw, wu64_of (x := w) (by omega) (by omega), must_of (by omega), Option.bind_some, if_pos trivial, ed, wu64_of (x := f + c % 100000) (by omega) (by omega), wu64_of (x := 1 + d % w) (by omega) (by omega)]
  obtain ⟨tick, ht⟩ : ∃ tick, tick = f + c % 100000 := ⟨_, rfl⟩
  obtain ⟨span, hsp⟩ : ∃ span, span = 1 + d % w := ⟨_, rfl⟩
  rw [← ht, ← hsp]
  have hg2 := hg.drop (oldS_mono f w)
  rw [drop_eq (by omega) (by omega) hl (by omega), Option.bind_some, eof_eq (by omega) (by omega) hg2.levels (good_len (by omega) hg2) hg2.wt, Option.bind_some, eof_eq (by omega) (by omega) hlv hl hwt, Option.bind_some]
  have hold : ∀ s : Sp, s.1 ≤ s.2 → oldS f w s = true → wiT tick span s.1 = false ∧ wiT tick span s.2 = false := fun s hs ho => by
    simp only [oldS, oldT, decide_eq_true_eq] at ho
    unfold wiT
    rw [decide_eq_false_iff_not, decide_eq_false_iff_not]
    omega
  have e : ofM tick span (dropM (oldS f w) (madeM p1 p2)) = ofM tick span (madeM p1 p2) := by
    unfold ofM
    rw [wtP_drop (oldS_mono f w) hg.turn (shape_ne hg.shape) (fun l hl' s hs hp => ?_), wtP_drop (oldS_mono f w) hg.turn (shape_ne hg.shape) (fun l hl' s hs hp => ?_)]
    · cases ho : oldS f w s with
      | false => rfl
      | true =>
        obtain ⟨h5, h6⟩ := hold s (hli l hl' s hs) ho
        unfold cutP at hp
        rw [h6] at hp
        simp at hp
    · cases ho : oldS f w s with
      | false => rfl
      | true =>
        obtain ⟨h5, h6⟩ := hold s (hli l hl' s hs) ho
        unfold sureP at hp
        rw [h5] at hp
        cases hp
  rw [e]
  simp
end Go.Proofs.Ytbnjjpmlaknaoaa.Pu
namespace Go.Proofs.Ytbnjjpmlaknaoaa.Pu
set_option linter.unusedVariables false

abbrev Gs := Sp × Nat
def prsA : List Gs → List Gs
  | a :: b :: t => ((a.1.1, b.1.2), a.2 + b.2) :: prsA t
  | _ => []
theorem prsA_two (a b : Gs) (t : List Gs) : prsA (a :: b :: t) = ((a.1.1, b.1.2), a.2 + b.2) :: prsA t := rfl
theorem prsA_one (a : Gs) : prsA [a] = [] := rfl
theorem prsA_map (A : List Gs) : prs (A.map (·.1)) = (prsA A).map (·.1) := by
  induction A using twos with
  | h0 => rfl
  | h1 a => simp [prs_one, prsA_one]
  | h2 a b t ih => simp only [List.map_cons, prs_two, prsA_two, ih]
def staysA (most : Nat) (A : List Gs) : List Gs := A.drop (2 * npr A.length most)
def goesA (most : Nat) (A : List Gs) : List Gs := prsA (A.take (2 * npr A.length most))
theorem staysA_map (most : Nat) (A : List Gs) : stays most (A.map (·.1)) = (staysA most A).map (·.1) := by unfold stays staysA; rw [List.length_map, List.map_drop]
theorem goesA_map (most : Nat) (A : List Gs) : goes most (A.map (·.1)) = (goesA most A).map (·.1) := by unfold goes goesA; rw [List.length_map, ← prsA_map, List.map_take]
theorem goesA_len {most : Nat} (h : 1 ≤ most) (A : List Gs) : (goesA most A).length = npr A.length most := by
  have h1 := goes_len h (A.map (·.1))
  rw [goesA_map, List.length_map, List.length_map] at h1
  exact h1
def flowA (k i : Nat) (ls : List (List Gs)) (F : List Gs) : List (List Gs) :=
  if h : ls = [] ∧ F = [] then [] else
    staysA (mostN k i) (ls.headD [] ++ F) :: flowA k (i + 1) ls.tail (goesA (mostN k i) (ls.headD [] ++ F))
  termination_by (ls.length, F.length)
  decreasing_by
    cases ls with
    | nil =>
      have hF : F ≠ [] := fun e => h ⟨rfl, e⟩
      have h1 := List.length_pos_iff.2 hF
      have h2 := goesA_len (mostN_pos k i) F
      have h3 := npr_le (n := F.length) (mostN_pos k i)
      simp only [List.tail_nil, List.headD_nil, List.nil_append]
      apply Prod.Lex.right
      omega
    | cons l t => apply Prod.Lex.left; simp
theorem flowA_nil (k i : Nat) : flowA k i [] [] = [] := by rw [flowA, dif_pos ⟨rfl, rfl⟩]
theorem flowA_step (k i : Nat) (ls : List (List Gs)) (F : List Gs) (h : ¬ (ls = [] ∧ F = [])) : flowA k i ls F = staysA (mostN k i) (ls.headD [] ++ F) :: flowA k (i + 1) ls.tail (goesA (mostN k i) (ls.headD [] ++ F)) := by
  rw [flowA, dif_neg h]
theorem flowA_ind (k : Nat) {P : Nat → List (List Gs) → List Gs → Prop} (h0 : ∀ i, P i [] [])
    (h1 : ∀ i ls F, ¬ (ls = [] ∧ F = []) → P (i + 1) ls.tail (goesA (mostN k i) (ls.headD [] ++ F)) → P i ls F) : ∀ i ls F, P i ls F := by
  intro i ls F
  induction i, ls, F using flowA.induct (k := k) with
  | case1 i ls F h => obtain ⟨rfl, rfl⟩ := h; exact h0 i
  | case2 i ls F h ih => exact h1 i ls F h ih
/-- Without the counts. -/
def bare (G : List (List Gs)) : List (List Sp) := G.map fun l => l.map (·.1)
theorem bare_head (G : List (List Gs)) (F : List Gs) : (bare G).headD [] ++ F.map (·.1) = (G.headD [] ++ F).map (·.1) := by
  cases G <;> simp [bare]
theorem bare_tail (G : List (List Gs)) : (bare G).tail = bare G.tail := by cases G <;> rfl
theorem flowA_map (k : Nat) : ∀ i G F, flow k i (bare G) (F.map (·.1)) = bare (flowA k i G F) := by
  apply flowA_ind k (P := fun i G F => flow k i (bare G) (F.map (·.1)) = bare (flowA k i G F))
  · intro i; rw [flowA_nil]; exact flow_nil k i
  · intro i G F h ih
    have h' : ¬ (bare G = [] ∧ F.map (·.1) = []) := fun q => h ⟨by simpa [bare] using q.1, by simpa using q.2⟩
    rw [flow_step k i _ _ h', flowA_step k i G F h, bare_head, bare_tail, goesA_map, staysA_map, ih]
    rfl

def sumL (l : List Gs) : Nat := (l.map (·.2)).sum
def tot : List (List Gs) → Nat
  | [] => 0
  | l :: G => sumL l + tot G
theorem sumL_app (a b : List Gs) : sumL (a ++ b) = sumL a + sumL b := by simp [sumL]
theorem sumL_cons (a : Gs) (b : List Gs) : sumL (a :: b) = a.2 + sumL b := by simp [sumL]
theorem sumL_prsA (A : List Gs) (h : A.length % 2 = 0) : sumL (prsA A) = sumL A := by
  induction A using twos with
  | h0 => rfl
  | h1 a => simp at h
  | h2 a b t ih =>
    rw [prsA_two, sumL_cons, sumL_cons, sumL_cons, ih (by simp only [List.length_cons] at h; omega)]
    simp only
    omega
theorem sumL_step {most : Nat} (hm : 1 ≤ most) (A : List Gs) : sumL (staysA most A) + sumL (goesA most A) = sumL A := by
  have h := npr_le (n := A.length) hm
  unfold staysA goesA
  rw [sumL_prsA _ (by rw [List.length_take]; omega), Nat.add_comm, ← sumL_app, List.take_append_drop]
theorem tot_flow (k : Nat) : ∀ i G F, tot (flowA k i G F) = tot G + sumL F := by
  apply flowA_ind k (P := fun i G F => tot (flowA k i G F) = tot G + sumL F)
  · intro i; rw [flowA_nil]; rfl
  · intro i G F h ih
    rw [flowA_step k i G F h, tot, ih]
    have h2 := sumL_step (mostN_pos k i) (G.headD [] ++ F)
    rw [sumL_app] at h2
    cases G with
    | nil => simp only [List.tail_nil, List.headD_nil, List.nil_append, tot, sumL, List.map_nil, List.sum_nil] at h2 ⊢; omega
    | cons l t => simp only [List.tail_cons, List.headD_cons, tot] at h2 ⊢; omega

section
variable {tick span : Int}
/-- A bucket of level i, of whose units so many came within. -/
def okc (tick span : Int) (i : Nat) (x : Gs) : Prop :=
  (wiT tick span x.1.1 = true → x.2 = 2 ^ i) ∧ (wiT tick span x.1.2 = false → x.2 = 0) ∧ (wiT tick span x.1.1 = false → wiT tick span x.1.2 = true → 1 ≤ x.2 ∧ x.2 + 1 ≤ 2 ^ i)
theorem okc_merge {i : Nat} {a b : Gs} (ha : okc tick span i a) (hb : okc tick span i b) (h1 : a.1.1 ≤ a.1.2) (h2 : a.1.2 ≤ b.1.1) (h3 : b.1.1 ≤ b.1.2) : okc tick span (i + 1) ((a.1.1, b.1.2), a.2 + b.2) := by
  have hp : 1 ≤ 2 ^ i := Nat.one_le_two_pow
  obtain ⟨a1, a2, a3⟩ := ha
  obtain ⟨b1, b2, b3⟩ := hb
  unfold okc
  simp only
  rw [Nat.pow_succ]
  refine ⟨fun h => ?_, fun h => ?_, fun h k => ?_⟩
  · rw [a1 h, b1 (wiT_up (Int.le_trans h1 h2) h)]; omega
  · have h4 : wiT tick span a.1.2 = false := by
      cases q : wiT tick span a.1.2 with
      | false => rfl
      | true => rw [wiT_up (Int.le_trans h2 h3) q] at h; cases h
    rw [a2 h4, b2 h]
  · have hA : a.2 + 1 ≤ 2 ^ i := by
      cases q : wiT tick span a.1.2 with
      | false => rw [a2 q]; omega
      | true => exact (a3 h q).2
    have hB : 1 ≤ b.2 ∧ b.2 ≤ 2 ^ i := by
      cases q : wiT tick span b.1.1 with
      | true => rw [b1 q]; omega
      | false => have := b3 q k; omega
    omega
theorem okc_prs {i : Nat} {A : List Gs} (ht : InTurn (A.map (·.1))) (h : ∀ a ∈ A, okc tick span i a) : ∀ a ∈ prsA A, okc tick span (i + 1) a := by
  induction A using twos with
  | h0 => intro a ha; cases ha
  | h1 a => intro b hb; rw [prsA_one] at hb; cases hb
  | h2 a b t ih =>
    intro x hx
    simp only [List.map_cons] at ht
    rw [InTurn.cons, InTurn.cons] at ht
    obtain ⟨t1, ⟨t2, t3, t4⟩, t5⟩ := ht
    rw [prsA_two] at hx
    rcases List.mem_cons.1 hx with rfl | hx
    · exact okc_merge (h a (by simp)) (h b (by simp)) t1 (t5 b.1 (by simp)) t2
    · exact ih t3 (fun y hy => h y (by simp [hy])) x hx
def okL (tick span : Int) : Nat → List (List Gs) → Prop
  | _, [] => True
  | i, l :: G => (∀ a ∈ l, okc tick span i a) ∧ okL tick span (i + 1) G
theorem okL_flow (k : Nat) : ∀ i G F, InTurn (line (bare G) ++ F.map (·.1)) → okL tick span i G → (∀ a ∈ F, okc tick span i a) → okL tick span i (flowA k i G F) := by
  apply flowA_ind k (P := fun i G F => InTurn (line (bare G) ++ F.map (·.1)) → okL tick span i G → (∀ a ∈ F, okc tick span i a) → okL tick span i (flowA k i G F))
  · intro i _ _ _; rw [flowA_nil]; trivial
  · intro i G F h ih ht hG hF
    rw [flowA_step k i G F h]
    have hA : ∀ a ∈ G.headD [] ++ F, okc tick span i a := by
      intro a ha
      rcases List.mem_append.1 ha with q | q
      · cases G with
        | nil => cases q
        | cons l t => exact hG.1 a q
      · exact hF a q
    have hT : okL tick span (i + 1) G.tail := by
      cases G with
      | nil => trivial
      | cons l t => exact hG.2
    have e : line (bare G) ++ F.map (·.1) = line (bare G.tail) ++ (G.headD [] ++ F).map (·.1) := by
      cases G <;> simp [bare, line]
    rw [e] at ht
    generalize G.headD [] ++ F = A at ht hA ih ⊢
    have ht2 : InTurn ((A.take (2 * npr A.length (mostN k i))).map (·.1)) := ht.right.sub ((List.take_sublist _ _).map _)
    refine ⟨fun a ha => hA a (List.mem_of_mem_drop ha), ih ?_ hT (okc_prs ht2 fun a ha => hA a (List.mem_of_mem_take ha))⟩
    rw [← goesA_map]
    unfold goes
    have h3 : InTurn (line (bare G.tail) ++ ((A.map (·.1)).take (2 * npr (A.map (·.1)).length (mostN k i)) ++ (A.map (·.1)).drop (2 * npr (A.map (·.1)).length (mostN k i)))) := by rw [List.take_append_drop]; exact ht
    have h4 := InTurn.prs_mid _ _ _ h3
    rw [← List.append_assoc] at h4
    exact h4.left

/-- How many of the units that came are within. -/
def exactS (tick span : Int) (k : Nat) : List (Int × Int) → Int → List (List Sp) → Nat → Nat
  | [], _, _, n => n
  | d :: ds, t, ls, n => if addC ls (t + d.1 % 1000) d.2 = 0 then exactS tick span k ds (t + d.1 % 1000) (addL k ls (t + d.1 % 1000) d.2) (if wiT tick span (t + d.1 % 1000) then n + d.2.toNat else n) else exactS tick span k ds (t + d.1 % 1000) ls n
theorem Good.turn_add {k : Nat} {ls : List (List Sp)} {t0 t w : Int} (h : Good k ls t0) (ha : addC ls t w = 0) (n : Nat) : InTurn (line ls ++ List.replicate n (t, t)) := by
  obtain ⟨h1, h2, h3, h4⟩ := addC_zero ha
  rw [InTurn.app]
  refine ⟨h.turn, rep_turn n t, fun a ha b hb => ?_⟩
  obtain ⟨l, hl, hal⟩ := mem_line.1 ha
  rw [List.eq_of_mem_replicate hb]
  cases hx : lastM ls with
  | none => rw [h.none hx] at hl; cases hl
  | some x =>
    have h5 := h.all_le hx l hl a hal
    have h6 := h3 x hx
    simp only
    omega
theorem ghost {k : Nat} (hk : 1 ≤ k) : ∀ {ds : List (Int × Int)} {t t0 : Int} {ls : List (List Sp)} {G : List (List Gs)} {n : Nat}, Deeds ds → 0 ≤ t → t0 ≤ t → Good k ls t0 → bare G = ls → okL tick span 0 G → tot G = n →
    ∃ G', bare G' = madeS k ds t ls ∧ okL tick span 0 G' ∧ tot G' = exactS tick span k ds t ls n := by
  intro ds
  induction ds with
  | nil => intro t t0 ls G n _ _ _ _ h1 h2 h3; exact ⟨G, by rw [madeS]; exact h1, h2, by rw [exactS]; exact h3⟩
  | cons d ds ih =>
    intro t t0 ls G n hd h0 ht hg h1 h2 h3
    have hd1 := hd d List.mem_cons_self
    have hd' : Deeds ds := fun e he => hd e (List.mem_cons_of_mem _ he)
    have hge : 0 ≤ d.1 % 1000 := Int.emod_nonneg _ (by decide)
    rw [madeS, exactS]
    by_cases hc : addC ls (t + d.1 % 1000) d.2 = 0
    · rw [if_pos hc, if_pos hc]
      have hturn := hg.turn_add hc d.2.toNat
      have hmap : (List.replicate d.2.toNat (((t + d.1 % 1000, t + d.1 % 1000), if wiT tick span (t + d.1 % 1000) then 1 else 0) : Gs)).map (·.1) = List.replicate d.2.toNat (t + d.1 % 1000, t + d.1 % 1000) := by rw [List.map_replicate]
      refine ih (G := flowA k 0 G (List.replicate d.2.toNat (((t + d.1 % 1000, t + d.1 % 1000), if wiT tick span (t + d.1 % 1000) then 1 else 0) : Gs))) hd' (by omega) (Int.le_refl _) (hg.addL hk (by omega) hd1.2.1 hc) ?_ ?_ ?_
      · rw [← flowA_map, hmap, h1]; rfl
      · refine okL_flow k 0 G _ (by rw [h1, hmap]; exact hturn) h2 (fun a ha => ?_)
        rw [List.eq_of_mem_replicate ha]
        unfold okc
        simp only
        refine ⟨fun q => by rw [q]; rfl, fun q => by rw [q]; rfl, fun q r => by rw [q] at r; cases r⟩
      · rw [tot_flow, h3]
        unfold sumL
        rw [List.map_replicate, List.sum_replicate_nat]
        by_cases hw : wiT tick span (t + d.1 % 1000) = true
        · rw [if_pos hw, if_pos hw]; omega
        · rw [if_neg hw, if_neg hw]; omega
    · rw [if_neg hc, if_neg hc]
      exact ih hd' (by omega) (by omega) hg h1 h2 h3
theorem ghost_made (p : Int) {ds : List (Int × Int)} (h : Deeds ds) : ∃ G, bare G = madeM p ds ∧ okL tick span 0 G ∧ tot G = exactS tick span (kM p) (ds.take 30) 0 [] 0 :=
  ghost (by have := kM_le p; omega) (h.take 30) (Int.le_refl 0) (Int.le_refl 0) (Good.nil (kM p) 0) (G := []) rfl trivial rfl

/-! ### Sure, cut, and what really came -/
theorem level_parts {i : Nat} {l : List Gs} (hl : ∀ a ∈ l, a.1.1 ≤ a.1.2) (h : ∀ a ∈ l, okc tick span i a) : 2 ^ i * (l.map (·.1)).countP (sureP tick span) ≤ sumL l ∧ sumL l ≤ 2 ^ i * ((l.map (·.1)).countP (sureP tick span) + (l.map (·.1)).countP (cutP tick span)) := by
  induction l with
  | nil => simp [sumL]
  | cons a t ih =>
    obtain ⟨i1, i2⟩ := ih (fun b hb => hl b (List.mem_cons_of_mem _ hb)) (fun b hb => h b (List.mem_cons_of_mem _ hb))
    obtain ⟨h1, h2, h3⟩ := h a List.mem_cons_self
    have h4 := hl a List.mem_cons_self
    rw [sumL_cons, List.map_cons, List.countP_cons, List.countP_cons]
    simp only [sureP, cutP] at i1 i2 ⊢
    simp only [Nat.mul_add] at i1 i2 ⊢
    by_cases hs : wiT tick span a.1.1 = true
    · rw [h1 hs]
      simp only [hs, if_true, Bool.not_true, Bool.false_and, Bool.false_eq_true, if_false, Nat.mul_one, Nat.mul_zero]
      constructor <;> omega
    · have hs' : wiT tick span a.1.1 = false := by simpa using hs
      by_cases hc : wiT tick span a.1.2 = true
      · have := h3 hs' hc
        simp only [hs', hc, if_true, Bool.not_false, Bool.true_and, Bool.false_eq_true, if_false, Nat.mul_one, Nat.mul_zero]
        constructor <;> omega
      · have hc' : wiT tick span a.1.2 = false := by simpa using hc
        rw [h2 hc']
        simp only [hs', hc', Bool.and_false, Bool.false_eq_true, if_false, Nat.mul_zero]
        constructor <;> omega
theorem all_parts : ∀ {i : Nat} {G : List (List Gs)}, (∀ l ∈ G, ∀ a ∈ l, a.1.1 ≤ a.1.2) → okL tick span i G → 2 ^ i * wtP (sureP tick span) (bare G) ≤ tot G ∧ tot G ≤ 2 ^ i * (wtP (sureP tick span) (bare G) + wtP (cutP tick span) (bare G)) := by
  intro i G
  induction G generalizing i with
  | nil => intro _ _; simp [tot, bare, wtP]
  | cons l G ih =>
    intro hl h
    obtain ⟨i1, i2⟩ := ih (fun m hm => hl m (List.mem_cons_of_mem _ hm)) h.2
    obtain ⟨j1, j2⟩ := level_parts (hl l List.mem_cons_self) h.1
    have e : bare (l :: G) = l.map (·.1) :: bare G := rfl
    rw [e, tot, wtP, wtP]
    rw [Nat.pow_succ] at i1 i2
    simp only [Nat.mul_add, ← Nat.mul_assoc] at i1 i2 j1 j2 ⊢
    constructor <;> omega

/-- One level in turn: at most one bucket is cut. -/
theorem level_cut {i : Nat} {l : List Gs} (ht : InTurn (l.map (·.1))) (h : ∀ a ∈ l, okc tick span i a) :
    ((l.map (·.1)).countP (cutP tick span) = 0 ∧ sumL l = 2 ^ i * (l.map (·.1)).countP (sureP tick span)) ∨
    ((l.map (·.1)).countP (cutP tick span) = 1 ∧ ∃ c, sumL l = 2 ^ i * (l.map (·.1)).countP (sureP tick span) + c ∧ 1 ≤ c ∧ c + 1 ≤ 2 ^ i) := by
  induction l with
  | nil => exact .inl ⟨rfl, rfl⟩
  | cons a t ih =>
    rw [List.map_cons, InTurn.cons] at ht
    obtain ⟨h1, h2, h3⟩ := h a List.mem_cons_self
    have h' : ∀ b ∈ t, okc tick span i b := fun b hb => h b (List.mem_cons_of_mem _ hb)
    have ih' := ih ht.2.1 h'
    rw [sumL_cons, List.map_cons, List.countP_cons, List.countP_cons]
    simp only [sureP, cutP] at ih' ⊢
    simp only [Nat.mul_add]
    by_cases hs : wiT tick span a.1.1 = true
    · rw [h1 hs]
      simp only [hs, if_true, Bool.not_true, Bool.false_and, Bool.false_eq_true, if_false, Nat.mul_one]
      rcases ih' with ⟨q1, q2⟩ | ⟨q1, c, q2, q3, q4⟩
      · exact .inl ⟨q1, by rw [q2]; omega⟩
      · exact .inr ⟨q1, c, by rw [q2]; omega, q3, q4⟩
    · have hs' : wiT tick span a.1.1 = false := by simpa using hs
      by_cases hc : wiT tick span a.1.2 = true
      · obtain ⟨c1, c2⟩ := h3 hs' hc
        have hall : ∀ b ∈ t.map (·.1), wiT tick span b.1 = true := fun b hb => wiT_up (ht.2.2 b hb) hc
        have z1 : (t.map (·.1)).countP (cutP tick span) = 0 := by
          rw [List.countP_eq_zero]; intro b hb; unfold cutP; rw [hall b hb]; simp
        simp only [hs', hc, if_true, Bool.not_false, Bool.true_and, Bool.false_eq_true, if_false, Nat.mul_zero]
        refine .inr ⟨by rw [z1], a.2, ?_, c1, c2⟩
        rcases ih' with ⟨q1, q2⟩ | ⟨q1, _⟩
        · rw [q2]; omega
        · omega
      · have hc' : wiT tick span a.1.2 = false := by simpa using hc
        rw [h2 hc']
        simp only [hs', hc', Bool.and_false, Bool.false_eq_true, if_false, Nat.mul_zero]
        rcases ih' with ⟨q1, q2⟩ | ⟨q1, c, q2, q3, q4⟩
        · exact .inl ⟨q1, by rw [q2]; omega⟩
        · exact .inr ⟨q1, c, by rw [q2]; omega, q3, q4⟩
theorem level_all {i : Nat} {l : List Gs} (h : ∀ a ∈ l, okc tick span i a) (hs : ∀ a ∈ l, wiT tick span a.1.1 = true) : sumL l = 2 ^ i * l.length ∧ (l.map (·.1)).countP (sureP tick span) = l.length ∧ (l.map (·.1)).countP (cutP tick span) = 0 := by
  induction l with
  | nil => exact ⟨rfl, rfl, rfl⟩
  | cons a t ih =>
    obtain ⟨i1, i2, i3⟩ := ih (fun b hb => h b (List.mem_cons_of_mem _ hb)) (fun b hb => hs b (List.mem_cons_of_mem _ hb))
    have h1 := (h a List.mem_cons_self).1 (hs a List.mem_cons_self)
    have h2 := hs a List.mem_cons_self
    rw [sumL_cons, List.map_cons, List.countP_cons, List.countP_cons, i1, i2, i3, h1, List.length_cons]
    simp only [sureP, cutP, h2, Nat.mul_add]
    refine ⟨by omega, by simp, by simp⟩
theorem level_gone {i : Nat} {G : List (List Gs)} (h : okL tick span i G) (hz : ∀ l ∈ G, ∀ a ∈ l, wiT tick span a.1.2 = false) (hl : ∀ l ∈ G, ∀ a ∈ l, a.1.1 ≤ a.1.2) : tot G = 0 ∧ wtP (sureP tick span) (bare G) = 0 ∧ wtP (cutP tick span) (bare G) = 0 := by
  induction G generalizing i with
  | nil => exact ⟨rfl, rfl, rfl⟩
  | cons l G ih =>
    obtain ⟨i1, i2, i3⟩ := ih h.2 (fun m hm => hz m (List.mem_cons_of_mem _ hm)) (fun m hm => hl m (List.mem_cons_of_mem _ hm))
    have e : bare (l :: G) = l.map (·.1) :: bare G := rfl
    rw [e, tot, wtP, wtP, i1, i2, i3]
    have hz1 := hz l List.mem_cons_self
    have hl1 := hl l List.mem_cons_self
    have ho := h.1
    clear ih h hz hl i1 i2 i3 e
    induction l with
    | nil => exact ⟨rfl, rfl, rfl⟩
    | cons a t ih =>
      obtain ⟨j1, j2, j3⟩ := ih (fun b hb => hz1 b (List.mem_cons_of_mem _ hb)) (fun b hb => hl1 b (List.mem_cons_of_mem _ hb)) (fun b hb => ho b (List.mem_cons_of_mem _ hb))
      have h1 := hz1 a List.mem_cons_self
      have h2 : wiT tick span a.1.1 = false := by
        cases q : wiT tick span a.1.1 with
        | false => rfl
        | true => rw [wiT_up (hl1 a List.mem_cons_self) q] at h1; cases h1
      have h3 := (ho a List.mem_cons_self).2.1 h1
      rw [sumL_cons, List.map_cons, List.countP_cons, List.countP_cons, h3]
      simp only [sureP, cutP, h1, h2] at j2 j3 ⊢
      exact ⟨by omega, by simpa using j2, by simpa using j3⟩
/-- THE BOUND's ground: all buckets that are newer than the one that is cut have k by 2 times its units. -/
theorem cut_bound {k : Nat} : ∀ {i W : Nat} {G : List (List Gs)}, okL tick span i G → InTurn (line (bare G)) → shape k i (bare G) → (i = 0 ∨ G = [] ∨ k * 2 ^ i ≤ 2 * W) →
    (wtP (cutP tick span) (bare G) = 0 ∧ tot G = 2 ^ i * wtP (sureP tick span) (bare G)) ∨
    (∃ j c, 1 ≤ j ∧ 2 ^ i * wtP (cutP tick span) (bare G) = 2 ^ j ∧ tot G = 2 ^ i * wtP (sureP tick span) (bare G) + c ∧ 1 ≤ c ∧ c + 1 ≤ 2 ^ j ∧ k * 2 ^ j ≤ 2 * (W + 2 ^ i * wtP (sureP tick span) (bare G))) := by
  intro i W G
  induction G generalizing i W with
  | nil => intro _ _ _ _; exact .inl ⟨rfl, rfl⟩
  | cons l G ih =>
    intro ho ht hs hW
    have e : bare (l :: G) = l.map (·.1) :: bare G := rfl
    rw [e] at ht hs ⊢
    rw [line] at ht
    have hW' : i = 0 ∨ k * 2 ^ i ≤ 2 * W := by
      rcases hW with q | q | q
      · exact .inl q
      · cases q
      · exact .inr q
    by_cases hall : ∀ a ∈ l, wiT tick span a.1.1 = true
    · obtain ⟨a1, a2, a3⟩ := level_all ho.1 hall
      have hcond : i + 1 = 0 ∨ G = [] ∨ k * 2 ^ (i + 1) ≤ 2 * (W + 2 ^ i * l.length) := by
        by_cases hG : G = []
        · exact .inr (.inl hG)
        · refine .inr (.inr ?_)
          have h5 := hs.2.2.1 (by intro q; apply hG; simpa [bare] using q)
          rw [List.length_map] at h5
          rw [Nat.pow_succ, ← Nat.mul_assoc]
          rcases hW' with q | q
          · subst q
            unfold mostN at h5
            rw [if_pos rfl] at h5
            simp only [Nat.pow_zero, Nat.one_mul, Nat.mul_one]
            omega
          · have h6 : k ≤ 2 * l.length := by
              unfold mostN at h5
              split at h5 <;> omega
            have h7 : k * 2 ^ i ≤ 2 * l.length * 2 ^ i := Nat.mul_le_mul_right _ h6
            have h8 : 2 * l.length * 2 ^ i = 2 * (2 ^ i * l.length) := by rw [Nat.mul_assoc, Nat.mul_comm l.length]
            omega
      rw [tot, wtP, wtP, a1, a2, a3]
      rcases ih (W := W + 2 ^ i * l.length) ho.2 ht.left hs.2.2.2 hcond with ⟨q1, q2⟩ | ⟨j, c, q1, q2, q3, q4, q5, q6⟩
      · refine .inl ⟨by omega, ?_⟩
        rw [q2, Nat.pow_succ, Nat.mul_add, ← Nat.mul_assoc]
      · rw [Nat.pow_succ, Nat.mul_assoc] at q2 q3 q6
        refine .inr ⟨j, c, q1, ?_, ?_, q4, q5, ?_⟩
        · rw [Nat.zero_add]; exact q2
        · have e5 : 2 ^ i * (l.length + 2 * wtP (sureP tick span) (bare G)) = 2 ^ i * l.length + 2 ^ i * (2 * wtP (sureP tick span) (bare G)) := Nat.mul_add _ _ _
          rw [q3, e5]; omega
        · have e5 : 2 ^ i * (l.length + 2 * wtP (sureP tick span) (bare G)) = 2 ^ i * l.length + 2 ^ i * (2 * wtP (sureP tick span) (bare G)) := Nat.mul_add _ _ _
          rw [e5]; omega
    · have hgone : ∀ m ∈ G, ∀ b ∈ m, wiT tick span b.1.2 = false := by
        intro m hm b hb
        cases q : wiT tick span b.1.2 with
        | false => rfl
        | true =>
          exfalso
          apply hall
          intro a ha
          refine wiT_up ((InTurn.app.1 ht).2.2 b.1 (mem_line.2 ⟨m.map (·.1), List.mem_map.2 ⟨m, hm, rfl⟩, List.mem_map.2 ⟨b, hb, rfl⟩⟩) a.1 (List.mem_map.2 ⟨a, ha, rfl⟩)) q
      have hle : ∀ m ∈ G, ∀ b ∈ m, b.1.1 ≤ b.1.2 := fun m hm b hb => ht.left.2 b.1 (mem_line.2 ⟨m.map (·.1), List.mem_map.2 ⟨m, hm, rfl⟩, List.mem_map.2 ⟨b, hb, rfl⟩⟩)
      obtain ⟨g1, g2, g3⟩ := level_gone ho.2 hgone hle
      rw [tot, wtP, wtP, g1, g2, g3]
      rcases level_cut ht.right ho.1 with ⟨q1, q2⟩ | ⟨q1, c, q2, q3, q4⟩
      · exact .inl ⟨by omega, by rw [q2]; simp⟩
      · have hi : 1 ≤ i := by
          rcases Nat.eq_zero_or_pos i with z | z
          · subst z; simp at q4; omega
          · exact z
        refine .inr ⟨i, c, hi, by rw [q1]; simp, by rw [q2]; simp, q3, q4, ?_⟩
        rcases hW' with z | z
        · omega
        · have : W ≤ W + 2 ^ i * ((l.map (·.1)).countP (sureP tick span) + 2 * 0) := Nat.le_add_right _ _
          omega
end
end Go.Proofs.Ytbnjjpmlaknaoaa.Pu
namespace Go.Proofs.Ytbnjjpmlaknaoaa.Pu
set_option linter.unusedVariables false

theorem exact_loop {tick span : Int} (hsp : 0 ≤ span) (htk : tick < 18446744073709551616) {k : Nat} (hk1 : 1 ≤ k) (hk : k ≤ 1048576) {p2 : List (Int × Int)} (hd : Deeds p2) : ∀ (ds : List (Int × Int)) (i : Nat) (t t0 : Int) (ls : List (List Sp)) (n : Nat), ds = (p2.take 30).drop i → 0 ≤ t → t ≤ 1000 * i → t0 ≤ t → Good k ls t0 → n ≤ wt ls →
    loopO (ref08_Exact_s0 p2 tick span) (t, (n : Int), (i : Int), (k : Int), 0, ls) = some ((exactS tick span k ds t ls n : Nat) : Int) := by
  intro ds
  induction ds with
  | nil =>
    intro i t t0 ls n hds h0 hti ht hg hn
    have hi : p2.length ≤ i ∨ 30 ≤ i := by
      have := congrArg List.length hds
      simp only [List.length_nil, List.length_drop, List.length_take] at this
      omega
    apply loopO_done
    unfold ref08_Exact_s0
    simp only
    rcases hi with h | h
    · rw [if_neg (by omega)]; rfl
    · rw [if_neg (c := (i : Int) < 30) (by omega), ite_self]; rfl
  | cons d ds ih =>
    intro i t t0 ls n hds h0 hti ht hg hn
    have hi : i < (p2.take 30).length := by
      have := congrArg List.length hds
      simp only [List.length_cons, List.length_drop] at this
      omega
    have hi2 : i < p2.length ∧ i < 30 := by rw [List.length_take] at hi; omega
    rw [List.drop_eq_getElem_cons hi] at hds
    obtain ⟨hd1, hd2⟩ := List.cons.inj hds
    rw [List.getElem_take] at hd1
    have hmem := hd d (hd1 ▸ List.getElem_mem hi2.1)
    have e1 : d.1.tmod 1000 = d.1 % 1000 := Int.tmod_eq_emod_of_nonneg hmem.1.1
    have hlt : d.1 % 1000 < 1000 := Int.emod_lt_of_pos _ (by decide)
    have hge : 0 ≤ d.1 % 1000 := Int.emod_nonneg _ (by decide)
    have e2 : wu64 (t + d.1 % 1000) = t + d.1 % 1000 := wu64_of (by omega) (by omega)
    have hadd := add_eq (k := k) (g := 0) (t := t + d.1 % 1000) (w := d.2) hk1 hk hg (by omega) hmem.2.1 hmem.2.2
    have hwt := hg.wt
    rw [exactS]
    by_cases hc : addC ls (t + d.1 % 1000) d.2 = 0
    · have hg' := hg.addL hk1 (by omega) hmem.2.1 hc
      have hz := addC_zero hc
      have hwt' : wt (addL k ls (t + d.1 % 1000) d.2) = wt ls + d.2.toNat := by unfold addL; rw [wt_flow, List.length_replicate]
      have hstep : ref08_Exact_s0 p2 tick span (t, (n : Int), (i : Int), (k : Int), 0, ls) = some (.inl (t + d.1 % 1000, ((if wiT tick span (t + d.1 % 1000) then n + d.2.toNat else n : Nat) : Int), ((i + 1 : Nat) : Int), (k : Int), 0, addL k ls (t + d.1 % 1000) d.2)) := by
        unfold ref08_Exact_s0
        simp only
        rw [if_pos (by omega), if_pos (by omega), rdo_get hi2.1, Option.bind_some, ← hd1, e1, e2, hadd, Option.bind_some, wi64_of (by omega) (by omega)]
        simp only [if_pos hc, if_true]
        rw [within_eq hsp htk, Option.bind_some]
        by_cases hw : wiT tick span (t + d.1 % 1000) = true
        · rw [if_pos hw, if_pos hw, wu64_of (by omega) (by omega)]
          refine congrArg some (congrArg Sum.inl (Prod.ext rfl (Prod.ext ?_ rfl)))
          simp only; omega
        · rw [if_neg hw, if_neg hw]; rfl
      rw [loopO_next hstep, if_pos hc]
      refine ih (i + 1) _ _ _ _ hd2 (by omega) (by omega) (Int.le_refl _) hg' ?_
      rw [hwt']
      split <;> omega
    · have hstep : ref08_Exact_s0 p2 tick span (t, (n : Int), (i : Int), (k : Int), 0, ls) = some (.inl (t + d.1 % 1000, (n : Int), ((i + 1 : Nat) : Int), (k : Int), 0, ls)) := by
        unfold ref08_Exact_s0
        simp only
        rw [if_pos (by omega), if_pos (by omega), rdo_get hi2.1, Option.bind_some, ← hd1, e1, e2, hadd, Option.bind_some, wi64_of (by omega) (by omega)]
        simp only [if_neg hc]
        rfl
      rw [loopO_next hstep, if_neg hc]
      exact ih (i + 1) _ t0 _ _ hd2 (by omega) (by omega) (by omega) hg hn
theorem exact_eq {p1 tick span : Int} {p2 : List (Int × Int)} (h1 : p1 < 9223372036854775808) (hd : Deeds p2) (hsp : 0 ≤ span) (htk : tick < 18446744073709551616) : ref08_Exact p1 p2 tick span = some ((exactS tick span (kM p1) (p2.take 30) 0 [] 0 : Nat) : Int) := by
  unfold ref08_Exact
  have hk := kM_le p1
  have e1 : (max p1 0).tmod 30 = ((max p1 0).toNat % 30 : Nat) := by rw [Int.tmod_eq_emod_of_nonneg (by omega)]; omega
  have e2 : wi64 (2 + (max p1 0).tmod 30) = (kM p1 : Int) := by
    rw [e1, wi64_of (by omega) (by omega)]; unfold kM; omega
  rw [e2]
  have := exact_loop hsp htk (k := kM p1) (by omega) (by omega) hd _ 0 0 0 [] 0 rfl (Int.le_refl 0) (by simp) (Int.le_refl 0) (Good.nil _ 0) (Nat.zero_le _)
  have h' : loopO (ref08_Exact_s0 p2 tick span) ((0 : Int), (0 : Int), (0 : Int), (kM p1 : Int), (0 : Int), ([] : List (List Sp))) = some ((exactS tick span (kM p1) (p2.take 30) 0 [] 0 : Nat) : Int) := this
  rw [h', Option.bind_some]
theorem law08_EstimateParts_true (p1 : Int) (p2 : List (Int × Int)) (p3 : Int × Int) (h1 : I64 p1) (h2 : p2.length ≤ 9223372036854775807 ∧ Deeds p2) (h3 : U64 p3.1 ∧ U64 p3.2) :
    law08_EstimateParts p1 p2 p3 = some true := by
  obtain ⟨a, b⟩ := p3
  obtain ⟨⟨ha1, ha2⟩, hb1, hb2⟩ := h3
  obtain ⟨_, hd⟩ := h2
  simp only at ha1 ha2 hb1 hb2
  have hg := made_good p1 hd
  have hk := kM_le p1
  have hl := good_len (by omega) hg
  obtain ⟨G, g1, g2, g3⟩ := ghost_made (tick := a) (span := b) p1 hd
  have hGl : ∀ l ∈ G, ∀ x ∈ l, x.1.1 ≤ x.1.2 := fun l hl x hx => good_line hg (l.map (·.1)) (by rw [← g1]; exact List.mem_map.2 ⟨l, hl, rfl⟩) x.1 (List.mem_map.2 ⟨x, hx, rfl⟩)
  obtain ⟨i1, i2⟩ := all_parts hGl g2
  rw [g1, g3] at i1 i2
  have b1 := wtP_le (sureP a b) (madeM p1 p2)
  have b2 := wtP_le (cutP a b) (madeM p1 p2)
  have hwt := hg.wt
  unfold law08_EstimateParts law08_made
  rw [awake8, Option.bind_some, made_eq h1.2 hd, Option.bind_some, Option.bind_some]
  simp only
  rw [eparts_eq hb1 ha2 hg.levels hl hg.wt, Option.bind_some, exact_eq h1.2 hd hb1 ha2, Option.bind_some, if_pos trivial]
  simp only [Nat.pow_zero, Nat.one_mul] at i1 i2
  rw [if_pos (by omega), wu64_of (by omega) (by omega), if_pos (by omega)]
  by_cases hc : 0 < wtP (cutP a b) (madeM p1 p2)
  · rw [if_pos (by omega)]
  · rw [if_neg (by omega)]
    congr 1
    rw [decide_eq_true_eq]
    omega
theorem law08_EstimateBound_true (p1 : Int) (p2 : List (Int × Int)) (p3 : Int × Int) (h1 : I64 p1) (h2 : p2.length ≤ 9223372036854775807 ∧ Deeds p2) (h3 : U64 p3.1 ∧ U64 p3.2) :
    law08_EstimateBound p1 p2 p3 = some true := by
  obtain ⟨a, b⟩ := p3
  obtain ⟨⟨ha1, ha2⟩, hb1, hb2⟩ := h3
  obtain ⟨_, hd⟩ := h2
  simp only at ha1 ha2 hb1 hb2
  have hg := made_good p1 hd
  have hk := kM_le p1
  have hl := good_len (by omega) hg
  obtain ⟨G, g1, g2, g3⟩ := ghost_made (tick := a) (span := b) p1 hd
  have hGl : ∀ l ∈ G, ∀ x ∈ l, x.1.1 ≤ x.1.2 := fun l hl x hx => good_line hg (l.map (·.1)) (by rw [← g1]; exact List.mem_map.2 ⟨l, hl, rfl⟩) x.1 (List.mem_map.2 ⟨x, hx, rfl⟩)
  obtain ⟨i1, i2⟩ := all_parts hGl g2
  have hcut := cut_bound (k := kM p1) (i := 0) (W := 0) g2 (by rw [g1]; exact hg.turn) (by rw [g1]; exact hg.shape) (.inl rfl)
  rw [g1, g3] at i1 i2 hcut
  have b1 := wtP_le (sureP a b) (madeM p1 p2)
  have b2 := wtP_le (cutP a b) (madeM p1 p2)
  have hwt := hg.wt
  simp only [Nat.pow_zero, Nat.one_mul] at i1 i2 hcut
  generalize hS : wtP (sureP a b) (madeM p1 p2) = S at *
  generalize hC : wtP (cutP a b) (madeM p1 p2) = C at *
  generalize hR : exactS a b (kM p1) (p2.take 30) 0 [] 0 = R at *
  have hE : ofM a b (madeM p1 p2) = S + C / 2 := by unfold ofM; rw [hS, hC]
  obtain ⟨k, hk0⟩ : ∃ k, k + 1 = kM p1 := ⟨kM p1 - 1, by omega⟩
  have key : k * R ≤ (k + 1) * (S + C / 2) ∧ (k + 1) * (S + C / 2) ≤ (k + 2) * R := by
    rcases hcut with ⟨q1, q2⟩ | ⟨j, c, q1, q2, q3, q4, q5, q6⟩
    · rw [q1, q2]
      simp only [Nat.zero_div, Nat.add_zero]
      exact ⟨Nat.mul_le_mul_right _ (by omega), Nat.mul_le_mul_right _ (by omega)⟩
    · obtain ⟨j', rfl⟩ : ∃ j', j = j' + 1 := ⟨j - 1, by omega⟩
      rw [Nat.pow_succ] at q2 q5 q6
      generalize (2 : Nat) ^ j' = h at *
      have e1 : C / 2 = h := by omega
      rw [e1, q3]
      rw [← hk0, Nat.zero_add] at q6
      have q7 : (k + 1) * h ≤ S := by
        have : (k + 1) * (h * 2) = (k + 1) * h * 2 := by rw [Nat.mul_assoc]
        omega
      have q8 : k * h + h = (k + 1) * h := by rw [Nat.add_mul, Nat.one_mul]
      have q9 : k * c ≤ k * (2 * h) := Nat.mul_le_mul_left _ (by omega)
      have q10 : k * (2 * h) = 2 * (k * h) := by rw [Nat.mul_left_comm]
      simp only [Nat.mul_add, Nat.add_mul, Nat.one_mul] at *
      constructor <;> omega
  have hR2 : R ≤ 9007199254740992 := by omega
  have hk2 : k ≤ 30 := by omega
  have m1 : k * R ≤ 30 * 9007199254740992 := Nat.mul_le_mul hk2 hR2
  have m2 : (k + 1) * (S + C / 2) ≤ 31 * 9007199254740992 := Nat.mul_le_mul (by omega) (by omega)
  have m3 : (k + 2) * R ≤ 32 * 9007199254740992 := Nat.mul_le_mul (by omega) hR2
  unfold law08_EstimateBound law08_made
  rw [awake8, Option.bind_some, made_eq h1.2 hd, Option.bind_some, Option.bind_some]
  simp only
  rw [eof_eq hb1 ha2 hg.levels hl hg.wt, Option.bind_some, exact_eq h1.2 hd hb1 ha2, Option.bind_some, if_pos trivial, hE, hR, ← hk0]
  have c1 : wu64 (((k + 1 : Nat) : Int)) = ((k + 1 : Nat) : Int) := wu64_of (by omega) (by omega)
  have c2 : wu64 (((k + 1 : Nat) : Int) - 1) = (k : Int) := by rw [wu64_of (by omega) (by omega)]; omega
  have c3 : wu64 (((k + 1 : Nat) : Int) + 1) = ((k + 2 : Nat) : Int) := by rw [wu64_of (by omega) (by omega)]; omega
  rw [c1, c2, c3, ← Int.natCast_mul, ← Int.natCast_mul, ← Int.natCast_mul, wu64_of (x := ((k * R : Nat) : Int)) (by omega) (by omega), wu64_of (x := (((k + 1) * (S + C / 2) : Nat) : Int)) (by omega) (by omega), wu64_of (x := (((k + 2) * R : Nat) : Int)) (by omega) (by omega)]
  rw [if_pos (Int.ofNat_le.2 key.1)]
  congr 1
  rw [decide_eq_true_eq]
  exact Int.ofNat_le.2 key.2
end Go.Proofs.Ytbnjjpmlaknaoaa.Pu
namespace Go.Proofs.Ytbnjjpmlaknaoaa.Pu
set_option linter.unusedVariables false

/-- A loop that tests, round by round, and stops where a test fails. -/
theorem loop_allS {S R : Type} {step : S → Option (S ⊕ R)} (f : Nat → S) (n : Nat) (p : Nat → Bool) {r0 r1 : R} (h1 : ∀ j, j < n → step (f j) = some (if p j then .inl (f (j + 1)) else .inr r0)) (h2 : step (f n) = some (.inr r1)) :
    loopO step (f 0) = some (if (List.range n).all p then r1 else r0) := by
  have aux : ∀ m j, j + m = n → loopO step (f j) = some (if (List.range' j m).all p then r1 else r0) := by
    intro m
    induction m with
    | zero => intro j hj; obtain rfl : j = n := by omega
              exact loopO_done h2
    | succ m ih =>
      intro j hj
      have hs := h1 j (by omega)
      rw [List.range'_succ, List.all_cons]
      cases hp : p j with
      | true => rw [hp, if_pos rfl] at hs; rw [loopO_next hs, ih (j + 1) (by omega), Bool.true_and]
      | false => rw [hp, if_neg (by simp)] at hs; rw [loopO_done hs, Bool.false_and, if_neg (by simp)]
  rw [List.range_eq_range']
  exact aux n 0 (by omega)

/-! ### Shaped -/
def confB (K g : Int) : Bool := decide (2 ≤ K ∧ K ≤ 1024 ∧ 0 ≤ g ∧ g ≤ 4)
theorem conf_eq (K g : Int) : check_conf K g = some (confB K g) := by
  unfold check_conf confB
  by_cases h1 : 2 ≤ K
  · rw [if_pos h1]
    by_cases h2 : K ≤ 1024
    · rw [if_pos h2]
      by_cases h3 : 0 ≤ g
      · rw [if_pos h3]; simp [h1, h2, h3]
      · rw [if_neg h3]; simp [h1, h2, h3]
    · rw [if_neg h2]; simp [h1, h2]
  · rw [if_neg h1]; simp [h1]
def shP (k : Nat) (ls : List (List Sp)) (i : Nat) : Bool := decide (1 ≤ (ls.getD i []).length ∧ (ls.getD i []).length ≤ mostN k i ∧ (i + 1 < ls.length → mostN k i ≤ (ls.getD i []).length + 1))
def shB (k : Nat) (ls : List (List Sp)) : Bool := (List.range ls.length).all (shP k ls) && decide (ls.length ≤ 52)
theorem getD_lt {α : Type} {l : List α} {i : Nat} {d : α} (h : i < l.length) : l.getD i d = l[i] := by rw [List.getD_eq_getElem?_getD, List.getElem?_eq_getElem h]; rfl
section
variable {k : Nat} {g : Int} {ls : List (List Sp)}
theorem cshaped_eq (hk1 : 1 ≤ k) (hk : k ≤ 1024) (hl : ls.length ≤ 100) (hll : ∀ l ∈ ls, l.length ≤ 2000) : check_shaped ((k : Int), g, ls) = some (shB k ls) := by
  unfold check_shaped shB
  have := loop_allS (step := check_shaped_s0 ((k : Int), g, ls)) (r0 := .inl ()) (r1 := .inr ()) (fun i => (i : Int)) ls.length (shP k ls) (fun i hi => ?_) ?_
  · have h' : loopO (check_shaped_s0 ((k : Int), g, ls)) (0 : Int) = some (if (List.range ls.length).all (shP k ls) then .inr () else .inl ()) := this
    rw [h', Option.bind_some]
    by_cases hc : (List.range ls.length).all (shP k ls) = true
    · rw [if_pos hc, hc]; simp; omega
    · rw [if_neg hc]
      have : (List.range ls.length).all (shP k ls) = false := by simpa using hc
      rw [this]; simp
  · have h1 := mostN_two hk1 i
    have h2 := mostN_le k i
    have h3 := hll _ (List.getElem_mem hi)
    unfold check_shaped_s0 level_Least
    simp only
    rw [if_pos (by omega), rdo_get hi, Option.bind_some, most_same i (by omega), Option.bind_some, wi64_of (x := ((mostN k i : Nat) : Int) - 1) (by omega) (by omega), wi64_of (x := (ls.length : Int) - 1) (by omega) (by omega)]
    have e : shP k ls i = decide (1 ≤ ls[i].length ∧ ls[i].length ≤ mostN k i ∧ (i + 1 < ls.length → mostN k i ≤ ls[i].length + 1)) := by unfold shP; rw [getD_lt hi]
    rw [e, Option.bind_some]
    by_cases hlast : i + 1 = ls.length
    · rw [if_pos (by omega), Option.bind_some]
      by_cases c1 : (ls[i].length : Int) < max 1 1
      · rw [if_pos c1, decide_eq_false (by omega), if_neg (by simp)]
      · rw [if_neg c1, Option.bind_some]
        by_cases c2 : ((mostN k i : Nat) : Int) < (ls[i].length : Int)
        · rw [if_pos c2, decide_eq_false (by omega), if_neg (by simp)]
        · rw [if_neg c2, decide_eq_true (by omega), if_pos rfl, wi64_of (by omega) (by omega)]; rfl
    · rw [if_neg (by omega), Option.bind_some]
      by_cases c1 : (ls[i].length : Int) < max (((mostN k i : Nat) : Int) - 1) 1
      · rw [if_pos c1, decide_eq_false (by omega), if_neg (by simp)]
      · rw [if_neg c1, Option.bind_some]
        by_cases c2 : ((mostN k i : Nat) : Int) < (ls[i].length : Int)
        · rw [if_pos c2, decide_eq_false (by omega), if_neg (by simp)]
        · rw [if_neg c2, decide_eq_true (by omega), if_pos rfl, wi64_of (by omega) (by omega)]; rfl
  · unfold check_shaped_s0
    simp only
    rw [if_neg (by omega)]
theorem rshaped_eq (hk1 : 1 ≤ k) (hk : k ≤ 1024) (hl : ls.length ≤ 100) (hll : ∀ l ∈ ls, l.length ≤ 2000) : ref09_shaped ((k : Int), g, ls) = some (shB k ls) := by
  unfold ref09_shaped shB
  have := loop_allS (step := ref09_shaped_s0 ((k : Int), g, ls)) (r0 := .inl ()) (r1 := .inr ()) (fun i => (i : Int)) ls.length (shP k ls) (fun i hi => ?_) ?_
  · have h' : loopO (ref09_shaped_s0 ((k : Int), g, ls)) (0 : Int) = some (if (List.range ls.length).all (shP k ls) then .inr () else .inl ()) := this
    rw [h', Option.bind_some]
    by_cases hc : (List.range ls.length).all (shP k ls) = true
    · rw [if_pos hc, hc]; simp; omega
    · rw [if_neg hc]
      have : (List.range ls.length).all (shP k ls) = false := by simpa using hc
      rw [this]; simp
  · have h1 := mostN_two hk1 i
    have h2 := mostN_le k i
    have h3 := hll _ (List.getElem_mem hi)
    unfold ref09_shaped_s0
    simp only
    have e : shP k ls i = decide (1 ≤ ls[i].length ∧ ls[i].length ≤ mostN k i ∧ (i + 1 < ls.length → mostN k i ≤ ls[i].length + 1)) := by unfold shP; rw [getD_lt hi]
    rw [e, if_pos (by omega), rdo_get hi, Option.bind_some, wi64_of (x := (ls.length : Int) - 1) (by omega) (by omega), wi64_of (x := (i : Int) + 1) (by omega) (by omega)]
    by_cases c1 : (ls[i].length : Int) < 1
    · rw [if_pos c1, decide_eq_false (by omega), if_neg (by simp)]
    · rw [if_neg c1, most_eq i (by omega), Option.bind_some]
      by_cases c2 : ((mostN k i : Nat) : Int) < (ls[i].length : Int)
      · rw [if_pos c2, decide_eq_false (by omega), if_neg (by simp)]
      · rw [if_neg c2]
        by_cases hlast : i + 1 = ls.length
        · rw [if_neg (by omega), decide_eq_true (by omega), if_pos rfl]; rfl
        · rw [if_pos (by omega), least_eq i (by omega), Option.bind_some]
          by_cases c3 : (ls[i].length : Int) < ((mostN k i - 1 : Nat) : Int)
          · rw [if_pos c3, decide_eq_false (by omega), if_neg (by simp)]
          · rw [if_neg c3, decide_eq_true (by omega), if_pos rfl]; rfl
  · unfold ref09_shaped_s0
    simp only
    rw [if_neg (by omega)]

/-! ### In turn -/
def goodB (u : Bool) (x : Int) (s : Sp) : Bool := if s.2 < s.1 then false else if s.1 < x then false else if 9223372036854775807 < s.2 then false else if u = true then decide (s.1 = s.2) else true
def levOk (u : Bool) (x : Int) (l : List Sp) : Bool := (List.range l.length).all fun j => goodB u (ahd x l j) (l.getD j (0, 0))
/-- The tick behind the levels from the last one down. -/
def topA (ls : List (List Sp)) : Nat → Int
  | 0 => 0
  | m + 1 => ahd (topA ls m) (ls.getD (ls.length - 1 - m) []) (ls.getD (ls.length - 1 - m) []).length
def turnP (ls : List (List Sp)) (m : Nat) : Bool := levOk (decide (ls.length - 1 - m = 0)) (topA ls m) (ls.getD (ls.length - 1 - m) [])
def turnB (ls : List (List Sp)) : Bool := (List.range ls.length).all (turnP ls)
theorem step_eq (x : Int) (ok u : Bool) (s : Sp) : check_walk_step (x, ok) s u = some (ok && goodB u x s) := by
  unfold check_walk_step goodB
  simp only
  by_cases c1 : s.2 < s.1
  · rw [if_pos c1, Option.bind_some, if_pos c1]; cases ok <;> rfl
  · rw [if_neg c1, if_neg c1]
    by_cases c2 : s.1 < x
    · rw [if_pos c2, Option.bind_some, if_pos c2]; cases ok <;> rfl
    · rw [if_neg c2, if_neg c2]
      by_cases c3 : 9223372036854775807 < s.2
      · rw [if_pos c3, Option.bind_some, if_pos c3]; cases ok <;> rfl
      · rw [if_neg c3, if_neg c3]
        cases u with
        | true =>
          rw [if_pos rfl, Option.bind_some, if_pos rfl]
          by_cases c4 : s.1 = s.2 <;> cases ok <;> simp [c4]
        | false =>
          simp only [Bool.false_eq_true, if_false, Option.bind_some]
          cases ok <;> simp
theorem all_range_succ (p : Nat → Bool) (n : Nat) : (List.range (n + 1)).all p = ((List.range n).all p && p n) := by rw [List.range_succ, List.all_append]; simp
theorem clevel {l : List Sp} (hl : l.length ≤ 2000) (i : Nat) (x : Int) (ok : Bool) : loopO (check_turned_s1 ((i : Int), x, ok) l) ((0 : Int), x, ok) = some (ahd x l l.length, ok && levOk (decide (i = 0)) x l) := by
  have := loopO_run (step := check_turned_s1 ((i : Int), x, ok) l) (r := (ahd x l l.length, ok && levOk (decide (i = 0)) x l)) (fun j => ((j : Int), ahd x l j, ok && (List.range j).all fun m => goodB (decide (i = 0)) (ahd x l m) (l.getD m (0, 0)))) l.length (fun j hj => ?_) ?_
  · simpa [ahd] using this
  · unfold check_turned_s1
    simp only
    have e0 : decide ((i : Int) = 0) = decide (i = 0) := decide_eq_decide.2 (by omega)
    rw [if_pos (by omega), rdo_get hj, Option.bind_some, e0, step_eq, Option.bind_some, wi64_of (by omega) (by omega), ahd_succ hj, all_range_succ, getD_lt hj, Bool.and_assoc]
    rfl
  · unfold check_turned_s1
    simp only
    rw [if_neg (by omega)]; rfl
theorem cturned_eq {K : Int} (hl : ls.length ≤ 100) (hll : ∀ l ∈ ls, l.length ≤ 2000) : check_turned (K, g, ls) = some (turnB ls) := by
  unfold check_turned
  simp only
  have e0 : wi64 ((ls.length : Int) - 1) = (ls.length : Int) - 1 := wi64_of (by omega) (by omega)
  have := loopO_run (step := check_turned_s0 (K, g, ls)) (r := (topA ls ls.length, turnB ls)) (fun m => ((ls.length : Int) - 1 - (m : Int), topA ls m, (List.range m).all (turnP ls))) ls.length (fun m hm => ?_) ?_
  · have h' : loopO (check_turned_s0 (K, g, ls)) ((ls.length : Int) - 1, (0 : Int), true) = some (topA ls ls.length, turnB ls) := by simpa [topA] using this
    rw [e0, h', Option.bind_some]
  · have hi : ls.length - 1 - m < ls.length := by omega
    unfold check_turned_s0
    simp only
    have ei : (ls.length : Int) - 1 - (m : Int) = ((ls.length - 1 - m : Nat) : Int) := by omega
    rw [ei, if_pos (by omega), rdo_get hi, Option.bind_some, clevel (hll _ (List.getElem_mem hi)), Option.bind_some, wi64_of (by omega) (by omega), all_range_succ]
    refine congrArg some (congrArg Sum.inl (Prod.ext ?_ (Prod.ext ?_ ?_)))
    · simp only; omega
    · simp only [topA]; rw [getD_lt hi]
    · simp only [turnP]; rw [getD_lt hi]
  · unfold check_turned_s0
    simp only
    rw [if_neg (by omega)]; rfl
theorem rlevel {K : Int} {i : Nat} (hi : i < ls.length) (hl : ls[i].length ≤ 2000) (x : Int) : loopO (ref09_turned_s1 (K, g, ls) (x, (i : Int))) (x, (0 : Int)) = some (if levOk (decide (i = 0)) x ls[i] then .inr (ahd x ls[i] ls[i].length) else .inl ()) := by
  have := loop_allS (step := ref09_turned_s1 (K, g, ls) (x, (i : Int))) (r0 := .inl ()) (r1 := .inr (ahd x ls[i] ls[i].length)) (fun j => (ahd x ls[i] j, (j : Int))) ls[i].length (fun j => goodB (decide (i = 0)) (ahd x ls[i] j) (ls[i].getD j (0, 0))) (fun j hj => ?_) ?_
  · exact this
  · unfold ref09_turned_s1
    simp only
    rw [rdo_get hi, Option.bind_some, if_pos (by omega), rdo_get hj, Option.bind_some, getD_lt hj, ahd_succ hj, wi64_of (by omega) (by omega)]
    unfold goodB
    by_cases c1 : ls[i][j].2 < ls[i][j].1
    · rw [if_pos c1, if_pos c1, if_neg (by simp)]
    · rw [if_neg c1, if_neg c1]
      by_cases c2 : ls[i][j].1 < ahd x ls[i] j
      · rw [if_pos c2, if_pos c2, if_neg (by simp)]
      · rw [if_neg c2, if_neg c2]
        by_cases c3 : 9223372036854775807 < ls[i][j].2
        · rw [if_pos c3, if_pos c3, if_neg (by simp)]
        · rw [if_neg c3, if_neg c3]
          by_cases c4 : i = 0
          · rw [if_pos (by omega), if_pos (decide_eq_true c4)]
            by_cases c5 : ls[i][j].1 = ls[i][j].2
            · rw [if_neg (by simpa using c5), decide_eq_true c5, if_pos rfl]; rfl
            · rw [if_pos c5, decide_eq_false c5, if_neg (by simp)]
          · rw [if_neg (by omega), decide_eq_false c4]
            simp only [Bool.false_eq_true, if_false, if_true]
            rfl
  · unfold ref09_turned_s1
    simp only
    rw [rdo_get hi, Option.bind_some, if_neg (by omega)]
theorem rturned_eq {K : Int} (hl : ls.length ≤ 100) (hll : ∀ l ∈ ls, l.length ≤ 2000) : ref09_turned (K, g, ls) = some (turnB ls) := by
  unfold ref09_turned
  simp only
  have e0 : wi64 ((ls.length : Int) - 1) = (ls.length : Int) - 1 := wi64_of (by omega) (by omega)
  have := loop_allS (step := ref09_turned_s0 (K, g, ls)) (r0 := .inl ()) (r1 := .inr ()) (fun m => (topA ls m, (ls.length : Int) - 1 - (m : Int))) ls.length (turnP ls) (fun m hm => ?_) ?_
  · have h' : loopO (ref09_turned_s0 (K, g, ls)) ((0 : Int), (ls.length : Int) - 1) = some (if (List.range ls.length).all (turnP ls) then .inr () else .inl ()) := by simpa [topA] using this
    rw [e0, h', Option.bind_some]
    unfold turnB
    cases (List.range ls.length).all (turnP ls) <;> rfl
  · have hi : ls.length - 1 - m < ls.length := by omega
    unfold ref09_turned_s0
    simp only
    have ei : (ls.length : Int) - 1 - (m : Int) = ((ls.length - 1 - m : Nat) : Int) := by omega
    rw [ei, if_pos (by omega), rlevel hi (hll _ (List.getElem_mem hi)), Option.bind_some]
    have ep : turnP ls m = levOk (decide (ls.length - 1 - m = 0)) (topA ls m) ls[ls.length - 1 - m] := by unfold turnP; rw [getD_lt hi]
    rw [ep]
    cases hq : levOk (decide (ls.length - 1 - m = 0)) (topA ls m) ls[ls.length - 1 - m] with
    | true =>
      rw [if_pos rfl, if_pos rfl]
      simp only [Sum.elim_inr]
      rw [wi64_of (by omega) (by omega)]
      refine congrArg some (congrArg Sum.inl (Prod.ext ?_ ?_))
      · simp only [topA]; rw [getD_lt hi]
      · simp only; omega
    | false => rw [if_neg (by simp), if_neg (by simp)]; rfl
  · unfold ref09_turned_s0
    simp only
    rw [if_neg (by omega)]

/-! ### All of it -/
theorem wt_lt {B : Nat} (h : ∀ l ∈ ls, l.length ≤ B) : wt ls + B ≤ B * 2 ^ ls.length := by
  induction ls with
  | nil => simp [wt]
  | cons l ls ih =>
    have h1 := ih (fun m hm => h m (List.mem_cons_of_mem _ hm))
    have h2 := h l List.mem_cons_self
    rw [wt, List.length_cons, Nat.pow_succ, ← Nat.mul_assoc]
    omega
def histC (K g : Int) (ls : List (List Sp)) : Int :=
  if ¬ confB K g = true then 9 else if ¬ shB K.toNat ls = true then 2 else if ¬ turnB ls = true then 2 else if ¬ wt ls ≤ 4503599627370496 then 2 else 0
theorem shB_len {n : Nat} (h : shB n ls = true) : ls.length ≤ 52 := by
  unfold shB at h
  simp only [Bool.and_eq_true, decide_eq_true_eq] at h
  exact h.2
theorem wt_small (hll : ∀ l ∈ ls, l.length ≤ 2000) (hl : ls.length ≤ 52) : wt ls < 18446744073709551616 := by
  have h1 := wt_lt hll
  have h2 : 2 ^ ls.length ≤ 2 ^ 52 := Nat.pow_le_pow_right (by decide) hl
  have h3 : 2000 * 2 ^ ls.length ≤ 2000 * 2 ^ 52 := Nat.mul_le_mul_left _ h2
  omega
theorem chist_eq {K : Int} (hl : ls.length ≤ 100) (hll : ∀ l ∈ ls, l.length ≤ 2000) : check_Hist (K, g, ls) = some (histC K g ls) := by
  unfold check_Hist histC check_light
  simp only
  rw [conf_eq, Option.bind_some]
  cases hc : confB K g with
  | false => rw [if_pos (by simp), if_pos (by simp)]
  | true =>
    rw [if_neg (by simp), if_neg (by simp)]
    unfold confB at hc
    rw [decide_eq_true_eq] at hc
    obtain ⟨k, rfl⟩ : ∃ k : Nat, K = (k : Int) := ⟨K.toNat, by omega⟩
    rw [cshaped_eq (by omega) (by omega) hl hll, Option.bind_some, Int.toNat_natCast]
    cases hs : shB k ls with
    | false => rw [if_pos (by simp), if_pos (by simp)]
    | true =>
      rw [if_neg (by simp), if_neg (by simp), cturned_eq hl hll, Option.bind_some]
      cases ht : turnB ls with
      | false => rw [if_pos (by simp), if_pos (by simp)]
      | true =>
        have hn := shB_len hs
        rw [if_neg (by simp), if_neg (by simp), htotal_eq (by omega) (wt_small hll hn) (fun l hl' => by have := hll l hl'; omega), Option.bind_some, Option.bind_some]
        by_cases hw : wt ls ≤ 4503599627370496
        · rw [decide_eq_true (by omega), if_neg (by simp), if_neg (by simpa using hw)]
        · rw [decide_eq_false (by omega), if_pos (by simp), if_pos hw]
theorem rhist_eq {K : Int} (hl : ls.length ≤ 100) (hll : ∀ l ∈ ls, l.length ≤ 2000) : ref09_Hist (K, g, ls) = some (histC K g ls) := by
  unfold ref09_Hist histC ref06_May
  simp only
  have hm : (if 2 ≤ K then (some (decide (K ≤ 1024))) else (some false) : Option Bool) = some (decide (2 ≤ K ∧ K ≤ 1024)) := by
    by_cases h : 2 ≤ K <;> simp [h]
  rw [hm, Option.bind_some]
  by_cases h1 : 2 ≤ K ∧ K ≤ 1024
  · rw [decide_eq_true h1, if_neg (by simp)]
    by_cases h2 : g < 0
    · rw [if_pos h2, if_pos (by unfold confB; simp; omega)]
    · rw [if_neg h2]
      by_cases h3 : 4 < g
      · rw [if_pos h3, if_pos (by unfold confB; simp; omega)]
      · rw [if_neg h3, if_neg (c := ¬ confB K g = true) (by unfold confB; simp; omega)]
        obtain ⟨k, rfl⟩ : ∃ k : Nat, K = (k : Int) := ⟨K.toNat, by omega⟩
        rw [rshaped_eq (by omega) (by omega) hl hll, Option.bind_some, Int.toNat_natCast]
        cases hs : shB k ls with
        | false => rw [if_pos (by simp), if_pos (by simp)]
        | true =>
          rw [if_neg (by simp), if_neg (by simp), rturned_eq hl hll, Option.bind_some]
          cases ht : turnB ls with
          | false => rw [if_pos (by simp), if_pos (by simp)]
          | true =>
            have hn := shB_len hs
            rw [if_neg (by simp), if_neg (by simp), total_eq (by omega) (wt_small hll hn) (fun l hl' => by have := hll l hl'; omega), Option.bind_some]
            by_cases hw : wt ls ≤ 4503599627370496
            · rw [if_neg (by omega), if_neg (by simpa using hw)]
            · rw [if_pos (by omega), if_pos hw]
  · rw [decide_eq_false h1, if_pos (by simp), if_pos (by unfold confB; simp; omega)]

/-! ### Buckets -/
def cnt : List (List Sp) → Nat
  | [] => 0
  | l :: ls => l.length + cnt ls
theorem cnt_append (a b : List (List Sp)) : cnt (a ++ b) = cnt a + cnt b := by
  induction a with
  | nil => simp [cnt]
  | cons l a ih => rw [List.cons_append, cnt, cnt, ih]; omega
theorem cnt_le {B : Nat} (h : ∀ l ∈ ls, l.length ≤ B) : cnt ls ≤ ls.length * B := by
  induction ls with
  | nil => simp [cnt]
  | cons l ls ih =>
    have h1 := ih (fun m hm => h m (List.mem_cons_of_mem _ hm))
    have h2 := h l List.mem_cons_self
    rw [cnt, List.length_cons, Nat.add_mul]
    omega
theorem buckets_eq {K : Int} (hl : ls.length ≤ 100) (hll : ∀ l ∈ ls, l.length ≤ 2000) : check_Buckets (K, g, ls) = some (cnt ls : Int) := by
  unfold check_Buckets
  have := loopO_run (step := check_Buckets_s0 (K, g, ls)) (r := (cnt ls : Int)) (fun i => ((cnt (ls.take i) : Int), (i : Int))) ls.length (fun i hi => ?_) ?_
  · have h' : loopO (check_Buckets_s0 (K, g, ls)) ((0 : Int), (0 : Int)) = some (cnt ls : Int) := by simpa [cnt] using this
    rw [h', Option.bind_some]
  · have h1 := hll _ (List.getElem_mem hi)
    have h2 := cnt_le (ls := ls.take i) (B := 2000) (fun l hl' => hll l (List.mem_of_mem_take hl'))
    rw [List.length_take] at h2
    have h3 : min i ls.length * 2000 ≤ 100 * 2000 := Nat.mul_le_mul_right _ (by omega)
    unfold check_Buckets_s0
    simp only
    rw [if_pos (by omega), rdo_get hi, Option.bind_some, wi64_of (by omega) (by omega), wi64_of (by omega) (by omega), take_get (List.getElem?_eq_getElem hi), cnt_append]
    refine congrArg some (congrArg Sum.inl (Prod.ext ?_ ?_))
    · simp only [cnt]; omega
    · simp only; omega
  · unfold check_Buckets_s0
    simp only
    rw [if_neg (by omega), List.take_length]
theorem rbuckets_eq {K : Int} (hl : ls.length ≤ 100) (hll : ∀ l ∈ ls, l.length ≤ 2000) : ref09_Buckets (K, g, ls) = some (cnt ls : Int) := buckets_eq hl hll
end

/-! ### Binary digits -/
def dg (n : Nat) : Nat := if h : n = 0 then 0 else 1 + dg (n / 2)
  termination_by n
  decreasing_by omega
theorem dg_zero : dg 0 = 0 := by rw [dg]; rfl
theorem dg_pos {n : Nat} (h : n ≠ 0) : dg n = 1 + dg (n / 2) := by rw [dg, dif_neg h]
def dgf : Nat → Nat → Nat
  | 0, _ => 0
  | f + 1, n => if n = 0 then 0 else 1 + dgf f (n / 2)
theorem dg_f : ∀ (f n : Nat), n < 2 ^ f → dg n = dgf f n := by
  intro f
  induction f with
  | zero => intro n h; have : n = 0 := by simpa using h
            rw [this, dg_zero]; rfl
  | succ f ih =>
    intro n h
    by_cases h0 : n = 0
    · rw [h0, dg_zero]; rfl
    · rw [dg_pos h0, ih _ (by rw [Nat.pow_succ] at h; omega), dgf, if_neg h0]
theorem dg_shift : ∀ (m n : Nat), 2 ^ m ≤ n → dg n = m + dg (n / 2 ^ m) := by
  intro m
  induction m with
  | zero => intro n _; simp
  | succ m ih =>
    intro n h
    rw [Nat.pow_succ] at h
    have hp : 0 < 2 ^ m := Nat.two_pow_pos m
    rw [dg_pos (by omega), ih (n / 2) (by omega), Nat.pow_succ, Nat.mul_comm (2 ^ m) 2, ← Nat.div_div_eq_div_mul]
    omega
theorem dg_le : ∀ (f n : Nat), n < 2 ^ f → dg n ≤ f := by
  intro f
  induction f with
  | zero => intro n h; have : n = 0 := by simpa using h
            rw [this, dg_zero]; exact Nat.le_refl _
  | succ f ih =>
    intro n h
    by_cases h0 : n = 0
    · rw [h0, dg_zero]; exact Nat.zero_le _
    · have := ih (n / 2) (by rw [Nat.pow_succ] at h; omega)
      rw [dg_pos h0]; omega
theorem dg_mono : ∀ (n m : Nat), n ≤ m → dg n ≤ dg m := by
  intro n
  induction n using Nat.strongRecOn with
  | _ n ih =>
    intro m h
    by_cases h0 : n = 0
    · rw [h0, dg_zero]; exact Nat.zero_le _
    · rw [dg_pos h0, dg_pos (n := m) (by omega)]
      have := ih (n / 2) (by omega) (m / 2) (by omega)
      omega
theorem dg_ge {n m : Nat} (h : 2 ^ m ≤ n) : m + 1 ≤ dg n := by
  have hp : 0 < 2 ^ m := Nat.two_pow_pos m
  rw [dg_shift m n h, dg_pos (by have := Nat.div_pos h hp; omega)]
  omega
theorem digits_fuel : ∀ (f n : Nat), n < 2 ^ f → n < 18446744073709551616 → f ≤ 999 → itR ref09_digits_F (f + 1) (n : Int) = some (dg n : Int) := by
  intro f
  induction f with
  | zero => intro n h _ _; have : n = 0 := by simpa using h
            subst this; rw [dg_zero]; rfl
  | succ f ih =>
    intro n h h64 hf
    rw [itR, ref09_digits_F]
    by_cases h0 : n = 0
    · subst h0; rw [dg_zero]; rfl
    · have e : ((n : Int)).tdiv 2 = ((n / 2 : Nat) : Int) := tdiv_n n 2
      have hlt : n / 2 < 2 ^ f := by rw [Nat.pow_succ] at h; omega
      have hd := dg_le f (n / 2) hlt
      rw [if_neg (by omega), e, wu64_of (by omega) (by omega), ih (n / 2) hlt (by omega) (by omega), Option.bind_some, wi64_of (by omega) (by omega), dg_pos h0]
      rfl
set_option exponentiation.threshold 1000 in
theorem digits_eq {n : Nat} (h : n < 18446744073709551616) : ref09_digits (n : Int) = some (dg n : Int) := by
  unfold ref09_digits
  have h2 : (2 : Nat) ^ 64 ≤ 2 ^ 999 := Nat.pow_le_pow_right (by decide) (by decide)
  exact digits_fuel 999 n (by omega) h (Nat.le_refl _)
theorem tab_all : ∀ x : Fin 256, rdb bs0 (x.val : Int) = some ((dgf 8 x.val : Nat) : Int) := by decide +kernel
theorem tab {x : Nat} (h : x < 256) : rdb bs0 (x : Int) = some (dg x : Int) := by
  rw [dg_f 8 x h]
  exact tab_all ⟨x, h⟩
theorem shrk_n (n b : Nat) (h : b ≤ 64) : shrk 64 (n : Int) (b : Int) = ((n / 2 ^ b : Nat) : Int) := by
  unfold shrk
  rw [Int.toNat_natCast, Nat.min_eq_left h, Int.fdiv_eq_ediv_of_nonneg _ (by exact Int.le_of_lt (Int.pow_pos (by decide)))]
  simp
theorem len64_eq {n : Nat} (h : n < 18446744073709551616) : bits_Len64 (n : Int) = some (dg n : Int) := by
  have hd := dg_le 64 n h
  unfold bits_Len64
  obtain ⟨a, b, ha, hb, hab, e3⟩ : ∃ a b : Nat, a < 4294967296 ∧ (b = 0 ∨ b = 32) ∧ dg n = b + dg a ∧ (if 4294967296 ≤ (n : Int) then (some ((shrk 64 (n : Int) 32, (32 : Int)))) else (some (((n : Int), (0 : Int)))) : Option (Int × Int)) = some ((a : Int), (b : Int)) := by
    by_cases c : 4294967296 ≤ n
    · refine ⟨n / 2 ^ 32, 32, by omega, .inr rfl, dg_shift 32 n (by omega), ?_⟩
      rw [if_pos (by omega)]
      have := shrk_n n 32 (by decide)
      rw [show ((32 : Nat) : Int) = 32 from rfl] at this
      rw [this]; rfl
    · exact ⟨n, 0, by omega, .inl rfl, by omega, by rw [if_neg (by omega)]; rfl⟩
  rw [e3, Option.bind_some]
  simp only
  obtain ⟨a', b', ha', hb', hab', e4⟩ : ∃ a' b' : Nat, a' < 65536 ∧ b' ≤ 48 ∧ dg n = b' + dg a' ∧ (if 65536 ≤ (a : Int) then (some ((shrk 64 (a : Int) 16, wi64 ((b : Int) + 16)))) else (some (((a : Int), (b : Int)))) : Option (Int × Int)) = some ((a' : Int), (b' : Int)) := by
    by_cases c : 65536 ≤ a
    · refine ⟨a / 2 ^ 16, b + 16, by omega, by omega, by have := dg_shift 16 a (by omega); omega, ?_⟩
      rw [if_pos (by omega)]
      have := shrk_n a 16 (by decide)
      rw [show ((16 : Nat) : Int) = 16 from rfl] at this
      rw [this, wi64_of (by omega) (by omega)]; rfl
    · exact ⟨a, b, by omega, by omega, hab, by rw [if_neg (by omega)]⟩
  rw [e4, Option.bind_some]
  simp only
  by_cases c : 256 ≤ a'
  · have e8 := shrk_n a' 8 (by decide)
    rw [show ((8 : Nat) : Int) = 8 from rfl] at e8
    have h8 := dg_shift 8 a' (by omega)
    have hlt : a' / 2 ^ 8 < 256 := by omega
    rw [if_pos (by omega), e8, wu8_of (by omega) (by omega), tab hlt, Option.bind_some, wi64_of (x := (b' : Int) + 8) (by omega) (by omega), wi64_of (x := ((dg (a' / 2 ^ 8) : Nat) : Int)) (by omega) (by omega), wi64_of (by omega) (by omega)]
    congr 1; omega
  · rw [if_neg (by omega), wu8_of (by omega) (by omega), tab (by omega), Option.bind_some, wi64_of (x := ((dg a' : Nat) : Int)) (by omega) (by omega), wi64_of (by omega) (by omega)]
    congr 1; omega
/-- How many buckets there are at most. -/
def boundC (K g : Int) (n : Nat) : Int := if n = 0 then 0 else if ¬ confB K g = true then 0 else (K + 1) * ((dg n : Int) + g)
theorem confB_spec {K g : Int} : confB K g = true ↔ 2 ≤ K ∧ K ≤ 1024 ∧ 0 ≤ g ∧ g ≤ 4 := by unfold confB; rw [decide_eq_true_eq]
theorem bound_small {K g : Int} {n : Nat} (h : n < 18446744073709551616) (hc : confB K g = true) : 0 ≤ (K + 1) * ((dg n : Int) + g) ∧ (K + 1) * ((dg n : Int) + g) ≤ 1025 * 68 := by
  obtain ⟨h1, h2, h3, h4⟩ := confB_spec.1 hc
  have hd := dg_le 64 n h
  exact ⟨Int.mul_nonneg (by omega) (by omega), Int.mul_le_mul (by omega) (by omega) (by omega) (by omega)⟩
theorem cbound_eq {K g : Int} {n : Nat} (h : n < 18446744073709551616) : check_Bound K g (n : Int) = some (boundC K g n) := by
  unfold check_Bound boundC
  by_cases h0 : n = 0
  · rw [if_pos (by omega), if_pos h0]
  · rw [if_neg (by omega), if_neg h0, conf_eq, Option.bind_some]
    cases hc : confB K g with
    | false => rw [if_pos (by simp), if_pos (by simp)]
    | true =>
      have hb := bound_small h hc
      obtain ⟨h1, h2, h3, h4⟩ := confB_spec.1 hc
      have hd := dg_le 64 n h
      rw [if_neg (by simp), if_neg (by simp), len64_eq h, Option.bind_some, wi64_of (x := K + 1) (by omega) (by omega), wi64_of (x := (dg n : Int) + g) (by omega) (by omega), wi64_of (by omega) (by omega)]
theorem rbound_eq {K g : Int} {n : Nat} (h : n < 18446744073709551616) : ref09_Bound K g (n : Int) = some (boundC K g n) := by
  unfold ref09_Bound boundC ref06_May
  have hm : (if 2 ≤ K then (some (decide (K ≤ 1024))) else (some false) : Option Bool) = some (decide (2 ≤ K ∧ K ≤ 1024)) := by
    by_cases h : 2 ≤ K <;> simp [h]
  by_cases h0 : n = 0
  · rw [if_pos (by omega), if_pos h0]
  · rw [if_neg (by omega), if_neg h0, hm, Option.bind_some]
    by_cases h1 : 2 ≤ K ∧ K ≤ 1024
    · rw [decide_eq_true h1, if_neg (by simp)]
      by_cases h2 : g < 0
      · rw [if_pos h2, if_pos (fun q => by have := confB_spec.1 q; omega)]
      · rw [if_neg h2]
        by_cases h3 : 4 < g
        · rw [if_pos h3, if_pos (fun q => by have := confB_spec.1 q; omega)]
        · have hc : confB K g = true := confB_spec.2 (by omega)
          have hb := bound_small h hc
          have hd := dg_le 64 n h
          rw [if_neg h3, if_neg (c := ¬ confB K g = true) (by simp [hc]), digits_eq h, Option.bind_some, wi64_of (x := K + 1) (by omega) (by omega), wi64_of (x := (dg n : Int) + g) (by omega) (by omega), wi64_of (by omega) (by omega)]
    · rw [decide_eq_false h1, if_pos (by simp), if_pos (fun q => by have := confB_spec.1 q; omega)]

/-! ### One that was made may be -/
theorem good_shaped {k : Nat} {ls : List (List Sp)} {t : Int} (h : Good k ls t) : shB k ls = true := by
  unfold shB
  rw [Bool.and_eq_true, decide_eq_true_eq, List.all_eq_true]
  refine ⟨fun i hi => ?_, h.levels⟩
  have hi' := List.mem_range.1 hi
  obtain ⟨s1, s2, s3⟩ := shape_get h.shape i hi'
  rw [Nat.zero_add] at s2 s3
  unfold shP
  rw [getD_lt hi', decide_eq_true_eq]
  exact ⟨s1, s2, s3⟩
theorem topA_le {k : Nat} {ls : List (List Sp)} {t : Int} (h : Good k ls t) : ∀ m, m ≤ ls.length → ∀ j (hj : j < ls.length), j + m < ls.length → ∀ a ∈ ls[j], topA ls m ≤ a.1 := by
  intro m
  cases m with
  | zero => intro _ j hj _ a ha; exact (h.pos _ (List.getElem_mem hj) a ha).1
  | succ m =>
    intro hm j hj hjm a ha
    have hi : ls.length - 1 - m < ls.length := by omega
    have hne := shape_ne h.shape _ (List.getElem_mem hi)
    rw [topA, getD_lt hi]
    rcases ahd_end (x := topA ls m) (l := ls[ls.length - 1 - m]) with ⟨q, _⟩ | ⟨b, hb, hq⟩
    · exact absurd q hne
    · rw [hq]; exact turn_levels h.turn (by omega) hi b hb a ha
theorem good_turned {k : Nat} {ls : List (List Sp)} {t : Int} (h : Good k ls t) (hu : Units ls) (ht : t ≤ 9223372036854775807) : turnB ls = true := by
  unfold turnB
  rw [List.all_eq_true]
  intro m hm
  have hm' := List.mem_range.1 hm
  have hi : ls.length - 1 - m < ls.length := by omega
  unfold turnP levOk
  rw [getD_lt hi, List.all_eq_true]
  intro j hj
  have hj' := List.mem_range.1 hj
  have hin := turn_level h.turn _ (List.getElem_mem hi)
  rw [getD_lt hj']
  unfold goodB
  have h1 := ahd_le hin (topA_le h m (by omega) _ hi (by omega)) hj'
  have h2 := hin.2 _ (List.getElem_mem hj')
  have h3 := (h.pos _ (List.getElem_mem hi) _ (List.getElem_mem hj')).2
  rw [if_neg (by omega), if_neg (by omega), if_neg (by omega)]
  split
  · rename_i q
    rw [decide_eq_true_eq] at q ⊢
    refine hu ls[ls.length - 1 - m] ?_ _ (List.getElem_mem hj')
    rw [← List.getElem?_eq_getElem hi, q]
  · rfl
theorem good_may {k : Nat} {ls : List (List Sp)} {t : Int} (hk2 : 2 ≤ k) (hk : k ≤ 1024) (h : Good k ls t) (hu : Units ls) (ht : t ≤ 9223372036854775807) : check_Hist ((k : Int), 0, ls) = some 0 := by
  have hl := h.levels
  rw [chist_eq (by omega) (fun l hl' => by have := shape_len h.shape l hl'; omega)]
  unfold histC
  rw [if_neg (by simp [confB_spec.2 (show 2 ≤ (k : Int) ∧ (k : Int) ≤ 1024 ∧ (0 : Int) ≤ 0 ∧ (0 : Int) ≤ 4 by omega)]), Int.toNat_natCast, if_neg (by simp [good_shaped h]), if_neg (by simp [good_turned h hu ht]), if_neg (by simpa using h.wt)]
end Go.Proofs.Ytbnjjpmlaknaoaa.Pu
namespace Go.Proofs.Ytbnjjpmlaknaoaa.Pu
set_option linter.unusedVariables false

theorem made_awake9 : madeM 0 [(1, 4)] = [[(1, 1), (1, 1)], [(1, 1)]] := by
  have e1 : addL 2 [] 1 4 = [[(1, 1), (1, 1)], [(1, 1)]] := flow_of (n := 8) rfl
  unfold madeM
  rw [kM_zero]
  show madeS 2 [(1, 4)] 0 [] = _
  rw [madeS, show (0 : Int) + 1 % 1000 = 1 from rfl, show addC [] 1 4 = 0 from rfl, if_pos rfl, e1, madeS]
theorem deeds_awake9 : Deeds [(1, 4)] := by intro d hd; simp at hd; subst hd; decide
theorem awake9 : law09_awake = some true := by
  unfold law09_awake law09_made
  have hg := made_good 0 deeds_awake9
  have hu := made_units 0 [(1, 4)]
  have hm := good_may (by decide) (by decide) hg hu (by decide)
  rw [kM_zero, made_awake9] at hm
  rw [made_eq (by decide) deeds_awake9, Option.bind_some, kM_zero, made_awake9]
  simp only [Option.bind_some]
  rw [hm, Option.bind_some, if_pos rfl, chist_eq (by decide) (by decide), Option.bind_some, if_pos (by decide), buckets_eq (by decide) (by decide), Option.bind_some, if_pos (by decide)]
  have hb := cbound_eq (K := 2) (g := 0) (n := 4) (by decide)
  have hb' : check_Bound (2 : Int) (0 : Int) (4 : Int) = some 9 := by
    rw [show ((4 : Nat) : Int) = 4 from rfl] at hb
    rw [hb]
    unfold boundC
    rw [if_neg (by decide), if_neg (by decide), dg_f 3 4 (by decide)]
    rfl
  rw [hb', Option.bind_some, if_pos rfl, chist_eq (by decide) (by decide), Option.bind_some]
  decide
theorem law09_CheckMade_true (p1 : Int) (p2 : List (Int × Int)) (p3 : Int × Int) (h1 : I64 p1) (h2 : p2.length ≤ 9223372036854775807 ∧ Deeds p2) (h3 : U64 p3.1 ∧ U64 p3.2) : law09_CheckMade p1 p2 p3 = some true := by
  obtain ⟨a, b⟩ := p3
  obtain ⟨⟨ha1, ha2⟩, hb1, hb2⟩ := h3
  obtain ⟨_, hd⟩ := h2
  simp only at ha1 ha2 hb1 hb2
  have hg := made_good p1 hd
  have hk := kM_le p1
  have hl := good_len (by omega) hg
  have hlv := hg.levels
  have hu := made_units p1 p2
  unfold law09_CheckMade law09_made
  rw [awake9, Option.bind_some, made_eq h1.2 hd, Option.bind_some, Option.bind_some, if_pos rfl]
  simp only
  rw [good_may (by omega) (by omega) hg hu (by decide), Option.bind_some, if_pos rfl, drop_eq hb1 ha2 hl (by omega), Option.bind_some, good_may (by omega) (by omega) (hg.drop (oldS_mono a b)) hu.drop (by decide)]
  rfl
theorem few_eq {K g : Int} {ls : List (List Sp)} (hl : ls.length ≤ 9223372036854775807) (hll : ∀ l ∈ ls, l.length ≤ 9223372036854775807) : ∃ b, ref09_Few (K, g, ls) = some b ∧ (b = true → ls.length ≤ 60 ∧ ∀ l ∈ ls, l.length ≤ 40) := by
  have := loop_allS (step := ref09_Few_s0 (K, g, ls)) (r0 := .inl ()) (r1 := .inr ()) (fun i => (i : Int)) (min ls.length 61) (fun i => decide ((ls.getD i []).length ≤ 40)) (fun i hi => ?_) ?_
  · have h' : loopO (ref09_Few_s0 (K, g, ls)) (0 : Int) = some (if (List.range (min ls.length 61)).all (fun i => decide ((ls.getD i []).length ≤ 40)) then .inr () else .inl ()) := this
    unfold ref09_Few
    rw [h', Option.bind_some]
    cases hc : (List.range (min ls.length 61)).all (fun i => decide ((ls.getD i []).length ≤ 40)) with
    | false => exact ⟨false, rfl, fun q => by cases q⟩
    | true =>
      refine ⟨decide ((ls.length : Int) ≤ 60), rfl, fun q => ?_⟩
      rw [decide_eq_true_eq] at q
      refine ⟨by omega, fun l hl' => ?_⟩
      obtain ⟨i, hi, rfl⟩ := List.getElem_of_mem hl'
      have := List.all_eq_true.1 hc i (List.mem_range.2 (by omega))
      rw [decide_eq_true_eq, getD_lt hi] at this
      exact this
  · have hi2 : i < ls.length := by omega
    unfold ref09_Few_s0
    simp only
    rw [if_pos (by omega), if_pos (by omega), rdo_get hi2, Option.bind_some, getD_lt hi2, wi64_of (by omega) (by omega)]
    by_cases c : 40 < ls[i].length
    · rw [if_pos (by omega), decide_eq_false (by omega), if_neg (by simp)]
    · rw [if_neg (by omega), decide_eq_true (by omega), if_pos rfl]; rfl
  · unfold ref09_Few_s0
    simp only
    by_cases c : ls.length ≤ 61
    · rw [if_neg (by omega)]
    · rw [if_neg (c := ((min ls.length 61 : Nat) : Int) < 61) (by omega), ite_self]
theorem law09_CheckTells_true (p1 : Int × Int × List (List Sp)) (p2 : Int × Int) (p3 : Int) (h1 : I64 p1.1 ∧ I64 p1.2.1 ∧ (p1.2.2.length ≤ 9223372036854775807 ∧ ∀ l ∈ p1.2.2, (l.length ≤ 9223372036854775807 ∧ ∀ x ∈ l, U64 x.1 ∧ U64 x.2))) (h2 : I64 p2.1 ∧ I64 p2.2) (h3 : U64 p3) : law09_CheckTells p1 p2 p3 = some true := by
  obtain ⟨K, g, ls⟩ := p1
  obtain ⟨k0, k1⟩ := p2
  obtain ⟨_, _, hl, hll⟩ := h1
  simp only at hl hll
  obtain ⟨b, hb, hb2⟩ := few_eq (K := K) (g := g) hl (fun l hl' => (hll l hl').1)
  unfold law09_CheckTells law09_made
  rw [awake9, Option.bind_some, hb, Option.bind_some]
  cases b with
  | false => rw [if_pos (by simp)]
  | true =>
    obtain ⟨c1, c2⟩ := hb2 rfl
    have c3 : ∀ l ∈ ls, l.length ≤ 2000 := fun l hl' => by have := c2 l hl'; omega
    obtain ⟨n, rfl⟩ : ∃ n : Nat, p3 = (n : Int) := ⟨p3.toNat, by have := h3.1; omega⟩
    have hn : n < 18446744073709551616 := by have := h3.2; omega
    rw [if_neg (by simp), if_pos rfl, Option.bind_some, chist_eq (by omega) c3, Option.bind_some, rhist_eq (by omega) c3, Option.bind_some, if_pos rfl, buckets_eq (by omega) c3, Option.bind_some, rbuckets_eq (by omega) c3, Option.bind_some, if_pos rfl, cbound_eq hn, Option.bind_some, rbound_eq hn, Option.bind_some]
    simp
theorem boundC_mono {K g : Int} {n m : Nat} (h : n ≤ m) : boundC K g n ≤ boundC K g m := by
  unfold boundC
  by_cases hc : confB K g = true
  · obtain ⟨h1, h2, h3, h4⟩ := confB_spec.1 hc
    rw [if_neg (c := ¬ confB K g = true) (by simp [hc]), if_neg (c := ¬ confB K g = true) (by simp [hc])]
    by_cases h0 : n = 0
    · rw [if_pos h0]
      split
      · exact Int.le_refl _
      · exact Int.mul_nonneg (by omega) (by omega)
    · have := dg_mono n m h
      rw [if_neg h0, if_neg (by omega)]
      exact Int.mul_le_mul_of_nonneg_left (by omega) (by omega)
  · rw [if_pos (c := ¬ confB K g = true) hc, if_pos (c := ¬ confB K g = true) hc]
    split <;> split <;> exact Int.le_refl _
theorem law09_CheckGrows_true (p1 p2 : Int) (p3 : Int × Int) (h1 : I64 p1) (h2 : I64 p2) (h3 : U64 p3.1 ∧ U64 p3.2) : law09_CheckGrows p1 p2 p3 = some true := by
  obtain ⟨a, b⟩ := p3
  obtain ⟨⟨ha1, ha2⟩, hb1, hb2⟩ := h3
  obtain ⟨hp1, hp2⟩ := h1
  obtain ⟨hq1, hq2⟩ := h2
  simp only at ha1 ha2 hb1 hb2
  have e1 : (max p1 0).tmod 1023 = max p1 0 % 1023 := Int.tmod_eq_emod_of_nonneg (by omega)
  have e2 : (max p2 0).tmod 4 = max p2 0 % 4 := Int.tmod_eq_emod_of_nonneg (by omega)
  have e3 : a.tmod 4611686018427387904 = a % 4611686018427387904 := Int.tmod_eq_emod_of_nonneg ha1
  obtain ⟨x, hx⟩ : ∃ x, x = 2 + max p1 0 % 1023 := ⟨_, rfl⟩
  obtain ⟨g, hg⟩ : ∃ g, g = max p2 0 % 4 := ⟨_, rfl⟩
  obtain ⟨n, hn⟩ : ∃ n : Nat, 1 + a % 4611686018427387904 = (n : Int) := ⟨(1 + a % 4611686018427387904).toNat, by omega⟩
  have hx0 : 2 ≤ x ∧ x ≤ 1024 := by omega
  have hg0 : 0 ≤ g ∧ g ≤ 3 := by omega
  have hn0 : 1 ≤ n ∧ n ≤ 4611686018427387904 := by omega
  have em : min a b = ((min a b).toNat : Int) := by omega
  have eM : max a b = ((max a b).toNat : Int) := by omega
  have hc0 : confB x g = true := confB_spec.2 (by omega)
  have hc1 : confB x (g + 1) = true := confB_spec.2 (by omega)
  have d2 : dg (2 * n) = 1 + dg n := by rw [dg_pos (by omega)]; congr 2; omega
  have b0 : boundC x g n = (x + 1) * ((dg n : Int) + g) := by unfold boundC; rw [if_neg (by omega), if_neg (by simp [hc0])]
  have b1 : boundC x g (2 * n) = boundC x g n + x + 1 := by
    rw [b0]; unfold boundC; rw [if_neg (by omega), if_neg (by simp [hc0]), d2]
    rw [show (((1 + dg n : Nat) : Int) + g) = ((dg n : Int) + g) + 1 by omega, Int.mul_add, Int.mul_one]; omega
  have b2 : boundC x (g + 1) n = boundC x g n + x + 1 := by
    rw [b0]; unfold boundC; rw [if_neg (by omega), if_neg (by simp [hc1])]
    rw [show ((dg n : Int) + (g + 1)) = ((dg n : Int) + g) + 1 by omega, Int.mul_add, Int.mul_one]; omega
  have hbs := bound_small (n := n) (by omega) hc0
  rw [← b0] at hbs
  have hz := cbound_eq (K := x) (g := g) (n := 0) (by decide)
  have hz' : check_Bound x g 0 = some 0 := hz
  have hmono := boundC_mono (K := x) (g := g) (n := (min a b).toNat) (m := (max a b).toNat) (by omega)
  unfold law09_CheckGrows
  rw [awake9, Option.bind_some]
  simp only
  rw [e1, e2, e3, ← hx, ← hg, hn, wi64_of (x := x) (by omega) (by omega), wu64_of (x := (n : Int)) (by omega) (by omega), em, eM, cbound_eq (by omega), Option.bind_some, cbound_eq (by omega), Option.bind_some, cbound_eq (by omega), Option.bind_some, if_pos trivial, if_pos hmono]
  have e5 : wu64 (2 * (n : Int)) = ((2 * n : Nat) : Int) := by rw [wu64_of (by omega) (by omega)]; omega
  rw [e5, cbound_eq (by omega), Option.bind_some, wi64_of (x := boundC x g n + x) (by omega) (by omega), wi64_of (x := boundC x g n + x + 1) (by omega) (by omega), b1, if_pos rfl, wi64_of (x := g + 1) (by omega) (by omega), cbound_eq (by omega), Option.bind_some, b2, if_pos rfl, hz', Option.bind_some]
  rfl

/-! ### SMALL -/
theorem bound_loop {f w : Int} (hw0 : 0 ≤ w) (hf : f < 18446744073709551616) {k : Nat} (hk1 : 1 ≤ k) (hk : k ≤ 1048576) {p2 : List (Int × Int)} (hd : Deeds p2) : ∀ (ds : List (Int × Int)) (i : Nat) (t t0 : Int) (ls : List (List Sp)) (n : Nat), ds = (p2.take 30).drop i → 0 ≤ t → t ≤ 1000 * i → t0 ≤ t → Good k ls t0 → n ≤ wt ls →
    loopO (law09_CheckBound_s0 p2 (f, w)) (t, (n : Int), (i : Int), (k : Int), 0, ls) = some (((exactS f w k ds t ls n : Nat) : Int), (k : Int), 0, madeS k ds t ls) := by
  intro ds
  induction ds with
  | nil =>
    intro i t t0 ls n hds h0 hti ht hg hn
    have hi : p2.length ≤ i ∨ 30 ≤ i := by
      have := congrArg List.length hds
      simp only [List.length_nil, List.length_drop, List.length_take] at this
      omega
    apply loopO_done
    unfold law09_CheckBound_s0
    simp only
    rcases hi with h | h
    · rw [if_neg (by omega)]; rfl
    · rw [if_neg (c := (i : Int) < 30) (by omega), ite_self]; rfl
  | cons d ds ih =>
    intro i t t0 ls n hds h0 hti ht hg hn
    have hi : i < (p2.take 30).length := by
      have := congrArg List.length hds
      simp only [List.length_cons, List.length_drop] at this
      omega
    have hi2 : i < p2.length ∧ i < 30 := by rw [List.length_take] at hi; omega
    rw [List.drop_eq_getElem_cons hi] at hds
    obtain ⟨hd1, hd2⟩ := List.cons.inj hds
    rw [List.getElem_take] at hd1
    have hmem := hd d (hd1 ▸ List.getElem_mem hi2.1)
    have e1 : d.1.tmod 1000 = d.1 % 1000 := Int.tmod_eq_emod_of_nonneg hmem.1.1
    have hlt : d.1 % 1000 < 1000 := Int.emod_lt_of_pos _ (by decide)
    have hge : 0 ≤ d.1 % 1000 := Int.emod_nonneg _ (by decide)
    have e2 : wu64 (t + d.1 % 1000) = t + d.1 % 1000 := wu64_of (by omega) (by omega)
    have hadd := add_eq (k := k) (g := 0) (t := t + d.1 % 1000) (w := d.2) hk1 hk hg (by omega) hmem.2.1 hmem.2.2
    have hwt := hg.wt
    have how : wiT f w (t + d.1 % 1000) = !oldT f w (t + d.1 % 1000) := by
      unfold wiT oldT
      rw [← decide_not]
      exact decide_eq_decide.2 (by omega)
    rw [exactS, madeS]
    by_cases hc : addC ls (t + d.1 % 1000) d.2 = 0
    · have hg' := hg.addL hk1 (by omega) hmem.2.1 hc
      have hz := addC_zero hc
      have hwt' : wt (addL k ls (t + d.1 % 1000) d.2) = wt ls + d.2.toNat := by unfold addL; rw [wt_flow, List.length_replicate]
      have hstep : law09_CheckBound_s0 p2 (f, w) (t, (n : Int), (i : Int), (k : Int), 0, ls) = some (.inl (t + d.1 % 1000, ((if wiT f w (t + d.1 % 1000) then n + d.2.toNat else n : Nat) : Int), ((i + 1 : Nat) : Int), (k : Int), 0, addL k ls (t + d.1 % 1000) d.2)) := by
        unfold law09_CheckBound_s0
        simp only
        rw [if_pos (by omega), if_pos (by omega), rdo_get hi2.1, Option.bind_some, ← hd1, e1, e2, hadd, Option.bind_some, wi64_of (by omega) (by omega)]
        simp only [if_pos hc, if_true]
        rw [rold_eq hw0 hf, Option.bind_some, how]
        cases ho : oldT f w (t + d.1 % 1000) with
        | true =>
          rw [if_neg (by simp)]; rfl
        | false =>
          rw [if_pos (by simp), wu64_of (by omega) (by omega)]
          refine congrArg some (congrArg Sum.inl (Prod.ext rfl (Prod.ext ?_ rfl)))
          simp only [Bool.not_false, if_true]; omega
      rw [loopO_next hstep, if_pos hc, if_pos hc]
      refine ih (i + 1) _ _ _ _ hd2 (by omega) (by omega) (Int.le_refl _) hg' ?_
      rw [hwt']
      split <;> omega
    · have hstep : law09_CheckBound_s0 p2 (f, w) (t, (n : Int), (i : Int), (k : Int), 0, ls) = some (.inl (t + d.1 % 1000, (n : Int), ((i + 1 : Nat) : Int), (k : Int), 0, ls)) := by
        unfold law09_CheckBound_s0
        simp only
        rw [if_pos (by omega), if_pos (by omega), rdo_get hi2.1, Option.bind_some, ← hd1, e1, e2, hadd, Option.bind_some, wi64_of (by omega) (by omega)]
        simp only [if_neg hc]
        rfl
      rw [loopO_next hstep, if_neg hc, if_neg hc]
      exact ih (i + 1) _ t0 _ _ hd2 (by omega) (by omega) (by omega) hg hn
theorem wt_take_ge {k : Nat} (hk : 2 ≤ k) {ls : List (List Sp)} (h : shape k 0 ls) : ∀ m, 1 ≤ m → m < ls.length → 2 ^ m ≤ wt (ls.take m) := by
  intro m
  induction m with
  | zero => intro h0; omega
  | succ m ih =>
    intro _ hm
    obtain ⟨s1, s2, s3⟩ := shape_get h m (by omega)
    have s4 := s3 hm
    rw [Nat.zero_add] at s4
    rw [wt_take_succ ls (by omega)]
    by_cases h0 : m = 0
    · subst h0
      unfold mostN at s4
      rw [if_pos rfl] at s4
      simp only [List.take_zero, wt, Nat.pow_zero, Nat.one_mul]
      omega
    · have h1 := ih (by omega) (by omega)
      have h2 : 2 ^ m * 1 ≤ 2 ^ m * ls[m].length := Nat.mul_le_mul_left _ s1
      rw [Nat.pow_succ]
      omega
theorem left_bound {f w : Int} {k : Nat} (hk : 2 ≤ k) {ls : List (List Sp)} {t : Int} (h : Good k ls t) {G : List (List Gs)} (g1 : bare G = ls) (g2 : okL f w 0 G) : cnt (dropM (oldS f w) ls) ≤ (k + 1) * dg (tot G) := by
  obtain ⟨d, hd⟩ : ∃ d, d = dropM (oldS f w) ls := ⟨_, rfl⟩
  rw [← hd]
  have hgd := h.drop (oldS_mono f w)
  rw [← hd] at hgd
  have hdl := dropM_length (oldS f w) ls
  rw [← hd] at hdl
  have hc := cnt_le (ls := d) (B := k + 1) (shape_len hgd.shape)
  have hle := good_line h
  have hGl : ∀ l ∈ G, ∀ x ∈ l, x.1.1 ≤ x.1.2 := fun l hl x hx => hle (l.map (·.1)) (by rw [← g1]; exact List.mem_map.2 ⟨l, hl, rfl⟩) x.1 (List.mem_map.2 ⟨x, hx, rfl⟩)
  suffices hm : d.length ≤ dg (tot G) by
    have h1 : d.length * (k + 1) ≤ dg (tot G) * (k + 1) := Nat.mul_le_mul_right _ hm
    rw [Nat.mul_comm (k + 1)]
    omega
  rcases Nat.eq_zero_or_pos d.length with h0 | hpos
  · omega
  -- the last level's newest bucket is not old
  obtain ⟨m, hm⟩ : ∃ m, d.length = m + 1 := ⟨d.length - 1, by omega⟩
  have hmd : m < d.length := by omega
  have hml : m < ls.length := by omega
  have hst := stay_eq (oldS_mono f w) h.turn (shape_ne h.shape) hml
  rw [← hd, List.getElem?_eq_getElem hmd] at hst
  have hst' : d[m] = ls[m].dropWhile (oldS f w) := hst
  have hne := shape_ne hgd.shape _ (List.getElem_mem hmd)
  obtain ⟨b, hb, hbo⟩ : ∃ b ∈ ls[m], oldS f w b = false := by
    rw [hst', ← lead_drop] at hne
    have hlt : lead (oldS f w) ls[m] < ls[m].length := by
      rcases Nat.lt_or_ge (lead (oldS f w) ls[m]) ls[m].length with q | q
      · exact q
      · exact absurd (List.drop_of_length_le q) hne
    exact ⟨_, List.getElem_mem hlt, lead_at hlt⟩
  have how : ∀ x, oldT f w x = false → wiT f w x = true := fun x hx => by
    unfold wiT oldT at *
    rw [decide_eq_false_iff_not] at hx
    rw [decide_eq_true_eq]; omega
  have hbw : wiT f w b.2 = true := how _ hbo
  obtain ⟨i1, i2⟩ := all_parts hGl g2
  rw [g1] at i1 i2
  simp only [Nat.pow_zero, Nat.one_mul] at i1 i2
  rcases Nat.eq_zero_or_pos m with z | z
  · -- one level: one unit at least
    subst z
    have ht : 1 ≤ tot G := by
      have hG0 : 0 < G.length := by have := congrArg List.length g1; simp [bare] at this; omega
      obtain ⟨l0, G', rfl⟩ : ∃ l0 G', G = l0 :: G' := by
        cases G with
        | nil => simp at hG0
        | cons l G => exact ⟨l, G, rfl⟩
      have hb' : b ∈ l0.map (·.1) := by
        have : ls[0]'hml = l0.map (·.1) := by simp only [← g1]; rfl
        rw [this] at hb; exact hb
      obtain ⟨x, hx, rfl⟩ := List.mem_map.1 hb'
      obtain ⟨o1, o2, o3⟩ := g2.1 x hx
      have hx1 : 1 ≤ x.2 := by
        cases q : wiT f w x.1.1 with
        | true => rw [o1 q]; exact Nat.le_refl _
        | false => exact (o3 q hbw).1
      have hs : x.2 ≤ sumL l0 := by
        obtain ⟨s, r, rfl⟩ := List.append_of_mem hx
        rw [sumL_app, sumL_cons]; omega
      rw [tot]; omega
    have := dg_ge (n := tot G) (m := 0) ht
    omega
  · -- all levels below are within
    have hsure : ∀ l ∈ ls.take m, ∀ a ∈ l, sureP f w a = true := fun l hl a ha => by
      obtain ⟨i, hi, rfl⟩ := List.getElem_of_mem hl
      rw [List.length_take] at hi
      rw [List.getElem_take] at ha
      exact wiT_up (turn_levels h.turn (show i < m by omega) hml b hb a ha) hbw
    have h1 := wtP_all hsure
    have h2 := wtP_take_le (sureP f w) ls m
    have h3 := wt_take_ge hk h.shape m z hml
    have := dg_ge (n := tot G) (m := m) (by omega)
    omega
theorem law09_CheckBound_true (p1 : Int) (p2 : List (Int × Int)) (p3 : Int × Int) (h1 : I64 p1) (h2 : p2.length ≤ 9223372036854775807 ∧ Deeds p2) (h3 : U64 p3.1 ∧ U64 p3.2) : law09_CheckBound p1 p2 p3 = some true := by
  obtain ⟨a, b⟩ := p3
  obtain ⟨⟨ha1, ha2⟩, hb1, hb2⟩ := h3
  obtain ⟨_, hd⟩ := h2
  simp only at ha1 ha2 hb1 hb2
  have hg := made_good p1 hd
  have hk := kM_le p1
  have hl := good_len (by omega) hg
  have hlv := hg.levels
  obtain ⟨G, g1, g2, g3⟩ := ghost_made (tick := a) (span := b) p1 hd
  have hlb := left_bound (f := a) (w := b) (by omega) hg g1 g2
  have hGl : ∀ l ∈ G, ∀ x ∈ l, x.1.1 ≤ x.1.2 := fun l hl x hx => good_line hg (l.map (·.1)) (by rw [← g1]; exact List.mem_map.2 ⟨l, hl, rfl⟩) x.1 (List.mem_map.2 ⟨x, hx, rfl⟩)
  obtain ⟨i1, i2⟩ := all_parts hGl g2
  rw [g1] at i1 i2
  rw [g3] at hlb i1 i2
  have b1 := wtP_le (sureP a b) (madeM p1 p2)
  have b2 := wtP_le (cutP a b) (madeM p1 p2)
  have hwt := hg.wt
  have hgd := hg.drop (oldS_mono a b)
  simp only [Nat.pow_zero, Nat.one_mul] at i1 i2
  have hloop := bound_loop (f := a) (w := b) hb1 ha2 (k := kM p1) (by omega) (by omega) hd _ 0 0 0 [] 0 rfl (Int.le_refl 0) (by simp) (Int.le_refl 0) (Good.nil _ 0) (Nat.zero_le _)
  have h' : loopO (law09_CheckBound_s0 p2 (a, b)) ((0 : Int), (0 : Int), (0 : Int), (kM p1 : Int), (0 : Int), ([] : List (List Sp))) = some (((exactS a b (kM p1) (p2.take 30) 0 [] 0 : Nat) : Int), (kM p1 : Int), 0, madeM p1 p2) := hloop
  generalize exactS a b (kM p1) (p2.take 30) 0 [] 0 = R at *
  unfold law09_CheckBound law09_made
  rw [awake9, Option.bind_some, kM_new p1 h1.2, h', Option.bind_some, Option.bind_some]
  simp only
  rw [drop_eq hb1 ha2 hl (by omega), Option.bind_some, if_pos trivial, buckets_eq (by have := hgd.levels; omega) (fun l hl' => by have := shape_len hgd.shape l hl'; omega), Option.bind_some, cbound_eq (by omega), Option.bind_some]
  have hcb : confB (kM p1 : Int) 0 = true := confB_spec.2 (by omega)
  have hB : boundC (kM p1 : Int) 0 R = (((kM p1 + 1) * dg R : Nat) : Int) := by
    unfold boundC
    by_cases h0 : R = 0
    · rw [if_pos h0, h0, dg_zero]; simp
    · rw [if_neg h0, if_neg (by simp [hcb])]
      simp
  rw [hB, if_pos (Int.ofNat_le.2 hlb)]
  by_cases h0 : 0 < R
  · rw [if_pos (by omega)]
  · have hR0 : R = 0 := by omega
    rw [if_neg (by omega)]
    rw [hR0, dg_zero, Nat.mul_zero] at hlb
    congr 1
    rw [decide_eq_true_eq]
    omega
end Go.Proofs.Ytbnjjpmlaknaoaa.Pu
