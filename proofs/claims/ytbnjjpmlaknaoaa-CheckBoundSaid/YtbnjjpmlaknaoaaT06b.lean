/- The laws of chapter 06, in plain words: units, one by one; the shape. -/
import Derived.Test.YtbnjjpmlaknaoaaT06
import Derived.Test.YtbnjjpmlaknaoaaT05b
import Derived.Test.YtbnjjpmlaknaoaaT07b
namespace Go.Proofs.Ytbnjjpmlaknaoaa.Pu
set_option linter.unusedVariables false

/-- What comes in two is as what comes at once. -/
theorem flow_two (k : Nat) : ∀ i ls F1, ∀ F2, flow k i (flow k i ls F1) F2 = flow k i ls (F1 ++ F2) := by
  apply flow_ind k (P := fun i ls F1 => ∀ F2, flow k i (flow k i ls F1) F2 = flow k i ls (F1 ++ F2))
  · intro i F2; rw [flow_nil]; rfl
  · intro i ls F1 h ih F2
    have h2 : ¬ (ls = [] ∧ F1 ++ F2 = []) := fun q => h ⟨q.1, (List.append_eq_nil_iff.1 q.2).1⟩
    rw [flow_step k i ls F1 h, flow_step k i _ F2 (fun q => by cases q.1), flow_step k i ls (F1 ++ F2) h2]
    simp only [List.headD_cons, List.tail_cons]
    rw [ih, stays_two (mostN_pos k i), ← goes_two (mostN_pos k i), ← List.append_assoc]
theorem addL_succ (k : Nat) (ls : List (List Sp)) (t : Int) (n : Nat) : addL k ls t ((n + 1 : Nat) : Int) = flow k 0 (addL k ls t (n : Int)) [(t, t)] := by
  unfold addL
  rw [Int.toNat_natCast, Int.toNat_natCast, flow_two, show ([(t, t)] : List Sp) = List.replicate 1 (t, t) from rfl, List.replicate_append_replicate]
/-- One unit comes. -/
theorem unit_loop {k : Nat} {g : Int} {ls0 : List (List Sp)} (hk1 : 1 ≤ k) (hk : k ≤ 900) : ∀ i ls F, ∀ (out : List (List Sp)), F.length ≤ 1 → ls = ls0.drop i → shape k i ls → out.length = i → out.length + (flow k i ls F).length ≤ 1000 →
    loopO (ref06_Unit_s0 ((k : Int), g, ls0)) (F, (i : Int), out) = some (out ++ flow k i ls F) := by
  apply flow_ind k (P := fun i ls F => ∀ (out : List (List Sp)), F.length ≤ 1 → ls = ls0.drop i → shape k i ls → out.length = i → out.length + (flow k i ls F).length ≤ 1000 →
    loopO (ref06_Unit_s0 ((k : Int), g, ls0)) (F, (i : Int), out) = some (out ++ flow k i ls F))
  · intro i out _ hls1 _ ho hb
    have hi : ls0.length ≤ i := by have := congrArg List.length hls1; simp at this; omega
    rw [flow_nil, List.append_nil]
    apply loopO_done
    unfold ref06_Unit_s0
    simp only [List.length_nil]
    rw [if_neg (by simp), Option.bind_some, if_neg (by simp only [decide_eq_true_eq]; omega)]
  · intro i ls F hne ih out hF hls1 hsh ho hb
    rw [flow_step k i ls F hne] at hb ⊢
    have hmp := mostN_pos k i
    have hml := mostN_le k i
    have hlm : (ls.headD []).length ≤ mostN k i := by
      cases ls with
      | nil => simp
      | cons l t => exact hsh.2.1
    have hsh' : shape k (i + 1) ls.tail := by
      cases ls with
      | nil => trivial
      | cons l t => exact hsh.2.2.2
    have hcond : (if 0 < ((F.length : Int)) then (some true) else (some (decide ((i : Int) < ((ls0.length : Int))))) : Option Bool) = some true := by
      by_cases h1 : 0 < F.length
      · rw [if_pos (by omega)]
      · rw [if_neg (by omega)]
        congr 1
        rw [decide_eq_true_eq]
        rcases Nat.lt_or_ge i ls0.length with q | q
        · omega
        · exact absurd ⟨by rw [hls1, List.drop_of_length_le q], List.length_eq_zero_iff.1 (by omega)⟩ hne
    have hstep : ref06_Unit_s0 ((k : Int), g, ls0) (F, (i : Int), out) = some (.inl (goes (mostN k i) (ls.headD [] ++ F), ((i + 1 : Nat) : Int), out ++ [stays (mostN k i) (ls.headD [] ++ F)])) := by
      unfold ref06_Unit_s0
      simp only
      rw [hcond, Option.bind_some, if_pos rfl, at_eq, Option.bind_some, ← hls1]
      match F, hF with
      | [], _ =>
        simp only [List.length_cons] at hb
        rw [if_neg (by simp), room_of (by simp; omega) (by simp; omega), Option.bind_some, List.append_nil, stays_few hlm, goes_few hlm, wi64_of (by omega) (by omega)]
        rfl
      | [s], _ =>
        simp only [List.length_cons] at hb
        have r0 : rdo ([s] : List Sp) 0 = some s := rfl
        rw [if_pos (by simp), r0, Option.bind_some, most_eq i (by omega), Option.bind_some, one_eq hmp hlm (by omega), Option.bind_some]
        simp only
        rw [room_of (by simp; omega) (by simp; omega), Option.bind_some, wi64_of (by omega) (by omega)]
        rfl
    have hgl : (goes (mostN k i) (ls.headD [] ++ F)).length ≤ 1 := by
      rw [goes_len hmp, List.length_append]
      unfold npr; omega
    rw [loopO_next hstep, ih _ hgl (by rw [hls1, List.tail_drop]) hsh' (by simp [ho]) (by simp only [List.length_append, List.length_cons, List.length_nil] at hb ⊢; omega), List.append_assoc]
    rfl
theorem unit_eq {k : Nat} {g t t0 : Int} {ls : List (List Sp)} (hk1 : 1 ≤ k) (hk : k ≤ 900) (h : Good k ls t0) (ht : t0 ≤ t) (h0 : 0 ≤ t) (hw : wt ls + 1 ≤ 4503599627370496) : ref06_Unit ((k : Int), g, ls) t = some (flow k 0 ls [(t, t)]) := by
  have hg := h.add hk1 1 h0 ht hw
  have hl := hg.levels
  have hr : List.replicate 1 (t, t) = ([(t, t)] : List Sp) := rfl
  rw [hr] at hl
  unfold ref06_Unit
  have := unit_loop (k := k) (g := g) (ls0 := ls) hk1 hk 0 ls [(t, t)] [] (by simp) rfl h.shape rfl (by simp only [List.length_nil]; omega)
  have h' : loopO (ref06_Unit_s0 ((k : Int), g, ls)) ([(t, t)], (0 : Int), ([] : List (List Sp))) = some (flow k 0 ls [(t, t)]) := by simpa using this
  rw [h', Option.bind_some]
theorem last_le_made {p1 : Int} {p2 : List (Int × Int)} (hd : Deeds p2) : (lastP (madeM p1 p2)).1 ≤ 30000 := (made_good p1 hd).lastP_le (by decide)
theorem law06_HistUnits_true (p1 : Int) (p2 : List (Int × Int)) (p3 : Int × Int) (h1 : I64 p1) (h2 : p2.length ≤ 9223372036854775807 ∧ Deeds p2) (h3 : U64 p3.1 ∧ U64 p3.2) : law06_HistUnits p1 p2 p3 = some true := by
  obtain ⟨a, b⟩ := p3
  obtain ⟨⟨ha1, ha2⟩, hb1, hb2⟩ := h3
  obtain ⟨_, hd⟩ := h2
  simp only at ha1 ha2 hb1 hb2
  have hg := made_good p1 hd
  have hk := kM_le p1
  have hl := good_len (by omega) hg
  have hlv := hg.levels
  have hwt := hg.wt
  have ea : a.tmod 1000 = a % 1000 := Int.tmod_eq_emod_of_nonneg ha1
  have a0 : 0 ≤ a % 1000 := Int.emod_nonneg _ (by decide)
  have a1 : a % 1000 < 1000 := Int.emod_lt_of_pos _ (by decide)
  obtain ⟨n, hn⟩ : ∃ n : Nat, b.tmod 60 + 1 = (n : Int) := ⟨(b % 60).toNat + 1, by rw [Int.tmod_eq_emod_of_nonneg hb1]; omega⟩
  have hn1 : 1 ≤ n ∧ n ≤ 60 := by have := Int.tmod_eq_emod_of_nonneg (b := 60) hb1; omega
  have hL0 := hg.lastP_pos
  have hL1 := last_le_made (p1 := p1) hd
  obtain ⟨L, hL⟩ : ∃ L, L = (lastP (madeM p1 p2)).1 := ⟨_, rfl⟩
  rw [← hL] at hL0 hL1
  obtain ⟨t, ht⟩ : ∃ t, t = L + a % 1000 := ⟨_, rfl⟩
  unfold law06_HistUnits law06_same
  rw [awake6, Option.bind_some, played_eq h1.2 hd, Option.bind_some]
  simp only
  rw [last_eq hl, Option.bind_some, ea, hn, ← hL, ← ht, wu64_of (x := t) (by omega) (by omega), wu64_of (x := (n : Int)) (by omega) (by omega), hadd_eq (by omega) (by omega) hg (by omega) (by omega) (by omega), Option.bind_some]
  have hlast : ∀ x, lastM (madeM p1 p2) = some x → x = L := fun x hx => by rw [hL, lastP_some hx]
  by_cases hc : addC (madeM p1 p2) t n = 0
  · simp only [if_pos hc]
    have hz := addC_zero hc
    have hst : ∀ j : Nat, j ≤ n → Good (kM p1) (addL (kM p1) (madeM p1 p2) t (j : Int)) t := fun j hj => by
      unfold addL
      rw [Int.toNat_natCast]
      cases hx : lastM (madeM p1 p2) with
      | none =>
        rw [hg.none hx] at hz ⊢
        exact (Good.nil _ t).add (by omega) j (by omega) (Int.le_refl _) (by have := hz.2.2.2; simp [Pu.wt] at this ⊢; omega)
      | some x => exact (hg.tight hx).add (by omega) j (by omega) (by rw [hlast x hx]; omega) (by omega)
    have hwj : ∀ j : Nat, wt (addL (kM p1) (madeM p1 p2) t (j : Int)) = wt (madeM p1 p2) + j := fun j => by unfold addL; rw [wt_flow, List.length_replicate, Int.toNat_natCast]
    have hloop : loopO (law06_HistUnits_s0 (a, b) (lastP (madeM p1 p2))) ((0 : Int), (kM p1 : Int), (0 : Int), madeM p1 p2) = some ((kM p1 : Int), 0, addL (kM p1) (madeM p1 p2) t (n : Int)) := by
      have e0 : addL (kM p1) (madeM p1 p2) t ((0 : Nat) : Int) = madeM p1 p2 := by
        unfold addL
        rw [Int.toNat_natCast]
        show flow (kM p1) 0 (madeM p1 p2) [] = _
        have hsh := hg.shape
        generalize madeM p1 p2 = ls at hsh
        have key : ∀ (ls : List (List Sp)) (i : Nat), shape (kM p1) i ls → flow (kM p1) i ls [] = ls := by
          intro ls
          induction ls with
          | nil => intro i _; exact flow_nil _ _
          | cons l ls ih =>
            intro i hs
            rw [flow_step _ _ _ _ (fun q => by cases q.1)]
            simp only [List.headD_cons, List.tail_cons, List.append_nil]
            rw [stays_few hs.2.1, goes_few hs.2.1, ih _ hs.2.2.2]
        exact key ls 0 hsh
      have := loopO_run (step := law06_HistUnits_s0 (a, b) (lastP (madeM p1 p2))) (r := ((kM p1 : Int), 0, addL (kM p1) (madeM p1 p2) t (n : Int))) (fun j => ((j : Int), (kM p1 : Int), (0 : Int), addL (kM p1) (madeM p1 p2) t (j : Int))) n (fun j hj => ?_) ?_
      · have this' : loopO (law06_HistUnits_s0 (a, b) (lastP (madeM p1 p2))) (((0 : Nat) : Int), (kM p1 : Int), (0 : Int), addL (kM p1) (madeM p1 p2) t ((0 : Nat) : Int)) = some ((kM p1 : Int), 0, addL (kM p1) (madeM p1 p2) t (n : Int)) := this
        rw [e0] at this'
        exact this'
      · unfold law06_HistUnits_s0
        simp only
        rw [ea, hn, ← hL, ← ht, wu64_of (x := t) (by omega) (by omega), wu64_of (x := (n : Int)) (by omega) (by omega), if_pos (by omega), unit_eq (by omega) (by omega) (hst j (by omega)) (Int.le_refl _) (by omega) (by rw [hwj]; omega), Option.bind_some, wu64_of (by omega) (by omega), addL_succ]
        rfl
      · unfold law06_HistUnits_s0
        simp only
        rw [hn, wu64_of (x := (n : Int)) (by omega) (by omega), if_neg (by omega)]
    rw [if_neg (by simp), hloop, Option.bind_some, if_pos trivial, if_pos trivial, same6_eq (by have := (hst n (Nat.le_refl _)).levels; omega) (good_len (by omega) (hst n (Nat.le_refl _)))]
    simp
  · simp only [if_neg hc]
    rw [if_pos hc, if_pos trivial, if_pos trivial, total_eq (by omega) (by omega) (fun l hl' => by have := hl l hl'; omega), Option.bind_some, wu64_of (by omega) (by omega)]
    congr 1
    rw [decide_eq_true_eq]
    unfold addC at hc
    rw [if_neg (by omega)] at hc
    have hn6 : ¬ (9223372036854775807 < t ∨ ((lastM (madeM p1 p2)).any fun x => decide (t < x)) = true) := by
      rintro (q | q)
      · omega
      · cases hx : lastM (madeM p1 p2) with
        | none => rw [hx] at q; cases q
        | some x =>
          rw [hx] at q
          simp only [Option.any_some, decide_eq_true_eq] at q
          have := hlast _ hx
          omega
    rw [if_neg hn6] at hc
    by_cases h5 : 4503599627370496 < (n : Int) + wt (madeM p1 p2)
    · omega
    · rw [if_neg h5] at hc
      exact absurd rfl hc

/-! ### The shape -/
/-- The lowest level's buckets are units. -/
def Units (ls : List (List Sp)) : Prop := ∀ l, ls[0]? = some l → ∀ a ∈ l, a.1 = a.2
theorem Units.addL {k : Nat} {ls : List (List Sp)} {t w : Int} (h : Units ls) : Units (addL k ls t w) := by
  intro l hl a ha
  unfold Pu.addL at hl
  by_cases hc : ls = [] ∧ List.replicate w.toNat ((t, t) : Sp) = []
  · rw [hc.1, hc.2, flow_nil] at hl; cases hl
  · rw [flow_step _ _ _ _ hc] at hl
    simp only [List.getElem?_cons_zero, Option.some.injEq] at hl
    rw [← hl] at ha
    rcases List.mem_append.1 (List.mem_of_mem_drop ha) with q | q
    · cases ls with
      | nil => cases q
      | cons m ls => exact h m rfl a q
    · rw [List.eq_of_mem_replicate q]
theorem madeS_units (k : Nat) : ∀ (ds : List (Int × Int)) (t : Int) (ls : List (List Sp)), Units ls → Units (madeS k ds t ls) := by
  intro ds
  induction ds with
  | nil => intro t ls h; rw [madeS]; exact h
  | cons d ds ih =>
    intro t ls h
    rw [madeS]
    apply ih
    split
    · exact h.addL
    · exact h
theorem made_units (p : Int) (ds : List (Int × Int)) : Units (madeM p ds) := madeS_units _ _ _ _ (fun l hl => by cases hl)
theorem Units.drop {old : Sp → Bool} {ls : List (List Sp)} (h : Units ls) : Units (dropM old ls) := by
  intro l hl a ha
  cases ls with
  | nil => cases hl
  | cons m ls =>
    rw [dropM] at hl
    split at hl
    · cases hl
    · simp only [List.getElem?_cons_zero, Option.some.injEq] at hl
      rw [← hl] at ha
      exact h m rfl a ((List.dropWhile_sublist _).subset ha)
/-- The buckets of a higher level are older. -/
theorem turn_levels {ls : List (List Sp)} (h : InTurn (line ls)) : ∀ {i j : Nat} (hij : i < j) (hj : j < ls.length), ∀ a ∈ ls[j], ∀ b ∈ ls[i], a.2 ≤ b.1 := by
  induction ls with
  | nil => intro i j _ hj; simp at hj
  | cons l ls ih =>
    rw [line] at h
    intro i j hij hj a ha b hb
    obtain ⟨j', rfl⟩ : ∃ j', j = j' + 1 := ⟨j - 1, by omega⟩
    simp only [List.length_cons] at hj
    rw [List.getElem_cons_succ] at ha
    cases i with
    | zero => exact (InTurn.app.1 h).2.2 a (mem_line.2 ⟨_, List.getElem_mem (by omega), ha⟩) b hb
    | succ i => exact ih h.left (by omega) (by omega) a ha b hb
/-- The tick behind which the next bucket must begin. -/
def ahd (x : Int) (l : List Sp) : Nat → Int
  | 0 => x
  | j + 1 => (l.getD j (0, 0)).2
theorem ahd_succ {x : Int} {l : List Sp} {j : Nat} (h : j < l.length) : ahd x l (j + 1) = l[j].2 := by
  show (l.getD j (0, 0)).2 = _
  rw [List.getD_eq_getElem?_getD, List.getElem?_eq_getElem h]; rfl
theorem ahd_le {x : Int} {l : List Sp} (hin : InTurn l) (hx : ∀ a ∈ l, x ≤ a.1) {j : Nat} (hj : j < l.length) : ahd x l j ≤ l[j].1 := by
  cases j with
  | zero => exact hx _ (List.getElem_mem hj)
  | succ j => rw [ahd_succ (by omega)]; exact List.pairwise_iff_getElem.1 hin.1 j (j + 1) (by omega) hj (by omega)
theorem ahd_end {x : Int} {l : List Sp} : (l = [] ∧ ahd x l l.length = x) ∨ ∃ a ∈ l, ahd x l l.length = a.2 := by
  cases l with
  | nil => exact .inl ⟨rfl, rfl⟩
  | cons a t => exact .inr ⟨(a :: t)[t.length], List.getElem_mem (by simp), ahd_succ (by simp)⟩
theorem shape_inner {x : Int} {i : Nat} {l : List Sp} (hl : l.length ≤ 1099511627776) (hin : InTurn l) (hx : ∀ a ∈ l, x ≤ a.1) (hu : i = 0 → ∀ a ∈ l, a.1 = a.2) :
    loopO (law06_HistShape_s1 (x, (i : Int)) l) (x, (0 : Int)) = some (.inr (ahd x l l.length)) := by
  refine loopO_run (fun j => (ahd x l j, (j : Int))) l.length (fun j hj => ?_) ?_
  · unfold law06_HistShape_s1
    simp only
    have h1 := ahd_le hin hx hj
    have h2 := hin.2 _ (List.getElem_mem hj)
    rw [if_pos (by omega), rdo_get hj, Option.bind_some, if_neg (by omega), if_neg (by omega), wi64_of (by omega) (by omega), ahd_succ hj]
    by_cases h0 : i = 0
    · rw [if_pos (by omega), if_neg (by rw [hu h0 _ (List.getElem_mem hj)]; simp)]; rfl
    · rw [if_neg (by omega)]; rfl
  · unfold law06_HistShape_s1
    simp only
    rw [if_neg (by omega)]
theorem shapes_loop {k : Nat} (hk : k ≤ 10000) {ls : List (List Sp)} {t : Int} (h : Good k ls t) (hu : Units ls) {g g' : Int} {x : List (List Sp)} {k' : Int} {b : Bool} : loopO (law06_HistShape_s0 ((k : Int), g, ls, k', g', x, b)) ((0 : Int), wi64 ((ls.length : Int) - 1)) = some (.inr ()) := by
  have hlv := h.levels
  rw [wi64_of (by omega) (by omega)]
  obtain ⟨r, hr, hp⟩ := loopO_to (step := law06_HistShape_s0 ((k : Int), g, ls, k', g', x, b)) (fun n (s : Int × Int) => s.2 = (n : Int) - 1 ∧ n ≤ ls.length ∧ ∀ j (hj : j < ls.length), j < n → ∀ a ∈ ls[j], s.1 ≤ a.1) (fun r => r = .inr ()) (fun n s hs => by
    obtain ⟨ahead, i⟩ := s
    obtain ⟨h1, h2, h3⟩ := hs
    simp only at h1 h3
    cases n with
    | zero =>
      right
      refine ⟨.inr (), ?_, rfl⟩
      unfold law06_HistShape_s0
      simp only
      rw [if_neg (by omega)]
    | succ n =>
      left
      have hi : i = (n : Int) := by omega
      subst hi
      have hn : n < ls.length := by omega
      have hll := shape_len h.shape _ (List.getElem_mem hn)
      have hy := shape_inner (x := ahead) (i := n) (l := ls[n]) (by omega) (turn_level h.turn _ (List.getElem_mem hn)) (h3 n hn (by omega)) (fun h0 => by subst h0; exact hu _ (List.getElem?_eq_getElem hn))
      have hyp := ahd_end (x := ahead) (l := ls[n])
      obtain ⟨y, hy0⟩ : ∃ y, y = ahd ahead ls[n] ls[n].length := ⟨_, rfl⟩
      rw [← hy0] at hy hyp
      obtain ⟨s1, s2, s3⟩ := shape_get h.shape n hn
      rw [Nat.zero_add] at s2 s3
      have hml := mostN_le k n
      refine ⟨(y, (n : Int) - 1), ?_, n, by omega, by simp, by omega, ?_⟩
      · unfold law06_HistShape_s0
        simp only
        have hcond : ((if ((ls[n].length : Int)) < 1 then (some true) else ((ref05_Most (k : Int) (n : Int)).bind fun (r39 : Int) => if r39 < ((ls[n].length : Int)) then (some true) else (if ¬ ((n : Int) = (wi64 (((ls.length : Int)) - 1))) then ((ref05_Least (k : Int) (n : Int)).bind fun (r40 : Int) => some (decide (((ls[n].length : Int)) < r40))) else (some false)))) : Option Bool) = some false := by
          rw [if_neg (by omega), most_eq n (by omega), Option.bind_some, if_neg (by omega), wi64_of (by omega) (by omega)]
          by_cases hl : n + 1 < ls.length
          · have := s3 hl
            rw [if_pos (by omega), least_eq n (by omega), Option.bind_some, decide_eq_false (by omega)]
          · rw [if_neg (by omega)]
        rw [if_pos (by omega), rdo_get hn, Option.bind_some, hcond, Option.bind_some, if_neg (by simp), hy, Option.bind_some]
        simp only [Sum.elim_inr]
        rw [wi64_of (by omega) (by omega)]
      · intro j hj hjn b hb
        simp only
        rcases hyp with ⟨q, _⟩ | ⟨a, ha, rfl⟩
        · rw [q] at s1; simp at s1
        · exact turn_levels h.turn hjn hn a ha b hb) ls.length ((0 : Int), (ls.length : Int) - 1) ⟨rfl, Nat.le_refl _, fun j hj _ a ha => (h.pos _ (List.getElem_mem hj) a ha).1⟩
  rw [hr, hp]
theorem law06_HistShape_true (p1 : Int) (p2 : List (Int × Int)) (h1 : I64 p1) (h2 : p2.length ≤ 9223372036854775807 ∧ Deeds p2) : law06_HistShape p1 p2 = some true := by
  obtain ⟨_, hd⟩ := h2
  have hg := made_good p1 hd
  have hk := kM_le p1
  unfold law06_HistShape
  rw [awake6, Option.bind_some, played_eq h1.2 hd, Option.bind_some]
  simp only
  rw [shapes_loop (by omega) hg (made_units p1 p2)]
  simp
end Go.Proofs.Ytbnjjpmlaknaoaa.Pu
