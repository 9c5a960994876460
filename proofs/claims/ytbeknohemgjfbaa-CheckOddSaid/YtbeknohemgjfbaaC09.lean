/- Histograms as lists: what the reference makes; whether levels may be a histogram. (Out of the texts of round a.) -/
import Derived.Test.YtbeknohemgjfbaaH3
namespace Go.Proofs.Ytbeknohemgjfbaa.Pu
set_option linter.unusedVariables false

def kM (p : Int) : Nat := 2 + (max p 0).toNat % 30
theorem kM_le (p : Int) : 2 ≤ kM p ∧ kM p ≤ 31 := by unfold kM; omega
/-- Deeds, one by one. -/
def madeS (k : Nat) : List (Int × Int) → Int → List (List Sp) → List (List Sp)
  | [], _, ls => ls
  | d :: ds, t, ls => madeS k ds (t + d.1 % 1000) (if addC ls (t + d.1 % 1000) d.2 = 0 then addL k ls (t + d.1 % 1000) d.2 else ls)
def madeM (p : Int) (ds : List (Int × Int)) : List (List Sp) := madeS (kM p) (ds.take 30) 0 []
/-- Deeds whose numbers may be. -/
def Deeds (ds : List (Int × Int)) : Prop := ∀ d ∈ ds, (0 ≤ d.1 ∧ d.1 < 18446744073709551616) ∧ 0 ≤ d.2 ∧ d.2 < 18446744073709551616
theorem madeS_good {k : Nat} (hk : 1 ≤ k) : ∀ {ds : List (Int × Int)} {t t0 : Int} {ls : List (List Sp)}, Deeds ds → 0 ≤ t → t0 ≤ t → Good k ls t0 → Good k (madeS k ds t ls) (t + 1000 * ds.length) := by
  intro ds
  induction ds with
  | nil => intro t t0 ls _ _ h h2; rw [madeS]; exact h2.later (by simpa using h)
  | cons d ds ih =>
    intro t t0 ls hd h0 ht hg
    rw [madeS]
    have hd1 := hd d List.mem_cons_self
    have hlt : d.1 % 1000 < 1000 := Int.emod_lt_of_pos _ (by decide)
    have hge : 0 ≤ d.1 % 1000 := Int.emod_nonneg _ (by decide)
    have hg' : Good k (if addC ls (t + d.1 % 1000) d.2 = 0 then addL k ls (t + d.1 % 1000) d.2 else ls) (t + d.1 % 1000) := by
      split
      · rename_i h; exact hg.addL hk (by omega) hd1.2.1 h
      · exact hg.later (by omega)
    have := ih (fun e he => hd e (List.mem_cons_of_mem _ he)) (by omega) (Int.le_refl _) hg'
    refine this.later ?_
    simp only [List.length_cons]
    omega
theorem Deeds.take {ds : List (Int × Int)} (h : Deeds ds) (n : Nat) : Deeds (ds.take n) := fun d hd => h d (List.mem_of_mem_take hd)
theorem made_good (p : Int) {ds : List (Int × Int)} (h : Deeds ds) : Good (kM p) (madeM p ds) 30000 := by
  have := madeS_good (k := kM p) (by have := kM_le p; omega) (h.take 30) (Int.le_refl 0) (Int.le_refl 0) (Good.nil (kM p) 0)
  refine this.later ?_
  rw [List.length_take]
  omega
theorem made_loop {k : Nat} (hk1 : 1 ≤ k) (hk : k ≤ 1048576) {p2 : List (Int × Int)} (hd : Deeds p2) : ∀ (ds : List (Int × Int)) (i : Nat) (t t0 : Int) (ls : List (List Sp)), ds = (p2.take 30).drop i → 0 ≤ t → t ≤ 1000 * i → t0 ≤ t → Good k ls t0 →
    loopO (ref06_Made_s0 p2) (t, (i : Int), (k : Int), 0, ls) = some ((k : Int), 0, madeS k ds t ls) := by
  intro ds
  induction ds with
  | nil =>
    intro i t t0 ls hds h0 hti ht hg
    have hi : p2.length ≤ i ∨ 30 ≤ i := by
      have := congrArg List.length hds
      simp only [List.length_nil, List.length_drop, List.length_take] at this
      omega
    apply loopO_done
    unfold ref06_Made_s0
    simp only
    rcases hi with h | h
    · rw [if_neg (by omega)]; rfl
    · rw [if_neg (c := (i : Int) < 30) (by omega), ite_self]; rfl
  | cons d ds ih =>
    intro i t t0 ls hds h0 hti ht hg
    have hi : i < (p2.take 30).length := by
      have := congrArg List.length hds
      simp only [List.length_cons, List.length_drop] at this
      omega
    have hi2 : i < p2.length ∧ i < 30 := by rw [List.length_take] at hi; omega
    rw [List.drop_eq_getElem_cons hi] at hds
    obtain ⟨hd1, hd2⟩ := List.cons.inj hds
    rw [List.getElem_take] at hd1
    have hmem := hd d (hd1 ▸ List.getElem_mem hi2.1)
    have e1 : d.1.tmod 1000 = d.1 % 1000 := Int.tmod_eq_emod_of_nonneg hmem.1.1
    have hlt : d.1 % 1000 < 1000 := Int.emod_lt_of_pos _ (by decide)
    have hge : 0 ≤ d.1 % 1000 := Int.emod_nonneg _ (by decide)
    have e2 : wu64 (t + d.1 % 1000) = t + d.1 % 1000 := wu64_of (by omega) (by omega)
    have hadd := add_eq (k := k) (g := 0) (t := t + d.1 % 1000) (w := d.2) hk1 hk hg (by omega) hmem.2.1 hmem.2.2
    have hstep : ref06_Made_s0 p2 (t, (i : Int), (k : Int), 0, ls) = some (.inl (t + d.1 % 1000, ((i + 1 : Nat) : Int), (k : Int), 0, if addC ls (t + d.1 % 1000) d.2 = 0 then addL k ls (t + d.1 % 1000) d.2 else ls)) := by
      unfold ref06_Made_s0
      simp only
      rw [if_pos (by omega), if_pos (by omega), rdo_get hi2.1, Option.bind_some, ← hd1, e1, e2, hadd, Option.bind_some, wi64_of (by omega) (by omega)]
      by_cases hc : addC ls (t + d.1 % 1000) d.2 = 0
      · simp only [if_pos hc, if_true]; rfl
      · simp only [if_neg hc]; rfl
    rw [loopO_next hstep, madeS]
    have hg' : Good k (if addC ls (t + d.1 % 1000) d.2 = 0 then addL k ls (t + d.1 % 1000) d.2 else ls) (t + d.1 % 1000) := by
      split
      · rename_i h; exact hg.addL hk1 (by omega) hmem.2.1 h
      · exact hg.later (by omega)
    exact ih (i + 1) _ _ _ hd2 (by omega) (by omega) (Int.le_refl _) hg'
theorem made_eq {p1 : Int} {p2 : List (Int × Int)} (h1 : p1 < 9223372036854775808) (hd : Deeds p2) : ref06_Made p1 p2 = some ((kM p1 : Int), 0, madeM p1 p2) := by
  unfold ref06_Made
  have hk := kM_le p1
  have e1 : (max p1 0).tmod 30 = ((max p1 0).toNat % 30 : Nat) := by rw [Int.tmod_eq_emod_of_nonneg (by omega)]; omega
  have e2 : wi64 (2 + (max p1 0).tmod 30) = (kM p1 : Int) := by
    rw [e1, wi64_of (by omega) (by omega)]; unfold kM; omega
  rw [e2]
  have := made_loop (k := kM p1) (by omega) (by omega) hd _ 0 0 0 [] rfl (Int.le_refl 0) (by simp) (Int.le_refl 0) (Good.nil _ 0)
  have h' : loopO (ref06_Made_s0 p2) ((0 : Int), (0 : Int), (kM p1 : Int), (0 : Int), ([] : List (List Sp))) = some ((kM p1 : Int), 0, madeM p1 p2) := this
  rw [h', Option.bind_some]
/-- How many stand ahead of the first that isn't so. -/
def lead {α : Type} (p : α → Bool) : List α → Nat
  | [] => 0
  | a :: t => if p a then lead p t + 1 else 0
theorem lead_le {α : Type} (p : α → Bool) (l : List α) : lead p l ≤ l.length := by
  induction l with
  | nil => exact Nat.le_refl _
  | cons a t ih => rw [lead]; split <;> simp only [List.length_cons] <;> omega
theorem lead_drop {α : Type} (p : α → Bool) (l : List α) : l.drop (lead p l) = l.dropWhile p := by
  induction l with
  | nil => rfl
  | cons a t ih =>
    rw [lead]
    by_cases h : p a = true
    · rw [if_pos h, List.drop_succ_cons, ih, List.dropWhile_cons_of_pos h]
    · rw [if_neg h, List.dropWhile_cons_of_neg h]; rfl
theorem lead_lt {α : Type} {p : α → Bool} {l : List α} {i : Nat} (h : i < lead p l) : ∃ h2 : i < l.length, p l[i] = true := by
  induction l generalizing i with
  | nil => simp [lead] at h
  | cons a t ih =>
    rw [lead] at h
    split at h
    · rename_i ha
      cases i with
      | zero => exact ⟨by simp, ha⟩
      | succ i => obtain ⟨h2, h3⟩ := ih (i := i) (by omega); exact ⟨by simp only [List.length_cons]; omega, h3⟩
    · omega
theorem lead_at {α : Type} {p : α → Bool} {l : List α} (h : lead p l < l.length) : p l[lead p l] = false := by
  induction l with
  | nil => simp at h
  | cons a t ih =>
    by_cases ha : p a = true
    · have e : lead p (a :: t) = lead p t + 1 := by rw [lead, if_pos ha]
      simp only [e, List.getElem_cons_succ]
      exact ih (by rw [e] at h; simpa using h)
    · have e : lead p (a :: t) = 0 := by rw [lead, if_neg ha]
      simp only [e, List.getElem_cons_zero]
      simpa using ha
theorem htotal_eq {K g : Int} {ls : List (List Sp)} (hl : ls.length ≤ 64) (hw : wt ls < 18446744073709551616) (hls : ∀ l ∈ ls, l.length < 18446744073709551616) : hist_Total (K, g, ls) = some (wt ls : Int) := total_eq hl hw hls
theorem turn_level {ls : List (List Sp)} (h : InTurn (line ls)) : ∀ l ∈ ls, InTurn l := by
  induction ls with
  | nil => intro l hl; cases hl
  | cons m ls ih =>
    rw [line] at h
    intro l hl
    rcases List.mem_cons.1 hl with rfl | hl
    · exact h.right
    · exact ih h.left l hl
theorem dropM_le_wt (old : Sp → Bool) (ls : List (List Sp)) : wt (dropM old ls) ≤ wt ls := by
  induction ls with
  | nil => exact Nat.le_refl _
  | cons l ls ih =>
    rw [dropM]
    split
    · exact Nat.zero_le _
    · rw [wt, wt, ← lead_drop, List.length_drop]; omega
theorem dropM_sub (old : Sp → Bool) (ls : List (List Sp)) : (line (dropM old ls)).Sublist (line ls) := by
  induction ls with
  | nil => exact List.Sublist.refl _
  | cons l ls ih =>
    rw [dropM]
    split
    · exact List.nil_sublist _
    · rw [line, line]
      exact List.Sublist.append ih (List.dropWhile_sublist _)
theorem InTurn.sub {l m : List Sp} (h : InTurn m) (hs : l.Sublist m) : InTurn l := ⟨h.1.sublist hs, fun a ha => h.2 a (hs.subset ha)⟩
theorem dropM_old {old : Sp → Bool} {ls : List (List Sp)} (h : ∀ l ∈ ls, ∀ a ∈ l, old a = true) : dropM old ls = [] := by
  cases ls with
  | nil => rfl
  | cons l ls =>
    rw [dropM, if_pos]
    rw [List.isEmpty_iff, ← lead_drop, List.drop_eq_nil_iff]
    rcases Nat.lt_or_ge (lead old l) l.length with q | q
    · have := lead_at q
      rw [h l List.mem_cons_self _ (List.getElem_mem q)] at this
      cases this
    · exact q
theorem dropM_shape {old : Sp → Bool} (hm : Mono old) {k : Nat} : ∀ {i : Nat} {ls : List (List Sp)}, InTurn (line ls) → shape k i ls → shape k i (dropM old ls) := by
  intro i ls
  induction ls generalizing i with
  | nil => intro _ _; trivial
  | cons l ls ih =>
    intro ht hs
    rw [dropM]
    split
    · trivial
    · rename_i he
      rw [List.isEmpty_iff] at he
      have hl := lead_le old l
      rw [line] at ht
      refine ⟨List.length_pos_iff.2 he, ?_, ?_, ih ht.left hs.2.2.2⟩
      · rw [← lead_drop, List.length_drop]; have := hs.2.1; omega
      · intro hne
        have h0 : lead old l = 0 := by
          rcases Nat.eq_zero_or_pos (lead old l) with q | q
          · exact q
          · exfalso
            obtain ⟨h2, h3⟩ := lead_lt q
            apply hne
            apply dropM_old
            intro m hmm a ha
            have h4 := (InTurn.app.1 ht).2.2 a (mem_line.2 ⟨m, hmm, ha⟩) _ (List.getElem_mem h2)
            have h5 := ht.right.2 _ (List.getElem_mem h2)
            exact hm a _ (by omega) h3
        have e : l.dropWhile old = l := by rw [← lead_drop, h0]; rfl
        rw [e]
        refine hs.2.2.1 fun q => hne ?_
        rw [q]; rfl
theorem Good.drop {old : Sp → Bool} (hm : Mono old) {k : Nat} {ls : List (List Sp)} {t : Int} (h : Good k ls t) : Good k (dropM old ls) t where
  shape := dropM_shape hm h.turn h.shape
  turn := h.turn.sub (dropM_sub old ls)
  wt := Nat.le_trans (dropM_le_wt old ls) h.wt
  pos l hl a ha := by
    obtain ⟨m, hm1, hm2⟩ := mem_line.1 ((dropM_sub old ls).subset (mem_line.2 ⟨l, hl, ha⟩))
    exact h.pos m hm1 a hm2
theorem most_same {k : Nat} (i : Nat) (hk : k ≤ 1099511627776) : level_Most (k : Int) (i : Int) = some ((mostN k i : Nat) : Int) := by
  unfold level_Most mostN
  have e0 : max (k : Int) 0 = (k : Int) := by omega
  have e1 : (((k : Int) + 1)).tdiv 2 = (((k + 1) / 2 : Nat) : Int) := by have := tdiv_n (k + 1) 2; simpa using this
  rw [e0]
  by_cases hi : i = 0
  · subst hi
    rw [if_pos (by simp), if_pos rfl, wi64_of (by omega) (by omega)]; rfl
  · rw [if_neg (by omega), if_neg hi, wi64_of (x := (k : Int) + 1) (by omega) (by omega), e1, wi64_of (x := (((k + 1) / 2 : Nat) : Int)) (by omega) (by omega), wi64_of (by omega) (by omega)]; rfl
/-- The lowest level's buckets are units. -/
def Units (ls : List (List Sp)) : Prop := ∀ l, ls[0]? = some l → ∀ a ∈ l, a.1 = a.2
theorem Units.addL {k : Nat} {ls : List (List Sp)} {t w : Int} (h : Units ls) : Units (addL k ls t w) := by
  intro l hl a ha
  unfold Pu.addL at hl
  by_cases hc : ls = [] ∧ List.replicate w.toNat ((t, t) : Sp) = []
  · rw [hc.1, hc.2, flow_nil] at hl; cases hl
  · rw [flow_step _ _ _ _ hc] at hl
    simp only [List.getElem?_cons_zero, Option.some.injEq] at hl
    rw [← hl] at ha
    rcases List.mem_append.1 (List.mem_of_mem_drop ha) with q | q
    · cases ls with
      | nil => cases q
      | cons m ls => exact h m rfl a q
    · rw [List.eq_of_mem_replicate q]
theorem madeS_units (k : Nat) : ∀ (ds : List (Int × Int)) (t : Int) (ls : List (List Sp)), Units ls → Units (madeS k ds t ls) := by
  intro ds
  induction ds with
  | nil => intro t ls h; rw [madeS]; exact h
  | cons d ds ih =>
    intro t ls h
    rw [madeS]
    apply ih
    split
    · exact h.addL
    · exact h
theorem made_units (p : Int) (ds : List (Int × Int)) : Units (madeM p ds) := madeS_units _ _ _ _ (fun l hl => by cases hl)
theorem Units.drop {old : Sp → Bool} {ls : List (List Sp)} (h : Units ls) : Units (dropM old ls) := by
  intro l hl a ha
  cases ls with
  | nil => cases hl
  | cons m ls =>
    rw [dropM] at hl
    split at hl
    · cases hl
    · simp only [List.getElem?_cons_zero, Option.some.injEq] at hl
      rw [← hl] at ha
      exact h m rfl a ((List.dropWhile_sublist _).subset ha)
/-- The buckets of a higher level are older. -/
theorem turn_levels {ls : List (List Sp)} (h : InTurn (line ls)) : ∀ {i j : Nat} (hij : i < j) (hj : j < ls.length), ∀ a ∈ ls[j], ∀ b ∈ ls[i], a.2 ≤ b.1 := by
  induction ls with
  | nil => intro i j _ hj; simp at hj
  | cons l ls ih =>
    rw [line] at h
    intro i j hij hj a ha b hb
    obtain ⟨j', rfl⟩ : ∃ j', j = j' + 1 := ⟨j - 1, by omega⟩
    simp only [List.length_cons] at hj
    rw [List.getElem_cons_succ] at ha
    cases i with
    | zero => exact (InTurn.app.1 h).2.2 a (mem_line.2 ⟨_, List.getElem_mem (by omega), ha⟩) b hb
    | succ i => exact ih h.left (by omega) (by omega) a ha b hb
/-- The tick behind which the next bucket must begin. -/
def ahd (x : Int) (l : List Sp) : Nat → Int
  | 0 => x
  | j + 1 => (l.getD j (0, 0)).2
theorem ahd_succ {x : Int} {l : List Sp} {j : Nat} (h : j < l.length) : ahd x l (j + 1) = l[j].2 := by
  show (l.getD j (0, 0)).2 = _
  rw [List.getD_eq_getElem?_getD, List.getElem?_eq_getElem h]; rfl
theorem ahd_le {x : Int} {l : List Sp} (hin : InTurn l) (hx : ∀ a ∈ l, x ≤ a.1) {j : Nat} (hj : j < l.length) : ahd x l j ≤ l[j].1 := by
  cases j with
  | zero => exact hx _ (List.getElem_mem hj)
  | succ j => rw [ahd_succ (by omega)]; exact List.pairwise_iff_getElem.1 hin.1 j (j + 1) (by omega) hj (by omega)
theorem ahd_end {x : Int} {l : List Sp} : (l = [] ∧ ahd x l l.length = x) ∨ ∃ a ∈ l, ahd x l l.length = a.2 := by
  cases l with
  | nil => exact .inl ⟨rfl, rfl⟩
  | cons a t => exact .inr ⟨(a :: t)[t.length], List.getElem_mem (by simp), ahd_succ (by simp)⟩
theorem least_eq {k : Nat} (i : Nat) (hk : k ≤ 1099511627776) : ref05_Least (k : Int) (i : Int) = some ((mostN k i - 1 : Nat) : Int) := by
  unfold ref05_Least
  have h1 := mostN_pos k i
  have h2 := mostN_le k i
  rw [most_eq i hk, Option.bind_some, wi64_of (by omega) (by omega)]
  congr 1; omega
theorem shape_get {k : Nat} : ∀ {i0 : Nat} {ls : List (List Sp)}, shape k i0 ls → ∀ i (h : i < ls.length), 1 ≤ ls[i].length ∧ ls[i].length ≤ mostN k (i0 + i) ∧ (i + 1 < ls.length → mostN k (i0 + i) ≤ ls[i].length + 1) := by
  intro i0 ls
  induction ls generalizing i0 with
  | nil => intro _ i h; simp at h
  | cons l ls ih =>
    intro hs i h
    cases i with
    | zero =>
      refine ⟨hs.1, hs.2.1, fun h2 => hs.2.2.1 ?_⟩
      intro e; rw [e] at h2; simp at h2
    | succ i =>
      have := ih hs.2.2.2 i (by simpa using h)
      rw [show i0 + 1 + i = i0 + (i + 1) by omega] at this
      simpa using this
/-- A loop that tests, round by round, and stops where a test fails. -/
theorem loop_allS {S R : Type} {step : S → Option (S ⊕ R)} (f : Nat → S) (n : Nat) (p : Nat → Bool) {r0 r1 : R} (h1 : ∀ j, j < n → step (f j) = some (if p j then .inl (f (j + 1)) else .inr r0)) (h2 : step (f n) = some (.inr r1)) :
    loopO step (f 0) = some (if (List.range n).all p then r1 else r0) := by
  have aux : ∀ m j, j + m = n → loopO step (f j) = some (if (List.range' j m).all p then r1 else r0) := by
    intro m
    induction m with
    | zero => intro j hj; obtain rfl : j = n := by omega
              exact loopO_done h2
    | succ m ih =>
      intro j hj
      have hs := h1 j (by omega)
      rw [List.range'_succ, List.all_cons]
      cases hp : p j with
      | true => rw [hp, if_pos rfl] at hs; rw [loopO_next hs, ih (j + 1) (by omega), Bool.true_and]
      | false => rw [hp, if_neg (by simp)] at hs; rw [loopO_done hs, Bool.false_and, if_neg (by simp)]
  rw [List.range_eq_range']
  exact aux n 0 (by omega)
def confB (K g : Int) : Bool := decide (2 ≤ K ∧ K ≤ 1024 ∧ 0 ≤ g ∧ g ≤ 4)
theorem conf_eq (K g : Int) : check_conf K g = some (confB K g) := by
  unfold check_conf confB
  by_cases h1 : 2 ≤ K
  · rw [if_pos h1]
    by_cases h2 : K ≤ 1024
    · rw [if_pos h2]
      by_cases h3 : 0 ≤ g
      · rw [if_pos h3]; simp [h1, h2, h3]
      · rw [if_neg h3]; simp [h1, h2, h3]
    · rw [if_neg h2]; simp [h1, h2]
  · rw [if_neg h1]; simp [h1]
def shP (k : Nat) (ls : List (List Sp)) (i : Nat) : Bool := decide (1 ≤ (ls.getD i []).length ∧ (ls.getD i []).length ≤ mostN k i ∧ (i + 1 < ls.length → mostN k i ≤ (ls.getD i []).length + 1))
def shB (k : Nat) (ls : List (List Sp)) : Bool := (List.range ls.length).all (shP k ls) && decide (ls.length ≤ 52)
theorem getD_lt {α : Type} {l : List α} {i : Nat} {d : α} (h : i < l.length) : l.getD i d = l[i] := by rw [List.getD_eq_getElem?_getD, List.getElem?_eq_getElem h]; rfl
section
variable {k : Nat} {g : Int} {ls : List (List Sp)}
theorem cshaped_eq (hk1 : 1 ≤ k) (hk : k ≤ 1024) (hl : ls.length ≤ 100) (hll : ∀ l ∈ ls, l.length ≤ 2000) : check_shaped ((k : Int), g, ls) = some (shB k ls) := by
  unfold check_shaped shB
  have := loop_allS (step := check_shaped_s0 ((k : Int), g, ls)) (r0 := .inl ()) (r1 := .inr ()) (fun i => (i : Int)) ls.length (shP k ls) (fun i hi => ?_) ?_
  · have h' : loopO (check_shaped_s0 ((k : Int), g, ls)) (0 : Int) = some (if (List.range ls.length).all (shP k ls) then .inr () else .inl ()) := this
    rw [h', Option.bind_some]
    by_cases hc : (List.range ls.length).all (shP k ls) = true
    · rw [if_pos hc, hc]; simp; omega
    · rw [if_neg hc]
      have : (List.range ls.length).all (shP k ls) = false := by simpa using hc
      rw [this]; simp
  · have h1 := mostN_two hk1 i
    have h2 := mostN_le k i
    have h3 := hll _ (List.getElem_mem hi)
    unfold check_shaped_s0 level_Least
    simp only
    rw [if_pos (by omega), rdo_get hi, Option.bind_some, most_same i (by omega), Option.bind_some, wi64_of (x := ((mostN k i : Nat) : Int) - 1) (by omega) (by omega), wi64_of (x := (ls.length : Int) - 1) (by omega) (by omega)]
    have e : shP k ls i = decide (1 ≤ ls[i].length ∧ ls[i].length ≤ mostN k i ∧ (i + 1 < ls.length → mostN k i ≤ ls[i].length + 1)) := by unfold shP; rw [getD_lt hi]
    rw [e, Option.bind_some]
    by_cases hlast : i + 1 = ls.length
    · rw [if_pos (by omega), Option.bind_some]
      by_cases c1 : (ls[i].length : Int) < max 1 1
      · rw [if_pos c1, decide_eq_false (by omega), if_neg (by simp)]
      · rw [if_neg c1, Option.bind_some]
        by_cases c2 : ((mostN k i : Nat) : Int) < (ls[i].length : Int)
        · rw [if_pos c2, decide_eq_false (by omega), if_neg (by simp)]
        · rw [if_neg c2, decide_eq_true (by omega), if_pos rfl, wi64_of (by omega) (by omega)]; rfl
    · rw [if_neg (by omega), Option.bind_some]
      by_cases c1 : (ls[i].length : Int) < max (((mostN k i : Nat) : Int) - 1) 1
      · rw [if_pos c1, decide_eq_false (by omega), if_neg (by simp)]
      · rw [if_neg c1, Option.bind_some]
        by_cases c2 : ((mostN k i : Nat) : Int) < (ls[i].length : Int)
        · rw [if_pos c2, decide_eq_false (by omega), if_neg (by simp)]
        · rw [if_neg c2, decide_eq_true (by omega), if_pos rfl, wi64_of (by omega) (by omega)]; rfl
  · unfold check_shaped_s0
    simp only
    rw [if_neg (by omega)]
theorem rshaped_eq (hk1 : 1 ≤ k) (hk : k ≤ 1024) (hl : ls.length ≤ 100) (hll : ∀ l ∈ ls, l.length ≤ 2000) : ref09_shaped ((k : Int), g, ls) = some (shB k ls) := by
  unfold ref09_shaped shB
  have := loop_allS (step := ref09_shaped_s0 ((k : Int), g, ls)) (r0 := .inl ()) (r1 := .inr ()) (fun i => (i : Int)) ls.length (shP k ls) (fun i hi => ?_) ?_
  · have h' : loopO (ref09_shaped_s0 ((k : Int), g, ls)) (0 : Int) = some (if (List.range ls.length).all (shP k ls) then .inr () else .inl ()) := this
    rw [h', Option.bind_some]
    by_cases hc : (List.range ls.length).all (shP k ls) = true
    · rw [if_pos hc, hc]; simp; omega
    · rw [if_neg hc]
      have : (List.range ls.length).all (shP k ls) = false := by simpa using hc
      rw [this]; simp
  · have h1 := mostN_two hk1 i
    have h2 := mostN_le k i
    have h3 := hll _ (List.getElem_mem hi)
    unfold ref09_shaped_s0
    simp only
    have e : shP k ls i = decide (1 ≤ ls[i].length ∧ ls[i].length ≤ mostN k i ∧ (i + 1 < ls.length → mostN k i ≤ ls[i].length + 1)) := by unfold shP; rw [getD_lt hi]
    rw [e, if_pos (by omega), rdo_get hi, Option.bind_some, wi64_of (x := (ls.length : Int) - 1) (by omega) (by omega), wi64_of (x := (i : Int) + 1) (by omega) (by omega)]
    by_cases c1 : (ls[i].length : Int) < 1
    · rw [if_pos c1, decide_eq_false (by omega), if_neg (by simp)]
    · rw [if_neg c1, most_eq i (by omega), Option.bind_some]
      by_cases c2 : ((mostN k i : Nat) : Int) < (ls[i].length : Int)
      · rw [if_pos c2, decide_eq_false (by omega), if_neg (by simp)]
      · rw [if_neg c2]
        by_cases hlast : i + 1 = ls.length
        · rw [if_neg (by omega), decide_eq_true (by omega), if_pos rfl]; rfl
        · rw [if_pos (by omega), least_eq i (by omega), Option.bind_some]
          by_cases c3 : (ls[i].length : Int) < ((mostN k i - 1 : Nat) : Int)
          · rw [if_pos c3, decide_eq_false (by omega), if_neg (by simp)]
          · rw [if_neg c3, decide_eq_true (by omega), if_pos rfl]; rfl
  · unfold ref09_shaped_s0
    simp only
    rw [if_neg (by omega)]
def goodB (u : Bool) (x : Int) (s : Sp) : Bool := if s.2 < s.1 then false else if s.1 < x then false else if 9223372036854775807 < s.2 then false else if u = true then decide (s.1 = s.2) else true
def levOk (u : Bool) (x : Int) (l : List Sp) : Bool := (List.range l.length).all fun j => goodB u (ahd x l j) (l.getD j (0, 0))
/-- The tick behind the levels from the last one down. -/
def topA (ls : List (List Sp)) : Nat → Int
  | 0 => 0
  | m + 1 => ahd (topA ls m) (ls.getD (ls.length - 1 - m) []) (ls.getD (ls.length - 1 - m) []).length
def turnP (ls : List (List Sp)) (m : Nat) : Bool := levOk (decide (ls.length - 1 - m = 0)) (topA ls m) (ls.getD (ls.length - 1 - m) [])
def turnB (ls : List (List Sp)) : Bool := (List.range ls.length).all (turnP ls)
theorem step_eq (x : Int) (ok u : Bool) (s : Sp) : check_walk_step (x, ok) s u = some (ok && goodB u x s) := by
  unfold check_walk_step goodB
  simp only
  by_cases c1 : s.2 < s.1
  · rw [if_pos c1, Option.bind_some, if_pos c1]; cases ok <;> rfl
  · rw [if_neg c1, if_neg c1]
    by_cases c2 : s.1 < x
    · rw [if_pos c2, Option.bind_some, if_pos c2]; cases ok <;> rfl
    · rw [if_neg c2, if_neg c2]
      by_cases c3 : 9223372036854775807 < s.2
      · rw [if_pos c3, Option.bind_some, if_pos c3]; cases ok <;> rfl
      · rw [if_neg c3, if_neg c3]
        cases u with
        | true =>
          rw [if_pos rfl, Option.bind_some, if_pos rfl]
          by_cases c4 : s.1 = s.2 <;> cases ok <;> simp [c4]
        | false =>
          simp only [Bool.false_eq_true, if_false, Option.bind_some]
          cases ok <;> simp
theorem all_range_succ (p : Nat → Bool) (n : Nat) : (List.range (n + 1)).all p = ((List.range n).all p && p n) := by rw [List.range_succ, List.all_append]; simp
theorem clevel {l : List Sp} (hl : l.length ≤ 2000) (i : Nat) (x : Int) (ok : Bool) : loopO (check_turned_s1 ((i : Int), x, ok) l) ((0 : Int), x, ok) = some (ahd x l l.length, ok && levOk (decide (i = 0)) x l) := by
  have := loopO_run (step := check_turned_s1 ((i : Int), x, ok) l) (r := (ahd x l l.length, ok && levOk (decide (i = 0)) x l)) (fun j => ((j : Int), ahd x l j, ok && (List.range j).all fun m => goodB (decide (i = 0)) (ahd x l m) (l.getD m (0, 0)))) l.length (fun j hj => ?_) ?_
  · simpa [ahd] using this
  · unfold check_turned_s1
    simp only
    have e0 : decide ((i : Int) = 0) = decide (i = 0) := decide_eq_decide.2 (by omega)
    rw [if_pos (by omega), rdo_get hj, Option.bind_some, e0, step_eq, Option.bind_some, wi64_of (by omega) (by omega), ahd_succ hj, all_range_succ, getD_lt hj, Bool.and_assoc]
    rfl
  · unfold check_turned_s1
    simp only
    rw [if_neg (by omega)]; rfl
theorem cturned_eq {K : Int} (hl : ls.length ≤ 100) (hll : ∀ l ∈ ls, l.length ≤ 2000) : check_turned (K, g, ls) = some (turnB ls) := by
  unfold check_turned
  simp only
  have e0 : wi64 ((ls.length : Int) - 1) = (ls.length : Int) - 1 := wi64_of (by omega) (by omega)
  have := loopO_run (step := check_turned_s0 (K, g, ls)) (r := (topA ls ls.length, turnB ls)) (fun m => ((ls.length : Int) - 1 - (m : Int), topA ls m, (List.range m).all (turnP ls))) ls.length (fun m hm => ?_) ?_
  · have h' : loopO (check_turned_s0 (K, g, ls)) ((ls.length : Int) - 1, (0 : Int), true) = some (topA ls ls.length, turnB ls) := by simpa [topA] using this
    rw [e0, h', Option.bind_some]
  · have hi : ls.length - 1 - m < ls.length := by omega
    unfold check_turned_s0
    simp only
    have ei : (ls.length : Int) - 1 - (m : Int) = ((ls.length - 1 - m : Nat) : Int) := by omega
    rw [ei, if_pos (by omega), rdo_get hi, Option.bind_some, clevel (hll _ (List.getElem_mem hi)), Option.bind_some, wi64_of (by omega) (by omega), all_range_succ]
    refine congrArg some (congrArg Sum.inl (Prod.ext ?_ (Prod.ext ?_ ?_)))
    · simp only; omega
    · simp only [topA]; rw [getD_lt hi]
    · simp only [turnP]; rw [getD_lt hi]
  · unfold check_turned_s0
    simp only
    rw [if_neg (by omega)]; rfl
theorem rlevel {K : Int} {i : Nat} (hi : i < ls.length) (hl : ls[i].length ≤ 2000) (x : Int) : loopO (ref09_turned_s1 (K, g, ls) (x, (i : Int))) (x, (0 : Int)) = some (if levOk (decide (i = 0)) x ls[i] then .inr (ahd x ls[i] ls[i].length) else .inl ()) := by
  have := loop_allS (step := ref09_turned_s1 (K, g, ls) (x, (i : Int))) (r0 := .inl ()) (r1 := .inr (ahd x ls[i] ls[i].length)) (fun j => (ahd x ls[i] j, (j : Int))) ls[i].length (fun j => goodB (decide (i = 0)) (ahd x ls[i] j) (ls[i].getD j (0, 0))) (fun j hj => ?_) ?_
  · exact this
  · unfold ref09_turned_s1
    simp only
    rw [rdo_get hi, Option.bind_some, if_pos (by omega), rdo_get hj, Option.bind_some, getD_lt hj, ahd_succ hj, wi64_of (by omega) (by omega)]
    unfold goodB
    by_cases c1 : ls[i][j].2 < ls[i][j].1
    · rw [if_pos c1, if_pos c1, if_neg (by simp)]
    · rw [if_neg c1, if_neg c1]
      by_cases c2 : ls[i][j].1 < ahd x ls[i] j
      · rw [if_pos c2, if_pos c2, if_neg (by simp)]
      · rw [if_neg c2, if_neg c2]
        by_cases c3 : 9223372036854775807 < ls[i][j].2
        · rw [if_pos c3, if_pos c3, if_neg (by simp)]
        · rw [if_neg c3, if_neg c3]
          by_cases c4 : i = 0
          · rw [if_pos (by omega), if_pos (decide_eq_true c4)]
            by_cases c5 : ls[i][j].1 = ls[i][j].2
            · rw [if_neg (by simpa using c5), decide_eq_true c5, if_pos rfl]; rfl
            · rw [if_pos c5, decide_eq_false c5, if_neg (by simp)]
          · rw [if_neg (by omega), decide_eq_false c4]
            simp only [Bool.false_eq_true, if_false, if_true]
            rfl
  · unfold ref09_turned_s1
    simp only
    rw [rdo_get hi, Option.bind_some, if_neg (by omega)]
theorem rturned_eq {K : Int} (hl : ls.length ≤ 100) (hll : ∀ l ∈ ls, l.length ≤ 2000) : ref09_turned (K, g, ls) = some (turnB ls) := by
  unfold ref09_turned
  simp only
  have e0 : wi64 ((ls.length : Int) - 1) = (ls.length : Int) - 1 := wi64_of (by omega) (by omega)
  have := loop_allS (step := ref09_turned_s0 (K, g, ls)) (r0 := .inl ()) (r1 := .inr ()) (fun m => (topA ls m, (ls.length : Int) - 1 - (m : Int))) ls.length (turnP ls) (fun m hm => ?_) ?_
  · have h' : loopO (ref09_turned_s0 (K, g, ls)) ((0 : Int), (ls.length : Int) - 1) = some (if (List.range ls.length).all (turnP ls) then .inr () else .inl ()) := by simpa [topA] using this
    rw [e0, h', Option.bind_some]
    unfold turnB
    cases (List.range ls.length).all (turnP ls) <;> rfl
  · have hi : ls.length - 1 - m < ls.length := by omega
    unfold ref09_turned_s0
    simp only
    have ei : (ls.length : Int) - 1 - (m : Int) = ((ls.length - 1 - m : Nat) : Int) := by omega
    rw [ei, if_pos (by omega), rlevel hi (hll _ (List.getElem_mem hi)), Option.bind_some]
    have ep : turnP ls m = levOk (decide (ls.length - 1 - m = 0)) (topA ls m) ls[ls.length - 1 - m] := by unfold turnP; rw [getD_lt hi]
    rw [ep]
    cases hq : levOk (decide (ls.length - 1 - m = 0)) (topA ls m) ls[ls.length - 1 - m] with
    | true =>
      rw [if_pos rfl, if_pos rfl]
      simp only [Sum.elim_inr]
      rw [wi64_of (by omega) (by omega)]
      refine congrArg some (congrArg Sum.inl (Prod.ext ?_ ?_))
      · simp only [topA]; rw [getD_lt hi]
      · simp only; omega
    | false => rw [if_neg (by simp), if_neg (by simp)]; rfl
  · unfold ref09_turned_s0
    simp only
    rw [if_neg (by omega)]
theorem wt_lt {B : Nat} (h : ∀ l ∈ ls, l.length ≤ B) : wt ls + B ≤ B * 2 ^ ls.length := by
  induction ls with
  | nil => simp [wt]
  | cons l ls ih =>
    have h1 := ih (fun m hm => h m (List.mem_cons_of_mem _ hm))
    have h2 := h l List.mem_cons_self
    rw [wt, List.length_cons, Nat.pow_succ, ← Nat.mul_assoc]
    omega
def histC (K g : Int) (ls : List (List Sp)) : Int :=
  if ¬ confB K g = true then 9 else if ¬ shB K.toNat ls = true then 2 else if ¬ turnB ls = true then 2 else if ¬ wt ls ≤ 4503599627370496 then 2 else 0
theorem shB_len {n : Nat} (h : shB n ls = true) : ls.length ≤ 52 := by
  unfold shB at h
  simp only [Bool.and_eq_true, decide_eq_true_eq] at h
  exact h.2
theorem wt_small (hll : ∀ l ∈ ls, l.length ≤ 2000) (hl : ls.length ≤ 52) : wt ls < 18446744073709551616 := by
  have h1 := wt_lt hll
  have h2 : 2 ^ ls.length ≤ 2 ^ 52 := Nat.pow_le_pow_right (by decide) hl
  have h3 : 2000 * 2 ^ ls.length ≤ 2000 * 2 ^ 52 := Nat.mul_le_mul_left _ h2
  omega
theorem chist_eq {K : Int} (hl : ls.length ≤ 100) (hll : ∀ l ∈ ls, l.length ≤ 2000) : check_Hist (K, g, ls) = some (histC K g ls) := by
  unfold check_Hist histC check_light
  simp only
  rw [conf_eq, Option.bind_some]
  cases hc : confB K g with
  | false => rw [if_pos (by simp), if_pos (by simp)]
  | true =>
    rw [if_neg (by simp), if_neg (by simp)]
    unfold confB at hc
    rw [decide_eq_true_eq] at hc
    obtain ⟨k, rfl⟩ : ∃ k : Nat, K = (k : Int) := ⟨K.toNat, by omega⟩
    rw [cshaped_eq (by omega) (by omega) hl hll, Option.bind_some, Int.toNat_natCast]
    cases hs : shB k ls with
    | false => rw [if_pos (by simp), if_pos (by simp)]
    | true =>
      rw [if_neg (by simp), if_neg (by simp), cturned_eq hl hll, Option.bind_some]
      cases ht : turnB ls with
      | false => rw [if_pos (by simp), if_pos (by simp)]
      | true =>
        have hn := shB_len hs
        rw [if_neg (by simp), if_neg (by simp), htotal_eq (by omega) (wt_small hll hn) (fun l hl' => by have := hll l hl'; omega), Option.bind_some, Option.bind_some]
        by_cases hw : wt ls ≤ 4503599627370496
        · rw [decide_eq_true (by omega), if_neg (by simp), if_neg (by simpa using hw)]
        · rw [decide_eq_false (by omega), if_pos (by simp), if_pos hw]
theorem rhist_eq {K : Int} (hl : ls.length ≤ 100) (hll : ∀ l ∈ ls, l.length ≤ 2000) : ref09_Hist (K, g, ls) = some (histC K g ls) := by
  unfold ref09_Hist histC ref06_May
  simp only
  have hm : (if 2 ≤ K then (some (decide (K ≤ 1024))) else (some false) : Option Bool) = some (decide (2 ≤ K ∧ K ≤ 1024)) := by
    by_cases h : 2 ≤ K <;> simp [h]
  rw [hm, Option.bind_some]
  by_cases h1 : 2 ≤ K ∧ K ≤ 1024
  · rw [decide_eq_true h1, if_neg (by simp)]
    by_cases h2 : g < 0
    · rw [if_pos h2, if_pos (by unfold confB; simp; omega)]
    · rw [if_neg h2]
      by_cases h3 : 4 < g
      · rw [if_pos h3, if_pos (by unfold confB; simp; omega)]
      · rw [if_neg h3, if_neg (c := ¬ confB K g = true) (by unfold confB; simp; omega)]
        obtain ⟨k, rfl⟩ : ∃ k : Nat, K = (k : Int) := ⟨K.toNat, by omega⟩
        rw [rshaped_eq (by omega) (by omega) hl hll, Option.bind_some, Int.toNat_natCast]
        cases hs : shB k ls with
        | false => rw [if_pos (by simp), if_pos (by simp)]
        | true =>
          rw [if_neg (by simp), if_neg (by simp), rturned_eq hl hll, Option.bind_some]
          cases ht : turnB ls with
          | false => rw [if_pos (by simp), if_pos (by simp)]
          | true =>
            have hn := shB_len hs
            rw [if_neg (by simp), if_neg (by simp), total_eq (by omega) (wt_small hll hn) (fun l hl' => by have := hll l hl'; omega), Option.bind_some]
            by_cases hw : wt ls ≤ 4503599627370496
            · rw [if_neg (by omega), if_neg (by simpa using hw)]
            · rw [if_pos (by omega), if_pos hw]
  · rw [decide_eq_false h1, if_pos (by simp), if_pos (by unfold confB; simp; omega)]
end
theorem good_shaped {k : Nat} {ls : List (List Sp)} {t : Int} (h : Good k ls t) : shB k ls = true := by
  unfold shB
  rw [Bool.and_eq_true, decide_eq_true_eq, List.all_eq_true]
  refine ⟨fun i hi => ?_, h.levels⟩
  have hi' := List.mem_range.1 hi
  obtain ⟨s1, s2, s3⟩ := shape_get h.shape i hi'
  rw [Nat.zero_add] at s2 s3
  unfold shP
  rw [getD_lt hi', decide_eq_true_eq]
  exact ⟨s1, s2, s3⟩
theorem topA_le {k : Nat} {ls : List (List Sp)} {t : Int} (h : Good k ls t) : ∀ m, m ≤ ls.length → ∀ j (hj : j < ls.length), j + m < ls.length → ∀ a ∈ ls[j], topA ls m ≤ a.1 := by
  intro m
  cases m with
  | zero => intro _ j hj _ a ha; exact (h.pos _ (List.getElem_mem hj) a ha).1
  | succ m =>
    intro hm j hj hjm a ha
    have hi : ls.length - 1 - m < ls.length := by omega
    have hne := shape_ne h.shape _ (List.getElem_mem hi)
    rw [topA, getD_lt hi]
    rcases ahd_end (x := topA ls m) (l := ls[ls.length - 1 - m]) with ⟨q, _⟩ | ⟨b, hb, hq⟩
    · exact absurd q hne
    · rw [hq]; exact turn_levels h.turn (by omega) hi b hb a ha
theorem good_turned {k : Nat} {ls : List (List Sp)} {t : Int} (h : Good k ls t) (hu : Units ls) (ht : t ≤ 9223372036854775807) : turnB ls = true := by
  unfold turnB
  rw [List.all_eq_true]
  intro m hm
  have hm' := List.mem_range.1 hm
  have hi : ls.length - 1 - m < ls.length := by omega
  unfold turnP levOk
  rw [getD_lt hi, List.all_eq_true]
  intro j hj
  have hj' := List.mem_range.1 hj
  have hin := turn_level h.turn _ (List.getElem_mem hi)
  rw [getD_lt hj']
  unfold goodB
  have h1 := ahd_le hin (topA_le h m (by omega) _ hi (by omega)) hj'
  have h2 := hin.2 _ (List.getElem_mem hj')
  have h3 := (h.pos _ (List.getElem_mem hi) _ (List.getElem_mem hj')).2
  rw [if_neg (by omega), if_neg (by omega), if_neg (by omega)]
  split
  · rename_i q
    rw [decide_eq_true_eq] at q ⊢
    refine hu ls[ls.length - 1 - m] ?_ _ (List.getElem_mem hj')
    rw [← List.getElem?_eq_getElem hi, q]
  · rfl
theorem confB_spec {K g : Int} : confB K g = true ↔ 2 ≤ K ∧ K ≤ 1024 ∧ 0 ≤ g ∧ g ≤ 4 := by unfold confB; rw [decide_eq_true_eq]
theorem good_histC {k : Nat} {g : Int} {ls : List (List Sp)} {t : Int} (hk2 : 2 ≤ k) (hk : k ≤ 1024) (hg0 : 0 ≤ g) (hg : g ≤ 4) (h : Good k ls t) (hu : Units ls) (ht : t ≤ 9223372036854775807) : histC (k : Int) g ls = 0 := by
  unfold histC
  rw [if_neg (by simp [confB_spec.2 (show 2 ≤ (k : Int) ∧ (k : Int) ≤ 1024 ∧ 0 ≤ g ∧ g ≤ 4 by omega)]), Int.toNat_natCast, if_neg (by simp [good_shaped h]), if_neg (by simp [good_turned h hu ht]), if_neg (by simpa using h.wt)]
theorem good_may {k : Nat} {ls : List (List Sp)} {t : Int} (hk2 : 2 ≤ k) (hk : k ≤ 1024) (h : Good k ls t) (hu : Units ls) (ht : t ≤ 9223372036854775807) : check_Hist ((k : Int), 0, ls) = some 0 := by
  have hl := h.levels
  rw [chist_eq (by omega) (fun l hl' => by have := shape_len h.shape l hl'; omega)]
  unfold histC
  rw [if_neg (by simp [confB_spec.2 (show 2 ≤ (k : Int) ∧ (k : Int) ≤ 1024 ∧ (0 : Int) ≤ 0 ∧ (0 : Int) ≤ 4 by omega)]), Int.toNat_natCast, if_neg (by simp [good_shaped h]), if_neg (by simp [good_turned h hu ht]), if_neg (by simpa using h.wt)]
end Go.Proofs.Ytbeknohemgjfbaa.Pu
