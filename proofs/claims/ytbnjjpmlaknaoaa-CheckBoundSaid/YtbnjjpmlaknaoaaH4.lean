/- The document's histogram, as lists: thirty deeds; what is old and what is left; what is the same. -/
import Derived.Test.YtbnjjpmlaknaoaaH3
namespace Go.Proofs.Ytbnjjpmlaknaoaa.Pu
set_option linter.unusedVariables false

def kM (p : Int) : Nat := 2 + (max p 0).toNat % 30
theorem kM_le (p : Int) : 2 ≤ kM p ∧ kM p ≤ 31 := by unfold kM; omega
/-- Deeds, one by one. -/
def madeS (k : Nat) : List (Int × Int) → Int → List (List Sp) → List (List Sp)
  | [], _, ls => ls
  | d :: ds, t, ls => madeS k ds (t + d.1 % 1000) (if addC ls (t + d.1 % 1000) d.2 = 0 then addL k ls (t + d.1 % 1000) d.2 else ls)
def madeM (p : Int) (ds : List (Int × Int)) : List (List Sp) := madeS (kM p) (ds.take 30) 0 []
/-- Deeds whose numbers may be. -/
def Deeds (ds : List (Int × Int)) : Prop := ∀ d ∈ ds, (0 ≤ d.1 ∧ d.1 < 18446744073709551616) ∧ 0 ≤ d.2 ∧ d.2 < 18446744073709551616
theorem madeS_good {k : Nat} (hk : 1 ≤ k) : ∀ {ds : List (Int × Int)} {t t0 : Int} {ls : List (List Sp)}, Deeds ds → 0 ≤ t → t0 ≤ t → Good k ls t0 → Good k (madeS k ds t ls) (t + 1000 * ds.length) := by
  intro ds
  induction ds with
  | nil => intro t t0 ls _ _ h h2; rw [madeS]; exact h2.later (by simpa using h)
  | cons d ds ih =>
    intro t t0 ls hd h0 ht hg
    rw [madeS]
    have hd1 := hd d List.mem_cons_self
    have hlt : d.1 % 1000 < 1000 := Int.emod_lt_of_pos _ (by decide)
    have hge : 0 ≤ d.1 % 1000 := Int.emod_nonneg _ (by decide)
    have hg' : Good k (if addC ls (t + d.1 % 1000) d.2 = 0 then addL k ls (t + d.1 % 1000) d.2 else ls) (t + d.1 % 1000) := by
      split
      · rename_i h; exact hg.addL hk (by omega) hd1.2.1 h
      · exact hg.later (by omega)
    have := ih (fun e he => hd e (List.mem_cons_of_mem _ he)) (by omega) (Int.le_refl _) hg'
    refine this.later ?_
    simp only [List.length_cons]
    omega
theorem Deeds.take {ds : List (Int × Int)} (h : Deeds ds) (n : Nat) : Deeds (ds.take n) := fun d hd => h d (List.mem_of_mem_take hd)
theorem made_good (p : Int) {ds : List (Int × Int)} (h : Deeds ds) : Good (kM p) (madeM p ds) 30000 := by
  have := madeS_good (k := kM p) (by have := kM_le p; omega) (h.take 30) (Int.le_refl 0) (Int.le_refl 0) (Good.nil (kM p) 0)
  refine this.later ?_
  rw [List.length_take]
  omega
theorem made_loop {k : Nat} (hk1 : 1 ≤ k) (hk : k ≤ 1048576) {p2 : List (Int × Int)} (hd : Deeds p2) : ∀ (ds : List (Int × Int)) (i : Nat) (t t0 : Int) (ls : List (List Sp)), ds = (p2.take 30).drop i → 0 ≤ t → t ≤ 1000 * i → t0 ≤ t → Good k ls t0 →
    loopO (ref06_Made_s0 p2) (t, (i : Int), (k : Int), 0, ls) = some ((k : Int), 0, madeS k ds t ls) := by
  intro ds
  induction ds with
  | nil =>
    intro i t t0 ls hds h0 hti ht hg
    have hi : p2.length ≤ i ∨ 30 ≤ i := by
      have := congrArg List.length hds
      simp only [List.length_nil, List.length_drop, List.length_take] at this
      omega
    apply loopO_done
    unfold ref06_Made_s0
    simp only
    rcases hi with h | h
    · rw [if_neg (by omega)]; rfl
    · rw [if_neg (c := (i : Int) < 30) (by omega), ite_self]; rfl
  | cons d ds ih =>
    intro i t t0 ls hds h0 hti ht hg
    have hi : i < (p2.take 30).length := by
      have := congrArg List.length hds
      simp only [List.length_cons, List.length_drop] at this
      omega
    have hi2 : i < p2.length ∧ i < 30 := by rw [List.length_take] at hi; omega
    rw [List.drop_eq_getElem_cons hi] at hds
    obtain ⟨hd1, hd2⟩ := List.cons.inj hds
    rw [List.getElem_take] at hd1
    have hmem := hd d (hd1 ▸ List.getElem_mem hi2.1)
    have e1 : d.1.tmod 1000 = d.1 % 1000 := Int.tmod_eq_emod_of_nonneg hmem.1.1
    have hlt : d.1 % 1000 < 1000 := Int.emod_lt_of_pos _ (by decide)
    have hge : 0 ≤ d.1 % 1000 := Int.emod_nonneg _ (by decide)
    have e2 : wu64 (t + d.1 % 1000) = t + d.1 % 1000 := wu64_of (by omega) (by omega)
    have hadd := add_eq (k := k) (g := 0) (t := t + d.1 % 1000) (w := d.2) hk1 hk hg (by omega) hmem.2.1 hmem.2.2
    have hstep : ref06_Made_s0 p2 (t, (i : Int), (k : Int), 0, ls) = some (.inl (t + d.1 % 1000, ((i + 1 : Nat) : Int), (k : Int), 0, if addC ls (t + d.1 % 1000) d.2 = 0 then addL k ls (t + d.1 % 1000) d.2 else ls)) := by
      unfold ref06_Made_s0
      simp only
      rw [if_pos (by omega), if_pos (by omega), rdo_get hi2.1, Option.bind_some, ← hd1, e1, e2, hadd, Option.bind_some, wi64_of (by omega) (by omega)]
      by_cases hc : addC ls (t + d.1 % 1000) d.2 = 0
      · simp only [if_pos hc, if_true]; rfl
      · simp only [if_neg hc]; rfl
    rw [loopO_next hstep, madeS]
    have hg' : Good k (if addC ls (t + d.1 % 1000) d.2 = 0 then addL k ls (t + d.1 % 1000) d.2 else ls) (t + d.1 % 1000) := by
      split
      · rename_i h; exact hg.addL hk1 (by omega) hmem.2.1 h
      · exact hg.later (by omega)
    exact ih (i + 1) _ _ _ hd2 (by omega) (by omega) (Int.le_refl _) hg'
theorem made_eq {p1 : Int} {p2 : List (Int × Int)} (h1 : p1 < 9223372036854775808) (hd : Deeds p2) : ref06_Made p1 p2 = some ((kM p1 : Int), 0, madeM p1 p2) := by
  unfold ref06_Made
  have hk := kM_le p1
  have e1 : (max p1 0).tmod 30 = ((max p1 0).toNat % 30 : Nat) := by rw [Int.tmod_eq_emod_of_nonneg (by omega)]; omega
  have e2 : wi64 (2 + (max p1 0).tmod 30) = (kM p1 : Int) := by
    rw [e1, wi64_of (by omega) (by omega)]; unfold kM; omega
  rw [e2]
  have := made_loop (k := kM p1) (by omega) (by omega) hd _ 0 0 0 [] rfl (Int.le_refl 0) (by simp) (Int.le_refl 0) (Good.nil _ 0)
  have h' : loopO (ref06_Made_s0 p2) ((0 : Int), (0 : Int), (kM p1 : Int), (0 : Int), ([] : List (List Sp))) = some ((kM p1 : Int), 0, madeM p1 p2) := this
  rw [h', Option.bind_some]

/-! ### Old -/
def oldT (f w t : Int) : Bool := decide (w ≤ f ∧ t ≤ f - w)
def oldS (f w : Int) (s : Sp) : Bool := oldT f w s.2
theorem oldS_mono (f w : Int) : Mono (oldS f w) := fun a b h hb => by
  simp only [oldS, oldT, decide_eq_true_eq] at hb ⊢
  omega
theorem old_eq {t f w : Int} (hw : 0 ≤ w) (hf : f < 18446744073709551616) : expiry_Old t f w = some (oldT f w t) := by
  unfold expiry_Old oldT
  by_cases h : w ≤ f
  · rw [if_pos h, wu64_of (by omega) (by omega)]; simp [h]
  · rw [if_neg h]; simp [h]
theorem rold_eq {t f w : Int} (hw : 0 ≤ w) (hf : f < 18446744073709551616) : ref07_Old t f w = some (oldT f w t) := old_eq hw hf

/-- How many stand ahead of the first that isn't so. -/
def lead {α : Type} (p : α → Bool) : List α → Nat
  | [] => 0
  | a :: t => if p a then lead p t + 1 else 0
theorem lead_le {α : Type} (p : α → Bool) (l : List α) : lead p l ≤ l.length := by
  induction l with
  | nil => exact Nat.le_refl _
  | cons a t ih => rw [lead]; split <;> simp only [List.length_cons] <;> omega
theorem lead_drop {α : Type} (p : α → Bool) (l : List α) : l.drop (lead p l) = l.dropWhile p := by
  induction l with
  | nil => rfl
  | cons a t ih =>
    rw [lead]
    by_cases h : p a = true
    · rw [if_pos h, List.drop_succ_cons, ih, List.dropWhile_cons_of_pos h]
    · rw [if_neg h, List.dropWhile_cons_of_neg h]; rfl
theorem lead_lt {α : Type} {p : α → Bool} {l : List α} {i : Nat} (h : i < lead p l) : ∃ h2 : i < l.length, p l[i] = true := by
  induction l generalizing i with
  | nil => simp [lead] at h
  | cons a t ih =>
    rw [lead] at h
    split at h
    · rename_i ha
      cases i with
      | zero => exact ⟨by simp, ha⟩
      | succ i => obtain ⟨h2, h3⟩ := ih (i := i) (by omega); exact ⟨by simp only [List.length_cons]; omega, h3⟩
    · omega
theorem lead_at {α : Type} {p : α → Bool} {l : List α} (h : lead p l < l.length) : p l[lead p l] = false := by
  induction l with
  | nil => simp at h
  | cons a t ih =>
    by_cases ha : p a = true
    · have e : lead p (a :: t) = lead p t + 1 := by rw [lead, if_pos ha]
      simp only [e, List.getElem_cons_succ]
      exact ih (by rw [e] at h; simpa using h)
    · have e : lead p (a :: t) = 0 := by rw [lead, if_neg ha]
      simp only [e, List.getElem_cons_zero]
      simpa using ha

theorem drop_inner {f w x : Int} (hw : 0 ≤ w) (hf : f < 18446744073709551616) {l : List Sp} (hl : l.length ≤ 1099511627776) {out : List (List Sp)} (ho : out.length ≤ 1000) :
    loopO (expiry_Drop_s1 f w (x, out) l) 0 = some (if (l.dropWhile (oldS f w)).isEmpty then .inr () else .inl (out ++ [l.dropWhile (oldS f w)])) := by
  refine loopO_run (fun k => (k : Int)) (lead (oldS f w) l) (fun k hk => ?_) ?_
  · obtain ⟨h2, h3⟩ := lead_lt hk
    unfold expiry_Drop_s1 expiry_Drop_1
    have h3' : oldT f w l[k].2 = true := h3
    rw [if_pos (by omega), rdo_get h2, Option.bind_some, old_eq hw hf, h3']
    simp only [Option.bind_some, not_true_eq_false, if_false]
    rw [wi64_of (by omega) (by omega)]; rfl
  · have hle := lead_le (oldS f w) l
    unfold expiry_Drop_s1 expiry_Drop_1
    rcases Nat.lt_or_ge (lead (oldS f w) l) l.length with h | h
    · have h3 : oldT f w (l[lead (oldS f w) l]).2 = false := lead_at h
      have hne : ¬ (l.dropWhile (oldS f w)).isEmpty = true := by rw [← lead_drop, List.isEmpty_iff]; intro e; have := congrArg List.length e; simp at this; omega
      rw [if_pos (by omega), rdo_get h, Option.bind_some, old_eq hw hf, h3]
      simp only [Option.bind_some, Bool.false_eq_true, not_false_eq_true, if_true]
      rw [must_of (by omega), Option.bind_some, room_of (by simp; omega) (by simp; omega), Option.bind_some, if_neg hne]
      rw [Int.toNat_natCast, Int.toNat_natCast, List.take_length, lead_drop]
    · have he : (l.dropWhile (oldS f w)).isEmpty = true := by rw [← lead_drop, List.drop_of_length_le h]; rfl
      rw [if_neg (by omega), if_pos he]
theorem drop_loop {f w K g : Int} (hw : 0 ≤ w) (hf : f < 18446744073709551616) {ls0 : List (List Sp)} (hls : ∀ l ∈ ls0, l.length ≤ 1099511627776) (hlen : ls0.length ≤ 100) : ∀ (ls : List (List Sp)) (i : Nat) (out : List (List Sp)), ls = ls0.drop i → out.length ≤ i →
    loopO (expiry_Drop_s0 (K, g, ls0) f w) ((i : Int), out) = some (out ++ dropM (oldS f w) ls) := by
  intro ls
  induction ls with
  | nil =>
    intro i out h ho
    have hi : ls0.length ≤ i := by have := congrArg List.length h; simp at this; omega
    rw [dropM, List.append_nil]
    apply loopO_done
    unfold expiry_Drop_s0
    simp only
    rw [if_neg (by omega)]
  | cons l ls ih =>
    intro i out h ho
    have hi : i < ls0.length := by have := congrArg List.length h; simp at this; omega
    rw [List.drop_eq_getElem_cons hi] at h
    obtain ⟨h1, h2⟩ := List.cons.inj h
    have hll := hls _ (List.getElem_mem hi)
    have hin := drop_inner (x := (i : Int)) hw hf (l := ls0[i]) hll (out := out) (by omega)
    rw [dropM]
    by_cases he : (l.dropWhile (oldS f w)).isEmpty = true
    · rw [if_pos he, List.append_nil]
      apply loopO_done
      unfold expiry_Drop_s0
      simp only
      rw [if_pos (by omega), rdo_get hi, Option.bind_some, hin, ← h1, if_pos he]; rfl
    · rw [if_neg he]
      have hstep : expiry_Drop_s0 (K, g, ls0) f w ((i : Int), out) = some (.inl (((i + 1 : Nat) : Int), out ++ [l.dropWhile (oldS f w)])) := by
        unfold expiry_Drop_s0
        simp only
        rw [if_pos (by omega), rdo_get hi, Option.bind_some, hin, ← h1, if_neg he]
        simp only [Option.bind_some, Sum.elim_inl]
        rw [wi64_of (by omega) (by omega)]; rfl
      rw [loopO_next hstep, ih (i + 1) _ h2 (by simp; omega), List.append_assoc]; rfl
theorem drop_eq {f w K g : Int} (hw : 0 ≤ w) (hf : f < 18446744073709551616) {ls : List (List Sp)} (hls : ∀ l ∈ ls, l.length ≤ 1099511627776) (hlen : ls.length ≤ 100) : expiry_Drop (K, g, ls) f w = some (dropM (oldS f w) ls) := by
  unfold expiry_Drop
  have := drop_loop (K := K) (g := g) hw hf hls hlen ls 0 [] rfl (by simp)
  have h' : loopO (expiry_Drop_s0 (K, g, ls) f w) ((0 : Int), ([] : List (List Sp))) = some (dropM (oldS f w) ls) := by simpa using this
  rw [h', Option.bind_some]

theorem rdrop_inner {f w K g a : Int} {X : List (List Sp)} (hw : 0 ≤ w) (hf : f < 18446744073709551616) {ls : List (List Sp)} {i : Nat} (hi : i < ls.length) (hl : ls[i].length ≤ 1099511627776) :
    loopO (ref07_Drop_s1 (K, g, ls) f w (a, (i : Int), X)) (([] : List Sp), (0 : Int)) = some (ls[i].filter fun s => !oldS f w s) := by
  refine loopO_run (fun k => (((ls[i].take k).filter fun s => !oldS f w s), (k : Int))) ls[i].length (fun k hk => ?_) ?_
  · unfold ref07_Drop_s1
    simp only
    have hle : ((ls[i].take k).filter fun s => !oldS f w s).length ≤ k := Nat.le_trans (List.length_filter_le _ _) (by rw [List.length_take]; omega)
    rw [rdo_get hi, Option.bind_some, if_pos (by omega), rdo_get hk, Option.bind_some, rold_eq hw hf, Option.bind_some, take_get (List.getElem?_eq_getElem hk), List.filter_append, wi64_of (by omega) (by omega)]
    by_cases ho : oldT f w (ls[i][k]).2 = true
    · have ho' : oldS f w (ls[i][k]) = true := ho
      rw [if_neg (by simp [ho]), List.filter_cons_of_neg (by simp [ho']), List.filter_nil, List.append_nil]; rfl
    · have ho' : oldS f w (ls[i][k]) = false := by simpa [oldS] using ho
      rw [if_pos ho, room_of (by simp only [List.length_cons, List.length_nil]; omega) (by simp only [List.length_cons, List.length_nil]; omega), Option.bind_some, List.filter_cons_of_pos (by simp [ho']), List.filter_nil]; rfl
  · unfold ref07_Drop_s1
    simp only
    rw [rdo_get hi, Option.bind_some, if_neg (by omega), List.take_length]
theorem rdrop_eq {f w K g : Int} (hw : 0 ≤ w) (hf : f < 18446744073709551616) {ls : List (List Sp)} (hls : ∀ l ∈ ls, l.length ≤ 1099511627776) (hlen : ls.length ≤ 100) (ht : InTurn (line ls)) (hne : ∀ l ∈ ls, l ≠ []) : ref07_Drop (K, g, ls) f w = some (dropM (oldS f w) ls) := by
  obtain ⟨d1, d2, d3⟩ := drop_ref (oldS_mono f w) ht hne
  unfold ref07_Drop
  have hget : ∀ i (h : i < ls.length), (ls[i].filter fun s => !oldS f w s) = [] ↔ ¬ i < (dropM (oldS f w) ls).length := by
    intro i h
    have e : (ls.map fun l => l.filter fun s => !oldS f w s)[i]? = some (ls[i].filter fun s => !oldS f w s) := by rw [List.getElem?_map, List.getElem?_eq_getElem h]; rfl
    rw [d1] at e
    by_cases h2 : i < (dropM (oldS f w) ls).length
    · rw [List.getElem?_append_left h2, List.getElem?_eq_getElem h2] at e
      have := d2 _ (List.getElem_mem h2)
      rw [← Option.some.inj e]
      simp [this, h2]
    · rw [List.getElem?_append_right (by omega), List.getElem?_replicate] at e
      split at e
      · simp only [Option.some.injEq] at e; rw [← e]; simp [h2]
      · cases e
  have hl : loopO (ref07_Drop_s0 (K, g, ls) f w) ((0 : Int), (0 : Int), ([] : List (List Sp))) = some (((dropM (oldS f w) ls).length : Int), ls.map fun l => l.filter fun s => !oldS f w s) := by
    have := loopO_run (step := ref07_Drop_s0 (K, g, ls) f w) (r := (((dropM (oldS f w) ls).length : Int), ls.map fun l => l.filter fun s => !oldS f w s)) (fun k => (((min k (dropM (oldS f w) ls).length : Nat) : Int), (k : Int), (ls.take k).map fun l => l.filter fun s => !oldS f w s)) ls.length (fun k hk => ?_) ?_
    · simpa using this
    · have hin := rdrop_inner (K := K) (g := g) (a := ((min k (dropM (oldS f w) ls).length : Nat) : Int)) (X := (ls.take k).map fun l => l.filter fun s => !oldS f w s) hw hf hk (hls _ (List.getElem_mem hk))
      unfold ref07_Drop_s0
      simp only
      rw [if_pos (by omega), hin, Option.bind_some, room_of (by simp; omega) (by simp; omega), Option.bind_some, take_get (List.getElem?_eq_getElem hk), List.map_append, wi64_of (by omega) (by omega)]
      by_cases hm : k < (dropM (oldS f w) ls).length
      · have h1 : (ls[k].filter fun s => !oldS f w s) ≠ [] := fun e => (hget k hk).1 e hm
        have h2 := List.length_pos_iff.2 h1
        rw [if_pos (by omega), Nat.min_eq_left (by omega)]; rfl
      · have h1 := (hget k hk).2 hm
        rw [h1, if_neg (by simp), Nat.min_eq_right (by omega), Nat.min_eq_right (by omega)]
        simp only [List.map_cons, List.map_nil, h1]; rfl
    · unfold ref07_Drop_s0
      simp only
      rw [if_neg (by omega), List.take_length, Nat.min_eq_right (by omega)]
  rw [hl, Option.bind_some]
  simp only
  rw [must_of (by simp; omega), Option.bind_some, Int.toNat_natCast, d1, List.take_left' rfl]

/-! ### The same -/
theorem loop_eq {α : Type} [DecidableEq α] {a b : List α} (hl : a.length = b.length) {step : Int → Option (Int ⊕ (Unit ⊕ Unit))} (h1 : ∀ (i : Nat) (h : i < a.length), step (i : Int) = some (if a[i] = b[i] then .inl ((i + 1 : Nat) : Int) else .inr (.inl ())))
    (h2 : step (a.length : Int) = some (.inr (.inr ()))) : loopO step 0 = some (if a = b then .inr () else .inl ()) := by
  have aux : ∀ m i, i + m = a.length → loopO step (i : Int) = some (if a.drop i = b.drop i then .inr () else .inl ()) := by
    intro m
    induction m with
    | zero =>
      intro i hi
      obtain rfl : i = a.length := by omega
      rw [loopO_done h2, if_pos (by rw [List.drop_length, hl, List.drop_length])]
    | succ m ih =>
      intro i hi
      have hia : i < a.length := by omega
      have hib : i < b.length := by omega
      have hs := h1 i hia
      rw [List.drop_eq_getElem_cons hia, List.drop_eq_getElem_cons hib]
      by_cases he : a[i] = b[i]
      · rw [if_pos he] at hs
        rw [loopO_next hs, ih (i + 1) (by omega)]
        simp only [he, List.cons.injEq, true_and]
      · rw [if_neg he] at hs
        rw [loopO_done hs, if_neg (fun q => he (List.cons.inj q).1)]
  have := aux a.length 0 (by omega)
  simpa using this
theorem same5_eq {a b : List Sp} (ha : a.length ≤ 1099511627776) : ref05_Same a b = some (decide (a = b)) := by
  unfold ref05_Same
  by_cases hl : a.length = b.length
  · rw [if_neg (by omega)]
    have h1 : ∀ (i : Nat) (h : i < a.length), ref05_Same_s0 a b (i : Int) = some (if a[i] = b[i] then .inl ((i + 1 : Nat) : Int) else .inr (.inl ())) := fun i h => by
      unfold ref05_Same_s0
      rw [if_pos (by omega), rdo_get h, Option.bind_some, rdo_get (by omega), Option.bind_some, wi64_of (by omega) (by omega)]
      by_cases he : a[i] = b[i]
      · rw [if_neg (by rw [he]; simp), if_pos he]; rfl
      · rw [if_pos (fun q => he (Prod.ext q.1 q.2.1)), if_neg he]
    have h2 : ref05_Same_s0 a b (a.length : Int) = some (.inr (.inr ())) := by
      unfold ref05_Same_s0
      rw [if_neg (by omega)]
    rw [loop_eq hl h1 h2, Option.bind_some]
    by_cases he : a = b <;> simp [he]
  · rw [if_pos (by omega), decide_eq_false (fun e => hl (congrArg List.length e))]
theorem same6_eq {K K' g g' : Int} {a b : List (List Sp)} (ha : a.length ≤ 1099511627776) (hal : ∀ l ∈ a, l.length ≤ 1099511627776) : ref06_Same (K, g, a) (K', g', b) = some (decide (K = K' ∧ g = g' ∧ a = b)) := by
  unfold ref06_Same
  simp only
  by_cases h1 : K = K'
  · rw [if_neg (by simpa using h1)]
    by_cases h2 : g = g'
    · rw [if_neg (by simpa using h2)]
      by_cases hl : a.length = b.length
      · rw [if_neg (by omega)]
        have h3 : ∀ (i : Nat) (h : i < a.length), ref06_Same_s0 (K, g, a) (K', g', b) (i : Int) = some (if a[i] = b[i] then .inl ((i + 1 : Nat) : Int) else .inr (.inl ())) := fun i h => by
          unfold ref06_Same_s0
          simp only
          rw [if_pos (by omega), rdo_get h, Option.bind_some, rdo_get (by omega), Option.bind_some, same5_eq (hal _ (List.getElem_mem h)), Option.bind_some, wi64_of (by omega) (by omega)]
          by_cases he : a[i] = b[i]
          · rw [if_neg (by simp [he]), if_pos he]; rfl
          · rw [if_pos (by simp [he]), if_neg he]
        have h4 : ref06_Same_s0 (K, g, a) (K', g', b) (a.length : Int) = some (.inr (.inr ())) := by
          unfold ref06_Same_s0
          simp only
          rw [if_neg (by omega)]
        rw [loop_eq hl h3 h4, Option.bind_some]
        by_cases he : a = b <;> simp [he, h1, h2]
      · rw [if_pos (by omega), decide_eq_false (fun e => hl (congrArg List.length e.2.2))]
    · rw [if_pos h2, decide_eq_false (fun e => h2 e.2.1)]
  · rw [if_pos h1, decide_eq_false (fun e => h1 e.1)]

/-! ### Reckoning -/
def flowF : Nat → Nat → Nat → List (List Sp) → List Sp → Option (List (List Sp))
  | 0, _, _, _, _ => none
  | n + 1, k, i, ls, F => if ls.isEmpty && F.isEmpty then some [] else (flowF n k (i + 1) ls.tail (goes (mostN k i) (ls.headD [] ++ F))).map (stays (mostN k i) (ls.headD [] ++ F) :: ·)
theorem flow_of {n k : Nat} : ∀ {i : Nat} {ls : List (List Sp)} {F : List Sp} {r : List (List Sp)}, flowF n k i ls F = some r → flow k i ls F = r := by
  induction n with
  | zero => intro i ls F r h; cases h
  | succ n ih =>
    intro i ls F r h
    rw [flowF] at h
    by_cases hc : ls = [] ∧ F = []
    · obtain ⟨rfl, rfl⟩ := hc
      simp at h
      rw [flow_nil, ← h]
    · rw [if_neg (by simpa using hc)] at h
      obtain ⟨x, h1, rfl⟩ := Option.map_eq_some_iff.1 h
      rw [flow_step _ _ _ _ hc, ih h1]
theorem htotal_eq {K g : Int} {ls : List (List Sp)} (hl : ls.length ≤ 64) (hw : wt ls < 18446744073709551616) (hls : ∀ l ∈ ls, l.length < 18446744073709551616) : hist_Total (K, g, ls) = some (wt ls : Int) := total_eq hl hw hls
end Go.Proofs.Ytbnjjpmlaknaoaa.Pu
