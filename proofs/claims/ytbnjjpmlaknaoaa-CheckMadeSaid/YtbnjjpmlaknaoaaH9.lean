/- What really came, bucket by bucket: a count beside each bucket that goes the buckets' way. -/
import Derived.Test.YtbnjjpmlaknaoaaH8
namespace Go.Proofs.Ytbnjjpmlaknaoaa.Pu
set_option linter.unusedVariables false

abbrev Gs := Sp × Nat
def prsA : List Gs → List Gs
  | a :: b :: t => ((a.1.1, b.1.2), a.2 + b.2) :: prsA t
  | _ => []
theorem prsA_two (a b : Gs) (t : List Gs) : prsA (a :: b :: t) = ((a.1.1, b.1.2), a.2 + b.2) :: prsA t := rfl
theorem prsA_one (a : Gs) : prsA [a] = [] := rfl
theorem prsA_map (A : List Gs) : prs (A.map (·.1)) = (prsA A).map (·.1) := by
  induction A using twos with
  | h0 => rfl
  | h1 a => simp [prs_one, prsA_one]
  | h2 a b t ih => simp only [List.map_cons, prs_two, prsA_two, ih]
def staysA (most : Nat) (A : List Gs) : List Gs := A.drop (2 * npr A.length most)
def goesA (most : Nat) (A : List Gs) : List Gs := prsA (A.take (2 * npr A.length most))
theorem staysA_map (most : Nat) (A : List Gs) : stays most (A.map (·.1)) = (staysA most A).map (·.1) := by unfold stays staysA; rw [List.length_map, List.map_drop]
theorem goesA_map (most : Nat) (A : List Gs) : goes most (A.map (·.1)) = (goesA most A).map (·.1) := by unfold goes goesA; rw [List.length_map, ← prsA_map, List.map_take]
theorem goesA_len {most : Nat} (h : 1 ≤ most) (A : List Gs) : (goesA most A).length = npr A.length most := by
  have h1 := goes_len h (A.map (·.1))
  rw [goesA_map, List.length_map, List.length_map] at h1
  exact h1
def flowA (k i : Nat) (ls : List (List Gs)) (F : List Gs) : List (List Gs) :=
  if h : ls = [] ∧ F = [] then [] else
    staysA (mostN k i) (ls.headD [] ++ F) :: flowA k (i + 1) ls.tail (goesA (mostN k i) (ls.headD [] ++ F))
  termination_by (ls.length, F.length)
  decreasing_by
    cases ls with
    | nil =>
      have hF : F ≠ [] := fun e => h ⟨rfl, e⟩
      have h1 := List.length_pos_iff.2 hF
      have h2 := goesA_len (mostN_pos k i) F
      have h3 := npr_le (n := F.length) (mostN_pos k i)
      simp only [List.tail_nil, List.headD_nil, List.nil_append]
      apply Prod.Lex.right
      omega
    | cons l t => apply Prod.Lex.left; simp
theorem flowA_nil (k i : Nat) : flowA k i [] [] = [] := by rw [flowA, dif_pos ⟨rfl, rfl⟩]
theorem flowA_step (k i : Nat) (ls : List (List Gs)) (F : List Gs) (h : ¬ (ls = [] ∧ F = [])) : flowA k i ls F = staysA (mostN k i) (ls.headD [] ++ F) :: flowA k (i + 1) ls.tail (goesA (mostN k i) (ls.headD [] ++ F)) := by
  rw [flowA, dif_neg h]
theorem flowA_ind (k : Nat) {P : Nat → List (List Gs) → List Gs → Prop} (h0 : ∀ i, P i [] [])
    (h1 : ∀ i ls F, ¬ (ls = [] ∧ F = []) → P (i + 1) ls.tail (goesA (mostN k i) (ls.headD [] ++ F)) → P i ls F) : ∀ i ls F, P i ls F := by
  intro i ls F
  induction i, ls, F using flowA.induct (k := k) with
  | case1 i ls F h => obtain ⟨rfl, rfl⟩ := h; exact h0 i
  | case2 i ls F h ih => exact h1 i ls F h ih
/-- Without the counts. -/
def bare (G : List (List Gs)) : List (List Sp) := G.map fun l => l.map (·.1)
theorem bare_head (G : List (List Gs)) (F : List Gs) : (bare G).headD [] ++ F.map (·.1) = (G.headD [] ++ F).map (·.1) := by
  cases G <;> simp [bare]
theorem bare_tail (G : List (List Gs)) : (bare G).tail = bare G.tail := by cases G <;> rfl
theorem flowA_map (k : Nat) : ∀ i G F, flow k i (bare G) (F.map (·.1)) = bare (flowA k i G F) := by
  apply flowA_ind k (P := fun i G F => flow k i (bare G) (F.map (·.1)) = bare (flowA k i G F))
  · intro i; rw [flowA_nil]; exact flow_nil k i
  · intro i G F h ih
    have h' : ¬ (bare G = [] ∧ F.map (·.1) = []) := fun q => h ⟨by simpa [bare] using q.1, by simpa using q.2⟩
    rw [flow_step k i _ _ h', flowA_step k i G F h, bare_head, bare_tail, goesA_map, staysA_map, ih]
    rfl

def sumL (l : List Gs) : Nat := (l.map (·.2)).sum
def tot : List (List Gs) → Nat
  | [] => 0
  | l :: G => sumL l + tot G
theorem sumL_app (a b : List Gs) : sumL (a ++ b) = sumL a + sumL b := by simp [sumL]
theorem sumL_cons (a : Gs) (b : List Gs) : sumL (a :: b) = a.2 + sumL b := by simp [sumL]
theorem sumL_prsA (A : List Gs) (h : A.length % 2 = 0) : sumL (prsA A) = sumL A := by
  induction A using twos with
  | h0 => rfl
  | h1 a => simp at h
  | h2 a b t ih =>
    rw [prsA_two, sumL_cons, sumL_cons, sumL_cons, ih (by simp only [List.length_cons] at h; omega)]
    simp only
    omega
theorem sumL_step {most : Nat} (hm : 1 ≤ most) (A : List Gs) : sumL (staysA most A) + sumL (goesA most A) = sumL A := by
  have h := npr_le (n := A.length) hm
  unfold staysA goesA
  rw [sumL_prsA _ (by rw [List.length_take]; omega), Nat.add_comm, ← sumL_app, List.take_append_drop]
theorem tot_flow (k : Nat) : ∀ i G F, tot (flowA k i G F) = tot G + sumL F := by
  apply flowA_ind k (P := fun i G F => tot (flowA k i G F) = tot G + sumL F)
  · intro i; rw [flowA_nil]; rfl
  · intro i G F h ih
    rw [flowA_step k i G F h, tot, ih]
    have h2 := sumL_step (mostN_pos k i) (G.headD [] ++ F)
    rw [sumL_app] at h2
    cases G with
    | nil => simp only [List.tail_nil, List.headD_nil, List.nil_append, tot, sumL, List.map_nil, List.sum_nil] at h2 ⊢; omega
    | cons l t => simp only [List.tail_cons, List.headD_cons, tot] at h2 ⊢; omega

section
variable {tick span : Int}
/-- A bucket of level i, of whose units so many came within. -/
def okc (tick span : Int) (i : Nat) (x : Gs) : Prop :=
  (wiT tick span x.1.1 = true → x.2 = 2 ^ i) ∧ (wiT tick span x.1.2 = false → x.2 = 0) ∧ (wiT tick span x.1.1 = false → wiT tick span x.1.2 = true → 1 ≤ x.2 ∧ x.2 + 1 ≤ 2 ^ i)
theorem okc_merge {i : Nat} {a b : Gs} (ha : okc tick span i a) (hb : okc tick span i b) (h1 : a.1.1 ≤ a.1.2) (h2 : a.1.2 ≤ b.1.1) (h3 : b.1.1 ≤ b.1.2) : okc tick span (i + 1) ((a.1.1, b.1.2), a.2 + b.2) := by
  have hp : 1 ≤ 2 ^ i := Nat.one_le_two_pow
  obtain ⟨a1, a2, a3⟩ := ha
  obtain ⟨b1, b2, b3⟩ := hb
  unfold okc
  simp only
  rw [Nat.pow_succ]
  refine ⟨fun h => ?_, fun h => ?_, fun h k => ?_⟩
  · rw [a1 h, b1 (wiT_up (Int.le_trans h1 h2) h)]; omega
  · have h4 : wiT tick span a.1.2 = false := by
      cases q : wiT tick span a.1.2 with
      | false => rfl
      | true => rw [wiT_up (Int.le_trans h2 h3) q] at h; cases h
    rw [a2 h4, b2 h]
  · have hA : a.2 + 1 ≤ 2 ^ i := by
      cases q : wiT tick span a.1.2 with
      | false => rw [a2 q]; omega
      | true => exact (a3 h q).2
    have hB : 1 ≤ b.2 ∧ b.2 ≤ 2 ^ i := by
      cases q : wiT tick span b.1.1 with
      | true => rw [b1 q]; omega
      | false => have := b3 q k; omega
    omega
theorem okc_prs {i : Nat} {A : List Gs} (ht : InTurn (A.map (·.1))) (h : ∀ a ∈ A, okc tick span i a) : ∀ a ∈ prsA A, okc tick span (i + 1) a := by
  induction A using twos with
  | h0 => intro a ha; cases ha
  | h1 a => intro b hb; rw [prsA_one] at hb; cases hb
  | h2 a b t ih =>
    intro x hx
    simp only [List.map_cons] at ht
    rw [InTurn.cons, InTurn.cons] at ht
    obtain ⟨t1, ⟨t2, t3, t4⟩, t5⟩ := ht
    rw [prsA_two] at hx
    rcases List.mem_cons.1 hx with rfl | hx
    · exact okc_merge (h a (by simp)) (h b (by simp)) t1 (t5 b.1 (by simp)) t2
    · exact ih t3 (fun y hy => h y (by simp [hy])) x hx
def okL (tick span : Int) : Nat → List (List Gs) → Prop
  | _, [] => True
  | i, l :: G => (∀ a ∈ l, okc tick span i a) ∧ okL tick span (i + 1) G
theorem okL_flow (k : Nat) : ∀ i G F, InTurn (line (bare G) ++ F.map (·.1)) → okL tick span i G → (∀ a ∈ F, okc tick span i a) → okL tick span i (flowA k i G F) := by
  apply flowA_ind k (P := fun i G F => InTurn (line (bare G) ++ F.map (·.1)) → okL tick span i G → (∀ a ∈ F, okc tick span i a) → okL tick span i (flowA k i G F))
  · intro i _ _ _; rw [flowA_nil]; trivial
  · intro i G F h ih ht hG hF
    rw [flowA_step k i G F h]
    have hA : ∀ a ∈ G.headD [] ++ F, okc tick span i a := by
      intro a ha
      rcases List.mem_append.1 ha with q | q
      · cases G with
        | nil => cases q
        | cons l t => exact hG.1 a q
      · exact hF a q
    have hT : okL tick span (i + 1) G.tail := by
      cases G with
      | nil => trivial
      | cons l t => exact hG.2
    have e : line (bare G) ++ F.map (·.1) = line (bare G.tail) ++ (G.headD [] ++ F).map (·.1) := by
      cases G <;> simp [bare, line]
    rw [e] at ht
    generalize G.headD [] ++ F = A at ht hA ih ⊢
    have ht2 : InTurn ((A.take (2 * npr A.length (mostN k i))).map (·.1)) := ht.right.sub ((List.take_sublist _ _).map _)
    refine ⟨fun a ha => hA a (List.mem_of_mem_drop ha), ih ?_ hT (okc_prs ht2 fun a ha => hA a (List.mem_of_mem_take ha))⟩
    rw [← goesA_map]
    unfold goes
    have h3 : InTurn (line (bare G.tail) ++ ((A.map (·.1)).take (2 * npr (A.map (·.1)).length (mostN k i)) ++ (A.map (·.1)).drop (2 * npr (A.map (·.1)).length (mostN k i)))) := by rw [List.take_append_drop]; exact ht
    have h4 := InTurn.prs_mid _ _ _ h3
    rw [← List.append_assoc] at h4
    exact h4.left

/-- How many of the units that came are within. -/
def exactS (tick span : Int) (k : Nat) : List (Int × Int) → Int → List (List Sp) → Nat → Nat
  | [], _, _, n => n
  | d :: ds, t, ls, n => if addC ls (t + d.1 % 1000) d.2 = 0 then exactS tick span k ds (t + d.1 % 1000) (addL k ls (t + d.1 % 1000) d.2) (if wiT tick span (t + d.1 % 1000) then n + d.2.toNat else n) else exactS tick span k ds (t + d.1 % 1000) ls n
theorem Good.turn_add {k : Nat} {ls : List (List Sp)} {t0 t w : Int} (h : Good k ls t0) (ha : addC ls t w = 0) (n : Nat) : InTurn (line ls ++ List.replicate n (t, t)) := by
  obtain ⟨h1, h2, h3, h4⟩ := addC_zero ha
  rw [InTurn.app]
  refine ⟨h.turn, rep_turn n t, fun a ha b hb => ?_⟩
  obtain ⟨l, hl, hal⟩ := mem_line.1 ha
  rw [List.eq_of_mem_replicate hb]
  cases hx : lastM ls with
  | none => rw [h.none hx] at hl; cases hl
  | some x =>
    have h5 := h.all_le hx l hl a hal
    have h6 := h3 x hx
    simp only
    omega
theorem ghost {k : Nat} (hk : 1 ≤ k) : ∀ {ds : List (Int × Int)} {t t0 : Int} {ls : List (List Sp)} {G : List (List Gs)} {n : Nat}, Deeds ds → 0 ≤ t → t0 ≤ t → Good k ls t0 → bare G = ls → okL tick span 0 G → tot G = n →
    ∃ G', bare G' = madeS k ds t ls ∧ okL tick span 0 G' ∧ tot G' = exactS tick span k ds t ls n := by
  intro ds
  induction ds with
  | nil => intro t t0 ls G n _ _ _ _ h1 h2 h3; exact ⟨G, by rw [madeS]; exact h1, h2, by rw [exactS]; exact h3⟩
  | cons d ds ih =>
    intro t t0 ls G n hd h0 ht hg h1 h2 h3
    have hd1 := hd d List.mem_cons_self
    have hd' : Deeds ds := fun e he => hd e (List.mem_cons_of_mem _ he)
    have hge : 0 ≤ d.1 % 1000 := Int.emod_nonneg _ (by decide)
    rw [madeS, exactS]
    by_cases hc : addC ls (t + d.1 % 1000) d.2 = 0
    · rw [if_pos hc, if_pos hc]
      have hturn := hg.turn_add hc d.2.toNat
      have hmap : (List.replicate d.2.toNat (((t + d.1 % 1000, t + d.1 % 1000), if wiT tick span (t + d.1 % 1000) then 1 else 0) : Gs)).map (·.1) = List.replicate d.2.toNat (t + d.1 % 1000, t + d.1 % 1000) := by rw [List.map_replicate]
      refine ih (G := flowA k 0 G (List.replicate d.2.toNat (((t + d.1 % 1000, t + d.1 % 1000), if wiT tick span (t + d.1 % 1000) then 1 else 0) : Gs))) hd' (by omega) (Int.le_refl _) (hg.addL hk (by omega) hd1.2.1 hc) ?_ ?_ ?_
      · rw [← flowA_map, hmap, h1]; rfl
      · refine okL_flow k 0 G _ (by rw [h1, hmap]; exact hturn) h2 (fun a ha => ?_)
        rw [List.eq_of_mem_replicate ha]
        unfold okc
        simp only
        refine ⟨fun q => by rw [q]; rfl, fun q => by rw [q]; rfl, fun q r => by rw [q] at r; cases r⟩
      · rw [tot_flow, h3]
        unfold sumL
        rw [List.map_replicate, List.sum_replicate_nat]
        by_cases hw : wiT tick span (t + d.1 % 1000) = true
        · rw [if_pos hw, if_pos hw]; omega
        · rw [if_neg hw, if_neg hw]; omega
    · rw [if_neg hc, if_neg hc]
      exact ih hd' (by omega) (by omega) hg h1 h2 h3
theorem ghost_made (p : Int) {ds : List (Int × Int)} (h : Deeds ds) : ∃ G, bare G = madeM p ds ∧ okL tick span 0 G ∧ tot G = exactS tick span (kM p) (ds.take 30) 0 [] 0 :=
  ghost (by have := kM_le p; omega) (h.take 30) (Int.le_refl 0) (Int.le_refl 0) (Good.nil (kM p) 0) (G := []) rfl trivial rfl

/-! ### Sure, cut, and what really came -/
theorem level_parts {i : Nat} {l : List Gs} (hl : ∀ a ∈ l, a.1.1 ≤ a.1.2) (h : ∀ a ∈ l, okc tick span i a) : 2 ^ i * (l.map (·.1)).countP (sureP tick span) ≤ sumL l ∧ sumL l ≤ 2 ^ i * ((l.map (·.1)).countP (sureP tick span) + (l.map (·.1)).countP (cutP tick span)) := by
  induction l with
  | nil => simp [sumL]
  | cons a t ih =>
    obtain ⟨i1, i2⟩ := ih (fun b hb => hl b (List.mem_cons_of_mem _ hb)) (fun b hb => h b (List.mem_cons_of_mem _ hb))
    obtain ⟨h1, h2, h3⟩ := h a List.mem_cons_self
    have h4 := hl a List.mem_cons_self
    rw [sumL_cons, List.map_cons, List.countP_cons, List.countP_cons]
    simp only [sureP, cutP] at i1 i2 ⊢
    simp only [Nat.mul_add] at i1 i2 ⊢
    by_cases hs : wiT tick span a.1.1 = true
    · rw [h1 hs]
      simp only [hs, if_true, Bool.not_true, Bool.false_and, Bool.false_eq_true, if_false, Nat.mul_one, Nat.mul_zero]
      constructor <;> omega
    · have hs' : wiT tick span a.1.1 = false := by simpa using hs
      by_cases hc : wiT tick span a.1.2 = true
      · have := h3 hs' hc
        simp only [hs', hc, if_true, Bool.not_false, Bool.true_and, Bool.false_eq_true, if_false, Nat.mul_one, Nat.mul_zero]
        constructor <;> omega
      · have hc' : wiT tick span a.1.2 = false := by simpa using hc
        rw [h2 hc']
        simp only [hs', hc', Bool.and_false, Bool.false_eq_true, if_false, Nat.mul_zero]
        constructor <;> omega
theorem all_parts : ∀ {i : Nat} {G : List (List Gs)}, (∀ l ∈ G, ∀ a ∈ l, a.1.1 ≤ a.1.2) → okL tick span i G → 2 ^ i * wtP (sureP tick span) (bare G) ≤ tot G ∧ tot G ≤ 2 ^ i * (wtP (sureP tick span) (bare G) + wtP (cutP tick span) (bare G)) := by
  intro i G
  induction G generalizing i with
  | nil => intro _ _; simp [tot, bare, wtP]
  | cons l G ih =>
    intro hl h
    obtain ⟨i1, i2⟩ := ih (fun m hm => hl m (List.mem_cons_of_mem _ hm)) h.2
    obtain ⟨j1, j2⟩ := level_parts (hl l List.mem_cons_self) h.1
    have e : bare (l :: G) = l.map (·.1) :: bare G := rfl
    rw [e, tot, wtP, wtP]
    rw [Nat.pow_succ] at i1 i2
    simp only [Nat.mul_add, ← Nat.mul_assoc] at i1 i2 j1 j2 ⊢
    constructor <;> omega

/-- One level in turn: at most one bucket is cut. -/
theorem level_cut {i : Nat} {l : List Gs} (ht : InTurn (l.map (·.1))) (h : ∀ a ∈ l, okc tick span i a) :
    ((l.map (·.1)).countP (cutP tick span) = 0 ∧ sumL l = 2 ^ i * (l.map (·.1)).countP (sureP tick span)) ∨
    ((l.map (·.1)).countP (cutP tick span) = 1 ∧ ∃ c, sumL l = 2 ^ i * (l.map (·.1)).countP (sureP tick span) + c ∧ 1 ≤ c ∧ c + 1 ≤ 2 ^ i) := by
  induction l with
  | nil => exact .inl ⟨rfl, rfl⟩
  | cons a t ih =>
    rw [List.map_cons, InTurn.cons] at ht
    obtain ⟨h1, h2, h3⟩ := h a List.mem_cons_self
    have h' : ∀ b ∈ t, okc tick span i b := fun b hb => h b (List.mem_cons_of_mem _ hb)
    have ih' := ih ht.2.1 h'
    rw [sumL_cons, List.map_cons, List.countP_cons, List.countP_cons]
    simp only [sureP, cutP] at ih' ⊢
    simp only [Nat.mul_add]
    by_cases hs : wiT tick span a.1.1 = true
    · rw [h1 hs]
      simp only [hs, if_true, Bool.not_true, Bool.false_and, Bool.false_eq_true, if_false, Nat.mul_one]
      rcases ih' with ⟨q1, q2⟩ | ⟨q1, c, q2, q3, q4⟩
      · exact .inl ⟨q1, by rw [q2]; omega⟩
      · exact .inr ⟨q1, c, by rw [q2]; omega, q3, q4⟩
    · have hs' : wiT tick span a.1.1 = false := by simpa using hs
      by_cases hc : wiT tick span a.1.2 = true
      · obtain ⟨c1, c2⟩ := h3 hs' hc
        have hall : ∀ b ∈ t.map (·.1), wiT tick span b.1 = true := fun b hb => wiT_up (ht.2.2 b hb) hc
        have z1 : (t.map (·.1)).countP (cutP tick span) = 0 := by
          rw [List.countP_eq_zero]; intro b hb; unfold cutP; rw [hall b hb]; simp
        simp only [hs', hc, if_true, Bool.not_false, Bool.true_and, Bool.false_eq_true, if_false, Nat.mul_zero]
        refine .inr ⟨by rw [z1], a.2, ?_, c1, c2⟩
        rcases ih' with ⟨q1, q2⟩ | ⟨q1, _⟩
        · rw [q2]; omega
        · omega
      · have hc' : wiT tick span a.1.2 = false := by simpa using hc
        rw [h2 hc']
        simp only [hs', hc', Bool.and_false, Bool.false_eq_true, if_false, Nat.mul_zero]
        rcases ih' with ⟨q1, q2⟩ | ⟨q1, c, q2, q3, q4⟩
        · exact .inl ⟨q1, by rw [q2]; omega⟩
        · exact .inr ⟨q1, c, by rw [q2]; omega, q3, q4⟩
theorem level_all {i : Nat} {l : List Gs} (h : ∀ a ∈ l, okc tick span i a) (hs : ∀ a ∈ l, wiT tick span a.1.1 = true) : sumL l = 2 ^ i * l.length ∧ (l.map (·.1)).countP (sureP tick span) = l.length ∧ (l.map (·.1)).countP (cutP tick span) = 0 := by
  induction l with
  | nil => exact ⟨rfl, rfl, rfl⟩
  | cons a t ih =>
    obtain ⟨i1, i2, i3⟩ := ih (fun b hb => h b (List.mem_cons_of_mem _ hb)) (fun b hb => hs b (List.mem_cons_of_mem _ hb))
    have h1 := (h a List.mem_cons_self).1 (hs a List.mem_cons_self)
    have h2 := hs a List.mem_cons_self
    rw [sumL_cons, List.map_cons, List.countP_cons, List.countP_cons, i1, i2, i3, h1, List.length_cons]
    simp only [sureP, cutP, h2, Nat.mul_add]
    refine ⟨by omega, by simp, by simp⟩
theorem level_gone {i : Nat} {G : List (List Gs)} (h : okL tick span i G) (hz : ∀ l ∈ G, ∀ a ∈ l, wiT tick span a.1.2 = false) (hl : ∀ l ∈ G, ∀ a ∈ l, a.1.1 ≤ a.1.2) : tot G = 0 ∧ wtP (sureP tick span) (bare G) = 0 ∧ wtP (cutP tick span) (bare G) = 0 := by
  induction G generalizing i with
  | nil => exact ⟨rfl, rfl, rfl⟩
  | cons l G ih =>
    obtain ⟨i1, i2, i3⟩ := ih h.2 (fun m hm => hz m (List.mem_cons_of_mem _ hm)) (fun m hm => hl m (List.mem_cons_of_mem _ hm))
    have e : bare (l :: G) = l.map (·.1) :: bare G := rfl
    rw [e, tot, wtP, wtP, i1, i2, i3]
    have hz1 := hz l List.mem_cons_self
    have hl1 := hl l List.mem_cons_self
    have ho := h.1
    clear ih h hz hl i1 i2 i3 e
    induction l with
    | nil => exact ⟨rfl, rfl, rfl⟩
    | cons a t ih =>
      obtain ⟨j1, j2, j3⟩ := ih (fun b hb => hz1 b (List.mem_cons_of_mem _ hb)) (fun b hb => hl1 b (List.mem_cons_of_mem _ hb)) (fun b hb => ho b (List.mem_cons_of_mem _ hb))
      have h1 := hz1 a List.mem_cons_self
      have h2 : wiT tick span a.1.1 = false := by
        cases q : wiT tick span a.1.1 with
        | false => rfl
        | true => rw [wiT_up (hl1 a List.mem_cons_self) q] at h1; cases h1
      have h3 := (ho a List.mem_cons_self).2.1 h1
      rw [sumL_cons, List.map_cons, List.countP_cons, List.countP_cons, h3]
      simp only [sureP, cutP, h1, h2] at j2 j3 ⊢
      exact ⟨by omega, by simpa using j2, by simpa using j3⟩
/-- THE BOUND's ground: all buckets that are newer than the one that is cut have k by 2 times its units. -/
theorem cut_bound {k : Nat} : ∀ {i W : Nat} {G : List (List Gs)}, okL tick span i G → InTurn (line (bare G)) → shape k i (bare G) → (i = 0 ∨ G = [] ∨ k * 2 ^ i ≤ 2 * W) →
    (wtP (cutP tick span) (bare G) = 0 ∧ tot G = 2 ^ i * wtP (sureP tick span) (bare G)) ∨
    (∃ j c, 1 ≤ j ∧ 2 ^ i * wtP (cutP tick span) (bare G) = 2 ^ j ∧ tot G = 2 ^ i * wtP (sureP tick span) (bare G) + c ∧ 1 ≤ c ∧ c + 1 ≤ 2 ^ j ∧ k * 2 ^ j ≤ 2 * (W + 2 ^ i * wtP (sureP tick span) (bare G))) := by
  intro i W G
  induction G generalizing i W with
  | nil => intro _ _ _ _; exact .inl ⟨rfl, rfl⟩
  | cons l G ih =>
    intro ho ht hs hW
    have e : bare (l :: G) = l.map (·.1) :: bare G := rfl
    rw [e] at ht hs ⊢
    rw [line] at ht
    have hW' : i = 0 ∨ k * 2 ^ i ≤ 2 * W := by
      rcases hW with q | q | q
      · exact .inl q
      · cases q
      · exact .inr q
    by_cases hall : ∀ a ∈ l, wiT tick span a.1.1 = true
    · obtain ⟨a1, a2, a3⟩ := level_all ho.1 hall
      have hcond : i + 1 = 0 ∨ G = [] ∨ k * 2 ^ (i + 1) ≤ 2 * (W + 2 ^ i * l.length) := by
        by_cases hG : G = []
        · exact .inr (.inl hG)
        · refine .inr (.inr ?_)
          have h5 := hs.2.2.1 (by intro q; apply hG; simpa [bare] using q)
          rw [List.length_map] at h5
          rw [Nat.pow_succ, ← Nat.mul_assoc]
          rcases hW' with q | q
          · subst q
            unfold mostN at h5
            rw [if_pos rfl] at h5
            simp only [Nat.pow_zero, Nat.one_mul, Nat.mul_one]
            omega
          · have h6 : k ≤ 2 * l.length := by
              unfold mostN at h5
              split at h5 <;> omega
            have h7 : k * 2 ^ i ≤ 2 * l.length * 2 ^ i := Nat.mul_le_mul_right _ h6
            have h8 : 2 * l.length * 2 ^ i = 2 * (2 ^ i * l.length) := by rw [Nat.mul_assoc, Nat.mul_comm l.length]
            omega
      rw [tot, wtP, wtP, a1, a2, a3]
      rcases ih (W := W + 2 ^ i * l.length) ho.2 ht.left hs.2.2.2 hcond with ⟨q1, q2⟩ | ⟨j, c, q1, q2, q3, q4, q5, q6⟩
      · refine .inl ⟨by omega, ?_⟩
        rw [q2, Nat.pow_succ, Nat.mul_add, ← Nat.mul_assoc]
      · rw [Nat.pow_succ, Nat.mul_assoc] at q2 q3 q6
        refine .inr ⟨j, c, q1, ?_, ?_, q4, q5, ?_⟩
        · rw [Nat.zero_add]; exact q2
        · have e5 : 2 ^ i * (l.length + 2 * wtP (sureP tick span) (bare G)) = 2 ^ i * l.length + 2 ^ i * (2 * wtP (sureP tick span) (bare G)) := Nat.mul_add _ _ _
          rw [q3, e5]; omega
        · have e5 : 2 ^ i * (l.length + 2 * wtP (sureP tick span) (bare G)) = 2 ^ i * l.length + 2 ^ i * (2 * wtP (sureP tick span) (bare G)) := Nat.mul_add _ _ _
          rw [e5]; omega
    · have hgone : ∀ m ∈ G, ∀ b ∈ m, wiT tick span b.1.2 = false := by
        intro m hm b hb
        cases q : wiT tick span b.1.2 with
        | false => rfl
        | true =>
          exfalso
          apply hall
          intro a ha
          refine wiT_up ((InTurn.app.1 ht).2.2 b.1 (mem_line.2 ⟨m.map (·.1), List.mem_map.2 ⟨m, hm, rfl⟩, List.mem_map.2 ⟨b, hb, rfl⟩⟩) a.1 (List.mem_map.2 ⟨a, ha, rfl⟩)) q
      have hle : ∀ m ∈ G, ∀ b ∈ m, b.1.1 ≤ b.1.2 := fun m hm b hb => ht.left.2 b.1 (mem_line.2 ⟨m.map (·.1), List.mem_map.2 ⟨m, hm, rfl⟩, List.mem_map.2 ⟨b, hb, rfl⟩⟩)
      obtain ⟨g1, g2, g3⟩ := level_gone ho.2 hgone hle
      rw [tot, wtP, wtP, g1, g2, g3]
      rcases level_cut ht.right ho.1 with ⟨q1, q2⟩ | ⟨q1, c, q2, q3, q4⟩
      · exact .inl ⟨by omega, by rw [q2]; simp⟩
      · have hi : 1 ≤ i := by
          rcases Nat.eq_zero_or_pos i with z | z
          · subst z; simp at q4; omega
          · exact z
        refine .inr ⟨i, c, hi, by rw [q1]; simp, by rw [q2]; simp, q3, q4, ?_⟩
        rcases hW' with z | z
        · omega
        · have : W ≤ W + 2 ^ i * ((l.map (·.1)).countP (sureP tick span) + 2 * 0) := Nat.le_add_right _ _
          omega
end
end Go.Proofs.Ytbnjjpmlaknaoaa.Pu
