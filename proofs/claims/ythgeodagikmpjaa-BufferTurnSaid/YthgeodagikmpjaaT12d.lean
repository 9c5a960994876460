/- What goes out of a buffer is in turn. -/
import Derived.Test.YthgeodagikmpjaaT12c
namespace Go.Proofs.Ythgeodagikmpjaa.Pu
set_option linter.unusedVariables false

/-- By the ticks, and of one tick by the keys. -/
def bef (a b : Ev) : Prop := a.1 < b.1 ∨ (a.1 = b.1 ∧ a.2.1 < b.2.1)
def tot (l : List Ev) : Int := (l.map fun e => e.2.2).sum
theorem tot_app (a b : List Ev) : tot (a ++ b) = tot a + tot b := by unfold tot; rw [List.map_append, List.sum_append]
theorem tot_ins (l : List Ev) (e : Ev) : tot (ins l e) = tot l + e.2.2 := by
  have := congrArg tot (tw_app (upto e.1) l)
  rw [tot_app] at this
  unfold ins
  rw [tot_app, tot_app, ← this]
  show _ + ((e.2.2 + 0) + _) = _
  omega
/-- What keeps: i events came. -/
structure Trn (out : List Ev) (b : Bu) (i : Nat) (sum : Int) : Prop where
  inv : Inv b
  pw : (out ++ b.2.2.2.2).Pairwise bef
  key : ∀ e ∈ out ++ b.2.2.2.2, 0 ≤ e.2.1 ∧ e.2.1 < (i : Int) ∧ 0 ≤ e.2.2 ∧ e.2.2 ≤ 41
  old : ∀ e ∈ out, e.1 ≤ b.2.2.2.1
  sum : tot (out ++ b.2.2.2.2) = sum
  len : (out ++ b.2.2.2.2).length ≤ i
theorem Trn.skip {out : List Ev} {b : Bu} {i : Nat} {sum : Int} (h : Trn out b i sum) : Trn out b (i + 1) sum :=
  ⟨h.inv, h.pw, fun e he => by have := h.key e he; exact ⟨this.1, by omega, this.2.2⟩, h.old, h.sum, by have := h.len; omega⟩
theorem Trn.push {out : List Ev} {b : Bu} {i : Nat} {sum : Int} (h : Trn out b i sum) {t : Int} (ht : 0 ≤ t) (hi : i ≤ 40) (h0 : (pushR b (t, (i : Int), (i : Int) + 1)).2.2.2.2.2.2 = 0) :
    Trn (out ++ (pushR b (t, (i : Int), (i : Int) + 1)).2.2.2.2.2.1) (bu (pushR b (t, (i : Int), (i : Int) + 1))) (i + 1) (sum + ((i : Int) + 1)) := by
  have hinv := (push_inv h.inv (e := (t, (i : Int), (i : Int) + 1)) ht h0).1
  have hs := h.inv.srt
  obtain ⟨hin, hpw, hkey, hold, hsum, hlen⟩ := h
  obtain ⟨late, room, mark, front, l⟩ := b
  have hw : ¬ ((i : Int) + 1 = 0) := by omega
  have hfr : front ≤ t := by
    by_cases c : t < front
    · unfold pushR at h0
      simp only [] at h0
      rw [if_neg hw] at h0
      by_cases c2 : 9223372036854775807 < t
      · rw [if_pos c2] at h0; cases h0
      · rw [if_neg c2, if_pos c] at h0; cases h0
    · omega
  have hr : pushR (late, room, mark, front, l) (t, (i : Int), (i : Int) + 1) = setR late room (max mark t) front (ins l (t, (i : Int), (i : Int) + 1)) := by
    unfold pushR at h0 ⊢
    simp only [] at h0 ⊢
    rw [if_neg hw] at h0 ⊢
    by_cases c2 : 9223372036854775807 < t
    · rw [if_pos c2] at h0; cases h0
    · rw [if_neg c2, if_neg (by omega)]
  rw [hr] at hinv ⊢
  simp only at hs hpw hkey hold hsum hlen
  generalize hF : frM late room (max mark t) front (ins l (t, (i : Int), (i : Int) + 1)) = F
  have hF0 : front ≤ F := by rw [← hF]; unfold frM; omega
  have hall : out ++ (setR late room (max mark t) front (ins l (t, (i : Int), (i : Int) + 1))).2.2.2.2.2.1 ++ (bu (setR late room (max mark t) front (ins l (t, (i : Int), (i : Int) + 1)))).2.2.2.2 = out ++ ins l (t, (i : Int), (i : Int) + 1) := by
    rw [List.append_assoc]
    congr 1
    exact tw_app _ _
  obtain ⟨q1, q2, q3⟩ := List.pairwise_append.1 hpw
  refine ⟨hinv, ?_, ?_, ?_, ?_, ?_⟩
  · rw [hall, List.pairwise_append]
    have q2' : ((List.takeWhile (upto t) l) ++ (List.dropWhile (upto t) l)).Pairwise bef := by rw [tw_app]; exact q2
    obtain ⟨u1, u2, u3⟩ := List.pairwise_append.1 q2'
    refine ⟨q1, ?_, ?_⟩
    · show ((List.takeWhile (upto t) l) ++ ([(t, (i : Int), (i : Int) + 1)] ++ (List.dropWhile (upto t) l))).Pairwise bef
      rw [List.pairwise_append]
      refine ⟨u1, ?_, ?_⟩
      · rw [List.singleton_append, List.pairwise_cons]
        exact ⟨fun x hx => .inl (mem_dw hs hx).2, u2⟩
      · intro a ha c hc
        rw [List.mem_append, List.mem_singleton] at hc
        rcases hc with rfl | hc
        · have g1 := mem_tw ha
          have g2 := hkey a (List.mem_append_right _ g1.1)
          rcases Int.lt_or_eq_of_le g1.2 with g | g
          · exact .inl g
          · exact .inr ⟨g, g2.2.1⟩
        · exact u3 a ha c hc
    · intro a ha c hc
      rcases mem_ins.1 hc with rfl | hc
      · have g1 := hold a ha
        have g2 := hkey a (List.mem_append_left _ ha)
        rcases Int.lt_or_eq_of_le (show a.1 ≤ t by omega) with g | g
        · exact .inl g
        · exact .inr ⟨g, g2.2.1⟩
      · exact q3 a ha c hc
  · rw [hall]
    intro e he
    rcases List.mem_append.1 he with he | he
    · have := hkey e (List.mem_append_left _ he); exact ⟨this.1, by omega, this.2.2⟩
    · rcases mem_ins.1 he with rfl | he
      · exact ⟨by simp only []; omega, by simp only []; omega, by simp only []; omega, by simp only []; omega⟩
      · have := hkey e (List.mem_append_right _ he); exact ⟨this.1, by omega, this.2.2⟩
  · intro e he
    show e.1 ≤ frM late room (max mark t) front (ins l (t, (i : Int), (i : Int) + 1))
    rw [hF]
    rcases List.mem_append.1 he with he | he
    · have := hold e he; omega
    · have he' : e ∈ (List.takeWhile (upto (frM late room (max mark t) front (ins l (t, (i : Int), (i : Int) + 1)))) (ins l (t, (i : Int), (i : Int) + 1))) := he
      rw [hF] at he'
      exact (mem_tw he').2
  · rw [hall, tot_app, tot_ins, ← hsum, tot_app]
    simp only []
    omega
  · rw [hall, List.length_append, ins_len]
    rw [List.length_append] at hlen
    omega
theorem tot_bd : ∀ (l : List Ev), (∀ e ∈ l, 0 ≤ e.2.2 ∧ e.2.2 ≤ 41) → 0 ≤ tot l ∧ tot l ≤ 41 * l.length := by
  intro l
  induction l with
  | nil => intro _; exact ⟨by decide, by decide⟩
  | cons x l ih =>
    intro h
    have h1 := h x List.mem_cons_self
    have h2 := ih (fun e he => h e (List.mem_cons_of_mem _ he))
    have e : tot (x :: l) = x.2.2 + tot l := rfl
    rw [e, List.length_cons]
    omega
theorem law12_BufferTurn_true (p1 p2 : Int) (p3 : List Int) (h1 : U64 p1) (h2 : I64 p2) (h3 : p3.length ≤ 9223372036854775807 ∧ ∀ x ∈ p3, 0 ≤ x ∧ x < 65536) : law12_BufferTurn p1 p2 p3 = some true := by
  unfold law12_BufferTurn
  have g0 : p1.tmod 1000 = p1 % 1000 := Int.tmod_eq_emod_of_nonneg h1.1
  have g1 : wi64 (1 + ((max p2 0).tmod 50)) = 1 + max p2 0 % 50 := by rw [Int.tmod_eq_emod_of_nonneg (by omega), wi64_of (by omega) (by omega)]
  rw [awake12, Option.bind_some]
  by_cases c : (40 : Int) < (p3.length : Int)
  · rw [if_pos c]
  · rw [if_neg c, g0, g1, new_eq, if_neg (by unfold badC; omega), Option.bind_some]
    have run : ∀ (m i : Nat) (out : List Ev) (b : Bu) (sum : Int), i + m = p3.length → Trn out b i sum → 0 ≤ sum → sum ≤ 1000 * i → ∃ (out' : List Ev) (b' : Bu) (sum' : Int), Trn out' b' p3.length sum' ∧ loopO (law12_BufferTurn_s0 p3) (out, sum, (i : Int), b.1, b.2.1, b.2.2.1, b.2.2.2.1, b.2.2.2.2) = some (out', sum', b'.1, b'.2.1, b'.2.2.1, b'.2.2.2.1, b'.2.2.2.2) := by
      intro m
      induction m with
      | zero =>
        intro i out b sum hi ht _ _
        refine ⟨out, b, sum, by rw [← hi]; exact ht, loopO_done ?_⟩
        unfold law12_BufferTurn_s0
        simp only []
        rw [if_neg (by omega)]
      | succ m ih =>
        intro i out b sum hi ht hs0 hs1
        have hk : i < p3.length := by omega
        have hx := h3.2 _ (List.getElem_mem hk)
        have hp : buffer_Push b (wu64 p3[i], wu64 (i : Int), wu64 (wu64 (i : Int) + 1)) = some (pushR b (p3[i], (i : Int), (i : Int) + 1)) := by
          rw [wu64_of (x := p3[i]) (by omega) (by omega), wu64_of (x := (i : Int)) (by omega) (by omega), wu64_of (by omega) (by omega)]
          exact cpush ht.inv hx.1
        by_cases c0 : (pushR b (p3[i], (i : Int), (i : Int) + 1)).2.2.2.2.2.2 = 0
        · have ht2 := ht.push hx.1 (by omega) c0
          have hl2 := ht2.len
          rw [List.length_append] at hl2
          obtain ⟨out', b', sum', e1, e2⟩ := ih (i + 1) _ _ _ (by omega) ht2 (by omega) (by omega)
          refine ⟨out', b', sum', e1, (loopO_next ?_).trans e2⟩
          unfold law12_BufferTurn_s0
          simp only []
          have hp' : buffer_Push (b.1, b.2.1, b.2.2.1, b.2.2.2.1, b.2.2.2.2) (wu64 p3[i], wu64 (i : Int), wu64 (wu64 (i : Int) + 1)) = _ := hp
          rw [if_pos (by omega), rdo_get hk, Option.bind_some, hp', Option.bind_some, if_pos c0]
          rw [List.length_append] at hl2
          rw [room_of (by omega) (by omega), Option.bind_some, wi64_of (by omega) (by omega), wu64_of (x := (i : Int)) (by omega) (by omega), wu64_of (x := sum + (i : Int)) (by omega) (by omega), wu64_of (by omega) (by omega)]
          show some (Sum.inl (out ++ _, sum + (i : Int) + 1, (i : Int) + 1, _)) = some (Sum.inl (out ++ _, sum + ((i : Int) + 1), ((i + 1 : Nat) : Int), _))
          rw [Int.add_assoc]
          rfl
        · obtain ⟨out', b', sum', e1, e2⟩ := ih (i + 1) out b sum (by omega) ht.skip hs0 (by omega)
          refine ⟨out', b', sum', e1, (loopO_next ?_).trans e2⟩
          unfold law12_BufferTurn_s0
          simp only []
          have hp' : buffer_Push (b.1, b.2.1, b.2.2.1, b.2.2.2.1, b.2.2.2.2) (wu64 p3[i], wu64 (i : Int), wu64 (wu64 (i : Int) + 1)) = _ := hp
          rw [if_pos (by omega), rdo_get hk, Option.bind_some, hp', Option.bind_some, if_neg c0, wi64_of (by omega) (by omega)]
          rfl
    have t0 : Trn [] (p1 % 1000, 1 + max p2 0 % 50, 0, 0, []) 0 0 := ⟨inv0 (by omega) (by omega), List.Pairwise.nil, (fun e he => by cases he), (fun e he => by cases he), rfl, Nat.le_refl 0⟩
    obtain ⟨out, b, sum, ht, hr⟩ := run p3.length 0 [] _ 0 (by omega) t0 (Int.le_refl 0) (by omega)
    have h0 : loopO (law12_BufferTurn_s0 p3) (([] : List Ev), (0 : Int), (0 : Int), p1 % 1000, 1 + max p2 0 % 50, (0 : Int), (0 : Int), ([] : List Ev)) = _ := hr
    rw [h0, Option.bind_some]
    dsimp only
    have hl := ht.len
    rw [room_of (by rw [List.length_append] at hl; omega) (by rw [List.length_append] at hl; omega), Option.bind_some]
    generalize hW : out ++ b.2.2.2.2 = W at hl
    have hpw := ht.pw
    have hkey := ht.key
    have hsum := ht.sum
    rw [hW] at hpw hkey hsum
    have h2s : ∀ k : Nat, k < W.length → law12_BufferTurn_s1 (out, sum, b.1, b.2.1, b.2.2.1, b.2.2.2.1, b.2.2.2.2) (tot (W.take k), (k : Int)) = some (.inl (tot (W.take (k + 1)), ((k + 1 : Nat) : Int))) := by
      intro k hk
      unfold law12_BufferTurn_s1
      simp only [hW]
      have hw := hkey _ (List.getElem_mem hk)
      have hb := tot_bd (W.take k) (fun e he => (hkey e (List.mem_of_mem_take he)).2.2)
      have hbl : (W.take k).length ≤ k := by rw [List.length_take]; omega
      have e2 : tot (W.take (k + 1)) = tot (W.take k) + W[k].2.2 := by
        rw [List.take_succ_eq_append_getElem hk, tot_app]
        show _ + (W[k].2.2 + 0) = _
        omega
      rw [if_pos (by omega), rdo_get hk, Option.bind_some]
      have hend : (some (.inl ((wu64 (tot (W.take k) + W[k].2.2), wi64 ((k : Int) + 1)))) : Option ((Int × Int) ⊕ (Unit ⊕ Int))) = some (.inl (tot (W.take (k + 1)), ((k + 1 : Nat) : Int))) := by
        rw [e2, wu64_of (by omega) (by omega), wi64_of (by omega) (by omega)]; rfl
      by_cases c1 : (0 : Int) < (k : Int)
      · have hk1 : k - 1 < W.length := by omega
        have hbef := List.pairwise_iff_getElem.1 hpw (k - 1) k hk1 hk (by omega)
        rw [if_pos c1, wi64_of (x := (k : Int) - 1) (by omega) (by omega), show (k : Int) - 1 = ((k - 1 : Nat) : Int) by omega, rdo_get hk1, Option.bind_some]
        unfold bef at hbef
        rw [if_neg (by omega)]
        by_cases c2 : W[k].1 = W[k - 1].1
        · rw [if_pos c2, if_neg (by omega)]; exact hend
        · rw [if_neg c2]; exact hend
      · rw [if_neg c1]; exact hend
    have h3s : law12_BufferTurn_s1 (out, sum, b.1, b.2.1, b.2.2.1, b.2.2.2.1, b.2.2.2.2) (tot (W.take W.length), (W.length : Int)) = some (.inr (.inr (tot W))) := by
      unfold law12_BufferTurn_s1
      simp only [hW]
      rw [if_neg (by omega), List.take_length]
    have := loopO_run (step := law12_BufferTurn_s1 (out, sum, b.1, b.2.1, b.2.2.1, b.2.2.2.1, b.2.2.2.2)) (fun k : Nat => (tot (W.take k), (k : Int))) _ h2s h3s
    have h5 : loopO (law12_BufferTurn_s1 (out, sum, b.1, b.2.1, b.2.2.1, b.2.2.2.1, b.2.2.2.2)) ((0 : Int), (0 : Int)) = some (.inr (tot W)) := this
    rw [h5, Option.bind_some, Sum.elim_inr, if_pos rfl, decide_eq_true hsum]
end Go.Proofs.Ythgeodagikmpjaa.Pu
