/- Events that wait: what comes and goes. (Out of the texts of round b.) -/
import Derived.Test.YtbeknohemgjfbaaC12
namespace Go.Proofs.Ytbeknohemgjfbaa.Pu
set_option linter.unusedVariables false

abbrev Res := Int × Int × Int × Int × List Ev × List Ev × Int
structure Inv (b : Bu) : Prop where
  late : 0 ≤ b.1 ∧ b.1 ≤ 4611686018427387904
  room : 1 ≤ b.2.1 ∧ b.2.1 ≤ 1024
  mark : 0 ≤ b.2.2.1 ∧ b.2.2.1 ≤ 9223372036854775807
  front : 0 ≤ b.2.2.2.1 ∧ b.2.2.2.1 ≤ b.2.2.1
  lag : b.2.2.1 - b.2.2.2.1 ≤ b.1
  len : (b.2.2.2.2.length : Int) ≤ b.2.1
  srt : Srt b.2.2.2.2
  ev : ∀ e ∈ b.2.2.2.2, b.2.2.2.1 < e.1 ∧ e.1 ≤ b.2.2.1 ∧ e.2.2 ≠ 0
def bu (r : Res) : Bu := (r.1, r.2.1, r.2.2.1, r.2.2.2.1, r.2.2.2.2.1)
def setR (late room mark front : Int) (l : List Ev) : Res := (late, room, mark, frM late room mark front l, (List.dropWhile (upto (frM late room mark front l)) l), (List.takeWhile (upto (frM late room mark front l)) l), 0)
def pushR (b : Bu) (e : Ev) : Res :=
  if e.2.2 = 0 then (0, 0, 0, 0, [], [], 1) else if 9223372036854775807 < e.1 then (0, 0, 0, 0, [], [], 6) else if e.1 < b.2.2.2.1 then (0, 0, 0, 0, [], [], 4)
  else setR b.1 b.2.1 (max b.2.2.1 e.1) b.2.2.2.1 (ins b.2.2.2.2 e)
def moveR (b : Bu) (t : Int) : Res := if 9223372036854775807 < t then (0, 0, 0, 0, [], [], 6) else setR b.1 b.2.1 (max b.2.2.1 t) b.2.2.2.1 b.2.2.2.2
theorem cpush {b : Bu} (h : Inv b) {e : Ev} (he : 0 ≤ e.1) : buffer_Push b e = some (pushR b e) := by
  obtain ⟨late, room, mark, front, l⟩ := b
  obtain ⟨h1, h2, h3, h4, h5, h6, h7, h8⟩ := h
  simp only at h1 h2 h3 h4 h5 h6 h7 h8
  unfold buffer_Push pushR
  simp only []
  by_cases c1 : e.2.2 = 0
  · rw [if_pos c1, if_pos c1]
  · rw [if_neg c1, if_neg c1]
    by_cases c2 : 9223372036854775807 < e.1
    · rw [if_pos c2, if_pos c2]
    · rw [if_neg c2, if_neg c2]
      by_cases c3 : e.1 < front
      · rw [if_pos c3, if_pos c3]
      · have hle := tw_le (upto e.1) l
        have hil := ins_len l e
        have hfl : ([(List.takeWhile (upto e.1) l), [e], (List.dropWhile (upto e.1) l)] : List (List Ev)).flatten = ins l e := by simp only [ins, List.flatten_cons, List.flatten_nil, List.append_nil]
        rw [if_neg c3, if_neg c3, below_eq _ (by simp only []; omega), Option.bind_some, latest_eq, Option.bind_some]
        dsimp only
        rw [must_of (by omega), Option.bind_some, must_of (by omega), Option.bind_some, Int.toNat_natCast, tw_take, tw_drop, concat_eq (by simp) (by rw [hfl]; omega), Option.bind_some, hfl,
          psettle (srt_ins h7 e) (by omega) (by omega) h1.1 (by omega) h4.1]
        rfl
theorem rpush {b : Bu} (h : Inv b) {e : Ev} (he : 0 ≤ e.1) : ref12_Push b e = some (pushR b e) := by
  obtain ⟨late, room, mark, front, l⟩ := b
  obtain ⟨h1, h2, h3, h4, h5, h6, h7, h8⟩ := h
  simp only at h1 h2 h3 h4 h5 h6 h7 h8
  unfold ref12_Push pushR
  simp only []
  by_cases c1 : e.2.2 = 0
  · rw [if_pos c1, if_pos c1]
  · rw [if_neg c1, if_neg c1]
    by_cases c2 : 9223372036854775807 < e.1
    · rw [if_pos c2, if_pos c2]
    · rw [if_neg c2, if_neg c2]
      by_cases c3 : e.1 < front
      · rw [if_pos c3, if_pos c3]
      · have hle := tw_le (upto e.1) l
        have ha := congrArg List.length (tw_app (upto e.1) l)
        rw [List.length_append] at ha
        have hil := ins_len l e
        have hfl : ((List.takeWhile (upto e.1) l) ++ [e]) ++ (List.dropWhile (upto e.1) l) = ins l e := by simp only [ins, List.append_assoc]
        rw [if_neg c3, if_neg c3, split_eq h7 (by omega), Option.bind_some]
        dsimp only
        rw [room_of (by simp only [List.length_nil]; omega) (by simp only [List.length_nil]; omega), Option.bind_some, room_of (by simp only [List.length_cons, List.length_nil]; omega) (by simp only [List.length_cons, List.length_nil]; omega), Option.bind_some,
          room_of (by simp only [List.length_append, List.length_cons, List.length_nil]; omega) (by simp only [List.length_append, List.length_cons, List.length_nil]; omega), Option.bind_some, hfl, rsettle (srt_ins h7 e) (by omega) (by omega) h1.1 (by omega) h4.1]
        rfl
theorem rmove {b : Bu} (h : Inv b) {t : Int} (ht : 0 ≤ t) : ref12_Move b t = some (moveR b t) := by
  obtain ⟨late, room, mark, front, l⟩ := b
  obtain ⟨h1, h2, h3, h4, h5, h6, h7, h8⟩ := h
  simp only at h1 h2 h3 h4 h5 h6 h7 h8
  unfold ref12_Move moveR
  simp only []
  by_cases c2 : 9223372036854775807 < t
  · rw [if_pos c2, if_pos c2]
  · rw [if_neg c2, if_neg c2, rsettle h7 (by omega) (by omega) h1.1 (by omega) h4.1]
    rfl
theorem set_inv {late room mark front : Int} {l : List Ev} (h1 : 0 ≤ late ∧ late ≤ 4611686018427387904) (h2 : 1 ≤ room ∧ room ≤ 1024) (h3 : 0 ≤ mark ∧ mark ≤ 9223372036854775807) (h4 : 0 ≤ front ∧ front ≤ mark) (hs : Srt l) (he : ∀ e ∈ l, e.1 ≤ mark ∧ e.2.2 ≠ 0) : Inv (bu (setR late room mark front l)) := by
  have hcut : cutF room l ≤ mark := by
    by_cases c : room < (l.length : Int)
    · obtain ⟨hi, hc⟩ := cut_get (l := l) (by omega) c
      rw [hc]
      exact (he _ (List.getElem_mem hi)).1
    · unfold cutF; rw [if_neg c]; exact h3.1
  have hF : frM late room mark front l ≤ mark ∧ front ≤ frM late room mark front l ∧ mark - late ≤ frM late room mark front l := by unfold frM; omega
  exact ⟨h1, h2, h3, ⟨by show 0 ≤ frM late room mark front l; omega, hF.1⟩, by show mark - frM late room mark front l ≤ late; omega, fr_room hs (by omega), srt_dw hs _, fun e hx => by
    have := mem_dw hs hx
    exact ⟨this.2, he e this.1⟩⟩
theorem set_len (late room mark front : Int) (l : List Ev) : (setR late room mark front l).2.2.2.2.2.1.length + (bu (setR late room mark front l)).2.2.2.2.length = l.length := by
  have ha := congrArg List.length (tw_app (upto (frM late room mark front l)) l)
  rw [List.length_append] at ha
  exact ha
theorem push_inv {b : Bu} (h : Inv b) {e : Ev} (he : 0 ≤ e.1) (h0 : (pushR b e).2.2.2.2.2.2 = 0) : Inv (bu (pushR b e)) ∧ (pushR b e).2.2.2.2.2.1.length + (bu (pushR b e)).2.2.2.2.length = b.2.2.2.2.length + 1 := by
  obtain ⟨late, room, mark, front, l⟩ := b
  obtain ⟨h1, h2, h3, h4, h5, h6, h7, h8⟩ := h
  simp only at h1 h2 h3 h4 h5 h6 h7 h8
  unfold pushR at h0 ⊢
  simp only [] at h0 ⊢
  by_cases c1 : e.2.2 = 0
  · rw [if_pos c1] at h0; cases h0
  · rw [if_neg c1] at h0 ⊢
    by_cases c2 : 9223372036854775807 < e.1
    · rw [if_pos c2] at h0; cases h0
    · rw [if_neg c2] at h0 ⊢
      by_cases c3 : e.1 < front
      · rw [if_pos c3] at h0; cases h0
      · rw [if_neg c3]
        refine ⟨set_inv h1 h2 (by omega) (by omega) (srt_ins h7 e) (fun x hx => ?_), by rw [set_len, ins_len]⟩
        rcases mem_ins.1 hx with rfl | hx
        · exact ⟨by omega, c1⟩
        · have := h8 x hx; exact ⟨by omega, this.2.2⟩
theorem move_inv {b : Bu} (h : Inv b) {t : Int} (ht : 0 ≤ t) (h0 : (moveR b t).2.2.2.2.2.2 = 0) : Inv (bu (moveR b t)) ∧ (moveR b t).2.2.2.2.2.1.length + (bu (moveR b t)).2.2.2.2.length = b.2.2.2.2.length := by
  obtain ⟨late, room, mark, front, l⟩ := b
  obtain ⟨h1, h2, h3, h4, h5, h6, h7, h8⟩ := h
  simp only at h1 h2 h3 h4 h5 h6 h7 h8
  unfold moveR at h0 ⊢
  simp only [] at h0 ⊢
  by_cases c2 : 9223372036854775807 < t
  · rw [if_pos c2] at h0; cases h0
  · rw [if_neg c2]
    exact ⟨set_inv h1 h2 (by omega) (by omega) h7 (fun x hx => by have := h8 x hx; exact ⟨by omega, this.2.2⟩), set_len _ _ _ _ _⟩
theorem push_late {b : Bu} {e : Ev} (h0 : (pushR b e).2.2.2.2.2.2 = 0) : (pushR b e).1 = b.1 ∧ (pushR b e).2.2.1 = max b.2.2.1 e.1 ∧ b.2.2.2.1 ≤ (pushR b e).2.2.2.1 := by
  unfold pushR at h0 ⊢
  by_cases c1 : e.2.2 = 0
  · rw [if_pos c1] at h0; cases h0
  · rw [if_neg c1] at h0 ⊢
    by_cases c2 : 9223372036854775807 < e.1
    · rw [if_pos c2] at h0; cases h0
    · rw [if_neg c2] at h0 ⊢
      by_cases c3 : e.1 < b.2.2.2.1
      · rw [if_pos c3] at h0; cases h0
      · rw [if_neg c3]
        refine ⟨rfl, rfl, ?_⟩
        show b.2.2.2.1 ≤ frM _ _ _ _ _
        unfold frM
        omega
instance decEv2 : DecidableEq (Int × List Ev) := inferInstance
instance decEv3 : DecidableEq (Int × Int × List Ev) := inferInstance
instance decEv4 : DecidableEq (Int × Int × Int × List Ev) := inferInstance
instance decBu : DecidableEq Bu := inferInstance
instance decRes1 : DecidableEq (List Ev × Int) := inferInstance
instance decRes2 : DecidableEq (List Ev × List Ev × Int) := inferInstance
instance decRes3 : DecidableEq (Int × List Ev × List Ev × Int) := inferInstance
instance decRes4 : DecidableEq (Int × Int × List Ev × List Ev × Int) := inferInstance
instance decRes5 : DecidableEq (Int × Int × Int × List Ev × List Ev × Int) := inferInstance
instance decRes : DecidableEq Res := inferInstance
theorem events_eq (a b : List Ev) (ha : a.length ≤ 100000) : ref12_Events a b = some (decide (a = b)) := by
  unfold ref12_Events
  by_cases c : (a.length : Int) = (b.length : Int)
  · rw [if_neg (fun q => q c)]
    by_cases hab : a = b
    · subst hab
      have h1 : ∀ k : Nat, k < a.length → ref12_Events_s0 a a (k : Int) = some (.inl ((k + 1 : Nat) : Int)) := by
        intro k hk
        unfold ref12_Events_s0
        rw [if_pos (by omega), rdo_get hk, Option.bind_some, Option.bind_some, if_neg (fun q => q ⟨rfl, rfl, rfl, trivial⟩), wi64_of (by omega) (by omega)]
        rfl
      have h2 : ref12_Events_s0 a a (a.length : Int) = some (.inr (.inr ())) := by
        unfold ref12_Events_s0
        rw [if_neg (by omega)]
      have := loopO_run (fun k : Nat => (k : Int)) _ h1 h2
      have h0 : loopO (ref12_Events_s0 a a) (0 : Int) = some (.inr ()) := this
      rw [h0, decide_eq_true rfl]
      rfl
    · -- the first place at which they differ
      have hex : ∀ (n : Nat) , n ≤ a.length → (∀ i (h1 : i < a.length) (h2 : i < b.length), i < n → a[i] = b[i]) → loopO (ref12_Events_s0 a b) (n : Int) = some (.inl ()) := by
        intro n hn
        generalize hm : a.length - n = m
        induction m generalizing n with
        | zero =>
          intro hall
          exfalso
          apply hab
          apply List.ext_getElem (by omega)
          intro i h1 h2
          exact hall i h1 h2 (by omega)
        | succ m ih =>
          intro hall
          have hk : n < a.length := by omega
          have hk2 : n < b.length := by omega
          by_cases he : a[n] = b[n]
          · refine (loopO_next (s' := ((n + 1 : Nat) : Int)) ?_).trans (ih (n + 1) (by omega) (by omega) (fun i h1 h2 hi => ?_))
            · unfold ref12_Events_s0
              rw [if_pos (by omega), rdo_get hk, Option.bind_some, rdo_get hk2, Option.bind_some, he, if_neg (fun q => q ⟨rfl, rfl, rfl, trivial⟩), wi64_of (by omega) (by omega)]
              rfl
            · rcases Nat.lt_or_eq_of_le (Nat.le_of_lt_succ hi) with q | q
              · exact hall i h1 h2 q
              · subst q; exact he
          · refine loopO_done ?_
            unfold ref12_Events_s0
            rw [if_pos (by omega), rdo_get hk, Option.bind_some, rdo_get hk2, Option.bind_some, if_pos]
            rintro ⟨q1, q2, q3, _⟩
            exact he (Prod.ext q1 (Prod.ext q2 q3))
      have h0 : loopO (ref12_Events_s0 a b) (0 : Int) = some (.inl ()) := hex 0 (by omega) (fun i _ _ hi => by omega)
      rw [h0, decide_eq_false hab]
      rfl
  · rw [if_pos c, decide_eq_false (fun q => c (by rw [q]))]
theorem rsame (x y : Bu) (hx : x.2.2.2.2.length ≤ 100000) : ref12_Same x y = some (decide (x = y)) := by
  obtain ⟨a1, a2, a3, a4, a5⟩ := x
  obtain ⟨b1, b2, b3, b4, b5⟩ := y
  simp only at hx
  unfold ref12_Same
  simp only [events_eq _ _ hx, Option.bind_some, Prod.mk.injEq]
  by_cases c1 : a1 = b1
  · rw [if_pos c1]
    by_cases c2 : a2 = b2
    · rw [if_pos c2]
      by_cases c3 : a3 = b3
      · rw [if_pos c3]
        by_cases c4 : a4 = b4
        · rw [if_pos c4]; simp only [c1, c2, c3, c4, true_and]
        · rw [if_neg c4, decide_eq_false (fun q => c4 q.2.2.2.1)]
      · rw [if_neg c3, decide_eq_false (fun q => c3 q.2.2.1)]
    · rw [if_neg c2, decide_eq_false (fun q => c2 q.2.1)]
  · rw [if_neg c1, decide_eq_false (fun q => c1 q.1)]
theorem lsame (x y : Bu) (hx : x.2.2.2.2.length ≤ 100000) : law12_same x y = some (decide (x = y)) := by
  unfold law12_same
  rw [rsame x y hx]
  rfl
def wsum (l : List Ev) : Int := l.foldl (fun s e => wu64 (s + e.2.2)) 0
theorem cweight (b : Bu) (h : b.2.2.2.2.length ≤ 100000) : buffer_Weight b = some (wsum b.2.2.2.2) := by
  unfold buffer_Weight
  have h1 : ∀ k : Nat, k < b.2.2.2.2.length → buffer_Weight_s0 b (wsum (b.2.2.2.2.take k), (k : Int)) = some (.inl (wsum (b.2.2.2.2.take (k + 1)), ((k + 1 : Nat) : Int))) := by
    intro k hk
    unfold buffer_Weight_s0
    simp only []
    rw [if_pos (by omega), rdo_get hk, Option.bind_some, wi64_of (by omega) (by omega), List.take_succ_eq_append_getElem hk]
    unfold wsum
    rw [List.foldl_append]
    rfl
  have h2 : buffer_Weight_s0 b (wsum (b.2.2.2.2.take b.2.2.2.2.length), (b.2.2.2.2.length : Int)) = some (.inr (wsum b.2.2.2.2)) := by
    unfold buffer_Weight_s0
    simp only []
    rw [if_neg (by omega), List.take_length]
  have := loopO_run (fun k : Nat => (wsum (b.2.2.2.2.take k), (k : Int))) _ h1 h2
  have h0 : loopO (buffer_Weight_s0 b) ((0 : Int), (0 : Int)) = some (wsum b.2.2.2.2) := this
  rw [h0]
  rfl
theorem rweight (b : Bu) (h : b.2.2.2.2.length ≤ 100000) : ref12_Weight b = some (wsum b.2.2.2.2) := cweight b h
def oddB (front mark : Int) : Int → List Ev → Bool
  | _, [] => false
  | last, e :: l => if e.2.2 = 0 ∨ e.1 ≤ front ∨ e.1 < last ∨ mark < e.1 then true else oddB front mark e.1 l
def badC (late room : Int) : Prop := 4611686018427387904 < late ∨ room < 1 ∨ 1024 < room
instance (late room : Int) : Decidable (badC late room) := by unfold badC; exact inferInstance
theorem new_eq (late room : Int) : buffer_New late room = some (if badC late room then (0, 0, 9) else (late, room, 0)) := by
  unfold buffer_New
  by_cases c1 : 4611686018427387904 < late
  · rw [if_pos c1, if_pos (show badC late room from Or.inl c1)]
  · rw [if_neg c1]
    by_cases c2 : room < 1
    · rw [if_pos c2, if_pos (show badC late room from Or.inr (Or.inl c2))]
    · rw [if_neg c2]
      by_cases c3 : 1024 < room
      · rw [if_pos c3, if_pos (show badC late room from Or.inr (Or.inr c3))]
      · rw [if_neg c3, if_neg (show ¬ badC late room from by unfold badC; omega)]
def mayM (b : Bu) : Int := if badC b.1 b.2.1 then 9 else if oddB b.2.2.2.1 b.2.2.1 b.2.2.2.1 b.2.2.2.2 = true ∨ b.2.1 < (b.2.2.2.2.length : Int) ∨ b.2.2.1 < b.2.2.2.1 ∨ 9223372036854775807 < b.2.2.1 ∨ b.1 < wu64 (b.2.2.1 - b.2.2.2.1) then 2 else 0
theorem may1 (z : Ev) (b : Bu) (last : Int) : buffer_May_1 z b last = some (decide (z.2.2 = 0 ∨ z.1 ≤ b.2.2.2.1 ∨ z.1 < last ∨ b.2.2.1 < z.1)) := by
  unfold buffer_May_1
  by_cases c1 : z.2.2 = 0
  · rw [if_pos c1, decide_eq_true (.inl c1)]
  · rw [if_neg c1]
    by_cases c2 : z.1 ≤ b.2.2.2.1
    · rw [if_pos c2, decide_eq_true (.inr (.inl c2))]
    · rw [if_neg c2]
      by_cases c3 : z.1 < last
      · rw [if_pos c3, decide_eq_true (.inr (.inr (.inl c3)))]
      · rw [if_neg c3]; congr 1; rw [decide_eq_decide]
        exact ⟨fun h => .inr (.inr (.inr h)), fun h => by rcases h with h | h | h | h; exact absurd h c1; exact absurd h c2; exact absurd h c3; exact h⟩
theorem odd_loop (b : Bu) (hl : b.2.2.2.2.length ≤ 100000) : ∃ k last', slices_IndexFunc_Event_v1 b.2.2.2.2 (b.1, b.2.1, b.2.2.1, b.2.2.2.1, b.2.2.2.2, b.2.2.2.1) = some (k, b.1, b.2.1, b.2.2.1, b.2.2.2.1, b.2.2.2.2, last') ∧ (0 ≤ k ↔ oddB b.2.2.2.1 b.2.2.1 b.2.2.2.1 b.2.2.2.2 = true) := by
  have run : ∀ (m i : Nat) (last : Int), i + m = b.2.2.2.2.length → (oddB b.2.2.2.1 b.2.2.1 last (b.2.2.2.2.drop i) = true ∧ ∃ (k : Int) (q : Int), 0 ≤ k ∧ loopO (slices_IndexFunc_Event_v1_s0 b.2.2.2.2) ((i : Int), b.1, b.2.1, b.2.2.1, b.2.2.2.1, b.2.2.2.2, last) = some (.inl (k, b.1, b.2.1, b.2.2.1, b.2.2.2.1, b.2.2.2.2, q))) ∨ (oddB b.2.2.2.1 b.2.2.1 last (b.2.2.2.2.drop i) = false ∧ ∃ q : Int, loopO (slices_IndexFunc_Event_v1_s0 b.2.2.2.2) ((i : Int), b.1, b.2.1, b.2.2.1, b.2.2.2.1, b.2.2.2.2, last) = some (.inr (b.1, b.2.1, b.2.2.1, b.2.2.2.1, b.2.2.2.2, q))) := by
    intro m
    induction m with
    | zero =>
      intro i last hi
      refine .inr ⟨by rw [List.drop_of_length_le (by omega)]; rfl, last, loopO_done ?_⟩
      unfold slices_IndexFunc_Event_v1_s0
      simp only []
      rw [if_neg (by omega)]
    | succ m ih =>
      intro i last hi
      have hk : i < b.2.2.2.2.length := by omega
      rw [List.drop_eq_getElem_cons hk, oddB]
      by_cases c : b.2.2.2.2[i].2.2 = 0 ∨ b.2.2.2.2[i].1 ≤ b.2.2.2.1 ∨ b.2.2.2.2[i].1 < last ∨ b.2.2.1 < b.2.2.2.2[i].1
      · rw [if_pos c]
        refine .inl ⟨rfl, (i : Int), b.2.2.2.2[i].1, by omega, loopO_done ?_⟩
        unfold slices_IndexFunc_Event_v1_s0
        simp only []
        rw [if_pos (by omega), rdo_get hk, Option.bind_some, may1, Option.bind_some, if_pos (decide_eq_true c)]
      · rw [if_neg c]
        have hs : slices_IndexFunc_Event_v1_s0 b.2.2.2.2 ((i : Int), b.1, b.2.1, b.2.2.1, b.2.2.2.1, b.2.2.2.2, last) = some (.inl (((i + 1 : Nat) : Int), b.1, b.2.1, b.2.2.1, b.2.2.2.1, b.2.2.2.2, b.2.2.2.2[i].1)) := by
          unfold slices_IndexFunc_Event_v1_s0
          simp only []
          rw [if_pos (by omega), rdo_get hk, Option.bind_some, may1, Option.bind_some, if_neg (by rw [decide_eq_false c]; decide), wi64_of (by omega) (by omega)]
          rfl
        rcases ih (i + 1) b.2.2.2.2[i].1 (by omega) with ⟨h1, k, q, h2, h3⟩ | ⟨h1, q, h2⟩
        · exact .inl ⟨h1, k, q, h2, (loopO_next hs).trans h3⟩
        · exact .inr ⟨h1, q, (loopO_next hs).trans h2⟩
  unfold slices_IndexFunc_Event_v1
  rcases run b.2.2.2.2.length 0 b.2.2.2.1 (by omega) with ⟨h1, k, q, h2, h3⟩ | ⟨h1, q, h2⟩
  · have h0 : loopO (slices_IndexFunc_Event_v1_s0 b.2.2.2.2) ((0 : Int), b.1, b.2.1, b.2.2.1, b.2.2.2.1, b.2.2.2.2, b.2.2.2.1) = _ := h3
    rw [List.drop_zero] at h1
    exact ⟨k, q, by rw [h0]; rfl, fun _ => h1, fun _ => h2⟩
  · have h0 : loopO (slices_IndexFunc_Event_v1_s0 b.2.2.2.2) ((0 : Int), b.1, b.2.1, b.2.2.1, b.2.2.2.1, b.2.2.2.2, b.2.2.2.1) = _ := h2
    rw [List.drop_zero] at h1
    exact ⟨-1, q, by rw [h0]; rfl, fun h => by omega, fun h => by rw [h1] at h; cases h⟩
theorem cmay (b : Bu) (hl : b.2.2.2.2.length ≤ 100000) : buffer_May b = some (mayM b) := by
  unfold buffer_May mayM slices_ContainsFunc_Event
  obtain ⟨k, q, h1, h2⟩ := odd_loop b hl
  rw [new_eq, Option.bind_some]
  by_cases c0 : badC b.1 b.2.1
  · simp only [if_pos c0]
    rw [if_pos (by decide)]
  · simp only [if_neg c0]
    rw [if_neg (fun q => q trivial)]
    simp only [h1, Option.bind_some]
    by_cases c1 : oddB b.2.2.2.1 b.2.2.1 b.2.2.2.1 b.2.2.2.2 = true
    · rw [if_pos (decide_eq_true (h2.2 c1)), if_pos (.inl c1)]
    · rw [if_neg (by rw [decide_eq_false (fun q => c1 (h2.1 q))]; decide)]
      by_cases c2 : b.2.1 < (b.2.2.2.2.length : Int)
      · rw [if_pos c2, if_pos (.inr (.inl c2))]
      · rw [if_neg c2]
        by_cases c3 : b.2.2.1 < b.2.2.2.1
        · rw [if_pos c3, if_pos (.inr (.inr (.inl c3)))]
        · rw [if_neg c3]
          by_cases c4 : 9223372036854775807 < b.2.2.1
          · rw [if_pos c4, if_pos (.inr (.inr (.inr (.inl c4))))]
          · rw [if_neg c4]
            by_cases c5 : b.1 < wu64 (b.2.2.1 - b.2.2.2.1)
            · rw [if_pos c5, if_pos (.inr (.inr (.inr (.inr c5))))]
            · rw [if_neg c5, if_neg (fun h => by rcases h with h | h | h | h | h; exact c1 h; exact c2 h; exact c3 h; exact c4 h; exact c5 h)]
theorem odd_none {front mark : Int} : ∀ {l : List Ev} {last : Int}, Srt l → (∀ e ∈ l, last ≤ e.1 ∧ front < e.1 ∧ e.1 ≤ mark ∧ e.2.2 ≠ 0) → oddB front mark last l = false := by
  intro l
  induction l with
  | nil => intro last _ _; rfl
  | cons x l ih =>
    intro last hs he
    obtain ⟨h1, h2⟩ := List.pairwise_cons.1 hs
    have hx := he x List.mem_cons_self
    rw [oddB, if_neg (fun h => by rcases h with h | h | h | h; exact hx.2.2.2 h; omega; omega; omega)]
    exact ih h2 (fun e hm => ⟨h1 e hm, (he e (List.mem_cons_of_mem _ hm)).2⟩)
theorem may_inv {b : Bu} (h : Inv b) : mayM b = 0 := by
  obtain ⟨h1, h2, h3, h4, h5, h6, h7, h8⟩ := h
  unfold mayM
  rw [if_neg (by unfold badC; omega), if_neg]
  rw [wu64_of (by omega) (by omega), odd_none h7 (fun e he => by have := h8 e he; exact ⟨by omega, this⟩)]
  rintro (h | h | h | h | h)
  · cases h
  all_goals omega
theorem inv0 {late room : Int} (h1 : 0 ≤ late ∧ late ≤ 4611686018427387904) (h2 : 1 ≤ room ∧ room ≤ 1024) : Inv (late, room, 0, 0, []) :=
  ⟨h1, h2, ⟨Int.le_refl 0, (by decide : (0 : Int) ≤ 9223372036854775807)⟩, ⟨Int.le_refl 0, Int.le_refl 0⟩, by simp only []; omega, by simp only [List.length_nil]; omega, List.Pairwise.nil, fun e he => by cases he⟩
theorem awake12 : law12_awake = some true := by
  have i0 : Inv ((2, 9, 0, 0, []) : Bu) := inv0 (by decide) (by decide)
  have p1 : pushR ((2, 9, 0, 0, []) : Bu) (5, 0, 1) = (2, 9, 5, 3, [(5, 0, 1)], [], 0) := by decide
  have i1 : Inv ((2, 9, 5, 3, [(5, 0, 1)]) : Bu) := by have := (push_inv i0 (e := (5, 0, 1)) (by decide) (by rw [p1])).1; rw [p1] at this; exact this
  have p2 : pushR ((2, 9, 5, 3, [(5, 0, 1)]) : Bu) (4, 0, 2) = (2, 9, 5, 3, [(4, 0, 2), (5, 0, 1)], [], 0) := by decide
  have i2 : Inv ((2, 9, 5, 3, [(4, 0, 2), (5, 0, 1)]) : Bu) := by have := (push_inv i1 (e := (4, 0, 2)) (by decide) (by rw [p2])).1; rw [p2] at this; exact this
  have p3 : pushR ((2, 9, 5, 3, [(4, 0, 2), (5, 0, 1)]) : Bu) (8, 0, 3) = (2, 9, 8, 6, [(8, 0, 3)], [(4, 0, 2), (5, 0, 1)], 0) := by decide
  have i3 : Inv ((2, 9, 8, 6, [(8, 0, 3)]) : Bu) := by have := (push_inv i2 (e := (8, 0, 3)) (by decide) (by rw [p3])).1; rw [p3] at this; exact this
  have p4 : pushR ((2, 9, 8, 6, [(8, 0, 3)]) : Bu) (5, 0, 1) = (0, 0, 0, 0, [], [], 4) := by decide
  unfold law12_awake
  rw [new_eq, if_neg (by decide), Option.bind_some, cpush i0 (by decide), Option.bind_some, p1]
  dsimp only
  rw [cpush i1 (by decide), Option.bind_some, p2]
  dsimp only
  rw [cpush i2 (by decide), Option.bind_some, p3]
  dsimp only
  rw [cpush i3 (by decide), Option.bind_some, p4]
  have hr : rdo ([(4, 0, 2), (5, 0, 1)] : List Ev) 0 = some (4, 0, 2) := rfl
  dsimp only
  rw [if_pos rfl, if_pos rfl, if_pos rfl, if_pos (by decide), if_pos (by decide), hr, Option.bind_some, if_pos rfl, if_pos rfl, if_pos rfl, cweight _ (by decide), Option.bind_some, if_pos (by decide), cmay _ (by decide), Option.bind_some, may_inv i3]
  rfl
/-- A buffer that was made. -/
theorem one_eq {b : Bu} (h : Inv b) {e : Ev} (he : 0 ≤ e.1) : ∃ r : Res, ref12_one b e = some r ∧ (r.2.2.2.2.2.2 = 0 → Inv (bu r) ∧ r.1 = b.1 ∧ r.2.2.2.2.2.1.length + (bu r).2.2.2.2.length ≤ b.2.2.2.2.length + 1) := by
  unfold ref12_one
  by_cases c : e.2.2 = 0
  · rw [if_pos c, rmove h he]
    refine ⟨moveR b e.1, rfl, fun h0 => ?_⟩
    have := move_inv h he h0
    refine ⟨this.1, ?_, by omega⟩
    unfold moveR at h0 ⊢
    by_cases c2 : 9223372036854775807 < e.1
    · rw [if_pos c2] at h0; cases h0
    · rw [if_neg c2]; rfl
  · rw [if_neg c, rpush h he]
    refine ⟨pushR b e, rfl, fun h0 => ?_⟩
    have := push_inv h he h0
    exact ⟨this.1, (push_late h0).1, by omega⟩
theorem made_eq {late room : Int} {l : List Ev} (hla : U64 late) (hl : ∀ e ∈ l, 0 ≤ e.1) (hlen : l.length ≤ 9223372036854775807) (hr : I64 room) : ∃ (b : Bu) (out : List Ev), ref12_Made late room l = some (b.1, b.2.1, b.2.2.1, b.2.2.2.1, b.2.2.2.2, out) ∧ Inv b ∧ b.1 ≤ 999 ∧ b.2.2.2.2.length ≤ 40 := by
  have h0 : late.tmod 1000 = late % 1000 := Int.tmod_eq_emod_of_nonneg hla.1
  have h1 : wi64 (1 + ((max room 0).tmod 50)) = 1 + max room 0 % 50 := by rw [Int.tmod_eq_emod_of_nonneg (by omega), wi64_of (by omega) (by omega)]
  have run : ∀ (m i : Nat) (out : List Ev) (b : Bu), i + m = min l.length 40 → Inv b → b.1 ≤ 999 → out.length + b.2.2.2.2.length ≤ i → ∃ (b' : Bu) (out' : List Ev), loopO (ref12_Made_s0 l) (out, (i : Int), b.1, b.2.1, b.2.2.1, b.2.2.2.1, b.2.2.2.2) = some (out', b'.1, b'.2.1, b'.2.2.1, b'.2.2.2.1, b'.2.2.2.2) ∧ Inv b' ∧ b'.1 ≤ 999 ∧ b'.2.2.2.2.length ≤ 40 := by
    intro m
    induction m with
    | zero =>
      intro i out b hi hb h9 ho
      refine ⟨b, out, loopO_done ?_, hb, h9, by omega⟩
      unfold ref12_Made_s0
      simp only []
      by_cases c : (i : Int) < (l.length : Int)
      · rw [if_pos c, if_neg (by omega)]
      · rw [if_neg c]
    | succ m ih =>
      intro i out b hi hb h9 ho
      have hk : i < l.length := by omega
      obtain ⟨r, hr1, hr2⟩ := one_eq hb (hl _ (List.getElem_mem hk))
      by_cases c : r.2.2.2.2.2.2 = 0
      · obtain ⟨g1, g2, g3⟩ := hr2 c
        obtain ⟨b', out', e1, e2⟩ := ih (i + 1) (out ++ r.2.2.2.2.2.1) (bu r) (by omega) g1 (by show r.1 ≤ 999; omega) (by rw [List.length_append]; omega)
        refine ⟨b', out', (loopO_next ?_).trans e1, e2⟩
        unfold ref12_Made_s0
        simp only []
        rw [if_pos (by omega), if_pos (by omega), rdo_get hk, Option.bind_some, hr1, Option.bind_some, if_pos c, room_of (by omega) (by omega), Option.bind_some, wi64_of (by omega) (by omega)]
        rfl
      · obtain ⟨b', out', e1, e2⟩ := ih (i + 1) out b (by omega) hb h9 (by omega)
        refine ⟨b', out', (loopO_next ?_).trans e1, e2⟩
        unfold ref12_Made_s0
        simp only []
        rw [if_pos (by omega), if_pos (by omega), rdo_get hk, Option.bind_some, hr1, Option.bind_some, if_neg c, wi64_of (by omega) (by omega)]
        rfl
  obtain ⟨b', out', e1, e2⟩ := run (min l.length 40) 0 [] (late % 1000, 1 + max room 0 % 50, 0, 0, []) (by omega) (inv0 (by omega) (by omega)) (by simp only []; omega) (by simp)
  refine ⟨b', out', ?_, e2⟩
  unfold ref12_Made
  rw [h0, h1]
  have e3 : loopO (ref12_Made_s0 l) (([] : List Ev), (0 : Int), late % 1000, 1 + max room 0 % 50, (0 : Int), (0 : Int), ([] : List Ev)) = _ := e1
  rw [e3]
  rfl
end Go.Proofs.Ytbeknohemgjfbaa.Pu
