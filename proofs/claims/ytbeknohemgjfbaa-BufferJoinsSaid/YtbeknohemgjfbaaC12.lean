/- Events that wait: how the program's functions and the reference's answer. No Go and no memory. -/
import Derived.Test.YtbeknohemgjfbaaH0
import Derived.Test.YtbeknohemgjfbaaQc
namespace Go.Proofs.Ytbeknohemgjfbaa.Pu
set_option linter.unusedVariables false

abbrev Ev := Int × Int × Int
abbrev Bu := Int × Int × Int × Int × List Ev
abbrev Srt (l : List Ev) : Prop := l.Pairwise (fun a b => a.1 ≤ b.1)
def upto (t : Int) (e : Ev) : Bool := decide (e.1 ≤ t)

section lists
variable {α : Type} {p q : α → Bool}
theorem tw_le (p : α → Bool) (l : List α) : (l.takeWhile p).length ≤ l.length := by
  induction l with
  | nil => exact Nat.le_refl _
  | cons x l ih => rw [List.takeWhile_cons]; split <;> simp only [List.length_cons, List.length_nil] <;> omega
theorem tw_in {l : List α} : ∀ {i : Nat} (h : i < l.length), i < (l.takeWhile p).length → p l[i] = true := by
  induction l with
  | nil => intro i h; simp at h
  | cons x l ih =>
    intro i h hi
    rw [List.takeWhile_cons] at hi
    split at hi
    · cases i with
      | zero => assumption
      | succ i => exact ih (by simpa using h) (by simpa using hi)
    · simp at hi
theorem tw_at {l : List α} : ∀ (h : (l.takeWhile p).length < l.length), p l[(l.takeWhile p).length] = false := by
  induction l with
  | nil => intro h; simp at h
  | cons x l ih =>
    by_cases hx : p x = true
    · have e : ((x :: l).takeWhile p).length = (l.takeWhile p).length + 1 := by rw [List.takeWhile_cons, if_pos hx]; rfl
      simp only [e, List.length_cons, List.getElem_cons_succ]
      intro h
      exact ih (by omega)
    · have e : ((x :: l).takeWhile p).length = 0 := by rw [List.takeWhile_cons, if_neg hx]; rfl
      simp only [e, List.getElem_cons_zero]
      intro _
      simpa using hx
theorem tw_take (p : α → Bool) (l : List α) : l.take (l.takeWhile p).length = l.takeWhile p := by
  induction l with
  | nil => rfl
  | cons x l ih => rw [List.takeWhile_cons]; split <;> simp [ih]
theorem tw_drop (p : α → Bool) (l : List α) : l.drop (l.takeWhile p).length = l.dropWhile p := by
  induction l with
  | nil => rfl
  | cons x l ih =>
    rw [List.takeWhile_cons, List.dropWhile_cons]
    split
    · rw [List.length_cons, List.drop_succ_cons, ih]
    · rfl
theorem tw_two (h : ∀ x, p x = true → q x = true) (l : List α) : l.takeWhile p ++ (l.dropWhile p).takeWhile q = l.takeWhile q ∧ (l.dropWhile p).dropWhile q = l.dropWhile q := by
  induction l with
  | nil => exact ⟨rfl, rfl⟩
  | cons x l ih =>
    by_cases hx : p x = true
    · rw [List.takeWhile_cons, List.dropWhile_cons, if_pos hx, if_pos hx, List.takeWhile_cons, List.dropWhile_cons, if_pos (h x hx), if_pos (h x hx), List.cons_append, ih.1]
      exact ⟨rfl, ih.2⟩
    · rw [List.takeWhile_cons, List.dropWhile_cons, if_neg hx, if_neg hx]
      exact ⟨rfl, rfl⟩
theorem tw_app (p : α → Bool) (l : List α) : l.takeWhile p ++ l.dropWhile p = l := List.takeWhile_append_dropWhile
end lists

theorem upto_iff {t : Int} {e : Ev} : upto t e = true ↔ e.1 ≤ t := by unfold upto; exact decide_eq_true_iff
theorem upto_not {t : Int} {e : Ev} : upto t e = false ↔ t < e.1 := by unfold upto; rw [decide_eq_false_iff_not]; omega
theorem mem_tw {t : Int} {l : List Ev} {x : Ev} (h : x ∈ (List.takeWhile (upto t) l)) : x ∈ l ∧ x.1 ≤ t := by
  obtain ⟨i, hi, rfl⟩ := List.getElem_of_mem h
  have h1 : i < l.length := Nat.lt_of_lt_of_le hi (tw_le _ _)
  have h2 : ((List.takeWhile (upto t) l))[i] = l[i] := by
    have e := tw_take (upto t) l
    have : (l.take ((List.takeWhile (upto t) l)).length)[i]? = ((List.takeWhile (upto t) l))[i]? := by rw [e]
    rw [List.getElem?_take, if_pos hi, List.getElem?_eq_getElem h1, List.getElem?_eq_getElem hi] at this
    exact (Option.some.inj this).symm
  rw [h2]
  exact ⟨List.getElem_mem h1, upto_iff.1 (tw_in h1 hi)⟩
theorem srt_le {l : List Ev} (hs : Srt l) {i j : Nat} (hi : i < l.length) (hj : j < l.length) (h : i ≤ j) : l[i].1 ≤ l[j].1 := by
  rcases Nat.lt_or_eq_of_le h with q | q
  · exact List.pairwise_iff_getElem.1 hs i j hi hj q
  · subst q; exact Int.le_refl _
theorem srt_tw {t : Int} {l : List Ev} (hs : Srt l) {i : Nat} (hi : i < l.length) : l[i].1 ≤ t ↔ i < ((List.takeWhile (upto t) l)).length := by
  constructor
  · intro h
    rcases Nat.lt_or_ge i ((List.takeWhile (upto t) l)).length with q | q
    · exact q
    · have hlt : ((List.takeWhile (upto t) l)).length < l.length := by omega
      have h1 := upto_not.1 (tw_at (p := upto t) hlt)
      have h2 := srt_le hs hlt hi q
      omega
  · intro h; exact upto_iff.1 (tw_in hi h)
theorem mem_dw {t : Int} {l : List Ev} (hs : Srt l) {x : Ev} (h : x ∈ (List.dropWhile (upto t) l)) : x ∈ l ∧ t < x.1 := by
  rw [← tw_drop] at h
  obtain ⟨i, hi, rfl⟩ := List.getElem_of_mem h
  rw [List.getElem_drop]
  rw [List.length_drop] at hi
  refine ⟨List.getElem_mem _, ?_⟩
  have := srt_tw (t := t) hs (i := ((List.takeWhile (upto t) l)).length + i) (by omega)
  omega
theorem srt_dw {l : List Ev} (hs : Srt l) (t : Int) : Srt ((List.dropWhile (upto t) l)) := hs.sublist (List.dropWhile_sublist _)
theorem srt_twl {l : List Ev} (hs : Srt l) (t : Int) : Srt ((List.takeWhile (upto t) l)) := hs.sublist (List.takeWhile_sublist _)
/-- An event is put in its place. -/
def ins (l : List Ev) (e : Ev) : List Ev := (List.takeWhile (upto e.1) l) ++ ([e] ++ (List.dropWhile (upto e.1) l))
theorem mem_ins {l : List Ev} {e x : Ev} : x ∈ ins l e ↔ x = e ∨ x ∈ l := by
  unfold ins
  rw [List.mem_append, List.mem_append, List.mem_singleton]
  have : x ∈ l ↔ x ∈ (List.takeWhile (upto e.1) l) ∨ x ∈ (List.dropWhile (upto e.1) l) := by rw [← List.mem_append, tw_app]
  rw [this]
  constructor
  · rintro (h | h | h)
    · exact .inr (.inl h)
    · exact .inl h
    · exact .inr (.inr h)
  · rintro (h | h | h)
    · exact .inr (.inl h)
    · exact .inl h
    · exact .inr (.inr h)
theorem ins_len (l : List Ev) (e : Ev) : (ins l e).length = l.length + 1 := by
  have := congrArg List.length (tw_app (upto e.1) l)
  rw [List.length_append] at this
  simp only [ins, List.length_append, List.length_cons, List.length_nil]
  omega
theorem srt_ins {l : List Ev} (hs : Srt l) (e : Ev) : Srt (ins l e) := by
  unfold ins
  rw [Srt, List.pairwise_append]
  refine ⟨srt_twl hs _, ?_, ?_⟩
  · rw [List.singleton_append, List.pairwise_cons]
    exact ⟨fun x hx => by have := (mem_dw hs hx).2; omega, srt_dw hs _⟩
  · intro a ha b hb
    have h1 := (mem_tw ha).2
    rw [List.mem_append, List.mem_singleton] at hb
    rcases hb with rfl | hb
    · exact h1
    · have := (mem_dw hs hb).2; omega

/-! ## The library's functions -/
theorem index_eq (l : List Ev) (hl : l.length ≤ 100000) (t : Int) : slices_IndexFunc_Event l t = some (if ((List.takeWhile (upto t) l)).length < l.length then (((List.takeWhile (upto t) l)).length : Int) else -1) := by
  unfold slices_IndexFunc_Event
  have hle := tw_le (upto t) l
  have h1 : ∀ k : Nat, k < ((List.takeWhile (upto t) l)).length → slices_IndexFunc_Event_s0 l t (k : Int) = some (.inl ((k + 1 : Nat) : Int)) := by
    intro k hk
    have hkl : k < l.length := Nat.lt_of_lt_of_le hk hle
    have := upto_iff.1 (tw_in (p := upto t) hkl hk)
    unfold slices_IndexFunc_Event_s0 buffer_Buf_below_1
    rw [if_pos (by omega), rdo_get hkl, Option.bind_some, Option.bind_some, if_neg (by omega), wi64_of (by omega) (by omega)]
    rfl
  by_cases c : ((List.takeWhile (upto t) l)).length < l.length
  · have h2 : slices_IndexFunc_Event_s0 l t (((List.takeWhile (upto t) l)).length : Int) = some (.inr (.inl (((List.takeWhile (upto t) l)).length : Int))) := by
      have := upto_not.1 (tw_at (p := upto t) c)
      unfold slices_IndexFunc_Event_s0 buffer_Buf_below_1
      rw [if_pos (by omega), rdo_get c, Option.bind_some, Option.bind_some, if_pos this]
    have := loopO_run (fun k : Nat => (k : Int)) _ h1 h2
    have h0 : loopO (slices_IndexFunc_Event_s0 l t) (0 : Int) = _ := this
    rw [h0, if_pos c]
    rfl
  · have h2 : slices_IndexFunc_Event_s0 l t (((List.takeWhile (upto t) l)).length : Int) = some (.inr (.inr ())) := by
      unfold slices_IndexFunc_Event_s0
      rw [if_neg (by omega)]
    have := loopO_run (fun k : Nat => (k : Int)) _ h1 h2
    have h0 : loopO (slices_IndexFunc_Event_s0 l t) (0 : Int) = _ := this
    rw [h0, if_neg c]
    rfl
theorem below_eq (b : Bu) (hl : b.2.2.2.2.length ≤ 100000) (t : Int) : buffer_Buf_below b t = some (((List.takeWhile (upto t) b.2.2.2.2)).length : Int) := by
  unfold buffer_Buf_below
  have hle := tw_le (upto t) b.2.2.2.2
  rw [index_eq _ hl, Option.bind_some]
  by_cases c : ((List.takeWhile (upto t) b.2.2.2.2)).length < b.2.2.2.2.length
  · rw [if_pos c, if_neg (by omega)]
  · rw [if_neg c, if_pos (by decide), show ((List.takeWhile (upto t) b.2.2.2.2)).length = b.2.2.2.2.length by omega]
theorem latest_eq (a b : Int) : buffer_latest [a, b] = some (max a b) := by
  unfold buffer_latest slices_Max_uint64
  have h1 : slices_Max_uint64_s0 [a, b] (a, 1) = some (.inl (max a b, 2)) := rfl
  have h2 : slices_Max_uint64_s0 [a, b] (max a b, 2) = some (.inr (max a b)) := rfl
  have h0 : loopO (slices_Max_uint64_s0 [a, b]) (a, (1 : Int)) = some (max a b) := by rw [loopO_next h1, loopO_done h2]
  have h3 : rdo [a, b] 0 = some a := rfl
  rw [if_neg (by simp), Option.bind_some, h3, Option.bind_some, h0]
  rfl
theorem grow_eq {n : Nat} (h : n ≤ 100000) : slices_Grow_Event (n : Int) = some [] := by
  unfold slices_Grow_Event
  rw [if_neg (by omega), Option.bind_some, wi64_of (by omega) (by omega)]
  by_cases c : (0 : Int) < (n : Int) - 0
  · rw [if_pos c, must_of ⟨by decide, by decide⟩, Option.bind_some, room_of (by omega) (by omega), Option.bind_some, must_of ⟨by decide, by omega⟩, Option.bind_some]
    rfl
  · rw [if_neg c]
theorem flat_take {l : List (List Ev)} {k : Nat} (h : k < l.length) : (l.take (k + 1)).flatten = (l.take k).flatten ++ l[k] := by
  rw [List.take_succ_eq_append_getElem h, List.flatten_append]; simp
theorem flat_le (l : List (List Ev)) (k : Nat) : ((l.take k).flatten).length ≤ l.flatten.length := by
  have := congrArg List.flatten (List.take_append_drop k l)
  rw [List.flatten_append] at this
  rw [← this, List.length_append]
  omega
theorem concat_eq {l : List (List Ev)} (h : l.length ≤ 100000) (h2 : l.flatten.length ≤ 100000) : slices_Concat_Event l = some l.flatten := by
  unfold slices_Concat_Event
  have h1 : ∀ k : Nat, k < l.length → slices_Concat_Event_s0 l (((l.take k).flatten.length : Int), (k : Int)) = some (.inl (((l.take (k + 1)).flatten.length : Int), ((k + 1 : Nat) : Int))) := by
    intro k hk
    have e := flat_take hk
    have e2 := flat_le l (k + 1)
    have e3 := congrArg List.length e
    rw [List.length_append] at e3
    unfold slices_Concat_Event_s0
    simp only []
    rw [if_pos (by omega), rdo_get hk, Option.bind_some, wi64_of (by omega) (by omega), if_neg (by omega), wi64_of (by omega) (by omega), e3]
    push_cast
    rfl
  have g1 : slices_Concat_Event_s0 l (((l.take l.length).flatten.length : Int), (l.length : Int)) = some (.inr (l.flatten.length : Int)) := by
    unfold slices_Concat_Event_s0
    simp only []
    rw [if_neg (by omega), List.take_length]
  have := loopO_run (fun k : Nat => (((l.take k).flatten.length : Int), (k : Int))) _ h1 g1
  have h0 : loopO (slices_Concat_Event_s0 l) ((0 : Int), (0 : Int)) = some (l.flatten.length : Int) := this
  have h3 : ∀ k : Nat, k < l.length → slices_Concat_Event_s1 l ((l.take k).flatten, (k : Int)) = some (.inl ((l.take (k + 1)).flatten, ((k + 1 : Nat) : Int))) := by
    intro k hk
    have e := flat_take hk
    have e2 := flat_le l (k + 1)
    have e3 := congrArg List.length e
    rw [List.length_append] at e3
    unfold slices_Concat_Event_s1
    simp only []
    rw [if_pos (by omega), rdo_get hk, Option.bind_some, room_of (by omega) (by omega), Option.bind_some, wi64_of (by omega) (by omega), e]
    rfl
  have g3 : slices_Concat_Event_s1 l ((l.take l.length).flatten, (l.length : Int)) = some (.inr l.flatten) := by
    unfold slices_Concat_Event_s1
    simp only []
    rw [if_neg (by omega), List.take_length]
  have := loopO_run (fun k : Nat => ((l.take k).flatten, (k : Int))) _ h3 g3
  have h4 : loopO (slices_Concat_Event_s1 l) (([] : List Ev), (0 : Int)) = some l.flatten := this
  rw [h0, Option.bind_some, grow_eq h2, Option.bind_some, h4]
  rfl
theorem clone_eq {l : List Ev} (h : l.length ≤ 100000) : slices_Clone_Event l = some l := by
  unfold slices_Clone_Event
  rw [room_of (by simp only [List.length_nil]; omega) (by simp only [List.length_nil]; omega)]; rfl

/-! ## Settled -/
def cutF (room : Int) (l : List Ev) : Int := if room < (l.length : Int) then (l.getD (l.length - room.toNat - 1) (0, 0, 0)).1 else 0
def frM (late room mark front : Int) (l : List Ev) : Int := max (max front (mark - late)) (cutF room l)
theorem cut_get {room : Int} {l : List Ev} (h0 : 0 ≤ room) (h : room < (l.length : Int)) : ∃ hi : l.length - room.toNat - 1 < l.length, cutF room l = l[l.length - room.toNat - 1].1 := by
  refine ⟨by omega, ?_⟩
  unfold cutF
  rw [if_pos h, List.getD_eq_getElem?_getD, List.getElem?_eq_getElem (by omega)]
  rfl
theorem fr_room {late room mark front : Int} {l : List Ev} (hs : Srt l) (h0 : 0 ≤ room) : (((List.dropWhile (upto (frM late room mark front l)) l)).length : Int) ≤ room := by
  have ha := congrArg List.length (tw_app (upto (frM late room mark front l)) l)
  rw [List.length_append] at ha
  by_cases c : room < (l.length : Int)
  · obtain ⟨hi, hc⟩ := cut_get h0 c
    have : l[l.length - room.toNat - 1].1 ≤ frM late room mark front l := by rw [← hc]; unfold frM; omega
    have := (srt_tw hs hi).1 this
    omega
  · omega
theorem psettle {late room mark front : Int} {l : List Ev} (hs : Srt l) (hl : l.length ≤ 5000) (h0 : 0 ≤ room ∧ room ≤ 5000) (hla : 0 ≤ late) (hm : 0 ≤ mark ∧ mark ≤ 9223372036854775807) (hf : 0 ≤ front) :
    buffer_Buf_settle (late, room, mark, front, l) = some (frM late room mark front l, (List.dropWhile (upto (frM late room mark front l)) l), (List.takeWhile (upto (frM late room mark front l)) l)) := by
  unfold buffer_Buf_settle
  simp only []
  have e0 : ((if late < mark then ((buffer_latest ([front, wu64 (mark - late)])).bind fun (r10 : Int) => some r10) else (some front)) : Option Int) = some (max front (mark - late)) := by
    by_cases c : late < mark
    · rw [if_pos c, latest_eq, Option.bind_some, wu64_of (by omega) (by omega)]
    · rw [if_neg c]; congr 1; omega
  rw [e0, Option.bind_some, below_eq _ (by simp only []; omega), Option.bind_some]
  simp only []
  generalize hF : frM late room mark front l = F
  have hF0 : max front (mark - late) ≤ F := by rw [← hF]; unfold frM; omega
  have run : ∀ (m : Nat) (f : Int), l.length - ((List.takeWhile (upto f) l)).length ≤ m → max front (mark - late) ≤ f → f ≤ F → loopO (buffer_Buf_settle_s0 (late, room, mark, front, l)) ((((List.takeWhile (upto f) l)).length : Int), f) = some ((((List.takeWhile (upto F) l)).length : Int), F) := by
    intro m
    induction m with
    | zero =>
      intro f hm1 h1 h2
      have := tw_le (upto f) l
      have hfF : f = F := by
        by_cases c : room < (l.length : Int)
        · obtain ⟨hi, hc⟩ := cut_get h0.1 c
          have := (srt_tw (t := f) hs hi).2 (by omega)
          rw [← hF]; unfold frM; rw [hc]; rw [← hF] at h2; unfold frM at h2; rw [hc] at h2; omega
        · have : cutF room l = 0 := by unfold cutF; rw [if_neg c]
          rw [← hF] at h2 ⊢; unfold frM at h2 ⊢; rw [this] at h2 ⊢; omega
      subst hfF
      refine loopO_done ?_
      unfold buffer_Buf_settle_s0
      simp only []
      rw [wi64_of (by omega) (by omega), if_neg (by omega)]
    | succ m ih =>
      intro f hm1 h1 h2
      have hle := tw_le (upto f) l
      by_cases c : room < (l.length : Int) - (((List.takeWhile (upto f) l)).length : Int)
      · have hlt : ((List.takeWhile (upto f) l)).length < l.length := by omega
        obtain ⟨hi, hc⟩ := cut_get (l := l) h0.1 (by omega)
        have hz : l[((List.takeWhile (upto f) l)).length].1 ≤ cutF room l := by rw [hc]; exact srt_le hs hlt hi (by omega)
        have hz2 := upto_not.1 (tw_at (p := upto f) hlt)
        have hz3 : l[((List.takeWhile (upto f) l)).length].1 ≤ F := by rw [← hF]; unfold frM; omega
        have hgt : ((List.takeWhile (upto f) l)).length < ((List.takeWhile (upto (l[((List.takeWhile (upto f) l)).length].1)) l)).length := (srt_tw hs hlt).1 (Int.le_refl _)
        refine (loopO_next ?_).trans (ih (l[((List.takeWhile (upto f) l)).length].1) (by omega) (by omega) hz3)
        unfold buffer_Buf_settle_s0
        simp only []
        rw [wi64_of (by omega) (by omega), if_pos c, rdo_get hlt, Option.bind_some, below_eq _ (by simp only []; omega), Option.bind_some]
      · have hfF : f = F := by
          by_cases c2 : room < (l.length : Int)
          · obtain ⟨hi, hc⟩ := cut_get h0.1 c2
            have := (srt_tw (t := f) hs hi).2 (by omega)
            rw [← hF] at h2 ⊢; unfold frM at h2 ⊢; rw [hc] at h2 ⊢; omega
          · have : cutF room l = 0 := by unfold cutF; rw [if_neg c2]
            rw [← hF] at h2 ⊢; unfold frM at h2 ⊢; rw [this] at h2 ⊢; omega
        subst hfF
        refine loopO_done ?_
        unfold buffer_Buf_settle_s0
        simp only []
        rw [wi64_of (by omega) (by omega), if_neg c]
  have hle := tw_le (upto F) l
  rw [run _ _ (Nat.le_refl _) (Int.le_refl _) hF0, Option.bind_some]
  simp only []
  rw [must_of (by omega), Option.bind_some, must_of (by omega), Option.bind_some, Int.toNat_natCast, tw_take, tw_drop, clone_eq (by omega)]
  rfl
theorem filt_tw {l : List Ev} (hs : Srt l) (t : Int) : l.filter (upto t) = (List.takeWhile (upto t) l) ∧ l.filter (fun e => !upto t e) = (List.dropWhile (upto t) l) := by
  induction l with
  | nil => exact ⟨rfl, rfl⟩
  | cons x l ih =>
    obtain ⟨h1, h2⟩ := List.pairwise_cons.1 hs
    obtain ⟨i1, i2⟩ := ih h2
    by_cases c : upto t x = true
    · rw [List.filter_cons, if_pos c, List.filter_cons, if_neg (by simp [c]), List.takeWhile_cons, if_pos c, List.dropWhile_cons, if_pos c, i1, i2]
      exact ⟨rfl, rfl⟩
    · have hall : ∀ y ∈ l, upto t y = false := fun y hy => upto_not.2 (by have := h1 y hy; have := upto_not.1 (by simpa using c); omega)
      rw [List.filter_cons, if_neg c, List.filter_cons, if_pos (by simp [c]), List.takeWhile_cons, if_neg c, List.dropWhile_cons, if_neg c]
      refine ⟨List.filter_eq_nil_iff.2 (fun y hy => by rw [hall y hy]; decide), ?_⟩
      rw [List.filter_eq_self.2 (fun y hy => by rw [hall y hy]; rfl)]
theorem split_eq {l : List Ev} (hs : Srt l) (hl : l.length ≤ 100000) (t : Int) : ref12_split l t = some ((List.takeWhile (upto t) l), (List.dropWhile (upto t) l)) := by
  unfold ref12_split
  have h1 : ∀ k : Nat, k < l.length → ref12_split_s0 l t ((l.take k).filter (upto t), (l.take k).filter (fun e => !upto t e), (k : Int)) = some (.inl ((l.take (k + 1)).filter (upto t), (l.take (k + 1)).filter (fun e => !upto t e), ((k + 1 : Nat) : Int))) := by
    intro k hk
    have f1 := List.length_filter_le (upto t) (l.take k)
    have f2 := List.length_filter_le (fun e => !upto t e) (l.take k)
    rw [List.length_take] at f1 f2
    rw [List.take_succ_eq_append_getElem hk, List.filter_append, List.filter_append]
    generalize (l.take k).filter (upto t) = X at f1 ⊢
    generalize (l.take k).filter (fun e => !upto t e) = Y at f2 ⊢
    unfold ref12_split_s0
    simp only []
    rw [if_pos (by omega), rdo_get hk, Option.bind_some]
    by_cases c : l[k].1 ≤ t
    · have c' := upto_iff.2 c
      rw [if_pos c, room_of (by simp only [List.length_cons, List.length_nil]; omega) (by simp only [List.length_cons, List.length_nil]; omega), Option.bind_some, wi64_of (by omega) (by omega)]
      simp [c']
    · have c' : upto t l[k] = false := upto_not.2 (by omega)
      rw [if_neg c, room_of (by simp only [List.length_cons, List.length_nil]; omega) (by simp only [List.length_cons, List.length_nil]; omega), Option.bind_some, wi64_of (by omega) (by omega)]
      simp [c']
  have g1 : ref12_split_s0 l t ((l.take l.length).filter (upto t), (l.take l.length).filter (fun e => !upto t e), (l.length : Int)) = some (.inr ((List.takeWhile (upto t) l), (List.dropWhile (upto t) l))) := by
    unfold ref12_split_s0
    simp only []
    rw [if_neg (by omega), List.take_length, (filt_tw hs t).1, (filt_tw hs t).2]
  have := loopO_run (fun k : Nat => ((l.take k).filter (upto t), (l.take k).filter (fun e => !upto t e), (k : Int))) _ h1 g1
  have h0 : loopO (ref12_split_s0 l t) (([] : List Ev), ([] : List Ev), (0 : Int)) = some ((List.takeWhile (upto t) l), (List.dropWhile (upto t) l)) := this
  rw [h0]
  rfl
theorem rsettle {late room mark front : Int} {l : List Ev} (hs : Srt l) (hl : l.length ≤ 5000) (h0 : 0 ≤ room ∧ room ≤ 5000) (hla : 0 ≤ late) (hm : 0 ≤ mark ∧ mark ≤ 9223372036854775807) (hf : 0 ≤ front) :
    ref12_settle (late, room, mark, front, l) = some (frM late room mark front l, (List.dropWhile (upto (frM late room mark front l)) l), (List.takeWhile (upto (frM late room mark front l)) l)) := by
  unfold ref12_settle
  simp only []
  have e0 : (((if late ≤ mark then (some (decide (front < (wu64 (mark - late))))) else (some false)) : Option Bool).bind (fun (j3 : Bool) => ((if j3 = true then (some (wu64 (mark - late))) else (some front)) : Option Int))) = some (max front (mark - late)) := by
    by_cases c : late ≤ mark
    · rw [if_pos c, Option.bind_some, wu64_of (by omega) (by omega)]
      by_cases c2 : front < mark - late
      · rw [decide_eq_true c2, if_pos rfl]; congr 1; omega
      · rw [decide_eq_false c2, if_neg (by decide)]; congr 1; omega
    · rw [if_neg c, Option.bind_some, if_neg (by decide)]; congr 1; omega
  rw [← Option.bind_assoc, e0, Option.bind_some, split_eq hs (by omega), Option.bind_some]
  simp only []
  generalize hF : frM late room mark front l = F
  have hF0 : max front (mark - late) ≤ F := by rw [← hF]; unfold frM; omega
  have run : ∀ (m : Nat) (f : Int), l.length - ((List.takeWhile (upto f) l)).length ≤ m → max front (mark - late) ≤ f → f ≤ F → loopO (ref12_settle_s0 (late, room, mark, front, l)) ((List.takeWhile (upto f) l), (List.dropWhile (upto f) l), f) = some ((List.takeWhile (upto F) l), (List.dropWhile (upto F) l), F) := by
    intro m
    induction m with
    | zero =>
      intro f hm1 h1 h2
      have hle := tw_le (upto f) l
      have ha := congrArg List.length (tw_app (upto f) l)
      rw [List.length_append] at ha
      have hfF : f = F := by
        by_cases c : room < (l.length : Int)
        · obtain ⟨hi, hc⟩ := cut_get h0.1 c
          have := (srt_tw (t := f) hs hi).2 (by omega)
          rw [← hF] at h2 ⊢; unfold frM at h2 ⊢; rw [hc] at h2 ⊢; omega
        · have : cutF room l = 0 := by unfold cutF; rw [if_neg c]
          rw [← hF] at h2 ⊢; unfold frM at h2 ⊢; rw [this] at h2 ⊢; omega
      subst hfF
      refine loopO_done ?_
      unfold ref12_settle_s0
      simp only []
      rw [if_neg (by omega)]
    | succ m ih =>
      intro f hm1 h1 h2
      have hle := tw_le (upto f) l
      have ha := congrArg List.length (tw_app (upto f) l)
      rw [List.length_append] at ha
      by_cases c : room < (((List.dropWhile (upto f) l)).length : Int)
      · have hlt : ((List.takeWhile (upto f) l)).length < l.length := by omega
        obtain ⟨hi, hc⟩ := cut_get (l := l) h0.1 (by omega)
        have hz : l[((List.takeWhile (upto f) l)).length].1 ≤ cutF room l := by rw [hc]; exact srt_le hs hlt hi (by omega)
        have hz2 := upto_not.1 (tw_at (p := upto f) hlt)
        have hz3 : l[((List.takeWhile (upto f) l)).length].1 ≤ F := by rw [← hF]; unfold frM; omega
        have hgt : ((List.takeWhile (upto f) l)).length < ((List.takeWhile (upto (l[((List.takeWhile (upto f) l)).length].1)) l)).length := (srt_tw hs hlt).1 (Int.le_refl _)
        have hd : (List.dropWhile (upto f) l) = l[((List.takeWhile (upto f) l)).length] :: l.drop (((List.takeWhile (upto f) l)).length + 1) := by rw [← tw_drop]; exact List.drop_eq_getElem_cons hlt
        have hrd : rdo ((List.dropWhile (upto f) l)) 0 = some l[((List.takeWhile (upto f) l)).length] := by rw [hd]; rfl
        have h2w := tw_two (p := upto f) (q := upto (l[((List.takeWhile (upto f) l)).length].1)) (fun x hx => upto_iff.2 (by have := upto_iff.1 hx; omega)) l
        refine (loopO_next ?_).trans (ih (l[((List.takeWhile (upto f) l)).length].1) (by omega) (by omega) hz3)
        unfold ref12_settle_s0
        simp only []
        have hlen : (((List.dropWhile (upto f) l)).takeWhile (upto (l[((List.takeWhile (upto f) l)).length].1))).length ≤ ((List.dropWhile (upto f) l)).length := tw_le _ _
        rw [if_pos c, hrd, Option.bind_some, split_eq (srt_dw hs f) (by omega), Option.bind_some]
        dsimp only
        rw [room_of (by omega) (by omega), Option.bind_some]
        rw [h2w.1, h2w.2]
      · have hfF : f = F := by
          by_cases c2 : room < (l.length : Int)
          · obtain ⟨hi, hc⟩ := cut_get h0.1 c2
            have := (srt_tw (t := f) hs hi).2 (by omega)
            rw [← hF] at h2 ⊢; unfold frM at h2 ⊢; rw [hc] at h2 ⊢; omega
          · have : cutF room l = 0 := by unfold cutF; rw [if_neg c2]
            rw [← hF] at h2 ⊢; unfold frM at h2 ⊢; rw [this] at h2 ⊢; omega
        subst hfF
        refine loopO_done ?_
        unfold ref12_settle_s0
        simp only []
        rw [if_neg c]
  rw [run _ _ (Nat.le_refl _) (Int.le_refl _) hF0]
  rfl
end Go.Proofs.Ytbeknohemgjfbaa.Pu
