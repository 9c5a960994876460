/- The laws of chapter 12, in plain words. -/
import Derived.Test.YthgeodagikmpjaaT12b
namespace Go.Proofs.Ythgeodagikmpjaa.Pu
set_option linter.unusedVariables false

theorem inv0 {late room : Int} (h1 : 0 ≤ late ∧ late ≤ 4611686018427387904) (h2 : 1 ≤ room ∧ room ≤ 1024) : Inv (late, room, 0, 0, []) :=
  ⟨h1, h2, ⟨Int.le_refl 0, (by decide : (0 : Int) ≤ 9223372036854775807)⟩, ⟨Int.le_refl 0, Int.le_refl 0⟩, by simp only []; omega, by simp only [List.length_nil]; omega, List.Pairwise.nil, fun e he => by cases he⟩
theorem awake12 : law12_awake = some true := by
  have i0 : Inv ((2, 9, 0, 0, []) : Bu) := inv0 (by decide) (by decide)
  have p1 : pushR ((2, 9, 0, 0, []) : Bu) (5, 0, 1) = (2, 9, 5, 3, [(5, 0, 1)], [], 0) := by decide
  have i1 : Inv ((2, 9, 5, 3, [(5, 0, 1)]) : Bu) := by have := (push_inv i0 (e := (5, 0, 1)) (by decide) (by rw [p1])).1; rw [p1] at this; exact this
  have p2 : pushR ((2, 9, 5, 3, [(5, 0, 1)]) : Bu) (4, 0, 2) = (2, 9, 5, 3, [(4, 0, 2), (5, 0, 1)], [], 0) := by decide
  have i2 : Inv ((2, 9, 5, 3, [(4, 0, 2), (5, 0, 1)]) : Bu) := by have := (push_inv i1 (e := (4, 0, 2)) (by decide) (by rw [p2])).1; rw [p2] at this; exact this
  have p3 : pushR ((2, 9, 5, 3, [(4, 0, 2), (5, 0, 1)]) : Bu) (8, 0, 3) = (2, 9, 8, 6, [(8, 0, 3)], [(4, 0, 2), (5, 0, 1)], 0) := by decide
  have i3 : Inv ((2, 9, 8, 6, [(8, 0, 3)]) : Bu) := by have := (push_inv i2 (e := (8, 0, 3)) (by decide) (by rw [p3])).1; rw [p3] at this; exact this
  have p4 : pushR ((2, 9, 8, 6, [(8, 0, 3)]) : Bu) (5, 0, 1) = (0, 0, 0, 0, [], [], 4) := by decide
  unfold law12_awake
  rw [new_eq, if_neg (by decide), Option.bind_some, cpush i0 (by decide), Option.bind_some, p1]
  dsimp only
  rw [cpush i1 (by decide), Option.bind_some, p2]
  dsimp only
  rw [cpush i2 (by decide), Option.bind_some, p3]
  dsimp only
  rw [cpush i3 (by decide), Option.bind_some, p4]
  have hr : rdo ([(4, 0, 2), (5, 0, 1)] : List Ev) 0 = some (4, 0, 2) := rfl
  dsimp only
  rw [if_pos rfl, if_pos rfl, if_pos rfl, if_pos (by decide), if_pos (by decide), hr, Option.bind_some, if_pos rfl, if_pos rfl, if_pos rfl, cweight _ (by decide), Option.bind_some, if_pos (by decide), cmay _ (by decide), Option.bind_some, may_inv i3]
  rfl
theorem law12_BufferMay_true (p1 p2 : Bu) (h1 : U64 p1.1 ∧ I64 p1.2.1 ∧ U64 p1.2.2.1 ∧ U64 p1.2.2.2.1 ∧ p1.2.2.2.2.length ≤ 9223372036854775807 ∧ ∀ e ∈ p1.2.2.2.2, U64 e.1 ∧ U64 e.2.1 ∧ U64 e.2.2) (h2 : U64 p2.1 ∧ I64 p2.2.1 ∧ U64 p2.2.2.1 ∧ U64 p2.2.2.2.1 ∧ p2.2.2.2.2.length ≤ 9223372036854775807 ∧ ∀ e ∈ p2.2.2.2.2, U64 e.1 ∧ U64 e.2.1 ∧ U64 e.2.2) : law12_BufferMay p1 p2 = some true := by
  unfold law12_BufferMay law12_made
  rw [awake12, Option.bind_some]
  by_cases c : (60 : Int) < (p1.2.2.2.2.length : Int)
  · rw [if_pos c]
  · rw [if_neg c]
    by_cases c2 : (60 : Int) < (p2.2.2.2.2.length : Int)
    · rw [if_pos c2]
    · have hl : p1.2.2.2.2.length ≤ 100000 := by omega
      rw [if_neg c2, new_eq, Option.bind_some, conf_eq, Option.bind_some, lsame _ _ (by simp), Option.bind_some, if_pos rfl]
      simp only [Option.bind_some, cmay p1 hl, rmay p1 hl, csame p1 p2 hl, rsame p1 p2 hl, if_true]
      by_cases c3 : badC p1.1 p1.2.1
      · simp [c3]
      · simp [c3]
/-- A buffer that was made. -/
theorem one_eq {b : Bu} (h : Inv b) {e : Ev} (he : 0 ≤ e.1) : ∃ r : Res, ref12_one b e = some r ∧ (r.2.2.2.2.2.2 = 0 → Inv (bu r) ∧ r.1 = b.1 ∧ r.2.2.2.2.2.1.length + (bu r).2.2.2.2.length ≤ b.2.2.2.2.length + 1) := by
  unfold ref12_one
  by_cases c : e.2.2 = 0
  · rw [if_pos c, rmove h he]
    refine ⟨moveR b e.1, rfl, fun h0 => ?_⟩
    have := move_inv h he h0
    refine ⟨this.1, ?_, by omega⟩
    unfold moveR at h0 ⊢
    by_cases c2 : 9223372036854775807 < e.1
    · rw [if_pos c2] at h0; cases h0
    · rw [if_neg c2]; rfl
  · rw [if_neg c, rpush h he]
    refine ⟨pushR b e, rfl, fun h0 => ?_⟩
    have := push_inv h he h0
    exact ⟨this.1, (push_late h0).1, by omega⟩
theorem made_eq {late room : Int} {l : List Ev} (hla : U64 late) (hl : ∀ e ∈ l, 0 ≤ e.1) (hlen : l.length ≤ 9223372036854775807) (hr : I64 room) : ∃ (b : Bu) (out : List Ev), ref12_Made late room l = some (b.1, b.2.1, b.2.2.1, b.2.2.2.1, b.2.2.2.2, out) ∧ Inv b ∧ b.1 ≤ 999 ∧ b.2.2.2.2.length ≤ 40 := by
  have h0 : late.tmod 1000 = late % 1000 := Int.tmod_eq_emod_of_nonneg hla.1
  have h1 : wi64 (1 + ((max room 0).tmod 50)) = 1 + max room 0 % 50 := by rw [Int.tmod_eq_emod_of_nonneg (by omega), wi64_of (by omega) (by omega)]
  have run : ∀ (m i : Nat) (out : List Ev) (b : Bu), i + m = min l.length 40 → Inv b → b.1 ≤ 999 → out.length + b.2.2.2.2.length ≤ i → ∃ (b' : Bu) (out' : List Ev), loopO (ref12_Made_s0 l) (out, (i : Int), b.1, b.2.1, b.2.2.1, b.2.2.2.1, b.2.2.2.2) = some (out', b'.1, b'.2.1, b'.2.2.1, b'.2.2.2.1, b'.2.2.2.2) ∧ Inv b' ∧ b'.1 ≤ 999 ∧ b'.2.2.2.2.length ≤ 40 := by
    intro m
    induction m with
    | zero =>
      intro i out b hi hb h9 ho
      refine ⟨b, out, loopO_done ?_, hb, h9, by omega⟩
      unfold ref12_Made_s0
      simp only []
      by_cases c : (i : Int) < (l.length : Int)
      · rw [if_pos c, if_neg (by omega)]
      · rw [if_neg c]
    | succ m ih =>
      intro i out b hi hb h9 ho
      have hk : i < l.length := by omega
      obtain ⟨r, hr1, hr2⟩ := one_eq hb (hl _ (List.getElem_mem hk))
      by_cases c : r.2.2.2.2.2.2 = 0
      · obtain ⟨g1, g2, g3⟩ := hr2 c
        obtain ⟨b', out', e1, e2⟩ := ih (i + 1) (out ++ r.2.2.2.2.2.1) (bu r) (by omega) g1 (by show r.1 ≤ 999; omega) (by rw [List.length_append]; omega)
        refine ⟨b', out', (loopO_next ?_).trans e1, e2⟩
        unfold ref12_Made_s0
        simp only []
        rw [if_pos (by omega), if_pos (by omega), rdo_get hk, Option.bind_some, hr1, Option.bind_some, if_pos c, room_of (by omega) (by omega), Option.bind_some, wi64_of (by omega) (by omega)]
        rfl
      · obtain ⟨b', out', e1, e2⟩ := ih (i + 1) out b (by omega) hb h9 (by omega)
        refine ⟨b', out', (loopO_next ?_).trans e1, e2⟩
        unfold ref12_Made_s0
        simp only []
        rw [if_pos (by omega), if_pos (by omega), rdo_get hk, Option.bind_some, hr1, Option.bind_some, if_neg c, wi64_of (by omega) (by omega)]
        rfl
  obtain ⟨b', out', e1, e2⟩ := run (min l.length 40) 0 [] (late % 1000, 1 + max room 0 % 50, 0, 0, []) (by omega) (inv0 (by omega) (by omega)) (by simp only []; omega) (by simp)
  refine ⟨b', out', ?_, e2⟩
  unfold ref12_Made
  rw [h0, h1]
  have e3 : loopO (ref12_Made_s0 l) (([] : List Ev), (0 : Int), late % 1000, 1 + max room 0 % 50, (0 : Int), (0 : Int), ([] : List Ev)) = _ := e1
  rw [e3]
  rfl
theorem law12_BufferLate_true (p1 : Int) (p2 : List Ev) (p3 : Int) (h1 : U64 p1) (h2 : p2.length ≤ 9223372036854775807 ∧ ∀ e ∈ p2, U64 e.1 ∧ U64 e.2.1 ∧ U64 e.2.2) (h3 : U64 p3) : law12_BufferLate p1 p2 p3 = some true := by
  unfold law12_BufferLate law12_made
  obtain ⟨b, out, e1, hb, h9, h40⟩ := made_eq (room := 30) h1 (fun e he => (h2.2 e he).1.1) h2.1 (by decide)
  rw [awake12, Option.bind_some, e1, Option.bind_some, Option.bind_some]
  dsimp only
  have hp := cpush hb (e := (p3, 0, 1)) h3.1
  have hp' : buffer_Push (b.1, b.2.1, b.2.2.1, b.2.2.2.1, b.2.2.2.2) (p3, 0, 1) = some (pushR b (p3, 0, 1)) := hp
  rw [hp', Option.bind_some]
  by_cases c1 : 9223372036854775807 < p3
  · rw [if_pos c1, if_pos rfl]
    have : (pushR b (p3, 0, 1)).2.2.2.2.2.2 = 6 := by unfold pushR; rw [if_neg (show ¬ (1 : Int) = 0 from by decide), if_pos c1]
    rw [this]; rfl
  · rw [if_neg c1]
    by_cases c2 : p3 < b.2.2.2.1
    · rw [if_pos c2, if_pos rfl]
      have : (pushR b (p3, 0, 1)).2.2.2.2.2.2 = 4 := by unfold pushR; rw [if_neg (show ¬ (1 : Int) = 0 from by decide), if_neg c1, if_pos c2]
      rw [this, if_pos rfl, lsame _ _ (by simp only []; omega), decide_eq_true rfl]; rfl
    · rw [if_neg c2, if_pos rfl]
      have h0 : (pushR b (p3, 0, 1)).2.2.2.2.2.2 = 0 := by unfold pushR; rw [if_neg (show ¬ (1 : Int) = 0 from by decide), if_neg c1, if_neg c2]; rfl
      have hi := push_inv hb (e := (p3, 0, 1)) h3.1 h0
      have hl := push_late (b := b) (e := (p3, 0, 1)) h0
      have hm := may_inv hi.1
      have hlag := hi.1.lag
      have hfr := hi.1.front
      have hmk := hi.1.mark
      have hbl := hb.late
      generalize hr : pushR b (p3, 0, 1) = r at h0 hi hl hm hlag hfr hmk
      simp only [bu] at hi hm hlag hfr hmk
      rw [if_pos h0, cmay _ (by simp only []; omega), Option.bind_some, hm, if_pos rfl, if_pos hl.2.2, if_pos hl.2.1, wu64_of (by omega) (by omega), decide_eq_true (by omega)]
theorem law12_BufferMoves_true (p1 : Int) (p2 : List Ev) (p3 : Int × Int) (h1 : U64 p1) (h2 : p2.length ≤ 9223372036854775807 ∧ ∀ e ∈ p2, U64 e.1 ∧ U64 e.2.1 ∧ U64 e.2.2) (h3 : U64 p3.1 ∧ U64 p3.2) : law12_BufferMoves p1 p2 p3 = some true := by
  unfold law12_BufferMoves law12_made
  obtain ⟨b, out, e1, hb, h9, h40⟩ := made_eq (room := 40) h1 (fun e he => (h2.2 e he).1.1) h2.1 (by decide)
  rw [awake12, Option.bind_some, e1, Option.bind_some, Option.bind_some]
  dsimp only
  have ha : 0 ≤ p3.1.tmod 4611686018427387904 ∧ p3.1.tmod 4611686018427387904 < 4611686018427387904 := by rw [Int.tmod_eq_emod_of_nonneg h3.1.1]; omega
  have hc : 0 ≤ p3.2.tmod 4611686018427387904 ∧ p3.2.tmod 4611686018427387904 < 4611686018427387904 := by rw [Int.tmod_eq_emod_of_nonneg h3.2.1]; omega
  generalize p3.1.tmod 4611686018427387904 = a at ha ⊢
  generalize p3.2.tmod 4611686018427387904 = c at hc ⊢
  have m1 : moveR b a = setR b.1 b.2.1 (max b.2.2.1 a) b.2.2.2.1 b.2.2.2.2 := by unfold moveR; rw [if_neg (by omega)]
  have q1 : buffer_Move (b.1, b.2.1, b.2.2.1, b.2.2.2.1, b.2.2.2.2) a = some (setR b.1 b.2.1 (max b.2.2.1 a) b.2.2.2.1 b.2.2.2.2) := by rw [← m1]; exact cmove hb ha.1
  have i1 := move_inv hb ha.1 (by rw [m1]; rfl)
  rw [m1] at i1
  have m2 : moveR (bu (setR b.1 b.2.1 (max b.2.2.1 a) b.2.2.2.1 b.2.2.2.2)) c = setR (bu (setR b.1 b.2.1 (max b.2.2.1 a) b.2.2.2.1 b.2.2.2.2)).1 (bu (setR b.1 b.2.1 (max b.2.2.1 a) b.2.2.2.1 b.2.2.2.2)).2.1 (max (bu (setR b.1 b.2.1 (max b.2.2.1 a) b.2.2.2.1 b.2.2.2.2)).2.2.1 c) (bu (setR b.1 b.2.1 (max b.2.2.1 a) b.2.2.2.1 b.2.2.2.2)).2.2.2.1 (bu (setR b.1 b.2.1 (max b.2.2.1 a) b.2.2.2.1 b.2.2.2.2)).2.2.2.2 := by unfold moveR; rw [if_neg (by omega)]
  have q2 := cmove i1.1 hc.1
  rw [m2] at q2
  have m3 : moveR b (max a c) = setR b.1 b.2.1 (max b.2.2.1 (max a c)) b.2.2.2.1 b.2.2.2.2 := by unfold moveR; rw [if_neg (by omega)]
  have q3 : buffer_Move (b.1, b.2.1, b.2.2.1, b.2.2.2.1, b.2.2.2.2) (max a c) = some (setR b.1 b.2.1 (max b.2.2.1 (max a c)) b.2.2.2.1 b.2.2.2.2) := by rw [← m3]; exact cmove hb (by omega)
  rw [q1, Option.bind_some]
  dsimp only [setR, bu] at q2 i1 ⊢
  rw [q2, Option.bind_some, q3, Option.bind_some]
  dsimp only [setR]
  have hs := hb.srt
  have hrm := hb.room
  have hfr := hb.front
  obtain ⟨late, room, mark, front, l⟩ := b
  simp only at hs hrm hfr h40 i1 h9 ⊢
  generalize hF1 : frM late room (max mark a) front l = F1 at i1 ⊢
  have hroom : (((List.dropWhile (upto F1) l)).length : Int) ≤ room := by rw [← hF1]; exact fr_room hs (by omega)
  have hcut : cutF room ((List.dropWhile (upto F1) l)) = 0 := by unfold cutF; rw [if_neg (by omega)]
  have hF : frM late room (max (max mark a) c) F1 ((List.dropWhile (upto F1) l)) = frM late room (max mark (max a c)) front l := by
    unfold frM
    rw [hcut, ← hF1]
    unfold frM
    have : 0 ≤ cutF room l := by
      by_cases q : room < (l.length : Int)
      · obtain ⟨hi, hq⟩ := cut_get (l := l) (by omega) q
        have := hb.ev _ (List.getElem_mem hi)
        simp only at this
        omega
      · unfold cutF; rw [if_neg q]; exact Int.le_refl 0
    omega
  have hle : F1 ≤ frM late room (max mark (max a c)) front l := by rw [← hF, frM]; omega
  have htw := tw_two (p := upto F1) (q := upto (frM late room (max mark (max a c)) front l)) (fun x hx => upto_iff.2 (by have := upto_iff.1 hx; omega)) l
  rw [hF, htw.2]
  have hl1 := tw_le (upto F1) l
  have hl2 := tw_le (upto (frM late room (max mark (max a c)) front l)) ((List.dropWhile (upto F1) l))
  have hl3 : ((List.dropWhile (upto F1) l)).length ≤ l.length := (List.dropWhile_sublist _).length_le
  have hmm : max (max mark a) c = max mark (max a c) := by omega
  rw [room_of (by simp only [List.length_nil]; omega) (by simp only [List.length_nil]; omega), Option.bind_some, room_of (by omega) (by omega), Option.bind_some, if_pos trivial, if_pos trivial, if_pos trivial, if_pos trivial, csame _ _ (by simp only []; have : ((List.dropWhile (upto (frM late room (max mark (max a c)) front l)) l)).length ≤ l.length := (List.dropWhile_sublist _).length_le; omega), Option.bind_some, hmm, if_pos (decide_eq_true rfl), htw.1, events_eq _ _ (by have := tw_le (upto (frM late room (max mark (max a c)) front l)) l; omega), decide_eq_true rfl]
  rfl
theorem law12_BufferPlays_true (p1 p2 : Int) (p3 : List Ev) (h1 : U64 p1) (h2 : I64 p2) (h3 : p3.length ≤ 9223372036854775807 ∧ ∀ e ∈ p3, U64 e.1 ∧ U64 e.2.1 ∧ U64 e.2.2) : law12_BufferPlays p1 p2 p3 = some true := by
  unfold law12_BufferPlays
  have g0 : p1.tmod 1000 = p1 % 1000 := Int.tmod_eq_emod_of_nonneg h1.1
  have g1 : wi64 (1 + ((max p2 0).tmod 50)) = 1 + max p2 0 % 50 := by rw [Int.tmod_eq_emod_of_nonneg (by omega), wi64_of (by omega) (by omega)]
  rw [awake12, Option.bind_some, g0, g1, new_eq, if_neg (by unfold badC; omega), Option.bind_some, if_neg (fun q => q rfl)]
  have run : ∀ (m i : Nat) (b : Bu), i + m = min p3.length 40 → Inv b → ∃ b' : Bu, Inv b' ∧ loopO (law12_BufferPlays_s0 p3) ((i : Int), b.1, b.2.1, b.2.2.1, b.2.2.2.1, b.2.2.2.2, b.1, b.2.1, b.2.2.1, b.2.2.2.1, b.2.2.2.2) = some (.inr (b'.1, b'.2.1, b'.2.2.1, b'.2.2.2.1, b'.2.2.2.2, b'.1, b'.2.1, b'.2.2.1, b'.2.2.2.1, b'.2.2.2.2)) := by
    intro m
    induction m with
    | zero =>
      intro i b hi hb
      refine ⟨b, hb, loopO_done ?_⟩
      unfold law12_BufferPlays_s0
      simp only []
      by_cases c : (i : Int) < (p3.length : Int)
      · rw [if_pos c, if_neg (by omega)]
      · rw [if_neg c]
    | succ m ih =>
      intro i b hi hb
      have hk : i < p3.length := by omega
      have he := (h3.2 _ (List.getElem_mem hk)).1.1
      have fin : ∀ r : Res, (r.2.2.2.2.2.2 = 0 → Inv (bu r) ∧ r.2.2.2.2.2.1.length + (bu r).2.2.2.2.length ≤ b.2.2.2.2.length + 1) → (r.2.2.2.2.2.2 ≠ 0 → r.2.2.2.2.1 = [] ∧ r.2.2.2.2.2.1 = []) → r.2.2.2.2.1.length ≤ 100000 ∧ r.2.2.2.2.2.1.length ≤ 100000 := by
        intro r g1 g2
        by_cases c : r.2.2.2.2.2.2 = 0
        · have q := (g1 c).2
          have h6 := hb.len
          have h7 := hb.room
          have e : (bu r).2.2.2.2 = r.2.2.2.2.1 := rfl
          rw [e] at q
          omega
        · rw [(g2 c).1, (g2 c).2]; exact ⟨by decide, by decide⟩
      have step : ∃ b2 : Bu, Inv b2 ∧ law12_BufferPlays_s0 p3 ((i : Int), b.1, b.2.1, b.2.2.1, b.2.2.2.1, b.2.2.2.2, b.1, b.2.1, b.2.2.1, b.2.2.2.1, b.2.2.2.2) = some (.inl (((i + 1 : Nat) : Int), b2.1, b2.2.1, b2.2.2.1, b2.2.2.2.1, b2.2.2.2.2, b2.1, b2.2.1, b2.2.2.1, b2.2.2.2.1, b2.2.2.2.2)) := by
        unfold law12_BufferPlays_s0
        simp only []
        rw [if_pos (by omega), if_pos (by omega), rdo_get hk, Option.bind_some]
        by_cases c : p3[i].2.2 = 0
        · have q1 : buffer_Move (b.1, b.2.1, b.2.2.1, b.2.2.2.1, b.2.2.2.2) p3[i].1 = some (moveR b p3[i].1) := cmove hb he
          have q2 : ref12_Move (b.1, b.2.1, b.2.2.1, b.2.2.2.1, b.2.2.2.2) p3[i].1 = some (moveR b p3[i].1) := rmove hb he
          have g1 := fun h0 => move_inv hb he h0
          have g2 : (moveR b p3[i].1).2.2.2.2.2.2 ≠ 0 → (moveR b p3[i].1).2.2.2.2.1 = [] ∧ (moveR b p3[i].1).2.2.2.2.2.1 = [] := by
            unfold moveR
            split
            · exact fun _ => ⟨rfl, rfl⟩
            · exact fun h => absurd rfl h
          rw [if_pos c, q1, Option.bind_some, q2, Option.bind_some]
          generalize moveR b p3[i].1 = r at g1 g2 ⊢
          have hl := fin r (fun h0 => ⟨(g1 h0).1, by have := (g1 h0).2; omega⟩) g2
          rw [if_neg (fun q => q rfl), lsame _ _ hl.1, Option.bind_some, if_neg (fun q => q (decide_eq_true rfl)), events_eq _ _ hl.2, Option.bind_some, if_neg (fun q => q (decide_eq_true rfl)), wi64_of (by omega) (by omega)]
          by_cases c0 : r.2.2.2.2.2.2 = 0
          · rw [if_pos c0]; exact ⟨bu r, (g1 c0).1, rfl⟩
          · rw [if_neg c0]; exact ⟨b, hb, rfl⟩
        · have q1 : buffer_Push (b.1, b.2.1, b.2.2.1, b.2.2.2.1, b.2.2.2.2) p3[i] = some (pushR b p3[i]) := cpush hb he
          have q2 : ref12_Push (b.1, b.2.1, b.2.2.1, b.2.2.2.1, b.2.2.2.2) p3[i] = some (pushR b p3[i]) := rpush hb he
          have g1 := fun h0 => push_inv hb he h0
          have g2 : (pushR b p3[i]).2.2.2.2.2.2 ≠ 0 → (pushR b p3[i]).2.2.2.2.1 = [] ∧ (pushR b p3[i]).2.2.2.2.2.1 = [] := by
            unfold pushR
            split
            · exact fun _ => ⟨rfl, rfl⟩
            · split
              · exact fun _ => ⟨rfl, rfl⟩
              · split
                · exact fun _ => ⟨rfl, rfl⟩
                · exact fun h => absurd rfl h
          rw [if_neg c, q1, Option.bind_some, q2, Option.bind_some]
          generalize pushR b p3[i] = r at g1 g2 ⊢
          have hl := fin r (fun h0 => ⟨(g1 h0).1, by have := (g1 h0).2; omega⟩) g2
          rw [if_neg (fun q => q rfl), lsame _ _ hl.1, Option.bind_some, if_neg (fun q => q (decide_eq_true rfl)), events_eq _ _ hl.2, Option.bind_some, if_neg (fun q => q (decide_eq_true rfl)), wi64_of (by omega) (by omega)]
          by_cases c0 : r.2.2.2.2.2.2 = 0
          · rw [if_pos c0]; exact ⟨bu r, (g1 c0).1, rfl⟩
          · rw [if_neg c0]; exact ⟨b, hb, rfl⟩
      obtain ⟨b2, hb2, hs⟩ := step
      obtain ⟨b', hb', hr⟩ := ih (i + 1) b2 (by omega) hb2
      exact ⟨b', hb', (loopO_next hs).trans hr⟩
  obtain ⟨b', hb', hr⟩ := run (min p3.length 40) 0 (p1 % 1000, 1 + max p2 0 % 50, 0, 0, []) (by omega) (inv0 (by omega) (by omega))
  have h0 : loopO (law12_BufferPlays_s0 p3) ((0 : Int), p1 % 1000, 1 + max p2 0 % 50, (0 : Int), (0 : Int), ([] : List Ev), p1 % 1000, 1 + max p2 0 % 50, (0 : Int), (0 : Int), ([] : List Ev)) = _ := hr
  have hl : b'.2.2.2.2.length ≤ 100000 := by have := hb'.len; have := hb'.room; omega
  rw [h0, Option.bind_some, Sum.elim_inr, if_pos rfl]
  dsimp only
  rw [lsame _ _ hl, Option.bind_some, if_pos (decide_eq_true rfl), cweight _ hl, Option.bind_some, rweight _ hl, Option.bind_some, decide_eq_true rfl]
end Go.Proofs.Ythgeodagikmpjaa.Pu
