/- Buffers joined: the program's answer and the reference's. -/
import Derived.Test.YtbeknohemgjfbaaC12u
namespace Go.Proofs.Ytbeknohemgjfbaa.Pu
set_option linter.unusedVariables false

def sw (l : List Ev) : Int := (l.map (fun e => e.2.2)).sum
theorem sw_nil : sw [] = 0 := rfl
theorem sw_one (e : Ev) : sw [e] = e.2.2 := by simp [sw]
theorem sw_app (a b : List Ev) : sw (a ++ b) = sw a + sw b := by unfold sw; rw [List.map_append, List.sum_append]
theorem wu_eq (x : Int) : wu64 x = x % 18446744073709551616 := rfl
theorem wsum_eq (l : List Ev) : wsum l = wu64 (sw l) := by
  have h : ∀ (l : List Ev) (s : Int), l.foldl (fun s e => wu64 (s + e.2.2)) (wu64 s) = wu64 (s + sw l) := by
    intro l
    induction l with
    | nil => intro s; rw [sw_nil, Int.add_zero]; rfl
    | cons e l ih =>
      intro s
      rw [List.foldl_cons, show wu64 (wu64 s + e.2.2) = wu64 (s + e.2.2) by simp only [wu_eq]; omega, ih]
      have : sw (e :: l) = e.2.2 + sw l := by rw [← sw_one e, ← sw_app]; rfl
      rw [this, Int.add_assoc]
  have := h l 0
  rw [Int.zero_add] at this
  exact this
theorem ins_sw (l : List Ev) (e : Ev) : sw (ins l e) = sw l + e.2.2 := by
  have := congrArg sw (tw_app (upto e.1) l)
  rw [sw_app] at this
  unfold ins
  rw [sw_app, sw_app, sw_one]
  omega
theorem ins_eqt {l : List Ev} (hs : Srt l) (e : Ev) : Eqt (ins l e) (l ++ [e]) := by
  have h1 : Eqt ([e] ++ List.dropWhile (upto e.1) l) (List.dropWhile (upto e.1) l ++ [e]) := Eqt.swap (fun x hx y hy => by
    rw [List.mem_singleton] at hx
    subst hx
    have := (mem_dw hs hy).2
    omega)
  have h2 := Eqt.app (Eqt.refl (List.takeWhile (upto e.1) l)) h1
  rw [← List.append_assoc (List.takeWhile (upto e.1) l) (List.dropWhile (upto e.1) l), tw_app] at h2
  exact h2
theorem fold_ins : ∀ (l acc : List Ev), Srt acc → Srt (l.foldl ins acc) ∧ Eqt (l.foldl ins acc) (acc ++ l) ∧ (l.foldl ins acc).length = acc.length + l.length ∧ sw (l.foldl ins acc) = sw acc + sw l := by
  intro l
  induction l with
  | nil => intro acc h; exact ⟨h, by rw [List.append_nil]; exact Eqt.refl _, rfl, by rw [sw_nil, Int.add_zero]; rfl⟩
  | cons e l ih =>
    intro acc h
    obtain ⟨h1, h2, h3, h4⟩ := ih (ins acc e) (srt_ins h e)
    rw [List.foldl_cons]
    refine ⟨h1, h2.trans ?_, by rw [h3, ins_len, List.length_cons]; omega, ?_⟩
    · have := Eqt.app (ins_eqt h e) (Eqt.refl l)
      rw [List.append_assoc] at this
      exact this
    · have : sw (e :: l) = e.2.2 + sw l := by rw [← sw_one e, ← sw_app]; rfl
      rw [h4, ins_sw, this]
      omega
abbrev evs (bs : List Bu) : List Ev := (bs.map (fun b => b.2.2.2.2)).flatten
theorem evs_snoc {bs : List Bu} {i : Nat} (h : i < bs.length) : evs (bs.take (i + 1)) = evs (bs.take i) ++ bs[i].2.2.2.2 := by
  rw [List.take_succ_eq_append_getElem h]
  simp only [evs, List.map_append, List.flatten_append, List.map_cons, List.map_nil, List.flatten_cons, List.flatten_nil, List.append_nil]
theorem evs_len : ∀ {bs : List Bu}, (∀ b ∈ bs, b.2.2.2.2.length ≤ 40) → (evs bs).length ≤ 40 * bs.length := by
  intro bs
  induction bs with
  | nil => intro _; exact Nat.le_refl _
  | cons b bs ih =>
    intro h
    have h1 := ih (fun x hx => h x (List.mem_cons_of_mem _ hx))
    have h2 := h b List.mem_cons_self
    show (b.2.2.2.2 ++ evs bs).length ≤ 40 * (bs.length + 1)
    rw [List.length_append]
    omega
def gth (l : List Ev) : List Ev := l.foldl ins []
theorem gather_eq {bs : List Bu} (hb : ∀ b ∈ bs, b.2.2.2.2.length ≤ 40) (hn : bs.length ≤ 4) : ref12_Gather bs = some (gth (evs bs)) := by
  have inner : ∀ i (hi : i < bs.length) (hi2 : (evs (bs.take i)).length ≤ 160), loopO (ref12_Gather_s1 bs (gth (evs (bs.take i)), (i : Int))) (gth (evs (bs.take i)), (0 : Int)) = some (gth (evs (bs.take (i + 1)))) := by
    intro i hi hi2
    have hl := hb _ (List.getElem_mem hi)
    have h1 : ∀ k : Nat, k < bs[i].2.2.2.2.length → ref12_Gather_s1 bs (gth (evs (bs.take i)), (i : Int)) (gth (evs (bs.take i) ++ bs[i].2.2.2.2.take k), (k : Int)) = some (.inl (gth (evs (bs.take i) ++ bs[i].2.2.2.2.take (k + 1)), ((k + 1 : Nat) : Int))) := by
      intro k hk
      obtain ⟨f1, f2, f3, f4⟩ := fold_ins (evs (bs.take i) ++ bs[i].2.2.2.2.take k) [] .nil
      have hT := tw_le (upto bs[i].2.2.2.2[k].1) (gth (evs (bs.take i) ++ bs[i].2.2.2.2.take k))
      have hTD := congrArg List.length (tw_app (upto bs[i].2.2.2.2[k].1) (gth (evs (bs.take i) ++ bs[i].2.2.2.2.take k)))
      rw [List.length_append] at hTD
      have hL : (gth (evs (bs.take i) ++ bs[i].2.2.2.2.take k)).length ≤ 200 := by
        show (List.foldl ins [] (evs (bs.take i) ++ bs[i].2.2.2.2.take k)).length ≤ 200
        rw [f3, List.length_append, List.length_take, List.length_nil]
        omega
      have hS : Srt (gth (evs (bs.take i) ++ bs[i].2.2.2.2.take k)) := f1
      have hnext : gth (evs (bs.take i) ++ bs[i].2.2.2.2.take (k + 1)) = ins (gth (evs (bs.take i) ++ bs[i].2.2.2.2.take k)) bs[i].2.2.2.2[k] := by
        rw [List.take_succ_eq_append_getElem hk, ← List.append_assoc]
        unfold gth
        rw [List.foldl_append]
        rfl
      rw [hnext]
      generalize gth (evs (bs.take i) ++ bs[i].2.2.2.2.take k) = G at hT hTD hL hS ⊢
      unfold ref12_Gather_s1
      simp only
      rw [rdo_get hi, Option.bind_some, if_pos (by omega), rdo_get hk, Option.bind_some, split_eq hS (by omega), Option.bind_some]
      dsimp only
      rw [room_of (by simp only [List.length_nil]; omega) (by simp only [List.length_nil]; omega), Option.bind_some, room_of (by simp only [List.length_cons, List.length_nil]; omega) (by simp only [List.length_cons, List.length_nil]; omega), Option.bind_some, room_of (by simp only [List.length_append, List.length_cons, List.length_nil]; omega) (by simp only [List.length_append, List.length_cons, List.length_nil]; omega), Option.bind_some, wi64_of (by omega) (by omega), List.append_assoc]
      rfl
    have h2 : ref12_Gather_s1 bs (gth (evs (bs.take i)), (i : Int)) (gth (evs (bs.take i) ++ bs[i].2.2.2.2.take bs[i].2.2.2.2.length), (bs[i].2.2.2.2.length : Int)) = some (.inr (gth (evs (bs.take (i + 1))))) := by
      unfold ref12_Gather_s1
      simp only
      rw [rdo_get hi, Option.bind_some, if_neg (by omega), List.take_length, evs_snoc hi]
    have := loopO_run (fun k : Nat => (gth (evs (bs.take i) ++ bs[i].2.2.2.2.take k), (k : Int))) _ h1 h2
    rw [List.take_zero, List.append_nil] at this
    exact this
  have h1 : ∀ i : Nat, i < bs.length → ref12_Gather_s0 bs (gth (evs (bs.take i)), (i : Int)) = some (.inl (gth (evs (bs.take (i + 1))), ((i + 1 : Nat) : Int))) := by
    intro i hi
    have hlen := evs_len (bs := bs.take i) (fun b h => hb b (List.mem_of_mem_take h))
    rw [List.length_take] at hlen
    unfold ref12_Gather_s0
    simp only
    rw [if_pos (by omega), inner i hi (by omega), Option.bind_some, wi64_of (by omega) (by omega)]
    rfl
  have h2 : ref12_Gather_s0 bs (gth (evs (bs.take bs.length)), (bs.length : Int)) = some (.inr (gth (evs bs))) := by
    unfold ref12_Gather_s0
    simp only
    rw [if_neg (by omega), List.take_length]
  have := loopO_run (fun i : Nat => (gth (evs (bs.take i)), (i : Int))) _ h1 h2
  have h0 : loopO (ref12_Gather_s0 bs) (([] : List Ev), (0 : Int)) = some (gth (evs bs)) := this
  unfold ref12_Gather
  rw [h0]
  rfl
def mx (f : Bu → Int) (bs : List Bu) : Int := bs.foldl (fun a b => max a (f b)) 0
theorem mx_snoc {f : Bu → Int} {bs : List Bu} {i : Nat} (h : i < bs.length) : mx f (bs.take (i + 1)) = max (mx f (bs.take i)) (f bs[i]) := by
  rw [List.take_succ_eq_append_getElem h]
  unfold mx
  rw [List.foldl_append]
  rfl
def joinR (bs : List Bu) : Int × Int × Int × Int × List Ev × List Ev :=
  match bs with
  | [] => (0, 0, 0, 0, [], [])
  | b :: t => (b.1, b.2.1, mx (fun b => b.2.2.1) (b :: t), mx (fun b => b.2.2.2.1) (b :: t),
      List.dropWhile (upto (mx (fun b => b.2.2.2.1) (b :: t))) (gth (evs (b :: t))), List.takeWhile (upto (mx (fun b => b.2.2.2.1) (b :: t))) (gth (evs (b :: t))))
theorem gth_len {l : List Ev} : (gth l).length = l.length := by
  have := (fold_ins l [] .nil).2.2.1
  rw [List.length_nil, Nat.zero_add] at this
  exact this
theorem rjoin {bs : List Bu} (hb : ∀ b ∈ bs, b.2.2.2.2.length ≤ 40) (hn : bs.length ≤ 4) : ref12_Join bs = some (joinR bs) := by
  have hG := gather_eq hb hn
  have h1 : ∀ i : Nat, i < bs.length → ref12_Join_s0 bs ((i : Int), mx (fun b => b.2.2.1) (bs.take i), mx (fun b => b.2.2.2.1) (bs.take i)) = some (.inl (((i + 1 : Nat) : Int), mx (fun b => b.2.2.1) (bs.take (i + 1)), mx (fun b => b.2.2.2.1) (bs.take (i + 1)))) := by
    intro i hi
    rw [mx_snoc hi, mx_snoc hi]
    unfold ref12_Join_s0
    simp only
    rw [if_pos (by omega), rdo_get hi, Option.bind_some, wi64_of (by omega) (by omega)]
    rfl
  have h2 : ref12_Join_s0 bs ((bs.length : Int), mx (fun b => b.2.2.1) (bs.take bs.length), mx (fun b => b.2.2.2.1) (bs.take bs.length)) = some (.inr (mx (fun b => b.2.2.1) bs, mx (fun b => b.2.2.2.1) bs)) := by
    unfold ref12_Join_s0
    simp only
    rw [if_neg (by omega), List.take_length]
  have := loopO_run (fun i : Nat => ((i : Int), mx (fun b => b.2.2.1) (bs.take i), mx (fun b => b.2.2.2.1) (bs.take i))) _ h1 h2
  have h0 : loopO (ref12_Join_s0 bs) ((0 : Int), (0 : Int), (0 : Int)) = some (mx (fun b => b.2.2.1) bs, mx (fun b => b.2.2.2.1) bs) := this
  have hlen := evs_len hb
  unfold ref12_Join
  match bs, hn, hG, h0, hlen with
  | [], _, _, _, _ => rfl
  | b :: t, hn, hG, h0, hlen =>
    have r0 : rdo (b :: t) 0 = some b := rfl
    rw [if_neg (by simp only [List.length_cons]; omega), r0, Option.bind_some, h0, Option.bind_some, hG, Option.bind_some]
    simp only
    rw [split_eq (l := gth (evs (b :: t))) (fold_ins _ [] .nil).1 (by rw [gth_len]; omega)]
    rfl
theorem cjoin {bs : List Bu} (hb : ∀ b ∈ bs, b.2.2.2.2.length ≤ 40) (hn : bs.length ≤ 4) : buffer_Join bs = some (joinR bs) := by
  have h1 : ∀ i : Nat, i < bs.length → buffer_Join_s0 bs ((i : Int), mx (fun b => b.2.2.1) (bs.take i), mx (fun b => b.2.2.2.1) (bs.take i), evs (bs.take i)) = some (.inl (((i + 1 : Nat) : Int), mx (fun b => b.2.2.1) (bs.take (i + 1)), mx (fun b => b.2.2.2.1) (bs.take (i + 1)), evs (bs.take (i + 1)))) := by
    intro i hi
    have hlen := evs_len (bs := bs.take (i + 1)) (fun b h => hb b (List.mem_of_mem_take h))
    rw [List.length_take, evs_snoc hi] at hlen
    rw [mx_snoc hi, mx_snoc hi, evs_snoc hi]
    have hfl : ([evs (bs.take i), bs[i].2.2.2.2] : List (List Ev)).flatten = evs (bs.take i) ++ bs[i].2.2.2.2 := by simp
    unfold buffer_Join_s0
    simp only
    rw [if_pos (by omega), rdo_get hi, Option.bind_some, latest_eq, Option.bind_some, latest_eq, Option.bind_some, concat_eq (by simp) (by rw [hfl]; omega), Option.bind_some, hfl, wi64_of (by omega) (by omega)]
    rfl
  have h2 : buffer_Join_s0 bs ((bs.length : Int), mx (fun b => b.2.2.1) (bs.take bs.length), mx (fun b => b.2.2.2.1) (bs.take bs.length), evs (bs.take bs.length)) = some (.inr (mx (fun b => b.2.2.1) bs, mx (fun b => b.2.2.2.1) bs, evs bs)) := by
    unfold buffer_Join_s0
    simp only
    rw [if_neg (by omega), List.take_length]
  have := loopO_run (fun i : Nat => ((i : Int), mx (fun b => b.2.2.1) (bs.take i), mx (fun b => b.2.2.2.1) (bs.take i), evs (bs.take i))) _ h1 h2
  have h0 : loopO (buffer_Join_s0 bs) ((0 : Int), (0 : Int), (0 : Int), ([] : List Ev)) = some (mx (fun b => b.2.2.1) bs, mx (fun b => b.2.2.2.1) bs, evs bs) := this
  have hlen := evs_len hb
  obtain ⟨Z, z1, z2, z3, z4⟩ := stable_eq (evs bs) (by omega)
  obtain ⟨f1, f2, f3, f4⟩ := fold_ins (evs bs) [] .nil
  have hZ : Z = gth (evs bs) := Eqt.uniq z2 f1 (z3.trans f2.symm)
  rw [hZ] at z1
  clear hZ z2 z3 z4
  unfold buffer_Join
  match bs, hn, h0, hlen, z1 with
  | [], _, _, _, _ => rfl
  | b :: t, hn, h0, hlen, z1 =>
    have r0 : rdo (b :: t) 0 = some b := rfl
    have hle := tw_le (upto (mx (fun b => b.2.2.2.1) (b :: t))) (gth (evs (b :: t)))
    have hgl := gth_len (l := evs (b :: t))
    rw [if_neg (by simp only [List.length_cons]; omega), r0, Option.bind_some, h0, Option.bind_some]
    simp only
    rw [z1, Option.bind_some, below_eq _ (by show (gth (evs (b :: t))).length ≤ 100000; omega), Option.bind_some]
    dsimp only
    rw [must_of (by omega), Option.bind_some, must_of (by omega), Option.bind_some, Int.toNat_natCast, tw_take, tw_drop]
    rfl
theorem joins_total {bs : List Bu} (hn : bs ≠ []) : sw (joinR bs).2.2.2.2.1 + sw (joinR bs).2.2.2.2.2 = sw (evs bs) := by
  match bs, hn with
  | b :: t, _ =>
    have h1 := congrArg sw (tw_app (upto (mx (fun b => b.2.2.2.1) (b :: t))) (gth (evs (b :: t))))
    have h2 := (fold_ins (evs (b :: t)) [] .nil).2.2.2
    rw [sw_app] at h1
    rw [sw_nil] at h2
    simp only [joinR]
    have h3 : sw (gth (evs (b :: t))) = 0 + sw (evs (b :: t)) := h2
    omega
theorem joinR_len (bs : List Bu) : (joinR bs).2.2.2.2.1.length + (joinR bs).2.2.2.2.2.length = (evs bs).length := by
  match bs with
  | [] => rfl
  | b :: t =>
    have h1 := congrArg List.length (tw_app (upto (mx (fun b => b.2.2.2.1) (b :: t))) (gth (evs (b :: t))))
    rw [List.length_append, gth_len] at h1
    simp only [joinR]
    omega
theorem law12_BufferJoins_true (p1 : Int) (p2 : List (List Ev)) (h1 : U64 p1) (hp : p2.length ≤ 9223372036854775807 ∧ ∀ l ∈ p2, l.length ≤ 9223372036854775807 ∧ ∀ e ∈ l, U64 e.1 ∧ U64 e.2.1 ∧ U64 e.2.2) : law12_BufferJoins p1 p2 = some true := by
  have h2 := hp.1
  have hl : ∀ l ∈ p2, l.length ≤ 9223372036854775807 ∧ ∀ e ∈ l, 0 ≤ e.1 := fun l h => ⟨(hp.2 l h).1, fun e he => ((hp.2 l h).2 e he).1.1⟩
  unfold law12_BufferJoins
  rw [awake12, Option.bind_some]
  by_cases c4 : 4 < ((p2.length : Int))
  · rw [if_pos c4]
  rw [if_neg c4]
  have hloop : ∀ (m i : Nat) (bs : List Bu), i + m = p2.length → bs.length = i → (∀ b ∈ bs, Inv b ∧ b.2.2.2.2.length ≤ 40) →
      ∃ bs' : List Bu, loopO (law12_BufferJoins_s0 p1 p2) (bs, bs, wu64 (sw (evs bs)), (i : Int)) = some (bs', bs', wu64 (sw (evs bs'))) ∧ bs'.length = p2.length ∧ (∀ b ∈ bs', Inv b ∧ b.2.2.2.2.length ≤ 40) := by
    intro m
    induction m with
    | zero =>
      intro i bs hi hb hall
      refine ⟨bs, loopO_done ?_, by omega, hall⟩
      unfold law12_BufferJoins_s0
      simp only
      rw [if_neg (by omega)]
    | succ m ih =>
      intro i bs hi hb hall
      have hk : i < p2.length := by omega
      obtain ⟨g1, g2⟩ := hl _ (List.getElem_mem hk)
      obtain ⟨b, out, e1, e2, e3, e4⟩ := made_eq (late := p1) (room := 20) h1 g2 g1 ⟨by decide, by decide⟩
      have hws : wu64 (wu64 (sw (evs bs)) + wsum b.2.2.2.2) = wu64 (sw (evs (bs ++ [b]))) := by
        have : evs (bs ++ [b]) = evs bs ++ b.2.2.2.2 := by simp [evs]
        rw [this, sw_app, wsum_eq]
        simp only [wu_eq]
        omega
      obtain ⟨bs', y1, y2⟩ := ih (i + 1) (bs ++ [b]) (by omega) (by rw [List.length_append, hb]; rfl) (fun x hx => by
        rcases List.mem_append.1 hx with q | q
        · exact hall x q
        · rw [List.mem_singleton.1 q]; exact ⟨e2, e4⟩)
      refine ⟨bs', (loopO_next ?_).trans y1, y2⟩
      unfold law12_BufferJoins_s0
      simp only
      have hbb : (b.1, b.2.1, b.2.2.1, b.2.2.2.1, b.2.2.2.2) = b := rfl
      rw [if_pos (by omega), rdo_get hk, Option.bind_some, e1, Option.bind_some]
      simp only [hbb]
      rw [room_of (by simp only [List.length_cons, List.length_nil]; omega) (by simp only [List.length_cons, List.length_nil]; omega), Option.bind_some]
      have hm : law12_made b = some () := rfl
      rw [hm, Option.bind_some, rweight b (by omega), Option.bind_some, wi64_of (by omega) (by omega)]
      show some (Sum.inl (bs ++ [b], bs ++ [b], wu64 (wu64 (sw (evs bs)) + wsum b.2.2.2.2), (i : Int) + 1)) = _
      rw [hws]
      rfl
  obtain ⟨bs, y1, y2, y3⟩ := hloop p2.length 0 [] (by omega) rfl (fun b hb => absurd hb List.not_mem_nil)
  have y1' : loopO (law12_BufferJoins_s0 p1 p2) (([] : List Bu), ([] : List Bu), (0 : Int), (0 : Int)) = some (bs, bs, wu64 (sw (evs bs))) := y1
  have hb40 : ∀ b ∈ bs, b.2.2.2.2.length ≤ 40 := fun b hb => (y3 b hb).2
  have hlen := evs_len hb40
  have hjl := joinR_len bs
  rw [y1', Option.bind_some]
  simp only
  rw [cjoin hb40 (by omega), Option.bind_some, rjoin hb40 (by omega), Option.bind_some]
  have htot : sw (joinR bs).2.2.2.2.1 + sw (joinR bs).2.2.2.2.2 = sw (evs bs) := by
    by_cases c : bs = []
    · subst c; rfl
    · exact joins_total c
  generalize joinR bs = J at hjl htot ⊢
  obtain ⟨j1, j2, j3, j4, K, O⟩ := J
  simp only at hjl htot ⊢
  rw [cweight (j1, j2, j3, j4, K) (by simp only; omega), Option.bind_some]
  have g1 : ∀ k : Nat, k < O.length → law12_BufferJoins_s1 (j1, j2, j3, j4, K, O) (wu64 (sw K + sw (O.take k)), (k : Int)) = some (.inl (wu64 (sw K + sw (O.take (k + 1))), ((k + 1 : Nat) : Int))) := by
    intro k hk
    unfold law12_BufferJoins_s1
    simp only
    rw [if_pos (by omega), rdo_get hk, Option.bind_some, wi64_of (by omega) (by omega), List.take_succ_eq_append_getElem hk, sw_app, sw_one, show wu64 (wu64 (sw K + sw (O.take k)) + O[k].2.2) = wu64 (sw K + (sw (O.take k) + O[k].2.2)) by simp only [wu_eq]; omega]
    rfl
  have g2 : law12_BufferJoins_s1 (j1, j2, j3, j4, K, O) (wu64 (sw K + sw (O.take O.length)), (O.length : Int)) = some (.inr (wu64 (sw K + sw O))) := by
    unfold law12_BufferJoins_s1
    simp only
    rw [if_neg (by omega), List.take_length]
  have g3 := loopO_run (fun k : Nat => (wu64 (sw K + sw (O.take k)), (k : Int))) _ g1 g2
  have g4 : loopO (law12_BufferJoins_s1 (j1, j2, j3, j4, K, O)) (wsum K, (0 : Int)) = some (wu64 (sw K + sw O)) := by
    rw [wsum_eq, show sw K = sw K + sw (O.take 0) by rw [List.take_zero, sw_nil, Int.add_zero], ← show sw K = sw K + sw (O.take 0) by rw [List.take_zero, sw_nil, Int.add_zero]]
    have : wu64 (sw K) = wu64 (sw K + sw (O.take 0)) := by rw [List.take_zero, sw_nil, Int.add_zero]
    rw [this]
    exact g3
  rw [g4, Option.bind_some, if_pos trivial, lsame _ _ (by simp only; omega), Option.bind_some, decide_eq_true rfl, if_pos rfl, events_eq O O (by omega), Option.bind_some, decide_eq_true rfl, if_pos rfl, htot, decide_eq_true rfl]
end Go.Proofs.Ytbeknohemgjfbaa.Pu
