/- The program logic, part 23: slices that are owned, of slices that are owned. -/
import Derived.Test.YtbeknohemgjfbaaL22
namespace Go.Proofs.Ytbeknohemgjfbaa.L
open Go Go.Proofs.Ytbeknohemgjfbaa.Pu
set_option linter.unusedVariables false

/-- The head of a slice, as it stands in a cell. -/
abbrev Raw := Option Addr × Nat × Nat
def rRaw : Rep Raw := ground 1 (fun x => [.slice x.1 x.2.1 x.2.2]) (fun _ => rfl) (fun x v hv => by simp at hv; subst hv; rfl)
/-- A row: where it lies, its room, what stands in it. -/
abbrev RowT (α : Type) := Option Addr × Nat × List α
def raw {α : Type} (x : RowT α) : Raw := (x.1, x.2.2.length, x.2.1)
def rowC {α : Type} (rp : Rep α) (E : TypeId) (x : RowT α) : Chunk := arr rp E x.1 x.2.2.length x.2.1 x.2.2
def rowsC {α : Type} (rp : Rep α) (E : TypeId) (l : List (RowT α)) : Chunk := bag (l.map (rowC rp E)) []
def rowF {α : Type} (rp : Rep α) (x : RowT α) : Fact := slF rp x.1 x.2.1 x.2.2

/-- What is so whatever the memory. -/
def pureF (φ : Prop) : Fact := ⟨fun _ _ => φ, fun _ h => h⟩

section
variable {P : Program} {r : Option Nat} {e : Env} {o : Oper} {Kn : St → Prop} {s : St} {γ γ' : Gh} {w w' : World} {a : Act}
variable {α : Type} {rp : Rep α} {E E2 : TypeId} {A : Option Addr} {n c k : Nat} {ys : List α} {l : List (RowT α)}

/-- Chunks that say the same of the same blocks. -/
theorem Holds.mem {M' : List Chunk} (hh : Holds e s γ a w) (h1 : HM γ w M') (h2 : ∀ b, fpM M' b → fpM s.M b) : Holds e { s with M := M' } γ a w :=
  { size := hh.size, slots := hh.slots, defers := hh.defers, facts := hh.facts, fr := hh.fr, ok := hh.ok
    hm := h1
    own := fun d hd b hb => by
      obtain ⟨d', hd', hb'⟩ := h2 b ⟨d, hd, hb⟩
      exact hh.own d' hd' b hb' }
theorem rows_nil (rp : Rep α) (E : TypeId) (hh : Holds e s γ a w) : Holds e { s with M := rowsC rp E [] :: s.M } γ a w :=
  hh.mem ⟨fun d hd => by
    rcases List.mem_cons.1 hd with q | q
    · subst q; exact ⟨⟨fun c hc => (by cases hc), .nil⟩, fun f hf => (by cases hf)⟩
    · exact hh.hm.all d q, List.pairwise_cons.2 ⟨fun d hd b hb => (by obtain ⟨x, hx, _⟩ := hb; cases hx), hh.hm.sep⟩⟩ (fun b ⟨d, hd, hb⟩ => by
    rcases List.mem_cons.1 hd with q | q
    · subst q; obtain ⟨x, hx, _⟩ := hb; cases hx
    · exact ⟨d, q, hb⟩)
theorem bag_iff {M N : List Chunk} : HM γ w (bag M [] :: N) ↔ HM γ w (M ++ N) := by
  rw [bag_split]
  exact ⟨fun h => h.1, fun h => ⟨h, fun f hf => by cases hf⟩⟩
theorem HM.perm {M M' : List Chunk} (h : HM γ w M) (hp : M.Perm M') : HM γ w M' :=
  ⟨fun c hc => h.all c (hp.mem_iff.2 hc), (hp.pairwise_iff (fun {x y} q b hb hb' => q b hb' hb)).1 h.sep⟩
theorem fpM_perm {M M' : List Chunk} (hp : M.Perm M') {b : Nat} : fpM M b ↔ fpM M' b :=
  ⟨fun ⟨d, hd, hb⟩ => ⟨d, hp.mem_iff.1 hd, hb⟩, fun ⟨d, hd, hb⟩ => ⟨d, hp.mem_iff.2 hd, hb⟩⟩
/-- A row more. -/
theorem rows_snoc {M : List Chunk} {x : RowT α} (hM : s.M = rowsC rp E l :: rowC rp E x :: M) (hh : Holds e s γ a w) : Holds e { s with M := rowsC rp E (l ++ [x]) :: M } γ a w := by
  have hp : (l.map (rowC rp E) ++ rowC rp E x :: M).Perm ((l ++ [x]).map (rowC rp E) ++ M) := by
    rw [List.map_append, List.append_assoc]
    exact List.Perm.refl _
  have h1 := hh.hm
  rw [hM] at h1
  refine hh.mem (bag_iff.2 ((bag_iff.1 h1).perm hp)) (fun b hb => ?_)
  rw [hM]
  exact fpM_bag.2 ((fpM_perm hp).2 (fpM_bag.1 hb))
/-- A row is taken out. -/
theorem rows_out {M : List Chunk} {x : RowT α} {l1 l2 : List (RowT α)} (hM : s.M = rowsC rp E (l1 ++ x :: l2) :: M) (hh : Holds e s γ a w) : Holds e { s with M := rowC rp E x :: rowsC rp E (l1 ++ l2) :: M } γ a w := by
  have hp : ((l1 ++ x :: l2).map (rowC rp E) ++ M).Perm ((l1 ++ l2).map (rowC rp E) ++ (rowC rp E x :: M)) := by
    rw [List.map_append, List.map_cons, List.map_append, List.append_assoc, List.append_assoc]
    refine List.Perm.append_left _ ?_
    rw [List.cons_append]
    exact List.perm_middle.symm
  have h1 := hh.hm
  rw [hM] at h1
  have h2 := bag_iff.2 ((bag_iff.1 h1).perm hp)
  have h3 : (rowsC rp E (l1 ++ l2) :: rowC rp E x :: M).Perm (rowC rp E x :: rowsC rp E (l1 ++ l2) :: M) := List.Perm.swap _ _ _
  refine hh.mem (h2.perm h3) (fun b hb => ?_)
  rw [hM]
  exact fpM_bag.2 ((fpM_perm hp).2 (fpM_bag.1 ((fpM_perm h3).2 hb)))
/-- And put back, with whatever stands in it now. -/
theorem rows_in {M : List Chunk} {x : RowT α} {l1 l2 : List (RowT α)} (hM : s.M = rowC rp E x :: rowsC rp E (l1 ++ l2) :: M) (hh : Holds e s γ a w) : Holds e { s with M := rowsC rp E (l1 ++ x :: l2) :: M } γ a w := by
  have hp : ((l1 ++ l2).map (rowC rp E) ++ (rowC rp E x :: M)).Perm ((l1 ++ x :: l2).map (rowC rp E) ++ M) := by
    rw [List.map_append, List.map_append, List.map_cons, List.append_assoc, List.append_assoc]
    refine List.Perm.append_left _ ?_
    rw [List.cons_append]
    exact List.perm_middle
  have h1 := hh.hm
  rw [hM] at h1
  have h3 : (rowC rp E x :: rowsC rp E (l1 ++ l2) :: M).Perm (rowsC rp E (l1 ++ l2) :: rowC rp E x :: M) := List.Perm.swap _ _ _
  refine hh.mem (bag_iff.2 ((bag_iff.1 (h1.perm h3)).perm hp)) (fun b hb => ?_)
  rw [hM]
  exact (fpM_perm h3).2 (fpM_bag.2 ((fpM_perm hp).2 (fpM_bag.1 hb)))
/-- All rows are sealed. -/
theorem rows_shut : ∀ (l : List (RowT α)) {s : St} {γ : Gh} {M : List Chunk}, s.M = rowsC rp E l :: M → Holds e s γ a w → ∃ γ', Holds e { s with M := M, F := s.F ++ l.map (rowF rp) } γ' a w := by
  intro l
  induction l with
  | nil =>
    intro s γ M hM hh
    refine ⟨γ, ?_⟩
    have h1 := hh.hm
    rw [hM] at h1
    have := hh.mem (M' := M) (bag_iff.1 h1) (fun b ⟨d, hd, hb⟩ => by rw [hM]; exact ⟨d, List.mem_cons_of_mem _ hd, hb⟩)
    simpa using this
  | cons x l ih =>
    intro s γ M hM hh
    have h1 := rows_out (l1 := []) (l2 := l) hM hh
    obtain ⟨_, γ1, h2⟩ := Holds.shut (k := 0) (rp := rp) (E := E) (A := x.1) (n := x.2.2.length) (c := x.2.1) (ys := x.2.2) h1 rfl
    have h3 : Holds e { s with M := rowsC rp E l :: M, F := s.F ++ [rowF rp x] } γ1 a w := h2
    obtain ⟨γ2, h4⟩ := ih (s := { s with M := rowsC rp E l :: M, F := s.F ++ [rowF rp x] }) rfl h3
    refine ⟨γ2, ?_⟩
    have e : s.F ++ [rowF rp x] ++ l.map (rowF rp) = s.F ++ (x :: l).map (rowF rp) := by simp
    simp only [e] at h4
    exact h4
theorem row_raw {xs : List Raw} {ds : List Value} (h : Row rRaw γ w xs ds) : ds = xs.map (fun x => .slice x.1 x.2.1 x.2.2) := by
  induction h with
  | nil => rfl
  | cons hx _ ih => rw [show _ = [Value.slice _ _ _] from hx, ih]; rfl
theorem row_sl : ∀ (l : List (RowT α)), (∀ x ∈ l, SlP rp γ w x.1 x.2.1 x.2.2) → Row (rSl rp) γ w (l.map (·.2.2)) ((l.map raw).map (fun x => .slice x.1 x.2.1 x.2.2)) := by
  intro l
  induction l with
  | nil => intro _; exact .nil
  | cons x l ih =>
    intro h
    exact .cons (r := rSl rp) (x := x.2.2) (cs := [.slice x.1 x.2.2.length x.2.1]) ⟨x.1, x.2.1, rfl, h x List.mem_cons_self⟩ (ih (fun y hy => h y (List.mem_cons_of_mem _ hy)))
/-- Where the rows are sealed the slice of them is one of what stands in them. -/
theorem raw_sl {M : List Chunk} (hM : s.M = arr rRaw E2 A n c (l.map raw) :: M) (hf : ∀ x ∈ l, (rowF rp x).p γ w) (hh : Holds e s γ a w) : Holds e { s with M := arr (rSl rp) E2 A n c (l.map (·.2.2)) :: M } γ a w := by
  have h1 := hh.hm
  rw [hM] at h1
  obtain ⟨q1, q2, q3, q4⟩ := h1.all _ List.mem_cons_self
  rw [List.length_map] at q1
  refine hh.mem ⟨fun d hd => ?_, ?_⟩ (fun b ⟨d, hd, hb⟩ => ?_)
  · rcases List.mem_cons.1 hd with q | q
    · subst q
      refine ⟨by rw [List.length_map]; exact q1, q2, q3, ?_⟩
      rcases q4 with q4 | ⟨b, cur, e1, e2, e3, e4⟩
      · exact .inl q4
      · refine .inr ⟨b, cur, e1, e2, e3, ?_⟩
        have e5 := row_raw e4
        have e6 := row_sl (rp := rp) (γ := γ) (w := w) l hf
        rw [← e5] at e6
        exact e6
    · exact h1.all d (List.mem_cons_of_mem _ q)
  · exact List.pairwise_cons.2 ⟨fun d hd b hb => (List.pairwise_cons.1 h1.sep).1 d hd b hb, (List.pairwise_cons.1 h1.sep).2⟩
  · rw [hM]
    rcases List.mem_cons.1 hd with q | q
    · subst q; exact ⟨_, List.mem_cons_self, hb⟩
    · exact ⟨d, List.mem_cons_of_mem _ q, hb⟩
/-- The rows are sealed; the slice of them is owned still. -/
theorem rows_own {M : List Chunk} (hM : s.M = arr rRaw E2 A n c (l.map raw) :: rowsC rp E l :: M) (hh : Holds e s γ a w) : ∃ γ', Holds e { s with M := arr (rSl rp) E2 A n c (l.map (·.2.2)) :: M } γ' a w := by
  have hp : s.M.Perm (rowsC rp E l :: arr rRaw E2 A n c (l.map raw) :: M) := by rw [hM]; exact List.Perm.swap _ _ _
  obtain ⟨γ1, h1⟩ := rows_shut (M := arr rRaw E2 A n c (l.map raw) :: M) l rfl (hh.perm hp)
  have h2 := raw_sl (l := l) (rp := rp) rfl (fun x hx => h1.facts _ (List.mem_append_right _ (List.mem_map_of_mem hx))) h1
  exact ⟨γ1, { size := h2.size, slots := h2.slots, defers := h2.defers, hm := h2.hm, own := h2.own, fr := h2.fr, ok := h2.ok, facts := fun f hf => h2.facts f (List.mem_append_left _ hf) }⟩
theorem map_raw_len {l : List (RowT α)} : (l.map raw).length = (l.map (·.2.2)).length := by rw [List.length_map, List.length_map]
/-- One row is taken out, to be written. -/
theorem TrL.openRow {ops : Array Oper} {L : List Oper} {M : List Chunk} {yss : List (List α)} {i : Int} {z : List α} (hM : s.M = arr rRaw E2 A n c (l.map raw) :: rowsC rp E l :: M) (hm : l.map (·.2.2) = yss) (hi : rdo yss i = some z)
    (h : ∀ A1 c1 l1 l2, (∀ z' : List α, (l1 ++ ((A1, c1, z') : RowT α) :: l2).map (·.2.2) = yss.set i.toNat z') → rdo ((l1 ++ ((A1, c1, z) : RowT α) :: l2).map raw) i = some (A1, z.length, c1) →
      TrL P r e ops L Kn { s with M := arr rRaw E2 A n c ((l1 ++ ((A1, c1, z) : RowT α) :: l2).map raw) :: arr rp E A1 z.length c1 z :: rowsC rp E (l1 ++ l2) :: M }) : TrL P r e ops L Kn s := by
  intro γ a w hh
  obtain ⟨i0, i1, i2⟩ := rdo_some hi
  subst hm
  rw [List.length_map] at i1
  have hlt : i.toNat < l.length := by omega
  rw [List.getElem?_map, List.getElem?_eq_getElem hlt] at i2
  have hz : l[i.toNat].2.2 = z := Option.some.inj i2
  have hl : l = l.take i.toNat ++ (l[i.toNat].1, l[i.toNat].2.1, z) :: l.drop (i.toNat + 1) := by
    rw [show ((l[i.toNat].1, l[i.toNat].2.1, z) : RowT α) = l[i.toNat] by rw [← hz], ← List.drop_eq_getElem_cons hlt, List.take_append_drop]
  have hlen : (l.take i.toNat).length = i.toNat := by rw [List.length_take]; omega
  refine h l[i.toNat].1 l[i.toNat].2.1 (l.take i.toNat) (l.drop (i.toNat + 1)) (fun z' => ?_) ?_ γ a w ?_
  · have e1 : l.map (·.2.2) = (l.take i.toNat).map (·.2.2) ++ z :: (l.drop (i.toNat + 1)).map (·.2.2) := by
      conv => lhs; rw [hl]
      rw [List.map_append, List.map_cons]
    rw [e1, List.map_append, List.map_cons, List.set_append_right _ _ (by rw [List.length_map, hlen]; omega), List.length_map, hlen, Nat.sub_self]
    rfl
  · rw [← hl]
    refine rdo_of i0 ?_
    rw [List.getElem?_map, List.getElem?_eq_getElem hlt]
    show some (raw l[i.toNat]) = _
    unfold raw
    rw [hz]
  · have hp : s.M.Perm (rowsC rp E l :: arr rRaw E2 A n c (l.map raw) :: M) := by rw [hM]; exact List.Perm.swap _ _ _
    have h1 := hh.perm hp
    have h2 := rows_out (l1 := l.take i.toNat) (x := (l[i.toNat].1, l[i.toNat].2.1, z)) (l2 := l.drop (i.toNat + 1)) (M := arr rRaw E2 A n c (l.map raw) :: M) (by rw [← hl]) h1
    rw [← hl]
    have h3 := h2.perm (M' := arr rRaw E2 A n c (l.map raw) :: arr rp E l[i.toNat].1 z.length l[i.toNat].2.1 z :: rowsC rp E (l.take i.toNat ++ l.drop (i.toNat + 1)) :: M) (by
      refine List.Perm.trans (List.Perm.cons _ (List.Perm.swap _ _ _)) ?_
      exact List.Perm.swap _ _ _)
    exact h3
/-- All is sealed again, the row with what stands in it now. -/
theorem TrL.closeRow {ops : Array Oper} {L : List Oper} {A1 : Option Addr} {c1 n1 : Nat} {z z' : List α} {l1 l2 : List (RowT α)} {yss' : List (List α)} (f : Nat → St) (g : Nat → List Chunk) (hi : Imp e s (f n))
    (hM : ∀ nn, (f nn).M = arr rRaw E2 A nn c ((l1 ++ ((A1, c1, z) : RowT α) :: l2).map raw) :: arr rp E A1 n1 c1 z' :: rowsC rp E (l1 ++ l2) :: g nn) (hz : z'.length = z.length)
    (hset : (l1 ++ ((A1, c1, z') : RowT α) :: l2).map (·.2.2) = yss')
    (h : TrL P r e ops L Kn { f yss'.length with M := g yss'.length, F := (f yss'.length).F ++ [slF (rSl rp) A c yss'] }) : TrL P r e ops L Kn s := by
  intro γ a w hh
  have h0 := hi γ a w hh
  have hr : (l1 ++ ((A1, c1, z) : RowT α) :: l2).map raw = (l1 ++ ((A1, c1, z') : RowT α) :: l2).map raw := by
    rw [List.map_append, List.map_append, List.map_cons, List.map_cons]
    unfold raw
    simp only [hz]
  have hn1 := h0.hm.all (arr rp E A1 n1 c1 z') (by rw [hM]; exact List.mem_cons_of_mem _ List.mem_cons_self)
  have hn1' : z'.length = n1 := hn1.1
  have hn := (h0.hm.all (arr rRaw E2 A n c ((l1 ++ ((A1, c1, z) : RowT α) :: l2).map raw)) (by rw [hM]; exact List.mem_cons_self)).1
  rw [hr, map_raw_len, hset] at hn
  subst hn
  subst hn1'
  have h1 := h0.perm (M' := rowC rp E (A1, c1, z') :: rowsC rp E (l1 ++ l2) :: arr rRaw E2 A yss'.length c ((l1 ++ ((A1, c1, z') : RowT α) :: l2).map raw) :: g yss'.length) (by
    rw [hM, hr]
    refine List.Perm.trans (List.Perm.swap _ _ _) ?_
    refine List.Perm.cons _ (List.Perm.swap _ _ _))
  have h2 := rows_in (x := (A1, c1, z')) rfl h1
  have h3 := h2.perm (M' := arr rRaw E2 A yss'.length c ((l1 ++ ((A1, c1, z') : RowT α) :: l2).map raw) :: rowsC rp E (l1 ++ (A1, c1, z') :: l2) :: g yss'.length) (List.Perm.swap _ _ _)
  obtain ⟨γ1, h4⟩ := rows_own rfl h3
  rw [hset] at h4
  obtain ⟨_, γ2, h5⟩ := Holds.shut (k := 0) h4 rfl
  exact h γ2 a w h5
/-- All rows are sealed; the slice of them is owned still. -/
theorem TrL.ownRows {ops : Array Oper} {L : List Oper} {M : List Chunk} {yss : List (List α)} (hM : s.M = arr rRaw E2 A n c (l.map raw) :: rowsC rp E l :: M) (hm : l.map (·.2.2) = yss)
    (h : TrL P r e ops L Kn { s with M := arr (rSl rp) E2 A n c yss :: M }) : TrL P r e ops L Kn s := by
  intro γ a w hh
  obtain ⟨γ1, h1⟩ := rows_own hM hh
  rw [hm] at h1
  exact h γ1 a w h1
theorem Imp.rowsNil {t : St} (rp : Rep α) (E : TypeId) (h : Imp e { s with M := rowsC rp E [] :: s.M } t) : Imp e s t := fun γ a w hh => h γ a w (rows_nil rp E hh)
theorem pure_pre {φ : Prop} {k : Nat} (hk : s.F[k]? = some (pureF φ)) : Pre s φ := fun γ w hF _ => hF _ (List.mem_of_getElem? hk)
end
end Go.Proofs.Ytbeknohemgjfbaa.L
