/- The laws of chapter 07, in plain words: what is left of a histogram, and what is old. -/
import Derived.Test.YtbnjjpmlaknaoaaH4
namespace Go.Proofs.Ytbnjjpmlaknaoaa.Pu
set_option linter.unusedVariables false

theorem kM_zero : kM 0 = 2 := by decide
theorem made_awake : madeM 0 [(5, 1), (5, 1)] = [[(5, 5), (10, 10)]] := by
  have e1 : addL 2 [] 5 1 = [[(5, 5)]] := flow_of (n := 5) rfl
  have e2 : addL 2 [[(5, 5)]] 10 1 = [[(5, 5), (10, 10)]] := flow_of (n := 5) rfl
  unfold madeM
  rw [kM_zero]
  show madeS 2 [(5, 1), (5, 1)] 0 [] = _
  rw [madeS, show (0 : Int) + 5 % 1000 = 5 from rfl, show addC [] 5 1 = 0 from rfl, if_pos rfl, e1, madeS, show (5 : Int) + 5 % 1000 = 10 from rfl, show addC [[(5, 5)]] 10 1 = 0 from rfl, if_pos rfl, e2, madeS]
theorem deeds_awake : Deeds [(5, 1), (5, 1)] := by intro d hd; simp at hd; subst hd; decide
theorem awake7 : law07_awake = some true := by
  unfold law07_awake law07_made
  rw [made_eq (by decide) deeds_awake, Option.bind_some, kM_zero, made_awake]
  simp only [Option.bind_some]
  rw [drop_eq (by decide) (by decide) (by decide) (by decide), Option.bind_some, old_eq (by decide) (by decide), Option.bind_some]
  rw [if_pos (by decide), old_eq (by decide) (by decide), Option.bind_some, if_pos (by decide), htotal_eq (by decide) (by decide) (by decide), Option.bind_some, if_pos (by decide), htotal_eq (by decide) (by decide) (by decide), Option.bind_some, if_pos (by decide),
    drop_eq (by decide) (by decide) (by decide) (by decide), Option.bind_some]
  rfl
theorem good_len {k : Nat} {ls : List (List Sp)} {t : Int} (hk : k ≤ 1048576) (h : Good k ls t) : ∀ l ∈ ls, l.length ≤ 1099511627776 := fun l hl => by have := shape_len h.shape l hl; omega
theorem drop_len {k : Nat} {ls : List (List Sp)} (hk : k ≤ 1048576) (old : Sp → Bool) (h : ∀ l ∈ ls, l.length ≤ k + 1) : ∀ l ∈ dropM old ls, l.length ≤ k + 1 := by
  induction ls with
  | nil => intro l hl; cases hl
  | cons m ls ih =>
    intro l hl
    rw [dropM] at hl
    split at hl
    · cases hl
    · rcases List.mem_cons.1 hl with rfl | hl
      · have h1 := h m List.mem_cons_self
        have h2 : (m.dropWhile old).length ≤ m.length := by rw [← lead_drop]; simp
        omega
      · exact ih (fun x hx => h x (List.mem_cons_of_mem _ hx)) l hl
/-- What is left, for any front and any window; and whether any tick is old. -/
theorem law07_ExpiryTells_true (p1 : Int) (p2 : List (Int × Int)) (p3 : Int × Int × Int) (h1 : I64 p1) (h2 : p2.length ≤ 9223372036854775807 ∧ Deeds p2) (h3 : U64 p3.1 ∧ U64 p3.2.1 ∧ U64 p3.2.2) :
    law07_ExpiryTells p1 p2 p3 = some true := by
  obtain ⟨a, b, c⟩ := p3
  obtain ⟨⟨_, ha2⟩, ⟨hb, _⟩, _⟩ := h3
  obtain ⟨_, hd⟩ := h2
  simp only at ha2 hb
  have hg := made_good p1 hd
  have hk := kM_le p1
  have hl := good_len (by omega) hg
  have hlv := hg.levels
  unfold law07_ExpiryTells law07_made law07_same
  rw [awake7, Option.bind_some, made_eq h1.2 hd, Option.bind_some, if_pos rfl, Option.bind_some]
  simp only
  rw [drop_eq hb ha2 hl (by omega), Option.bind_some, rdrop_eq hb ha2 hl (by omega) hg.turn (shape_ne hg.shape), Option.bind_some, same6_eq (by have := dropM_length (oldS a b) (madeM p1 p2); omega) (fun l hl' => by have := drop_len (by omega) (oldS a b) (shape_len hg.shape) l hl'; omega)]
  simp only [Option.bind_some, and_self, decide_true, if_true]
  rw [old_eq hb ha2, Option.bind_some, rold_eq hb ha2, Option.bind_some]
  simp
end Go.Proofs.Ytbnjjpmlaknaoaa.Pu
