/- More plain words for the printed functions: shifts, room, and small laws of tests and steps. No Go and no memory. -/
import Derived.Test.YtbeknohemgjfbaaP0
namespace Go.Proofs.Ytbeknohemgjfbaa.Pu
set_option linter.unusedVariables false

def shlk (n : Nat) (a b : Int) : Int := a * 2 ^ (min b.toNat n)
def shrk (n : Nat) (a b : Int) : Int := a.fdiv (2 ^ (min b.toNat n))
/-- There is room for n things of b bytes. -/
def room (n b : Nat) : Option Unit := must (n * b ≤ 140737488355328 ∧ n ≤ 140737488355328)
theorem room_some {n b : Nat} {u : Unit} (h : room n b = some u) : n * b ≤ 140737488355328 ∧ n ≤ 140737488355328 := must_some h
theorem room_of {n b : Nat} (h : n * b ≤ 140737488355328) (h2 : n ≤ 140737488355328) : room n b = some () := must_of ⟨h, h2⟩
theorem bnd {α β : Type} {o : Option α} {f : α → Option β} {r : β} (h : o.bind f = some r) : ∃ z, o = some z ∧ f z = some r := Option.bind_eq_some_iff.1 h
theorem ifc {α : Type} {c : Prop} [Decidable c] {a b : Option α} {r : α} (h : (if c then a else b) = some r) : (c ∧ a = some r) ∨ (¬ c ∧ b = some r) := by
  split at h
  · exact .inl ⟨‹c›, h⟩
  · exact .inr ⟨‹¬ c›, h⟩
theorem mst {β : Type} {c : Prop} [Decidable c] {f : Unit → Option β} {r : β} (h : (must c).bind f = some r) : c ∧ f () = some r := by
  obtain ⟨z, h1, h2⟩ := bnd h
  exact ⟨must_some h1, h2⟩
theorem rom {β : Type} {n b : Nat} {f : Unit → Option β} {r : β} (h : (room n b).bind f = some r) : (n * b ≤ 140737488355328 ∧ n ≤ 140737488355328) ∧ f () = some r := by
  obtain ⟨z, h1, h2⟩ := bnd h
  exact ⟨room_some h1, h2⟩
theorem suml {α β γ : Type} {f : α → Option γ} {g : β → Option γ} {a : α} {r : γ} (h : Sum.elim f g (.inl a) = some r) : f a = some r := h
theorem sumr {α β γ : Type} {f : α → Option γ} {g : β → Option γ} {b : β} {r : γ} (h : Sum.elim f g (.inr b) = some r) : g b = some r := h
/-- Bits. -/
def andk (n : Nat) (a b : Int) : Int := ((BitVec.ofInt n a &&& BitVec.ofInt n b).toNat : Int)
def ork (n : Nat) (a b : Int) : Int := ((BitVec.ofInt n a ||| BitVec.ofInt n b).toNat : Int)
def xork (n : Nat) (a b : Int) : Int := ((BitVec.ofInt n a ^^^ BitVec.ofInt n b).toNat : Int)
def andnk (n : Nat) (a b : Int) : Int := ((BitVec.ofInt n a &&& ~~~ BitVec.ofInt n b).toNat : Int)
/-- Bytes as a string. -/
def bstr (xs : List Int) : ByteArray := ⟨(xs.map fun n => UInt8.ofNat n.toNat).toArray⟩
/-- A text's bytes. -/
def bytesL (s : ByteArray) : List Int := s.data.toList.map fun b => (b.toNat : Int)
/-- What a round of a range over a function does: the body goes on, or leaves the loop; behind that nothing comes any more. -/
def yl {X D E : Type} (step : X → D → Option (D ⊕ E)) (x : X) : D ⊕ E → Option (Bool × (D ⊕ E))
  | .inl d => (step x d).map fun
    | .inl d' => (true, .inl d')
    | .inr q => (false, .inr q)
  | .inr _ => none
/-- A byte of a text is read. -/
def rdb (s : ByteArray) (i : Int) : Option Int := if 0 ≤ i then (s[i.toNat]?).map (fun c => (c.toNat : Int)) else none
theorem rdb_some {s : ByteArray} {i z : Int} (h : rdb s i = some z) : 0 ≤ i ∧ ∃ c, s[i.toNat]? = some c ∧ z = (c.toNat : Int) := by
  unfold rdb at h
  split at h
  · rename_i h0
    obtain ⟨c, h1, h2⟩ := Option.map_eq_some_iff.1 h
    exact ⟨h0, c, h1, h2.symm⟩
  · cases h
/-- A function that calls itself, so many calls deep. -/
def itR {A R : Type} (F : (A → Option R) → A → Option R) : Nat → A → Option R
  | 0, _ => none
  | n + 1, a => F (itR F n) a
end Go.Proofs.Ytbeknohemgjfbaa.Pu
