/- Small words of the printed proofs: lists of checks, parts of slices with their facts. -/
import Derived.Test.YthgeodagikmpjaaL11
namespace Go.Proofs.Ythgeodagikmpjaa.L
open Go Go.Proofs.Ythgeodagikmpjaa.Pu
set_option linter.unusedVariables false

theorem gn_t {b : Bool} (h : b = false) : (b == true) = false := by rw [h]; rfl
theorem gn_f {b : Bool} (h : b = true) : (b == false) = false := by rw [h]; rfl
theorem bdec {L : List (Nat × Value)} {x : Operand} {b : Bool} (h : ev L x = some (.bool b)) : ev L x = some (.bool (decide (b = true))) := by rw [h]; cases b <;> rfl
theorem wrap_u64' {x : Int} : IntKind.u64.wrap x = wu64 x := rfl
theorem wrap_u32' {x : Int} : IntKind.u32.wrap x = wu32 x := rfl
theorem wrap_u8' {x : Int} : IntKind.u8.wrap x = wu8 x := rfl
theorem wrap_i64' {x : Int} : IntKind.i64.wrap x = wi64 x := wrap_i64 x
theorem sn {s : List (Nat × Value)} : SubL [] s := trivial
theorem sc {i : Nat} {v : Value} {t s : List (Nat × Value)} (h : s.lookup i = some v) (k : SubL t s) : SubL ((i, v) :: t) s := ⟨h, k⟩
def Ones : List Value → Prop
  | [] => True
  | v :: t => v.oneCell' = true ∧ Ones t
theorem on : Ones [] := trivial
theorem oc {v : Value} {t : List Value} (h : v.oneCell' = true) (k : Ones t) : Ones (v :: t) := ⟨h, k⟩
theorem ones : ∀ {l : List Value}, Ones l → ∀ u ∈ l, u.oneCell' = true
  | [], _, u, hu => by simp at hu
  | v :: t, ⟨h, k⟩, u, hu => by rcases List.mem_cons.1 hu with q | q; (subst q; exact h); exact ones k u q

section
variable {P : Program} {r : Option Nat} {e : Env} {o : Oper} {Kn : St → Prop} {s : St} {γ γ' : Gh} {w w' : World} {a : Act}
theorem an {ops : Array Oper} {j : Nat} : AllV P e ops j s [] := trivial
theorem ac {ops : Array Oper} {j : Nat} {p : Nat × Nat × Value} {t : Fl} (h : waits ops j p.1 = true ∨ OpVal P e ops p.1 p.2.2 s) (k : AllV P e ops j s t) : AllV P e ops j s (p :: t) := ⟨h, k⟩
theorem TrAny.full {ops : Array Oper} {fl : Fl} {dn : List Nat} {E : TypeId} {sz : Nat} {A : Option Addr} {n : Nat} (hok : FlOk ops fl s) (h : FlOk ops fl { s with M := grow E sz (.slice A n n) n none :: s.M } → TrAny P r e ops fl dn Kn { s with M := grow E sz (.slice A n n) n none :: s.M }) : TrAny P r e ops fl dn Kn s :=
  fun fuel listed hc hu hv γ a af w hh hr Q hQ => by
    refine h ⟨hok.shaped, hok.nodup, hok.slot⟩ fuel listed hc hu (fun p hp hl => ?_) γ a af w (Imp.full (E := E) (sz := sz) (A := A) (n := n) Imp.refl γ af w hh) hr Q hQ
    obtain ⟨o, ho, hnd, hrun⟩ := hv p hp hl
    exact ⟨o, ho, hnd, fun γ a w hh => hrun γ a w { size := hh.size, slots := hh.slots, defers := hh.defers, hm := ⟨fun c hc => hh.hm.all c (List.mem_cons_of_mem _ hc), (List.pairwise_cons.1 hh.hm.sep).2⟩, own := fun c hc => hh.own c (List.mem_cons_of_mem _ hc), facts := hh.facts, fr := hh.fr, ok := hh.ok }⟩

section
variable {α : Type} {rp : Rep α} {k sz n c : Nat} {T E : TypeId} {x y z u : Operand} {ag : Bool} {A : Option Addr} {xs : List α} {kd kd' kd2 : IntKind} {i j m : Int}
theorem slF_lec (hk : s.F[k]? = some (slF rp A c xs)) (hF : ∀ g ∈ s.F, g.p γ w) : xs.length ≤ c := by
  have hf : SlP rp γ w A c xs := hF _ (List.mem_of_getElem? hk)
  exact hf.le
theorem slx1_v (hop : o.op = .slice T x (some y) none none) (hT : sliceOf P T = some E) (ht : tyOf P E = some (ag, sz)) (hx : ev s.L x = some (.slice A n c)) (hn : n = xs.length) (hy : ev s.L y = some (.int kd i)) (h : 0 ≤ i ∧ i ≤ xs.length) (hk : s.F[k]? = some (slF rp A c xs)) :
    OpV P e o s (.slice (slA A i.toNat c sz) (xs.drop i.toNat).length (c - i.toNat)) :=
  ⟨by rw [hop]; intro c; simp, fun γ a w hh => by
    have hc := slF_lec hk hh.facts
    subst hn
    exact (v_slice (l := i.toNat) (h := xs.length) (m := c) hop hT ht hx ⟨kd, i, hy, h.1, rfl⟩ rfl rfl (by omega) hc (Nat.le_refl _) (by simp) (by simp) rfl).run γ a w hh⟩
theorem slx1_f (hk : s.F[k]? = some (slF rp A c xs)) (h : 0 ≤ i ∧ i ≤ xs.length) : ∀ γ w, (∀ g ∈ s.F, g.p γ w) → (∀ c ∈ s.M, c.p γ w) → (slF rp (slA A i.toNat c rp.sz) (c - i.toNat) (xs.drop i.toNat)).p γ w := fun γ w hF hM =>
  slF_part (l := i.toNat) (h := xs.length) (m := c) hk (by omega) (Nat.le_refl _) (slF_lec hk hF) (Nat.le_refl _) (by rw [List.take_length]) rfl γ w hF hM
theorem slx2_v (hop : o.op = .slice T x none (some y) none) (hT : sliceOf P T = some E) (ht : tyOf P E = some (ag, sz)) (hx : ev s.L x = some (.slice A n c)) (hn : n = xs.length) (hy : ev s.L y = some (.int kd i)) (h : 0 ≤ i ∧ i ≤ xs.length) (hk : s.F[k]? = some (slF rp A c xs)) :
    OpV P e o s (.slice (slA A 0 c sz) (xs.take i.toNat).length c) :=
  ⟨by rw [hop]; intro c; simp, fun γ a w hh => by
    have hc := slF_lec hk hh.facts
    subst hn
    exact (v_slice (l := 0) (h := i.toNat) (m := c) hop hT ht hx rfl ⟨kd, i, hy, h.1, rfl⟩ rfl (by omega) (by omega) (Nat.le_refl _) (by simp) (by rw [List.length_take]; omega) rfl).run γ a w hh⟩
theorem slx2_f (hk : s.F[k]? = some (slF rp A c xs)) (h : 0 ≤ i ∧ i ≤ xs.length) : ∀ γ w, (∀ g ∈ s.F, g.p γ w) → (∀ c ∈ s.M, c.p γ w) → (slF rp (slA A 0 c rp.sz) c (xs.take i.toNat)).p γ w := fun γ w hF hM => by
  have hc := slF_lec hk hF
  exact slF_part (l := 0) (h := i.toNat) (m := c) hk (by omega) (by omega) (by omega) (Nat.le_refl _) rfl rfl γ w hF hM
theorem slx3_v (hop : o.op = .slice T x (some y) (some z) (some u)) (hT : sliceOf P T = some E) (ht : tyOf P E = some (ag, sz)) (hx : ev s.L x = some (.slice A n c)) (hn : n = xs.length) (hy : ev s.L y = some (.int kd i)) (hz : ev s.L z = some (.int kd' j)) (hu : ev s.L u = some (.int kd2 m)) (h : 0 ≤ i ∧ i ≤ j ∧ j ≤ m ∧ m ≤ xs.length) (hk : s.F[k]? = some (slF rp A c xs)) :
    OpV P e o s (.slice (slA A i.toNat m.toNat sz) ((xs.take j.toNat).drop i.toNat).length (m.toNat - i.toNat)) :=
  ⟨by rw [hop]; intro c; simp, fun γ a w hh => by
    have hc := slF_lec hk hh.facts
    subst hn
    exact (v_slice (l := i.toNat) (h := j.toNat) (m := m.toNat) hop hT ht hx ⟨kd, i, hy, h.1, rfl⟩ ⟨kd', j, hz, by omega, rfl⟩ ⟨kd2, m, hu, by omega, rfl⟩ (by omega) (by omega) (by omega) (by simp) (by rw [List.length_drop, List.length_take]; omega) rfl).run γ a w hh⟩
theorem slx3_f (hk : s.F[k]? = some (slF rp A c xs)) (h : 0 ≤ i ∧ i ≤ j ∧ j ≤ m ∧ m ≤ xs.length) : ∀ γ w, (∀ g ∈ s.F, g.p γ w) → (∀ c ∈ s.M, c.p γ w) → (slF rp (slA A i.toNat m.toNat rp.sz) (m.toNat - i.toNat) ((xs.take j.toNat).drop i.toNat)).p γ w := fun γ w hF hM => by
  have hc := slF_lec hk hF
  exact slF_part (l := i.toNat) (h := j.toNat) (m := m.toNat) hk (by omega) (by omega) (by omega) (by omega) rfl rfl γ w hF hM
theorem slx4_v (hop : o.op = .slice T x (some y) (some z) none) (hT : sliceOf P T = some E) (ht : tyOf P E = some (ag, sz)) (hx : ev s.L x = some (.slice A n c)) (hn : n = xs.length) (hy : ev s.L y = some (.int kd i)) (hz : ev s.L z = some (.int kd' j)) (h : 0 ≤ i ∧ i ≤ j ∧ j ≤ xs.length) (hk : s.F[k]? = some (slF rp A c xs)) :
    OpV P e o s (.slice (slA A i.toNat c sz) ((xs.take j.toNat).drop i.toNat).length (c - i.toNat)) :=
  ⟨by rw [hop]; intro c; simp, fun γ a w hh => by
    have hc := slF_lec hk hh.facts
    subst hn
    exact (v_slice (l := i.toNat) (h := j.toNat) (m := c) hop hT ht hx ⟨kd, i, hy, h.1, rfl⟩ ⟨kd', j, hz, by omega, rfl⟩ rfl (by omega) (by omega) (Nat.le_refl _) (by simp) (by rw [List.length_drop, List.length_take]; omega) rfl).run γ a w hh⟩
theorem slx4_f (hk : s.F[k]? = some (slF rp A c xs)) (h : 0 ≤ i ∧ i ≤ j ∧ j ≤ xs.length) : ∀ γ w, (∀ g ∈ s.F, g.p γ w) → (∀ c ∈ s.M, c.p γ w) → (slF rp (slA A i.toNat c rp.sz) (c - i.toNat) ((xs.take j.toNat).drop i.toNat)).p γ w := fun γ w hF hM => by
  have hc := slF_lec hk hF
  exact slF_part (l := i.toNat) (h := j.toNat) (m := c) hk (by omega) (by omega) (by omega) (Nat.le_refl _) rfl rfl γ w hF hM
end
end
end Go.Proofs.Ythgeodagikmpjaa.L
