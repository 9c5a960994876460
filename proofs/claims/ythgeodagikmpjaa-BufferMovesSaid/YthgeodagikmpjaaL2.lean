/- Readings of data in memory: rows of elements, slices; rules for operations on memory: new variables, loads, stores, elements. -/
import Derived.Test.YthgeodagikmpjaaL1
import Derived.Test.YthgeodagikmpjaaP0
namespace Go.Proofs.Ythgeodagikmpjaa.L
open Go Go.Proofs.Ythgeodagikmpjaa.Pu
set_option linter.unusedVariables false

/-- How data of a type stand in cells. -/
structure Rep (α : Type) where
  sz : Nat
  R : Gh → World → α → List Value → Prop
  len : ∀ {γ w x cs}, R γ w x cs → cs.length = sz
  one : ∀ {γ w x cs}, R γ w x cs → ∀ v ∈ cs, v.oneCell' = true
  mono : ∀ {γ w γ' w'}, Le γ w γ' w' → ∀ {x cs}, R γ w x cs → R γ' w' x cs

/-- Data whose cells are written out: no memory behind them. -/
def ground {α : Type} (sz : Nat) (g : α → List Value) (hl : ∀ x, (g x).length = sz) (h1 : ∀ x, ∀ v ∈ g x, v.oneCell' = true) : Rep α where
  sz := sz
  R _ _ x cs := cs = g x
  len := fun h => by rw [h]; exact hl _
  one := fun h => by rw [h]; exact h1 _
  mono := fun _ _ _ h => h
def rInt (k : IntKind) : Rep Int := ground 1 (fun x => [.int k x]) (fun _ => rfl) (fun x v hv => by simp at hv; subst hv; rfl)
def rBool : Rep Bool := ground 1 (fun x => [.bool x]) (fun _ => rfl) (fun x v hv => by simp at hv; subst hv; rfl)
def rStr : Rep ByteArray := ground 1 (fun x => [.string x]) (fun _ => rfl) (fun x v hv => by simp at hv; subst hv; rfl)

section
variable {α : Type}
/-- A row of elements. -/
inductive Row (r : Rep α) (γ : Gh) (w : World) : List α → List Value → Prop
  | nil : Row r γ w [] []
  | cons {x : α} {xs : List α} {cs ds : List Value} (h : r.R γ w x cs) (t : Row r γ w xs ds) : Row r γ w (x :: xs) (cs ++ ds)

variable {r : Rep α} {γ γ' : Gh} {w w' : World} {xs ys : List α} {cs ds : List Value}
theorem Row.len (h : Row r γ w xs ds) : ds.length = xs.length * r.sz := by
  induction h with
  | nil => simp
  | cons hx _ ih => simp [ih, r.len hx, Nat.add_mul, Nat.add_comm]
theorem Row.one (h : Row r γ w xs ds) : ∀ v ∈ ds, v.oneCell' = true := by
  induction h with
  | nil => simp
  | cons hx _ ih => intro v hv; rcases List.mem_append.1 hv with h | h; exact r.one hx v h; exact ih v h
theorem Row.mono (hle : Le γ w γ' w') (h : Row r γ w xs ds) : Row r γ' w' xs ds := by
  induction h with
  | nil => exact .nil
  | cons hx _ ih => exact .cons (r.mono hle hx) ih
theorem Row.append (h : Row r γ w xs cs) (k : Row r γ w ys ds) : Row r γ w (xs ++ ys) (cs ++ ds) := by
  induction h with
  | nil => exact k
  | cons hx _ ih => rw [List.cons_append, List.append_assoc]; exact .cons hx ih
theorem Row.single {x : α} (h : r.R γ w x cs) : Row r γ w [x] cs := by
  have := Row.cons h (Row.nil (r := r) (γ := γ) (w := w)); rwa [List.append_nil] at this
theorem Row.get (h : Row r γ w xs ds) : ∀ {i : Nat} {x : α}, xs[i]? = some x → ∃ cs, r.R γ w x cs ∧ (ds.drop (i * r.sz)).take r.sz = cs := by
  induction h with
  | nil => intro i x h; simp at h
  | cons hx _ ih =>
    intro i x hi
    cases i with
    | zero =>
      simp at hi; subst hi
      exact ⟨_, hx, by simp [← r.len hx]⟩
    | succ i =>
      simp at hi
      obtain ⟨cs, h1, h2⟩ := ih hi
      refine ⟨cs, h1, ?_⟩
      rw [← h2, Nat.add_mul, Nat.one_mul, Nat.add_comm, ← List.drop_drop, List.drop_left' (r.len hx)]
theorem Row.drop (h : Row r γ w xs ds) : ∀ k, Row r γ w (xs.drop k) (ds.drop (k * r.sz)) := by
  induction h with
  | nil => intro k; simpa using Row.nil
  | cons hx ht ih =>
    intro k
    cases k with
    | zero => simpa using Row.cons hx ht
    | succ k =>
      rw [List.drop_succ_cons, show (k + 1) * r.sz = r.sz + k * r.sz by rw [Nat.add_mul, Nat.one_mul, Nat.add_comm], ← List.drop_drop, List.drop_left' (r.len hx)]
      exact ih k
theorem Row.take (h : Row r γ w xs ds) : ∀ k, Row r γ w (xs.take k) (ds.take (k * r.sz)) := by
  induction h with
  | nil => intro k; simpa using Row.nil
  | cons hx ht ih =>
    intro k
    cases k with
    | zero => simpa using Row.nil
    | succ k =>
      rw [show (k + 1) * r.sz = r.sz + k * r.sz by rw [Nat.add_mul, Nat.one_mul, Nat.add_comm], ← r.len hx, List.take_length_add_append, r.len hx, List.take_succ_cons]
      exact .cons hx (ih k)
end

abbrev big : Nat := 140737488355328
abbrev top : Nat := 9223372036854775807

/-- What a slice's head reads as. -/
structure SlP {α : Type} (r : Rep α) (γ : Gh) (w : World) (A : Option Addr) (c : Nat) (xs : List α) : Prop where
  le : xs.length ≤ c
  bd : xs.length ≤ top
  nil : A = none → xs = []
  row : ∀ a, A = some a → (xs ≠ [] → a.spot = none) ∧ ∃ ds, Row r γ w xs ds ∧ ∀ j v, ds[j]? = some v → w.cell? ⟨a.block, a.off + j, none⟩ = some v ∧ a.off + j < γ a.block

theorem SlP.mono {α : Type} {r : Rep α} {γ γ' : Gh} {w w' : World} {A : Option Addr} {c : Nat} {xs : List α} (hle : Le γ w γ' w') (h : SlP r γ w A c xs) : SlP r γ' w' A c xs :=
  ⟨h.le, h.bd, h.nil, fun a ha => by
    obtain ⟨hs, ds, hr, hc⟩ := h.row a ha
    exact ⟨hs, ds, hr.mono hle, fun j v hv => by
      obtain ⟨h1, h2⟩ := hc j v hv
      exact ⟨(hle.cell _ _ h2).trans h1, Nat.lt_of_lt_of_le h2 (hle.up _)⟩⟩⟩
theorem SlP.empty {α : Type} (r : Rep α) (γ : Gh) (w : World) : SlP r γ w none 0 [] := ⟨by simp, by simp, fun _ => rfl, fun a ha => by cases ha⟩

/-- The fact that a slice reads so. -/
def slF {α : Type} (r : Rep α) (A : Option Addr) (c : Nat) (xs : List α) : Fact := ⟨fun γ w => SlP r γ w A c xs, fun hle h => h.mono hle⟩

/-- Slices as elements. -/
def rSl {α : Type} (r : Rep α) : Rep (List α) where
  sz := 1
  R γ w xs cs := ∃ A c, cs = [.slice A xs.length c] ∧ SlP r γ w A c xs
  len := fun ⟨_, _, h, _⟩ => by rw [h]; rfl
  one := fun ⟨_, _, h, _⟩ v hv => by rw [h] at hv; simp at hv; subst hv; rfl
  mono := fun hle _ _ ⟨A, c, h, k⟩ => ⟨A, c, h, k.mono hle⟩

/-- Two parts, one behind the other. -/
def rPair {α β : Type} (a : Rep α) (b : Rep β) : Rep (α × β) where
  sz := a.sz + b.sz
  R γ w x cs := ∃ c1 c2, cs = c1 ++ c2 ∧ a.R γ w x.1 c1 ∧ b.R γ w x.2 c2
  len := fun ⟨_, _, h, h1, h2⟩ => by rw [h, List.length_append, a.len h1, b.len h2]
  one := fun ⟨_, _, h, h1, h2⟩ v hv => by
    rw [h] at hv
    rcases List.mem_append.1 hv with q | q
    · exact a.one h1 v q
    · exact b.one h2 v q
  mono := fun hle _ _ ⟨c1, c2, h, h1, h2⟩ => ⟨c1, c2, h, a.mono hle h1, b.mono hle h2⟩

def ablk (A : Option Addr) : Nat := (A.map (·.block)).getD 0
def aoff (A : Option Addr) : Nat := (A.map (·.off)).getD 0

section
variable {P : Program} {r : Option Nat} {e : Env} {o : Oper} {Kn : St → Prop} {s : St} {γ γ' : Gh} {w w' : World} {a : Act}

theorem Chunk.keep {X : Nat → Prop} (c : Chunk) (hp : c.p γ w) (hX : ∀ b, c.fp b → ¬ X b) (fr : Fr X γ w γ' w') : c.p γ' w' :=
  c.stable (fun b hb => ⟨fr.block b (c.lt hp hb) (hX b hb), fr.gh b (c.lt hp hb) (hX b hb)⟩) fr.le hp

/-- A step of the world that touches the blocks X alone. -/
theorem Holds.step {X : Nat → Prop} {M' : List Chunk} (h : Holds e s γ a w) (fr : Fr X γ w γ' w') (hX : ∀ b, X b → e.bs b ∨ e.w0.heap.size ≤ b) (hm : HM γ' w' M') (ho : ∀ c ∈ M', ∀ b, c.fp b → e.bs b ∨ e.w0.heap.size ≤ b) (hok : GhOk γ' w') :
    Holds e { s with M := M' } γ' a w' where
  size := h.size
  slots := h.slots
  defers := h.defers
  hm := hm
  own := ho
  facts f hf := f.mono fr.le (h.facts f hf)
  fr := h.fr.trans fr fun b hb hx => (hX b hx).resolve_right (by omega)
  ok := hok

theorem Holds.addF {f : Fact} (h : Holds e s γ a w) (hf : f.p γ w) : Holds e { s with F := s.F ++ [f] } γ a w where
  size := h.size
  slots := h.slots
  defers := h.defers
  hm := h.hm
  own := h.own
  facts g hg := by rcases List.mem_append.1 hg with q | q; exact h.facts g q; simp at q; subst q; exact hf
  fr := h.fr
  ok := h.ok

theorem HM.keep {X : Nat → Prop} {M : List Chunk} (h : HM γ w M) (fr : Fr X γ w γ' w') (hX : ∀ c ∈ M, ∀ b, c.fp b → ¬ X b) : HM γ' w' M :=
  ⟨fun c hc => c.keep (h.all c hc) (hX c hc) fr, h.sep⟩

theorem HM.cons {M : List Chunk} {c : Chunk} (h : HM γ w M) (hc : c.p γ w) (hd : ∀ d ∈ M, ∀ b, c.fp b → ¬ d.fp b) : HM γ w (c :: M) :=
  ⟨fun d hd' => by rcases List.mem_cons.1 hd' with q | q; (subst q; exact hc); exact h.all d q, List.pairwise_cons.2 ⟨hd, h.sep⟩⟩

/-- Chunk k gives way to one of the same blocks. -/
theorem HM.set {M : List Chunk} {k : Nat} {c c' : Chunk} (h : HM γ w M) (hk : M[k]? = some c) (fr : Fr c.fp γ w γ' w') (hc' : c'.p γ' w') (hfp : ∀ b, c'.fp b → c.fp b ∨ w.heap.size ≤ b) : HM γ' w' (M.set k c') := by
  have hlt : k < M.length := (List.getElem?_eq_some_iff.1 hk).1
  have hkc : M[k] = c := (List.getElem?_eq_some_iff.1 hk).2
  have hsep := List.pairwise_iff_getElem.1 h.sep
  have other : ∀ i (hi : i < M.length), i ≠ k → ∀ b, M[i].fp b → ¬ c.fp b := by
    intro i hi hne b hb hcb
    rcases Nat.lt_or_ge i k with q | q
    · exact hsep i k hi hlt q b hb (by rw [hkc]; exact hcb)
    · exact hsep k i hlt hi (by omega) b (by rw [hkc]; exact hcb) hb
  refine ⟨?_, ?_⟩
  · intro d hd
    obtain ⟨i, hi, rfl⟩ := List.getElem_of_mem hd
    rw [List.getElem_set]
    split
    · exact hc'
    · rename_i hne
      have hi' : i < M.length := by simpa using hi
      exact (M[i]).keep (h.all _ (List.getElem_mem hi')) (other i hi' (fun q => hne q.symm)) fr
  · rw [List.pairwise_iff_getElem]
    intro i j hi hj hij b
    have hi' : i < M.length := by simpa using hi
    have hj' : j < M.length := by simpa using hj
    rw [List.getElem_set, List.getElem_set]
    split
    · rename_i hki
      subst hki
      rw [if_neg (by omega)]
      intro hb hjb
      rcases hfp b hb with q | q
      · exact other j hj' (by omega) b hjb q
      · exact absurd (Chunk.lt _ (h.all _ (List.getElem_mem hj')) hjb) (by omega)
    · rename_i hki
      split
      · rename_i hkj
        subst hkj
        intro hib hb
        rcases hfp b hb with q | q
        · exact other i hi' (by omega) b hib q
        · exact absurd (Chunk.lt _ (h.all _ (List.getElem_mem hi')) hib) (by omega)
      · exact hsep i j hi' hj' hij b

/-! ### A new block -/
def upd (γ : Gh) (b n : Nat) : Gh := fun x => if x = b then n else γ x
theorem upd_same (γ : Gh) (b n : Nat) : upd γ b n b = n := by simp [upd]
theorem upd_other (γ : Gh) {b x : Nat} (n : Nat) (h : x ≠ b) : upd γ b n x = γ x := by simp [upd, h]

theorem frozen_row {c c' : Array Value} {T : TypeId} {b : Nat} (h : w.heap[b]? = some (.cells c T (0, 0))) (a : Addr) : (w.setRow b c').frozen? a = w.frozen? a := by
  by_cases hb : a.block = b
  · subst hb
    simp only [World.frozen?, h, setRow_heap w a.block c c' T (0, 0) h]
  · simp only [World.frozen?, setRow_other w b a.block _ hb]
theorem Fr.alloc (hok : GhOk γ w) (cs : Array Value) (T : TypeId) (n : Nat) : Fr (fun _ => False) γ w (upd γ w.heap.size n) (w.alloc (.cells cs T)) where
  le := ⟨by simp, fun b => by by_cases h : b = w.heap.size <;> simp [upd, h, hok w.heap.size (Nat.le_refl _)], fun b j hj => by
    have : b < w.heap.size := by
      rcases Nat.lt_or_ge b w.heap.size with q | q
      · exact q
      · rw [hok b q] at hj; omega
    exact World.cell?_alloc_lt w _ _ this⟩
  os := rfl
  tape := rfl
  output := rfl
  block b hb _ := by simp only [World.alloc, Array.getElem?_push]; rw [if_neg (by omega)]
  gh b hb _ := upd_other _ _ (by omega)

theorem GhOk.alloc (hok : GhOk γ w) (o : Obj) (n : Nat) : GhOk (upd γ w.heap.size n) (w.alloc o) := fun b hb => by
  simp at hb
  rw [upd_other _ _ (by omega)]
  exact hok b (by omega)

theorem upd_self_ok (hok : GhOk γ w) : upd γ w.heap.size 0 = γ := by
  funext b
  by_cases h : b = w.heap.size
  · subst h; rw [upd_same, hok _ (Nat.le_refl _)]
  · exact upd_other _ _ h

/-- A block of known cells is laid. -/
theorem Holds.new (h : Holds e s γ a w) (cs : List Value) (T : TypeId) : Holds e { s with M := cells w.heap.size cs T :: s.M } γ a (w.alloc (.cells cs.toArray T)) := by
  have fr : Fr (fun _ => False) γ w γ (w.alloc (.cells cs.toArray T)) := by
    have := Fr.alloc h.ok cs.toArray T 0
    rwa [upd_self_ok h.ok] at this
  have hsz : e.w0.heap.size ≤ w.heap.size := h.fr.le.size
  refine h.step fr (fun b hb => hb.elim) ?_ ?_ ?_
  · refine (h.hm.keep fr (fun _ _ _ _ q => q)).cons ⟨heap_alloc_new w _, h.ok _ (Nat.le_refl _)⟩ ?_
    · intro d hd b hb hdb
      have : b = w.heap.size := hb
      have := d.lt (h.hm.all d hd) hdb
      omega
  · intro c hc b hb
    rcases List.mem_cons.1 hc with q | q
    · subst q
      have : b = w.heap.size := hb
      exact .inr (by omega)
    · exact h.own c q b hb
  · have := h.ok.alloc (.cells cs.toArray T) 0
    rwa [upd_self_ok h.ok] at this

theorem op_alloc {d : Nat} {T : TypeId} {cs : List Value} (ho : o.dst = some d) (hN : d < e.N) (hop : o.op = .alloc T) (hz : zeroOf P T = some cs)
    (h : ∀ b, Kn (({ s with M := cells b cs T :: s.M } : St).put d (.pointer (some ⟨b, 0, none⟩)))) : OpTr P r e o Kn s := by
  intro γ a w hh K Q hK
  refine ⟨fun f _ => fen_fn r f, ?_⟩
  obtain ⟨z, hz1, hz2⟩ := run_zeroValue' (w := w) hz
  have hrun : (execOp a.eval o).run P w = .ok (.value (.pointer (some ⟨w.heap.size, 0, none⟩))) (w.alloc (.cells cs.toArray T)) := by
    simp only [execOp, hop, Instr.alloc, Sem.run_bind, hz2, Result.andThen, newVar, newRow, run_newObj, hz1, Sem.run_pure]
    rfl
  rw [semAt_eq _ _ _ (by rw [hop]; intro c; simp), hrun, Oper.uponIn_value, ho]
  exact hK _ γ _ _ (h w.heap.size) ((hh.new cs T).put d _ hN)

theorem op_box {d : Nat} {T : TypeId} {x : Operand} {v : Value} (ho : o.dst = some d) (hN : d < e.N) (hop : o.op = .box T x) (hx : ev s.L x = some v)
    (h : ∀ b, Kn (({ s with M := cells b v.cells.toList T :: s.M } : St).put d (.pointer (some ⟨b, 0, none⟩)))) : OpTr P r e o Kn s := by
  intro γ a w hh K Q hK
  refine ⟨fun f _ => fen_fn r f, ?_⟩
  have hrun : (execOp a.eval o).run P w = .ok (.value (.pointer (some ⟨w.heap.size, 0, none⟩))) (w.alloc (.cells v.cells.toList.toArray T)) := by
    simp only [execOp, hop, Instr.box, Sem.run_bind, hh.eval hx, Result.andThen, newVar, newRow, run_newObj, Sem.run_pure]
    rfl
  rw [semAt_eq _ _ _ (by rw [hop]; intro c; simp), hrun, Oper.uponIn_value, ho]
  exact hK _ γ _ _ (h w.heap.size) ((hh.new v.cells.toList T).put d _ hN)

/-! ### Loads and stores at an owned block -/
theorem v_load {k b off n : Nat} {T Tb : TypeId} {x : Operand} {ag : Bool} {c : List Value} {v : Value} (hop : o.op = .load T x) (hx : ev s.L x = some (.pointer (some ⟨b, off, none⟩)))
    (hk : s.M[k]? = some (cells b c Tb)) (ht : tyOf P T = some (ag, n)) (hn : ag = false → n = 1) (hl : ((c.drop off).take n).length = n) (hv : mkv ag ((c.drop off).take n) = v) : OpV P e o s v :=
  ⟨(by rw [hop]; intro c; simp), (fun γ a w hh => by
    have hc := hh.hm.all _ (List.mem_of_getElem? hk)
    have := run_loadVar' (w := w) ht hn ⟨b, off, none⟩ ((c.drop off).take n) hl (fun j u hu => by
      rw [add_off, cell_of_cells hc]
      rw [List.getElem?_take] at hu
      split at hu
      · rwa [List.getElem?_drop] at hu
      · cases hu)
    simp only [execOp, hop, hh.eval hx, Instr.loadAt, Instr.sureAddr, Sem.run_bind, Sem.run_pure, Result.andThen, this, hv])⟩

def spl (c : List Value) (off : Nat) (cs : List Value) : List Value := c.take off ++ cs ++ c.drop (off + cs.length)

theorem Fr.setRow {b : Nat} {c : List Value} {T : TypeId} (h : (cells b c T).p γ w) (c' : List Value) : Fr (· = b) γ w γ (w.setRow b c'.toArray) where
  le := ⟨by simp, fun _ => Nat.le_refl _, fun x j hj => by
    have hne : x ≠ b := fun q => by subst q; rw [h.2] at hj; omega
    simp only [World.cell?]
    rw [setRow_other w b x _ hne]⟩
  os := rfl
  tape := rfl
  output := rfl
  block x _ hx := setRow_other w b x _ hx
  gh _ _ _ := rfl

theorem op_store {k b off n : Nat} {T Tb : TypeId} {x y : Operand} {ag : Bool} {c c' : List Value} {v : Value} (ho : o.dst = none) (hop : o.op = .store T x y) (hx : ev s.L x = some (.pointer (some ⟨b, off, none⟩))) (hy : ev s.L y = some v)
    (hk : s.M[k]? = some (cells b c Tb)) (ht : tyOf P T = some (ag, n)) (hl : v.cells.toList.length = n) (hfit : off + n ≤ c.length) (h1 : ∀ u ∈ v.cells.toList, u.oneCell' = true) (hc' : spl c off v.cells.toList = c')
    (h : Kn { s with M := s.M.set k (cells b c' Tb) }) : OpTr P r e o Kn s := by
  intro γ a w hh K Q hK
  refine ⟨fun f _ => fen_fn r f, ?_⟩
  have hc := hh.hm.all _ (List.mem_of_getElem? hk)
  have hst := run_storeCells_at P b off Tb v.cells.toList 0 c.toArray w hc.1 (by simp only [Nat.add_zero, List.size_toArray]; rw [hl]; exact hfit) h1
  simp only [Nat.add_zero] at hst
  have hrow : (c.toArray.toList.take off ++ v.cells.toList ++ c.toArray.toList.drop (off + v.cells.toList.length)) = c' := by rw [← hc']; rfl
  rw [hrow] at hst
  have hrun : (execOp a.eval o).run P w = .ok .skip (w.setRow b c'.toArray) := by
    have hsz : v.cells.size = n := by rw [← hl]; simp
    simp only [execOp, hop, hh.eval hx, hh.eval hy, Instr.storeAt, Instr.sureAddr, storeVar, Sem.run_bind, Sem.run_pure, Result.andThen, run_sizeOf' ht, hsz, ne_eq, not_true, if_false, hst]
  rw [semAt_eq _ _ _ (by rw [hop]; intro c; simp), hrun, Oper.uponIn_skip, ho]
  have fr := Fr.setRow hc c'
  refine hK _ γ _ _ h (hh.step fr ?_ ?_ ?_ ?_)
  · intro x hx'
    exact hh.own _ (List.mem_of_getElem? hk) x hx'
  · exact hh.hm.set hk fr ⟨setRow_heap w b c.toArray c'.toArray Tb (0, 0) hc.1, hc.2⟩ (fun x hx' => .inl hx')
  · intro d hd x hx'
    rcases List.mem_or_eq_of_mem_set hd with q | q
    · exact hh.own d q x hx'
    · subst q; exact hh.own _ (List.mem_of_getElem? hk) x hx'
  · intro x hx'
    exact hh.ok x (by simpa using hx')

/-! ### Elements of slices that are read -/
theorem SlP.addr {α : Type} {rp : Rep α} {A : Option Addr} {c : Nat} {xs : List α} (h : SlP rp γ w A c xs) {i : Nat} {x : α} (hi : xs[i]? = some x) : A = some ⟨ablk A, aoff A, none⟩ := by
  cases A with
  | none => rw [h.nil rfl] at hi; simp at hi
  | some a =>
    have hs := (h.row a rfl).1 (fun q => by rw [q] at hi; simp at hi)
    obtain ⟨b, off, sp⟩ := a
    simp at hs
    subst hs
    rfl

theorem v_indexAddr {α : Type} {rp : Rep α} {k n c m : Nat} {T E : TypeId} {x y : Operand} {kd : IntKind} {i : Int} {ag : Bool} {A : Option Addr} {xs : List α} {z : α} (hop : o.op = .indexAddr T x y)
    (hT : sliceOf P T = some E) (ht : tyOf P E = some (ag, n)) (hx : ev s.L x = some (.slice A m c)) (hm : m = xs.length) (hy : ev s.L y = some (.int kd i)) (hk : s.F[k]? = some (slF rp A c xs)) (hi : rdo xs i = some z) : OpV P e o s (.pointer (some ⟨ablk A, aoff A + i.toNat * n, none⟩)) :=
  ⟨(by rw [hop]; intro c; simp), (fun γ a w hh => by
    obtain ⟨h0, h1, h2⟩ := rdo_some hi
    have hf : SlP rp γ w A c xs := hh.facts _ (List.mem_of_getElem? hk)
    have hA := hf.addr h2
    have hx' := hh.eval hx
    rw [hA] at hx'
    subst hm
    simp only [execOp, hop, hx', hh.eval hy, Instr.indexAt, asIntOf, Sem.run_bind, Sem.run_pure, Result.andThen, run_und' (sliceOf_und hT)]
    simp [h0, h1, run_sizeOf' ht, add_off])⟩

/-- Out of an element whose cells are written out (the whole of it, or a part that begins at cell j). -/
theorem v_loadg {α : Type} {g : α → List Value} {sz : Nat} {hl1 : ∀ x, (g x).length = sz} {h1 : ∀ x, ∀ v ∈ g x, v.oneCell' = true} {k n c j : Nat} {T : TypeId} {x : Operand} {i : Int} {ag : Bool} {A : Option Addr} {xs : List α} {z : α} {v : Value} (hop : o.op = .load T x)
    (ht : tyOf P T = some (ag, n)) (hn : ag = false → n = 1) (hx : ev s.L x = some (.pointer (some ⟨ablk A, aoff A + i.toNat * sz + j, none⟩))) (hk : s.F[k]? = some (slF (ground sz g hl1 h1) A c xs)) (hi : rdo xs i = some z)
    (hl : (((g z).drop j).take n).length = n) (hv : mkv ag (((g z).drop j).take n) = v) : OpV P e o s v :=
  ⟨(by rw [hop]; intro c; simp), (fun γ a w hh => by
    obtain ⟨h0, h1', h2⟩ := rdo_some hi
    have hf : SlP (ground sz g hl1 h1) γ w A c xs := hh.facts _ (List.mem_of_getElem? hk)
    have hA := hf.addr h2
    obtain ⟨_, ds, hr, hc⟩ := hf.row _ hA
    obtain ⟨cs, hcs, hds⟩ := hr.get h2
    have hcs' : cs = g z := hcs
    subst hcs'
    have := run_loadVar' (w := w) ht hn ⟨ablk A, aoff A + i.toNat * sz + j, none⟩ (((g z).drop j).take n) hl (fun q u hu => by
      rw [add_off]
      rw [List.getElem?_take] at hu
      split at hu
      · rw [List.getElem?_drop] at hu
        rw [← hds, List.getElem?_take] at hu
        split at hu
        · rw [List.getElem?_drop] at hu
          have := (hc _ _ hu).1
          simp only [ground] at this
          rw [show aoff A + i.toNat * sz + j + q = aoff A + (i.toNat * sz + (j + q)) by omega]
          exact this
        · cases hu
      · cases hu)
    simp only [execOp, hop, hh.eval hx, Instr.loadAt, Instr.sureAddr, Sem.run_bind, Sem.run_pure, Result.andThen, this, hv])⟩

/-- A sealed cell that is known. -/
def cellF (a : Addr) (v : Value) : Fact := ⟨fun γ w => w.cell? a = some v ∧ a.spot = none ∧ a.off < γ a.block, fun {γ w γ' w'} hle h => by
  obtain ⟨b, off, sp⟩ := a
  obtain ⟨h1, h2, h3⟩ := h
  simp only at h2
  subst h2
  exact ⟨(hle.cell _ _ h3).trans h1, rfl, Nat.lt_of_lt_of_le h3 (hle.up _)⟩⟩

theorem v_loadF {k : Nat} {T : TypeId} {x : Operand} {ad : Addr} {v : Value} (hop : o.op = .load T x) (ht : tyOf P T = some (false, 1)) (hx : ev s.L x = some (.pointer (some ad))) (hk : s.F[k]? = some (cellF ad v)) : OpV P e o s v :=
  ⟨by rw [hop]; intro c; simp, fun γ a w hh => by
    have hf : (cellF ad v).p γ w := hh.facts _ (List.mem_of_getElem? hk)
    have := run_loadVar' (w := w) ht (fun _ => rfl) ad [v] rfl (fun j u hu => by
      match j, hu with
      | 0, hu => simp at hu; subst hu; rw [show ad.add 0 = ad from by simp [Addr.add]]; exact hf.1
      | j + 1, hu => simp at hu)
    simp only [execOp, hop, hh.eval hx, Instr.loadAt, Instr.sureAddr, Sem.run_bind, Sem.run_pure, Result.andThen, this]
    rfl⟩

/-- An element that is itself a slice is opened. -/
theorem Holds.openS {α : Type} {rp : Rep α} {k c : Nat} {i : Int} {A : Option Addr} {xs : List (List α)} {z : List α} (hh : Holds e s γ a w) (hk : s.F[k]? = some (slF (rSl rp) A c xs)) (hi : rdo xs i = some z) :
    ∃ B q, Holds e { s with F := s.F ++ [slF rp B q z, cellF ⟨ablk A, aoff A + i.toNat * 1, none⟩ (.slice B z.length q)] } γ a w := by
  obtain ⟨h0, h1', h2⟩ := rdo_some hi
  have hf : SlP (rSl rp) γ w A c xs := hh.facts _ (List.mem_of_getElem? hk)
  have hA := hf.addr h2
  obtain ⟨_, ds, hr, hc⟩ := hf.row _ hA
  obtain ⟨cs, ⟨B, q, hcs, hz⟩, hds⟩ := hr.get h2
  subst hcs
  have hd0 : ds[i.toNat * 1]? = some (.slice B z.length q) := by
    have := congrArg (fun l => l[0]?) hds
    simp only [List.getElem?_take, List.getElem?_drop] at this
    simpa [rSl] using this
  have hcell := hc _ _ hd0
  have h3 := (hh.addF (f := slF rp B q z) hz).addF (f := cellF ⟨ablk A, aoff A + i.toNat * 1, none⟩ (.slice B z.length q)) ⟨hcell.1, rfl, hcell.2⟩
  simp only [List.append_assoc, List.singleton_append] at h3
  exact ⟨B, q, h3⟩
theorem TrL.openS {α : Type} {rp : Rep α} {k c : Nat} {i : Int} {A : Option Addr} {xs : List (List α)} {z : List α} {ops : Array Oper} {l : List Oper} (hk : s.F[k]? = some (slF (rSl rp) A c xs)) (hi : rdo xs i = some z)
    (h : ∀ B q, TrL P r e ops l Kn { s with F := s.F ++ [slF rp B q z, cellF ⟨ablk A, aoff A + i.toNat * 1, none⟩ (.slice B z.length q)] }) : TrL P r e ops l Kn s := fun γ a w hh => by
  obtain ⟨B, q, h2⟩ := hh.openS hk hi
  exact h B q γ a w h2
end
end Go.Proofs.Ythgeodagikmpjaa.L
