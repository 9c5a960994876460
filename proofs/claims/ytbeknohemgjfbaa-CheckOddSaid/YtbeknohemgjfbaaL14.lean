/- A program logic over the kit's Code.wpIn: symbolic states (slots, owned chunks of memory, persistent facts), and the rules for sequences, blocks, tests, regions. Readings of data in memory (Rep), owned blocks (cells), and the rules for the operations that only compute. Readings of data in memory: rows of elements, slices; rules for operations on memory: new variables, loads, stores, elements. Functions: their contracts, entries, returns, calls; pure consequences of facts; loops. The entry of a function; loops. Slices that grow; new structs and slices; parts of slices. New structs and slices out of parts; parts of slices; elements of arrays; structs that are compared. Parts of slices; elements and fields of values; structs that are compared. States said anew; calls by places; regions that draw their order. Regions that draw their order: what only reads is promised ahead; the rest comes up in one turn. Joins, loops with a pure side, small words for tests: what the printed proofs use. The last rules for the printed proofs: values in their plain form, joins by data, returns by data, guarded steps in a drawn order. Small words of the printed proofs: lists of checks, parts of slices with their facts. Drawn orders in which more than one step may come next. The rules with the states in short words: each step names the state before it once. -/
import Derived.RangeFuncNested
import Derived.WalkKit
import Derived.RowKit3
import Derived.Test.YtbeknohemgjfbaaP0
import Derived.OrdersIn
import Derived.Test.YtbeknohemgjfbaaP1
namespace Go.Proofs.Ytbeknohemgjfbaa.L
open Go
set_option linter.unusedVariables false

/-- How many cells of each block are sealed: they are never written again. -/
abbrev Gh := Nat → Nat

structure Le (γ : Gh) (w : World) (γ' : Gh) (w' : World) : Prop where
  size : w.heap.size ≤ w'.heap.size
  up : ∀ b, γ b ≤ γ' b
  cell : ∀ b j, j < γ b → w'.cell? ⟨b, j, none⟩ = w.cell? ⟨b, j, none⟩

theorem Le.refl (γ : Gh) (w : World) : Le γ w γ w := ⟨Nat.le_refl _, fun _ => Nat.le_refl _, fun _ _ _ => rfl⟩
theorem Le.trans {γ γ1 γ2 : Gh} {w w1 w2 : World} (h : Le γ w γ1 w1) (k : Le γ1 w1 γ2 w2) : Le γ w γ2 w2 :=
  ⟨Nat.le_trans h.size k.size, fun b => Nat.le_trans (h.up b) (k.up b), fun b j hj => (k.cell b j (Nat.lt_of_lt_of_le hj (h.up b))).trans (h.cell b j hj)⟩

/-- Of what was there nothing has turned but the blocks bs. -/
structure Fr (bs : Nat → Prop) (γ : Gh) (w : World) (γ' : Gh) (w' : World) : Prop where
  le : Le γ w γ' w'
  os : w'.os = w.os
  tape : w'.tape = w.tape
  output : w'.output = w.output
  block : ∀ b, b < w.heap.size → ¬ bs b → w'.heap[b]? = w.heap[b]?
  gh : ∀ b, b < w.heap.size → ¬ bs b → γ' b = γ b

theorem Fr.fz {bs : Nat → Prop} {γ : Gh} {w : World} {γ' : Gh} {w' : World} (h : Fr bs γ w γ' w') (a : Addr) (ha : a.block < w.heap.size) (hb : ¬ bs a.block) : w'.frozen? a = w.frozen? a := by
  simp only [World.frozen?, h.block _ ha hb]
theorem Fr.refl (bs : Nat → Prop) (γ : Gh) (w : World) : Fr bs γ w γ w := ⟨Le.refl _ _, rfl, rfl, rfl, fun _ _ _ => rfl, fun _ _ _ => rfl⟩
theorem Fr.trans {bs bs1 : Nat → Prop} {γ γ1 γ2 : Gh} {w w1 w2 : World} (h : Fr bs γ w γ1 w1) (k : Fr bs1 γ1 w1 γ2 w2) (hs : ∀ b, b < w.heap.size → bs1 b → bs b) : Fr bs γ w γ2 w2 where
  le := h.le.trans k.le
  os := k.os.trans h.os
  tape := k.tape.trans h.tape
  output := k.output.trans h.output
  block b hb hn := (k.block b (Nat.lt_of_lt_of_le hb h.le.size) (fun q => hn (hs b hb q))).trans (h.block b hb hn)
  gh b hb hn := (k.gh b (Nat.lt_of_lt_of_le hb h.le.size) (fun q => hn (hs b hb q))).trans (h.gh b hb hn)

def GhOk (γ : Gh) (w : World) : Prop := ∀ b, w.heap.size ≤ b → γ b = 0

/-- A persistent fact: it outlives whatever is done. -/
structure Fact where
  p : Gh → World → Prop
  mono : ∀ {γ w γ' w'}, Le γ w γ' w' → p γ w → p γ' w'

/-- A piece of memory that is owned. -/
structure Chunk where
  fp : Nat → Prop
  p : Gh → World → Prop
  lt : ∀ {γ w b}, p γ w → fp b → b < w.heap.size
  stable : ∀ {γ w γ' w'}, (∀ b, fp b → w'.heap[b]? = w.heap[b]? ∧ γ' b = γ b) → Le γ w γ' w' → p γ w → p γ' w'

structure HM (γ : Gh) (w : World) (M : List Chunk) : Prop where
  all : ∀ c ∈ M, c.p γ w
  sep : M.Pairwise fun c d => ∀ b, c.fp b → ¬ d.fp b

def fpM (M : List Chunk) (b : Nat) : Prop := ∃ c ∈ M, c.fp b

structure St where
  L : List (Nat × Value)
  M : List Chunk
  F : List Fact
  D : List Deferred := []

structure Env where
  N : Nat
  bs : Nat → Prop
  γ0 : Gh
  w0 : World

structure Holds (e : Env) (s : St) (γ : Gh) (a : Act) (w : World) : Prop where
  size : a.tmps.size = e.N
  slots : ∀ i v, s.L.lookup i = some v → a.tmps[i]? = some v
  defers : a.defers = s.D
  hm : HM γ w s.M
  own : ∀ c ∈ s.M, ∀ b, c.fp b → e.bs b ∨ e.w0.heap.size ≤ b
  facts : ∀ f ∈ s.F, f.p γ w
  fr : Fr e.bs e.γ0 e.w0 γ w
  ok : GhOk γ w

/-- The fence of a frame: of a function's, or of a round's. -/
def fen (r : Option Nat) : Fence := { fn := fun _ => True, depth := none, alive := false, round := r }
theorem fen_none : fen none = Fence.wide := rfl

def fine : Exit → Prop
  | .normal | .exit _ | .ret => True
  | _ => False

abbrev SPost := Exit → St → Prop

section
variable {P : Program} {r : Option Nat} {e : Env}

/-- From each state that is so the code comes to an exit and a state of the post. -/
def Tr (P : Program) (r : Option Nat) (e : Env) (c : Code) (Q : SPost) (s : St) : Prop :=
  ∀ γ a w, Holds e s γ a w → c.wpIn (fen r) 0 P (fun x a' w' => fine x ∧ ∃ s' γ', Q x s' ∧ Holds e s' γ' a' w') a w

/-- One operation. -/
def OpTr (P : Program) (r : Option Nat) (e : Env) (o : Oper) (Kn : St → Prop) (s : St) : Prop :=
  ∀ γ a w, Holds e s γ a w → ∀ (K : Act → World → Prop) (Q : Exit → Act → World → Prop), (∀ s' γ' a' w', Kn s' → Holds e s' γ' a' w' → K a' w') → o.wpIn (fen r) 0 P a w K Q

/-- A list of operations (of a region's operations ops). -/
def TrL (P : Program) (r : Option Nat) (e : Env) (ops : Array Oper) (l : List Oper) (Kn : St → Prop) (s : St) : Prop :=
  ∀ γ a w, Holds e s γ a w → ∀ (Q : Exit → Act → World → Prop), (∀ s' γ' a' w', Kn s' → Holds e s' γ' a' w' → Q .normal a' w') → wpListIn (fen r) 0 P ops Q l a w

/-! ### Structure -/
def qthen (K : St → Prop) (Q : SPost) : SPost
  | .normal, s => K s
  | x, s => Q x s
def qblock (id : Nat) (Q : SPost) : SPost
  | .exit i, s => if i = id then Q .normal s else Q (.exit i) s
  | x, s => Q x s

theorem qthen_n {K : St → Prop} {Q : SPost} {s : St} (h : K s) : qthen K Q .normal s := h
theorem qthen_x {K : St → Prop} {Q : SPost} {s : St} {i : Nat} (h : Q (.exit i) s) : qthen K Q (.exit i) s := h
theorem qthen_r {K : St → Prop} {Q : SPost} {s : St} (h : Q .ret s) : qthen K Q .ret s := h
theorem qblock_n {id : Nat} {Q : SPost} {s : St} (h : Q .normal s) : qblock id Q .normal s := h
theorem qblock_r {id : Nat} {Q : SPost} {s : St} (h : Q .ret s) : qblock id Q .ret s := h
theorem qblock_hit {id : Nat} {Q : SPost} {s : St} (h : Q .normal s) : qblock id Q (.exit id) s := by simp only [qblock, if_true]; exact h
theorem qblock_miss {id i : Nat} {Q : SPost} {s : St} (hne : i ≠ id) (h : Q (.exit i) s) : qblock id Q (.exit i) s := by simp only [qblock, if_neg hne]; exact h

theorem Tr.mono {c : Code} {Q Q' : SPost} {s : St} (h : Tr P r e c Q s) (hq : ∀ x s', Q x s' → Q' x s') : Tr P r e c Q' s :=
  fun γ a w hh => wpIn_mono (h γ a w hh) fun x a' w' ⟨hf, s', γ', q, hh'⟩ => ⟨hf, s', γ', hq _ _ q, hh'⟩

theorem Tr.skip {Q : SPost} {s : St} (h : Q .normal s) : Tr P r e .skip Q s := fun γ a w hh => wpIn_skip ⟨trivial, s, γ, h, hh⟩
theorem Tr.label {l : Nat} {Q : SPost} {s : St} (h : Q .normal s) : Tr P r e (.label l) Q s := fun γ a w hh => wpIn_label ⟨trivial, s, γ, h, hh⟩
theorem Tr.exit {id : Nat} {Q : SPost} {s : St} (h : Q (.exit id) s) : Tr P r e (.exit id) Q s := fun γ a w hh => wpIn_exit ⟨trivial, s, γ, h, hh⟩
theorem Tr.ret {Q : SPost} {s : St} (h : Q .ret s) : Tr P r e .ret Q s := fun γ a w hh => wpIn_ret ⟨trivial, s, γ, h, hh⟩

theorem Tr.seq {c d : Code} {Q : SPost} {s : St} (h : Tr P r e c (qthen (fun s' => Tr P r e d Q s') Q) s) : Tr P r e (.seq c d) Q s := by
  intro γ a w hh
  refine wpIn_seq (wpIn_mono (h γ a w hh) ?_)
  rintro x a' w' ⟨hf, s', γ', q, hh'⟩
  cases x with
  | normal => exact q γ' a' w' hh'
  | exit i => exact ⟨hf, s', γ', q, hh'⟩
  | ret => exact ⟨hf, s', γ', q, hh'⟩
  | goto l => exact hf.elim
  | panic ch => exact hf.elim
  | outgrown => exact hf.elim

theorem Tr.block {id : Nat} {c : Code} {Q : SPost} {s : St} (h : Tr P r e c (qblock id Q) s) : Tr P r e (.block id c) Q s := by
  intro γ a w hh
  refine wpIn_block (wpIn_mono (h γ a w hh) ?_)
  rintro x a' w' ⟨hf, s', γ', q, hh'⟩
  cases x with
  | normal => exact ⟨hf, s', γ', q, hh'⟩
  | exit i =>
    by_cases hi : i = id
    · simp only [Exit.inBlock, qblock, hi, if_true] at q ⊢
      exact ⟨trivial, s', γ', q, hh'⟩
    · simp only [Exit.inBlock, qblock, hi, if_false] at q ⊢
      exact ⟨trivial, s', γ', q, hh'⟩
  | ret => exact ⟨hf, s', γ', q, hh'⟩
  | goto l => exact hf.elim
  | panic ch => exact hf.elim
  | outgrown => exact hf.elim

/-- The value of an operand, as far as the slots tell. -/
def ev (L : List (Nat × Value)) : Operand → Option Value
  | .tmp t => L.lookup t
  | .const v => some v
  | .global g => some (.pointer (some ⟨g, 0, none⟩))
  | .func f => some (.func (.func f) #[] #[])

theorem Holds.eval {s : St} {γ : Gh} {a : Act} {w : World} (h : Holds e s γ a w) {x : Operand} {v : Value} (hv : ev s.L x = some v) : a.eval x = v := by
  cases x with
  | tmp t =>
    have := h.slots t v hv
    simp [Act.eval, Array.getD_eq_getD_getElem?, this]
  | const c => simpa [ev, Act.eval] using hv
  | global g => simpa [ev, Act.eval] using hv
  | func f => simpa [ev, Act.eval] using hv

theorem Tr.cond_t {c : Operand} {x y : Code} {Q : SPost} {s : St} {b : Bool} (hc : ev s.L c = some (.bool b)) (hb : b = true) (h : Tr P r e x Q s) : Tr P r e (.cond c x y) Q s :=
  fun γ a w hh => wpIn_cond_true (by rw [hh.eval hc, hb]) (h γ a w hh)
theorem Tr.cond_f {c : Operand} {x y : Code} {Q : SPost} {s : St} {b : Bool} (hc : ev s.L c = some (.bool b)) (hb : b = false) (h : Tr P r e y Q s) : Tr P r e (.cond c x y) Q s :=
  fun γ a w hh => wpIn_cond_false (by rw [hh.eval hc, hb]) (h γ a w hh)

def St.put (s : St) (d : Nat) (v : Value) : St := { s with L := (d, v) :: s.L }

theorem Holds.put {s : St} {γ : Gh} {a : Act} {w : World} (h : Holds e s γ a w) (d : Nat) (v : Value) (hd : d < e.N) : Holds e (s.put d v) γ (a.put (some d) v) w where
  size := by simp [Act.put, h.size]
  slots i u hi := by
    simp only [St.put, List.lookup_cons] at hi
    simp only [Act.put]
    by_cases hid : i = d
    · subst hid
      simp only [beq_self_eq_true] at hi
      cases hi
      rw [Array.getElem?_setIfInBounds_self_of_lt (by rw [h.size]; exact hd)]
    · have hne : (i == d) = false := by simpa using hid
      simp only [hne] at hi
      rw [Array.getElem?_setIfInBounds_ne (fun q => hid q.symm)]
      exact h.slots i u hi
  defers := h.defers
  hm := h.hm
  own := h.own
  facts := h.facts
  fr := h.fr
  ok := h.ok

theorem TrL.nil {ops : Array Oper} {Kn : St → Prop} {s : St} (h : Kn s) : TrL P r e ops [] Kn s := fun γ a w hh Q hQ => hQ s γ a w h hh
theorem TrL.cons {ops : Array Oper} {o : Oper} {rest : List Oper} {Kn : St → Prop} {s : St} (hg : o.guard = none) (h : OpTr P r e o (fun s' => TrL P r e ops rest Kn s') s) : TrL P r e ops (o :: rest) Kn s := by
  intro γ a w hh Q hQ
  refine wpListIn_plain hg fun K hK => h γ a w hh K Q fun s' γ' a' w' hk hh' => hK _ _ (hk γ' a' w' hh' Q hQ)

theorem yielded_of {s : St} {γ : Gh} {a : Act} {w : World} (hh : Holds e s γ a w) {ops : Array Oper} {j d : Nat} {b : Bool} (hd : (ops[j]?).bind (·.dst) = some d) (hb : s.L.lookup d = some (.bool b)) : yielded ops a.tmps j = some b := by
  simp only [yielded, hd, Option.bind_some, hh.slots d _ hb]

/-- A guarded operation that is wanted. -/
theorem TrL.cons_yes {ops : Array Oper} {o : Oper} {rest : List Oper} {Kn : St → Prop} {s : St} {j d : Nat} {want b : Bool} (hg : o.guard = some (j, want)) (hd : (ops[j]?).bind (·.dst) = some d) (hb : s.L.lookup d = some (.bool b)) (hw : b = want)
    (h : OpTr P r e o (fun s' => TrL P r e ops rest Kn s') s) : TrL P r e ops (o :: rest) Kn s := by
  intro γ a w hh Q hQ
  refine wpListIn_step fun K hK => ?_
  rw [if_pos (by simp [Region.wanted, hg, yielded_of hh hd hb, hw])]
  exact h γ a w hh K Q fun s' γ' a' w' hk hh' => hK _ _ (hk γ' a' w' hh' Q hQ)

theorem fen_fn (r : Option Nat) (f : FuncId) : (fen r).fn f := trivial

/-- A guarded operation that is passed over. -/
theorem TrL.cons_no {ops : Array Oper} {o : Oper} {rest : List Oper} {Kn : St → Prop} {s : St} {j d d' : Nat} {want b : Bool} (hg : o.guard = some (j, want)) (hd : (ops[j]?).bind (·.dst) = some d) (hb : s.L.lookup d = some (.bool b)) (hw : (b == want) = false)
    (ho : o.dst = some d') (hN : d' < e.N) (h : TrL P r e ops rest Kn (s.put d' undef)) : TrL P r e ops (o :: rest) Kn s := by
  intro γ a w hh Q hQ
  refine wpListIn_step fun K hK => ?_
  rw [if_neg (by simp [Region.wanted, hg, yielded_of hh hd hb, hw])]
  refine ⟨fun f _ => fen_fn r f, hK _ _ ?_⟩
  rw [ho]
  exact h γ _ w (hh.put d' undef hN) Q hQ

theorem Tr.region {id : Nat} {ops : Array Oper} {Q : SPost} {s : St} (h : TrL P r e ops ops.toList (Q .normal) s) : Tr P r e (.region id ops false) Q s :=
  fun γ a w hh => wpIn_region_list (h γ a w hh _ fun s' γ' a' w' hk hh' => ⟨trivial, s', γ', hk, hh'⟩)

/-! ### Weakening -/
theorem Holds.weaken {s t : St} {γ : Gh} {a : Act} {w : World} (h : Holds e s γ a w) (hL : ∀ p ∈ t.L, s.L.lookup p.1 = some p.2) (hM : t.M.Sublist s.M) (hF : ∀ f ∈ t.F, f ∈ s.F) (hD : t.D = s.D) : Holds e t γ a w where
  size := h.size
  slots i v hi := by
    have hm : (i, v) ∈ t.L := by
      have : ∀ (l : List (Nat × Value)), l.lookup i = some v → (i, v) ∈ l := by
        intro l
        induction l with
        | nil => intro h; simp at h
        | cons p l ih =>
          obtain ⟨k, u⟩ := p
          intro h
          rw [List.lookup_cons] at h
          split at h
          · rename_i hb; simp only [Option.some.injEq] at h; simp at hb; subst hb; subst h; exact List.mem_cons_self
          · exact List.mem_cons_of_mem _ (ih h)
      exact this _ hi
    exact h.slots i v (hL _ hm)
  defers := h.defers.trans hD.symm
  hm := ⟨fun c hc => h.hm.all c (hM.subset hc), h.hm.sep.sublist hM⟩
  own c hc := h.own c (hM.subset hc)
  facts f hf := h.facts f (hF f hf)
  fr := h.fr
  ok := h.ok

theorem Tr.weaken {c : Code} {Q : SPost} {s : St} (t : St) (hL : ∀ p ∈ t.L, s.L.lookup p.1 = some p.2) (hM : t.M.Sublist s.M) (hF : ∀ f ∈ t.F, f ∈ s.F) (hD : t.D = s.D) (h : Tr P r e c Q t) : Tr P r e c Q s :=
  fun γ a w hh => h γ a w (hh.weaken hL hM hF hD)
end
end Go.Proofs.Ytbeknohemgjfbaa.L
namespace Go.Proofs.Ytbeknohemgjfbaa.L
open Go
set_option linter.unusedVariables false

/-! ### Facts on types, each a closed reckoning -/
def aggD : TypeDesc → Bool
  | .struct _ | .array _ _ => true
  | _ => false
def tyOf (P : Program) (T : TypeId) : Option (Bool × Nat) :=
  match P.underlying T, P.info? T with
  | some d, some i => some (aggD d, i.size)
  | _, _ => none
def zeroOf (P : Program) (T : TypeId) : Option (List Value) :=
  match P.info? T with
  | some i => i.zero.map fun z => z.cells.toList
  | none => none
def fieldOff (P : Program) (S : TypeId) (f : Nat) : Option Nat :=
  match P.underlying S with
  | some (.struct fs) => match fs[f]? with
    | some fd => match P.info? fd.type with
      | some i => if i.size = 0 then none else some fd.offset
      | none => none
    | none => none
  | _ => none
def sliceOf (P : Program) (T : TypeId) : Option TypeId :=
  match P.underlying T with
  | some (.slice e) => some e
  | _ => none

section
variable {P : Program} {w : World}
theorem run_typeInfo' {t : TypeId} {i : TypeInfo} (h : P.info? t = some i) : (typeInfo t).run P w = .ok i w := by simp [typeInfo, h]
theorem run_und' {t : TypeId} {d : TypeDesc} (h : P.underlying t = some d) : (underlying t).run P w = .ok d w := by simp [underlying, h]

theorem tyOf_und {T : TypeId} {ag : Bool} {n : Nat} (h : tyOf P T = some (ag, n)) : ∃ d, P.underlying T = some d ∧ aggD d = ag := by
  unfold tyOf at h; split at h
  · rename_i d i hd hi; simp at h; exact ⟨d, hd, h.1⟩
  · cases h
theorem tyOf_info {T : TypeId} {ag : Bool} {n : Nat} (h : tyOf P T = some (ag, n)) : ∃ i, P.info? T = some i ∧ i.size = n := by
  unfold tyOf at h; split at h
  · rename_i d i hd hi; simp at h; exact ⟨i, hi, h.2⟩
  · cases h
theorem run_isAgg' {T : TypeId} {ag : Bool} {n : Nat} (h : tyOf P T = some (ag, n)) : (isAgg T).run P w = .ok ag w := by
  obtain ⟨d, hd, ha⟩ := tyOf_und h
  unfold isAgg
  rw [Sem.run_bind, run_und' hd]
  cases d <;> simp_all [aggD]
theorem run_sizeOf' {T : TypeId} {ag : Bool} {n : Nat} (h : tyOf P T = some (ag, n)) : (sizeOf T).run P w = .ok n w := by
  obtain ⟨i, hi, hn⟩ := tyOf_info h
  unfold sizeOf
  rw [Sem.run_bind, run_typeInfo' hi]
  simp [hn]
theorem run_zeroValue' {T : TypeId} {cs : List Value} (h : zeroOf P T = some cs) : ∃ z : Value, z.cells = cs.toArray ∧ (zeroValue T).run P w = .ok z w := by
  unfold zeroOf at h
  split at h
  · rename_i i hi
    cases hz : i.zero with
    | none => rw [hz] at h; cases h
    | some z =>
      rw [hz] at h
      simp at h
      refine ⟨z, by rw [← h], ?_⟩
      unfold zeroValue
      rw [Sem.run_bind, run_typeInfo' hi]
      simp only [Result.andThen, hz]
      rfl
  · cases h
theorem sliceOf_und {T E : TypeId} (h : sliceOf P T = some E) : P.underlying T = some (.slice E) := by
  unfold sliceOf at h; split at h
  · rename_i e he; simp at h; rw [he, h]
  · cases h
end

theorem add_off (b off j : Nat) : (⟨b, off, none⟩ : Addr).add j = ⟨b, off + j, none⟩ := by unfold Addr.add; split <;> simp_all

/-! ### An owned block of known cells -/
def cells (b : Nat) (c : List Value) (T : TypeId) : Chunk where
  fp := (· = b)
  p γ w := w.heap[b]? = some (.cells c.toArray T (0, 0)) ∧ γ b = 0
  lt := fun ⟨h, _⟩ hb => by subst hb; exact (Array.getElem?_eq_some_iff.1 h).1
  stable := fun hs _ ⟨h, g⟩ => ⟨(hs b rfl).1.trans h, (hs b rfl).2.trans g⟩

theorem cell_of_cells {γ : Gh} {w : World} {b : Nat} {c : List Value} {T : TypeId} (h : (cells b c T).p γ w) (j : Nat) : w.cell? ⟨b, j, none⟩ = c[j]? := by
  have := h.1
  simp [World.cell?, this]

def mkv (ag : Bool) (cs : List Value) : Value := if ag then .agg cs.toArray else cs.headD undef

/-- A variable of a type is loaded out of cells that are known. -/
theorem run_loadVar' {P : Program} {w : World} {T : TypeId} {ag : Bool} {n : Nat} (ht : tyOf P T = some (ag, n)) (hn : ag = false → n = 1) (a : Addr) (cs : List Value) (hl : cs.length = n) (hc : ∀ j v, cs[j]? = some v → w.cell? (a.add j) = some v) :
    (loadVar T a).run P w = .ok (mkv ag cs) w := by
  unfold loadVar
  rw [Sem.run_bind, run_isAgg' ht]
  cases ag with
  | true =>
    simp only [Result.andThen, if_true, Sem.run_bind, run_sizeOf' ht]
    subst hl
    rw [run_loadCells_list w a cs hc]
    simp [mkv]
  | false =>
    have h1 := hn rfl
    subst h1
    match cs, hl with
    | [v], _ =>
      have := hc 0 v rfl
      rw [show a.add 0 = a from by simp [Addr.add]] at this
      simp [mkv, this]

section
variable {P : Program} {r : Option Nat} {e : Env} {o : Oper} {Kn : St → Prop} {s : St}

theorem semAt_eq (r : Option Nat) (ρ : Operand → Value) (o : Oper) (h : ∀ c, o.op ≠ .defer c) : Oper.semAt r ρ o = execOp ρ o := by
  cases r with
  | none => rfl
  | some l => exact Oper.semAt_some l ρ o h

/-- An operation comes to a value and leaves the world. -/
structure OpV (P : Program) (e : Env) (o : Oper) (s : St) (v : Value) : Prop where
  nd : ∀ c, o.op ≠ .defer c
  run : ∀ γ a w, Holds e s γ a w → (execOp a.eval o).run P w = .ok (.value v) w

theorem bl {a b : Nat} (h : Nat.ble (a + 1) b = true) : a < b := Nat.le_of_ble_eq_true h

theorem OpTr.v {d : Nat} {v : Value} (hv : OpV P e o s v) (ho : o.dst = some d) (hN : d < e.N) (h : Kn (s.put d v)) : OpTr P r e o Kn s := by
  intro γ a w hh K Q hK
  refine ⟨fun f _ => fen_fn r f, ?_⟩
  rw [semAt_eq _ _ _ hv.nd, hv.run γ a w hh, Oper.uponIn_value, ho]
  exact hK _ γ _ _ h (hh.put d v hN)
theorem TrL.v {ops : Array Oper} {rest : List Oper} {d : Nat} {v : Value} (hv : OpV P e o s v) (hg : o.guard = none) (ho : o.dst = some d) (hN : d < e.N) (h : TrL P r e ops rest Kn (s.put d v)) : TrL P r e ops (o :: rest) Kn s :=
  TrL.cons hg (OpTr.v hv ho hN h)

theorem v_move {x : Operand} {v : Value} (hop : o.op = .move x) (hv : ev s.L x = some v) : OpV P e o s v :=
  ⟨(by rw [hop]; intro c; simp), (fun γ a w hh => by simp [execOp, hop, hh.eval hv])⟩
theorem v_assign {x : Operand} {v : Value} (hop : o.op = .assign x) (hv : ev s.L x = some v) : OpV P e o s v :=
  ⟨(by rw [hop]; intro c; simp), (fun γ a w hh => by simp [execOp, hop, hh.eval hv])⟩

/-! #### Whole numbers -/
def arith (op : BinOp) (k : IntKind) (a b : Int) : Option Value :=
  match op with
  | .add => some (.int k (k.wrap (a + b)))
  | .sub => some (.int k (k.wrap (a - b)))
  | .mul => some (.int k (k.wrap (a * b)))
  | .eql => some (.bool (a == b))
  | .neq => some (.bool (a != b))
  | .lss => some (.bool (decide (a < b)))
  | .leq => some (.bool (decide (a ≤ b)))
  | .gtr => some (.bool (decide (a > b)))
  | .geq => some (.bool (decide (a ≥ b)))
  | .and => some (.int k (k.wrap (BitVec.ofInt k.bits a &&& BitVec.ofInt k.bits b).toNat))
  | .or => some (.int k (k.wrap (BitVec.ofInt k.bits a ||| BitVec.ofInt k.bits b).toNat))
  | .xor => some (.int k (k.wrap (BitVec.ofInt k.bits a ^^^ BitVec.ofInt k.bits b).toNat))
  | .andNot => some (.int k (k.wrap (BitVec.ofInt k.bits a &&& ~~~ BitVec.ofInt k.bits b).toNat))
  | _ => none

theorem v_arith {op : BinOp} {T T' : TypeId} {x y : Operand} {k : IntKind} {a b : Int} {v : Value} (hop : o.op = .binOp op T x y T') (hx : ev s.L x = some (.int k a)) (hy : ev s.L y = some (.int k b)) (hv : arith op k a b = some v) : OpV P e o s v :=
  ⟨(by rw [hop]; intro c; simp), (fun γ a' w hh => by
    simp only [execOp, hop, hh.eval hx, hh.eval hy]
    cases op <;> simp [arith] at hv <;> subst hv <;> simp [eqGuard, binOp, Op.intArith, Op.intBits, Op.intCmp])⟩

/-- Quotient and rest by what is not 0. -/
theorem v_quo {T T' : TypeId} {x y : Operand} {k : IntKind} {a b : Int} (hop : o.op = .binOp .quo T x y T') (hx : ev s.L x = some (.int k a)) (hy : ev s.L y = some (.int k b)) (hb : b ≠ 0) : OpV P e o s (.int k (k.wrap (a.tdiv b))) :=
  ⟨(by rw [hop]; intro c; simp), (fun γ a' w hh => by
    simp only [execOp, hop, hh.eval hx, hh.eval hy]
    simp [eqGuard, binOp, Op.intDiv, hb])⟩
theorem v_rem {T T' : TypeId} {x y : Operand} {k : IntKind} {a b : Int} (hop : o.op = .binOp .rem T x y T') (hx : ev s.L x = some (.int k a)) (hy : ev s.L y = some (.int k b)) (hb : b ≠ 0) : OpV P e o s (.int k (a.tmod b)) :=
  ⟨(by rw [hop]; intro c; simp), (fun γ a' w hh => by
    simp only [execOp, hop, hh.eval hx, hh.eval hy]
    simp [eqGuard, binOp, Op.intDiv, hb])⟩
theorem v_shl {T T' : TypeId} {x y : Operand} {k k' : IntKind} {a b : Int} (hop : o.op = .binOp .shl T x y T') (hx : ev s.L x = some (.int k a)) (hy : ev s.L y = some (.int k' b)) (hb : 0 ≤ b) : OpV P e o s (.int k (k.wrap (a * 2 ^ (min b.toNat k.bits)))) :=
  ⟨(by rw [hop]; intro c; simp), (fun γ a' w hh => by
    simp only [execOp, hop, hh.eval hx, hh.eval hy]
    simp [eqGuard, binOp, Op.shift, Int.not_lt.2 hb])⟩
theorem v_shr {T T' : TypeId} {x y : Operand} {k k' : IntKind} {a b : Int} (hop : o.op = .binOp .shr T x y T') (hx : ev s.L x = some (.int k a)) (hy : ev s.L y = some (.int k' b)) (hb : 0 ≤ b) : OpV P e o s (.int k (a.fdiv (2 ^ (min b.toNat k.bits)))) :=
  ⟨(by rw [hop]; intro c; simp), (fun γ a' w hh => by
    simp only [execOp, hop, hh.eval hx, hh.eval hy]
    simp [eqGuard, binOp, Op.shift, Int.not_lt.2 hb])⟩

/-! #### Bools -/
theorem v_not {T : TypeId} {x : Operand} {b : Bool} (hop : o.op = .unOp .not T x) (hx : ev s.L x = some (.bool b)) : OpV P e o s (.bool (!b)) :=
  ⟨(by rw [hop]; intro c; simp), (fun γ a w hh => by simp [execOp, hop, hh.eval hx, Op.unary])⟩
theorem run_equal_bool {T : TypeId} (hT : P.underlying T = some .bool) (a b : Bool) (w : World) : (Op.equal T (.bool a) (.bool b)).run P w = .ok (a == b) w := by
  have : ∀ d, (Op.equalIn (d + 1) T (.bool a) (.bool b)).run P w = .ok (a == b) w := by
    intro d
    simp only [Op.equalIn, Sem.run_bind, run_und' hT, Result.andThen, Sem.run_pure]
  exact this 9999
theorem v_eqb {T T' : TypeId} {x y : Operand} {a b : Bool} (hop : o.op = .binOp .eql T x y T') (hT : P.underlying T = some .bool) (hx : ev s.L x = some (.bool a)) (hy : ev s.L y = some (.bool b)) : OpV P e o s (.bool (a == b)) :=
  ⟨(by rw [hop]; intro c; simp), (fun γ a' w hh => by
    simp only [execOp, hop, hh.eval hx, hh.eval hy, eqGuard, binOp, Sem.run_bind, run_equal_bool hT]
    simp)⟩
theorem v_neb {T T' : TypeId} {x y : Operand} {a b : Bool} (hop : o.op = .binOp .neq T x y T') (hT : P.underlying T = some .bool) (hx : ev s.L x = some (.bool a)) (hy : ev s.L y = some (.bool b)) : OpV P e o s (.bool (!(a == b))) :=
  ⟨(by rw [hop]; intro c; simp), (fun γ a' w hh => by
    simp only [execOp, hop, hh.eval hx, hh.eval hy, eqGuard, binOp, Sem.run_bind, run_equal_bool hT]
    simp)⟩
theorem v_pick_t {c x y : Operand} {b : Bool} {v : Value} (hop : o.op = .pick c x y) (hc : ev s.L c = some (.bool b)) (hb : b = true) (hv : ev s.L x = some v) : OpV P e o s v :=
  ⟨(by rw [hop]; intro c; simp), (fun γ a w hh => by simp [execOp, hop, hh.eval hc, hb, asBool, hh.eval hv])⟩
theorem v_pick_f {c x y : Operand} {b : Bool} {v : Value} (hop : o.op = .pick c x y) (hc : ev s.L c = some (.bool b)) (hb : b = false) (hv : ev s.L y = some v) : OpV P e o s v :=
  ⟨(by rw [hop]; intro c; simp), (fun γ a w hh => by simp [execOp, hop, hh.eval hc, hb, asBool, hh.eval hv])⟩

/-! #### Others that only compute -/
theorem v_conv {T T' : TypeId} {x : Operand} {k k' : IntKind} {n : Int} (hop : o.op = .convert T T' x) (hT : ∃ t, P.underlying T = some t) (hT' : P.underlying T' = some (.int k')) (hx : ev s.L x = some (.int k n)) : OpV P e o s (.int k' (k'.wrap n)) :=
  ⟨(by rw [hop]; intro c; simp), (fun γ a w hh => by
    obtain ⟨t, ht⟩ := hT
    simp [execOp, hop, hh.eval hx, convert, run_und' ht, run_und' hT', Conv.intToInt])⟩
theorem v_extract {i : Nat} {x : Operand} {vs : Array Value} {v : Value} (hop : o.op = .extract x i) (hx : ev s.L x = some (.tuple vs)) (hv : vs[i]? = some v) : OpV P e o s v :=
  ⟨(by rw [hop]; intro c; simp), (fun γ a w hh => by simp [execOp, hop, hh.eval hx, Instr.extract, hv])⟩
theorem v_nilCheck {x : Operand} {a : Addr} (hop : o.op = .nilCheck x) (hx : ev s.L x = some (.pointer (some a))) : OpV P e o s (.pointer (some a)) :=
  ⟨(by rw [hop]; intro c; simp), (fun γ a' w hh => by simp [execOp, hop, hh.eval hx])⟩
theorem v_len {x : Operand} {T : TypeId} {E : TypeId} {A : Option Addr} {n c : Nat} (hop : o.op = .call { callee := .builtin .len, args := #[x], argTypes := #[T] }) (hT : sliceOf P T = some E) (hx : ev s.L x = some (.slice A n c)) : OpV P e o s (.int .i64 n) :=
  ⟨(by rw [hop]; intro c; simp), (fun γ a w hh => by
    simp [execOp, hop, hh.eval hx, resolve, invoke, builtin, Builtin.len_, run_und' (sliceOf_und hT), goInt])⟩
theorem v_fieldAddr {f off o' : Nat} {S : TypeId} {x : Operand} {b : Nat} (hop : o.op = .fieldAddr S x f) (hf : fieldOff P S f = some o') (hx : ev s.L x = some (.pointer (some ⟨b, off, none⟩))) : OpV P e o s (.pointer (some ⟨b, off + o', none⟩)) :=
  ⟨(by rw [hop]; intro c; simp), (fun γ a w hh => by
    unfold fieldOff at hf
    split at hf
    · rename_i fs hfs
      split at hf
      · rename_i fd hfd
        split at hf
        · rename_i i hi
          split at hf
          · cases hf
          · rename_i hsz
            simp only [Option.some.injEq] at hf
            simp [execOp, hop, hh.eval hx, Instr.fieldAt, run_und' hfs, hfd, Instr.sureAddr, fieldPlace, sizeOf, run_typeInfo' hi, hsz, add_off, hf]
        · cases hf
      · cases hf
    · cases hf)⟩
theorem v_makeFunc {fn : Fn} {xs : Array Operand} {vs : List Value} (hop : o.op = .makeFunc fn #[] xs) (hx : xs.toList.map (ev s.L) = vs.map some) : OpV P e o s (.func fn #[] vs.toArray) :=
  ⟨(by rw [hop]; intro c; simp), (fun γ a w hh => by
    have : xs.map a.eval = vs.toArray := by
      apply Array.ext'
      simp only [Array.toList_map]
      have hm : ∀ (l : List Operand) (us : List Value), l.map (ev s.L) = us.map some → l.map a.eval = us := by
        intro l
        induction l with
        | nil => intro us h; cases us <;> simp_all
        | cons y l ih =>
          intro us h
          cases us with
          | nil => simp at h
          | cons u us => simp only [List.map_cons, List.cons.injEq] at h; simp [hh.eval h.1, ih us h.2]
      exact hm _ _ hx
    simp [execOp, hop, Instr.makeFunc, this])⟩
end
end Go.Proofs.Ytbeknohemgjfbaa.L
namespace Go.Proofs.Ytbeknohemgjfbaa.L
open Go Go.Proofs.Ytbeknohemgjfbaa.Pu
set_option linter.unusedVariables false

/-- How data of a type stand in cells. -/
structure Rep (α : Type) where
  sz : Nat
  R : Gh → World → α → List Value → Prop
  len : ∀ {γ w x cs}, R γ w x cs → cs.length = sz
  one : ∀ {γ w x cs}, R γ w x cs → ∀ v ∈ cs, v.oneCell' = true
  mono : ∀ {γ w γ' w'}, Le γ w γ' w' → ∀ {x cs}, R γ w x cs → R γ' w' x cs

/-- Data whose cells are written out: no memory behind them. -/
def ground {α : Type} (sz : Nat) (g : α → List Value) (hl : ∀ x, (g x).length = sz) (h1 : ∀ x, ∀ v ∈ g x, v.oneCell' = true) : Rep α where
  sz := sz
  R _ _ x cs := cs = g x
  len := fun h => by rw [h]; exact hl _
  one := fun h => by rw [h]; exact h1 _
  mono := fun _ _ _ h => h
def rInt (k : IntKind) : Rep Int := ground 1 (fun x => [.int k x]) (fun _ => rfl) (fun x v hv => by simp at hv; subst hv; rfl)
def rBool : Rep Bool := ground 1 (fun x => [.bool x]) (fun _ => rfl) (fun x v hv => by simp at hv; subst hv; rfl)
def rStr : Rep ByteArray := ground 1 (fun x => [.string x]) (fun _ => rfl) (fun x v hv => by simp at hv; subst hv; rfl)

section
variable {α : Type}
/-- A row of elements. -/
inductive Row (r : Rep α) (γ : Gh) (w : World) : List α → List Value → Prop
  | nil : Row r γ w [] []
  | cons {x : α} {xs : List α} {cs ds : List Value} (h : r.R γ w x cs) (t : Row r γ w xs ds) : Row r γ w (x :: xs) (cs ++ ds)

variable {r : Rep α} {γ γ' : Gh} {w w' : World} {xs ys : List α} {cs ds : List Value}
theorem Row.len (h : Row r γ w xs ds) : ds.length = xs.length * r.sz := by
  induction h with
  | nil => simp
  | cons hx _ ih => simp [ih, r.len hx, Nat.add_mul, Nat.add_comm]
theorem Row.one (h : Row r γ w xs ds) : ∀ v ∈ ds, v.oneCell' = true := by
  induction h with
  | nil => simp
  | cons hx _ ih => intro v hv; rcases List.mem_append.1 hv with h | h; exact r.one hx v h; exact ih v h
theorem Row.mono (hle : Le γ w γ' w') (h : Row r γ w xs ds) : Row r γ' w' xs ds := by
  induction h with
  | nil => exact .nil
  | cons hx _ ih => exact .cons (r.mono hle hx) ih
theorem Row.append (h : Row r γ w xs cs) (k : Row r γ w ys ds) : Row r γ w (xs ++ ys) (cs ++ ds) := by
  induction h with
  | nil => exact k
  | cons hx _ ih => rw [List.cons_append, List.append_assoc]; exact .cons hx ih
theorem Row.single {x : α} (h : r.R γ w x cs) : Row r γ w [x] cs := by
  have := Row.cons h (Row.nil (r := r) (γ := γ) (w := w)); rwa [List.append_nil] at this
theorem Row.get (h : Row r γ w xs ds) : ∀ {i : Nat} {x : α}, xs[i]? = some x → ∃ cs, r.R γ w x cs ∧ (ds.drop (i * r.sz)).take r.sz = cs := by
  induction h with
  | nil => intro i x h; simp at h
  | cons hx _ ih =>
    intro i x hi
    cases i with
    | zero =>
      simp at hi; subst hi
      exact ⟨_, hx, by simp [← r.len hx]⟩
    | succ i =>
      simp at hi
      obtain ⟨cs, h1, h2⟩ := ih hi
      refine ⟨cs, h1, ?_⟩
      rw [← h2, Nat.add_mul, Nat.one_mul, Nat.add_comm, ← List.drop_drop, List.drop_left' (r.len hx)]
theorem Row.drop (h : Row r γ w xs ds) : ∀ k, Row r γ w (xs.drop k) (ds.drop (k * r.sz)) := by
  induction h with
  | nil => intro k; simpa using Row.nil
  | cons hx ht ih =>
    intro k
    cases k with
    | zero => simpa using Row.cons hx ht
    | succ k =>
      rw [List.drop_succ_cons, show (k + 1) * r.sz = r.sz + k * r.sz by rw [Nat.add_mul, Nat.one_mul, Nat.add_comm], ← List.drop_drop, List.drop_left' (r.len hx)]
      exact ih k
theorem Row.take (h : Row r γ w xs ds) : ∀ k, Row r γ w (xs.take k) (ds.take (k * r.sz)) := by
  induction h with
  | nil => intro k; simpa using Row.nil
  | cons hx ht ih =>
    intro k
    cases k with
    | zero => simpa using Row.nil
    | succ k =>
      rw [show (k + 1) * r.sz = r.sz + k * r.sz by rw [Nat.add_mul, Nat.one_mul, Nat.add_comm], ← r.len hx, List.take_length_add_append, r.len hx, List.take_succ_cons]
      exact .cons hx (ih k)
end

abbrev big : Nat := 140737488355328
abbrev top : Nat := 9223372036854775807

/-- What a slice's head reads as. -/
structure SlP {α : Type} (r : Rep α) (γ : Gh) (w : World) (A : Option Addr) (c : Nat) (xs : List α) : Prop where
  le : xs.length ≤ c
  bd : xs.length ≤ top
  nil : A = none → xs = []
  row : ∀ a, A = some a → (xs ≠ [] → a.spot = none) ∧ ∃ ds, Row r γ w xs ds ∧ ∀ j v, ds[j]? = some v → w.cell? ⟨a.block, a.off + j, none⟩ = some v ∧ a.off + j < γ a.block

theorem SlP.mono {α : Type} {r : Rep α} {γ γ' : Gh} {w w' : World} {A : Option Addr} {c : Nat} {xs : List α} (hle : Le γ w γ' w') (h : SlP r γ w A c xs) : SlP r γ' w' A c xs :=
  ⟨h.le, h.bd, h.nil, fun a ha => by
    obtain ⟨hs, ds, hr, hc⟩ := h.row a ha
    exact ⟨hs, ds, hr.mono hle, fun j v hv => by
      obtain ⟨h1, h2⟩ := hc j v hv
      exact ⟨(hle.cell _ _ h2).trans h1, Nat.lt_of_lt_of_le h2 (hle.up _)⟩⟩⟩
theorem SlP.empty {α : Type} (r : Rep α) (γ : Gh) (w : World) : SlP r γ w none 0 [] := ⟨by simp, by simp, fun _ => rfl, fun a ha => by cases ha⟩

/-- The fact that a slice reads so. -/
def slF {α : Type} (r : Rep α) (A : Option Addr) (c : Nat) (xs : List α) : Fact := ⟨fun γ w => SlP r γ w A c xs, fun hle h => h.mono hle⟩

/-- Slices as elements. -/
def rSl {α : Type} (r : Rep α) : Rep (List α) where
  sz := 1
  R γ w xs cs := ∃ A c, cs = [.slice A xs.length c] ∧ SlP r γ w A c xs
  len := fun ⟨_, _, h, _⟩ => by rw [h]; rfl
  one := fun ⟨_, _, h, _⟩ v hv => by rw [h] at hv; simp at hv; subst hv; rfl
  mono := fun hle _ _ ⟨A, c, h, k⟩ => ⟨A, c, h, k.mono hle⟩

/-- Two parts, one behind the other. -/
def rPair {α β : Type} (a : Rep α) (b : Rep β) : Rep (α × β) where
  sz := a.sz + b.sz
  R γ w x cs := ∃ c1 c2, cs = c1 ++ c2 ∧ a.R γ w x.1 c1 ∧ b.R γ w x.2 c2
  len := fun ⟨_, _, h, h1, h2⟩ => by rw [h, List.length_append, a.len h1, b.len h2]
  one := fun ⟨_, _, h, h1, h2⟩ v hv => by
    rw [h] at hv
    rcases List.mem_append.1 hv with q | q
    · exact a.one h1 v q
    · exact b.one h2 v q
  mono := fun hle _ _ ⟨c1, c2, h, h1, h2⟩ => ⟨c1, c2, h, a.mono hle h1, b.mono hle h2⟩

def ablk (A : Option Addr) : Nat := (A.map (·.block)).getD 0
def aoff (A : Option Addr) : Nat := (A.map (·.off)).getD 0

section
variable {P : Program} {r : Option Nat} {e : Env} {o : Oper} {Kn : St → Prop} {s : St} {γ γ' : Gh} {w w' : World} {a : Act}

theorem Chunk.keep {X : Nat → Prop} (c : Chunk) (hp : c.p γ w) (hX : ∀ b, c.fp b → ¬ X b) (fr : Fr X γ w γ' w') : c.p γ' w' :=
  c.stable (fun b hb => ⟨fr.block b (c.lt hp hb) (hX b hb), fr.gh b (c.lt hp hb) (hX b hb)⟩) fr.le hp

/-- A step of the world that touches the blocks X alone. -/
theorem Holds.step {X : Nat → Prop} {M' : List Chunk} (h : Holds e s γ a w) (fr : Fr X γ w γ' w') (hX : ∀ b, X b → e.bs b ∨ e.w0.heap.size ≤ b) (hm : HM γ' w' M') (ho : ∀ c ∈ M', ∀ b, c.fp b → e.bs b ∨ e.w0.heap.size ≤ b) (hok : GhOk γ' w') :
    Holds e { s with M := M' } γ' a w' where
  size := h.size
  slots := h.slots
  defers := h.defers
  hm := hm
  own := ho
  facts f hf := f.mono fr.le (h.facts f hf)
  fr := h.fr.trans fr fun b hb hx => (hX b hx).resolve_right (by omega)
  ok := hok

theorem Holds.addF {f : Fact} (h : Holds e s γ a w) (hf : f.p γ w) : Holds e { s with F := s.F ++ [f] } γ a w where
  size := h.size
  slots := h.slots
  defers := h.defers
  hm := h.hm
  own := h.own
  facts g hg := by rcases List.mem_append.1 hg with q | q; exact h.facts g q; simp at q; subst q; exact hf
  fr := h.fr
  ok := h.ok

theorem HM.keep {X : Nat → Prop} {M : List Chunk} (h : HM γ w M) (fr : Fr X γ w γ' w') (hX : ∀ c ∈ M, ∀ b, c.fp b → ¬ X b) : HM γ' w' M :=
  ⟨fun c hc => c.keep (h.all c hc) (hX c hc) fr, h.sep⟩

theorem HM.cons {M : List Chunk} {c : Chunk} (h : HM γ w M) (hc : c.p γ w) (hd : ∀ d ∈ M, ∀ b, c.fp b → ¬ d.fp b) : HM γ w (c :: M) :=
  ⟨fun d hd' => by rcases List.mem_cons.1 hd' with q | q; (subst q; exact hc); exact h.all d q, List.pairwise_cons.2 ⟨hd, h.sep⟩⟩

/-- Chunk k gives way to one of the same blocks. -/
theorem HM.set {M : List Chunk} {k : Nat} {c c' : Chunk} (h : HM γ w M) (hk : M[k]? = some c) (fr : Fr c.fp γ w γ' w') (hc' : c'.p γ' w') (hfp : ∀ b, c'.fp b → c.fp b ∨ w.heap.size ≤ b) : HM γ' w' (M.set k c') := by
  have hlt : k < M.length := (List.getElem?_eq_some_iff.1 hk).1
  have hkc : M[k] = c := (List.getElem?_eq_some_iff.1 hk).2
  have hsep := List.pairwise_iff_getElem.1 h.sep
  have other : ∀ i (hi : i < M.length), i ≠ k → ∀ b, M[i].fp b → ¬ c.fp b := by
    intro i hi hne b hb hcb
    rcases Nat.lt_or_ge i k with q | q
    · exact hsep i k hi hlt q b hb (by rw [hkc]; exact hcb)
    · exact hsep k i hlt hi (by omega) b (by rw [hkc]; exact hcb) hb
  refine ⟨?_, ?_⟩
  · intro d hd
    obtain ⟨i, hi, rfl⟩ := List.getElem_of_mem hd
    rw [List.getElem_set]
    split
    · exact hc'
    · rename_i hne
      have hi' : i < M.length := by simpa using hi
      exact (M[i]).keep (h.all _ (List.getElem_mem hi')) (other i hi' (fun q => hne q.symm)) fr
  · rw [List.pairwise_iff_getElem]
    intro i j hi hj hij b
    have hi' : i < M.length := by simpa using hi
    have hj' : j < M.length := by simpa using hj
    rw [List.getElem_set, List.getElem_set]
    split
    · rename_i hki
      subst hki
      rw [if_neg (by omega)]
      intro hb hjb
      rcases hfp b hb with q | q
      · exact other j hj' (by omega) b hjb q
      · exact absurd (Chunk.lt _ (h.all _ (List.getElem_mem hj')) hjb) (by omega)
    · rename_i hki
      split
      · rename_i hkj
        subst hkj
        intro hib hb
        rcases hfp b hb with q | q
        · exact other i hi' (by omega) b hib q
        · exact absurd (Chunk.lt _ (h.all _ (List.getElem_mem hi')) hib) (by omega)
      · exact hsep i j hi' hj' hij b

/-! ### A new block -/
def upd (γ : Gh) (b n : Nat) : Gh := fun x => if x = b then n else γ x
theorem upd_same (γ : Gh) (b n : Nat) : upd γ b n b = n := by simp [upd]
theorem upd_other (γ : Gh) {b x : Nat} (n : Nat) (h : x ≠ b) : upd γ b n x = γ x := by simp [upd, h]

theorem frozen_row {c c' : Array Value} {T : TypeId} {b : Nat} (h : w.heap[b]? = some (.cells c T (0, 0))) (a : Addr) : (w.setRow b c').frozen? a = w.frozen? a := by
  by_cases hb : a.block = b
  · subst hb
    simp only [World.frozen?, h, setRow_heap w a.block c c' T (0, 0) h]
  · simp only [World.frozen?, setRow_other w b a.block _ hb]
theorem Fr.alloc (hok : GhOk γ w) (cs : Array Value) (T : TypeId) (n : Nat) : Fr (fun _ => False) γ w (upd γ w.heap.size n) (w.alloc (.cells cs T)) where
  le := ⟨by simp, fun b => by by_cases h : b = w.heap.size <;> simp [upd, h, hok w.heap.size (Nat.le_refl _)], fun b j hj => by
    have : b < w.heap.size := by
      rcases Nat.lt_or_ge b w.heap.size with q | q
      · exact q
      · rw [hok b q] at hj; omega
    exact World.cell?_alloc_lt w _ _ this⟩
  os := rfl
  tape := rfl
  output := rfl
  block b hb _ := by simp only [World.alloc, Array.getElem?_push]; rw [if_neg (by omega)]
  gh b hb _ := upd_other _ _ (by omega)

theorem GhOk.alloc (hok : GhOk γ w) (o : Obj) (n : Nat) : GhOk (upd γ w.heap.size n) (w.alloc o) := fun b hb => by
  simp at hb
  rw [upd_other _ _ (by omega)]
  exact hok b (by omega)

theorem upd_self_ok (hok : GhOk γ w) : upd γ w.heap.size 0 = γ := by
  funext b
  by_cases h : b = w.heap.size
  · subst h; rw [upd_same, hok _ (Nat.le_refl _)]
  · exact upd_other _ _ h

/-- A block of known cells is laid. -/
theorem Holds.new (h : Holds e s γ a w) (cs : List Value) (T : TypeId) : Holds e { s with M := cells w.heap.size cs T :: s.M } γ a (w.alloc (.cells cs.toArray T)) := by
  have fr : Fr (fun _ => False) γ w γ (w.alloc (.cells cs.toArray T)) := by
    have := Fr.alloc h.ok cs.toArray T 0
    rwa [upd_self_ok h.ok] at this
  have hsz : e.w0.heap.size ≤ w.heap.size := h.fr.le.size
  refine h.step fr (fun b hb => hb.elim) ?_ ?_ ?_
  · refine (h.hm.keep fr (fun _ _ _ _ q => q)).cons ⟨heap_alloc_new w _, h.ok _ (Nat.le_refl _)⟩ ?_
    · intro d hd b hb hdb
      have : b = w.heap.size := hb
      have := d.lt (h.hm.all d hd) hdb
      omega
  · intro c hc b hb
    rcases List.mem_cons.1 hc with q | q
    · subst q
      have : b = w.heap.size := hb
      exact .inr (by omega)
    · exact h.own c q b hb
  · have := h.ok.alloc (.cells cs.toArray T) 0
    rwa [upd_self_ok h.ok] at this

theorem op_alloc {d : Nat} {T : TypeId} {cs : List Value} (ho : o.dst = some d) (hN : d < e.N) (hop : o.op = .alloc T) (hz : zeroOf P T = some cs)
    (h : ∀ b, Kn (({ s with M := cells b cs T :: s.M } : St).put d (.pointer (some ⟨b, 0, none⟩)))) : OpTr P r e o Kn s := by
  intro γ a w hh K Q hK
  refine ⟨fun f _ => fen_fn r f, ?_⟩
  obtain ⟨z, hz1, hz2⟩ := run_zeroValue' (w := w) hz
  have hrun : (execOp a.eval o).run P w = .ok (.value (.pointer (some ⟨w.heap.size, 0, none⟩))) (w.alloc (.cells cs.toArray T)) := by
    simp only [execOp, hop, Instr.alloc, Sem.run_bind, hz2, Result.andThen, newVar, newRow, run_newObj, hz1, Sem.run_pure]
    rfl
  rw [semAt_eq _ _ _ (by rw [hop]; intro c; simp), hrun, Oper.uponIn_value, ho]
  exact hK _ γ _ _ (h w.heap.size) ((hh.new cs T).put d _ hN)

theorem op_box {d : Nat} {T : TypeId} {x : Operand} {v : Value} (ho : o.dst = some d) (hN : d < e.N) (hop : o.op = .box T x) (hx : ev s.L x = some v)
    (h : ∀ b, Kn (({ s with M := cells b v.cells.toList T :: s.M } : St).put d (.pointer (some ⟨b, 0, none⟩)))) : OpTr P r e o Kn s := by
  intro γ a w hh K Q hK
  refine ⟨fun f _ => fen_fn r f, ?_⟩
  have hrun : (execOp a.eval o).run P w = .ok (.value (.pointer (some ⟨w.heap.size, 0, none⟩))) (w.alloc (.cells v.cells.toList.toArray T)) := by
    simp only [execOp, hop, Instr.box, Sem.run_bind, hh.eval hx, Result.andThen, newVar, newRow, run_newObj, Sem.run_pure]
    rfl
  rw [semAt_eq _ _ _ (by rw [hop]; intro c; simp), hrun, Oper.uponIn_value, ho]
  exact hK _ γ _ _ (h w.heap.size) ((hh.new v.cells.toList T).put d _ hN)

/-! ### Loads and stores at an owned block -/
theorem v_load {k b off n : Nat} {T Tb : TypeId} {x : Operand} {ag : Bool} {c : List Value} {v : Value} (hop : o.op = .load T x) (hx : ev s.L x = some (.pointer (some ⟨b, off, none⟩)))
    (hk : s.M[k]? = some (cells b c Tb)) (ht : tyOf P T = some (ag, n)) (hn : ag = false → n = 1) (hl : ((c.drop off).take n).length = n) (hv : mkv ag ((c.drop off).take n) = v) : OpV P e o s v :=
  ⟨(by rw [hop]; intro c; simp), (fun γ a w hh => by
    have hc := hh.hm.all _ (List.mem_of_getElem? hk)
    have := run_loadVar' (w := w) ht hn ⟨b, off, none⟩ ((c.drop off).take n) hl (fun j u hu => by
      rw [add_off, cell_of_cells hc]
      rw [List.getElem?_take] at hu
      split at hu
      · rwa [List.getElem?_drop] at hu
      · cases hu)
    simp only [execOp, hop, hh.eval hx, Instr.loadAt, Instr.sureAddr, Sem.run_bind, Sem.run_pure, Result.andThen, this, hv])⟩

def spl (c : List Value) (off : Nat) (cs : List Value) : List Value := c.take off ++ cs ++ c.drop (off + cs.length)

theorem Fr.setRow {b : Nat} {c : List Value} {T : TypeId} (h : (cells b c T).p γ w) (c' : List Value) : Fr (· = b) γ w γ (w.setRow b c'.toArray) where
  le := ⟨by simp, fun _ => Nat.le_refl _, fun x j hj => by
    have hne : x ≠ b := fun q => by subst q; rw [h.2] at hj; omega
    simp only [World.cell?]
    rw [setRow_other w b x _ hne]⟩
  os := rfl
  tape := rfl
  output := rfl
  block x _ hx := setRow_other w b x _ hx
  gh _ _ _ := rfl

theorem op_store {k b off n : Nat} {T Tb : TypeId} {x y : Operand} {ag : Bool} {c c' : List Value} {v : Value} (ho : o.dst = none) (hop : o.op = .store T x y) (hx : ev s.L x = some (.pointer (some ⟨b, off, none⟩))) (hy : ev s.L y = some v)
    (hk : s.M[k]? = some (cells b c Tb)) (ht : tyOf P T = some (ag, n)) (hl : v.cells.toList.length = n) (hfit : off + n ≤ c.length) (h1 : ∀ u ∈ v.cells.toList, u.oneCell' = true) (hc' : spl c off v.cells.toList = c')
    (h : Kn { s with M := s.M.set k (cells b c' Tb) }) : OpTr P r e o Kn s := by
  intro γ a w hh K Q hK
  refine ⟨fun f _ => fen_fn r f, ?_⟩
  have hc := hh.hm.all _ (List.mem_of_getElem? hk)
  have hst := run_storeCells_at P b off Tb v.cells.toList 0 c.toArray w hc.1 (by simp only [Nat.add_zero, List.size_toArray]; rw [hl]; exact hfit) h1
  simp only [Nat.add_zero] at hst
  have hrow : (c.toArray.toList.take off ++ v.cells.toList ++ c.toArray.toList.drop (off + v.cells.toList.length)) = c' := by rw [← hc']; rfl
  rw [hrow] at hst
  have hrun : (execOp a.eval o).run P w = .ok .skip (w.setRow b c'.toArray) := by
    have hsz : v.cells.size = n := by rw [← hl]; simp
    simp only [execOp, hop, hh.eval hx, hh.eval hy, Instr.storeAt, Instr.sureAddr, storeVar, Sem.run_bind, Sem.run_pure, Result.andThen, run_sizeOf' ht, hsz, ne_eq, not_true, if_false, hst]
  rw [semAt_eq _ _ _ (by rw [hop]; intro c; simp), hrun, Oper.uponIn_skip, ho]
  have fr := Fr.setRow hc c'
  refine hK _ γ _ _ h (hh.step fr ?_ ?_ ?_ ?_)
  · intro x hx'
    exact hh.own _ (List.mem_of_getElem? hk) x hx'
  · exact hh.hm.set hk fr ⟨setRow_heap w b c.toArray c'.toArray Tb (0, 0) hc.1, hc.2⟩ (fun x hx' => .inl hx')
  · intro d hd x hx'
    rcases List.mem_or_eq_of_mem_set hd with q | q
    · exact hh.own d q x hx'
    · subst q; exact hh.own _ (List.mem_of_getElem? hk) x hx'
  · intro x hx'
    exact hh.ok x (by simpa using hx')

/-! ### Elements of slices that are read -/
theorem SlP.addr {α : Type} {rp : Rep α} {A : Option Addr} {c : Nat} {xs : List α} (h : SlP rp γ w A c xs) {i : Nat} {x : α} (hi : xs[i]? = some x) : A = some ⟨ablk A, aoff A, none⟩ := by
  cases A with
  | none => rw [h.nil rfl] at hi; simp at hi
  | some a =>
    have hs := (h.row a rfl).1 (fun q => by rw [q] at hi; simp at hi)
    obtain ⟨b, off, sp⟩ := a
    simp at hs
    subst hs
    rfl

theorem v_indexAddr {α : Type} {rp : Rep α} {k n c m : Nat} {T E : TypeId} {x y : Operand} {kd : IntKind} {i : Int} {ag : Bool} {A : Option Addr} {xs : List α} {z : α} (hop : o.op = .indexAddr T x y)
    (hT : sliceOf P T = some E) (ht : tyOf P E = some (ag, n)) (hx : ev s.L x = some (.slice A m c)) (hm : m = xs.length) (hy : ev s.L y = some (.int kd i)) (hk : s.F[k]? = some (slF rp A c xs)) (hi : rdo xs i = some z) : OpV P e o s (.pointer (some ⟨ablk A, aoff A + i.toNat * n, none⟩)) :=
  ⟨(by rw [hop]; intro c; simp), (fun γ a w hh => by
    obtain ⟨h0, h1, h2⟩ := rdo_some hi
    have hf : SlP rp γ w A c xs := hh.facts _ (List.mem_of_getElem? hk)
    have hA := hf.addr h2
    have hx' := hh.eval hx
    rw [hA] at hx'
    subst hm
    simp only [execOp, hop, hx', hh.eval hy, Instr.indexAt, asIntOf, Sem.run_bind, Sem.run_pure, Result.andThen, run_und' (sliceOf_und hT)]
    simp [h0, h1, run_sizeOf' ht, add_off])⟩

/-- Out of an element whose cells are written out (the whole of it, or a part that begins at cell j). -/
theorem v_loadg {α : Type} {g : α → List Value} {sz : Nat} {hl1 : ∀ x, (g x).length = sz} {h1 : ∀ x, ∀ v ∈ g x, v.oneCell' = true} {k n c j : Nat} {T : TypeId} {x : Operand} {i : Int} {ag : Bool} {A : Option Addr} {xs : List α} {z : α} {v : Value} (hop : o.op = .load T x)
    (ht : tyOf P T = some (ag, n)) (hn : ag = false → n = 1) (hx : ev s.L x = some (.pointer (some ⟨ablk A, aoff A + i.toNat * sz + j, none⟩))) (hk : s.F[k]? = some (slF (ground sz g hl1 h1) A c xs)) (hi : rdo xs i = some z)
    (hl : (((g z).drop j).take n).length = n) (hv : mkv ag (((g z).drop j).take n) = v) : OpV P e o s v :=
  ⟨(by rw [hop]; intro c; simp), (fun γ a w hh => by
    obtain ⟨h0, h1', h2⟩ := rdo_some hi
    have hf : SlP (ground sz g hl1 h1) γ w A c xs := hh.facts _ (List.mem_of_getElem? hk)
    have hA := hf.addr h2
    obtain ⟨_, ds, hr, hc⟩ := hf.row _ hA
    obtain ⟨cs, hcs, hds⟩ := hr.get h2
    have hcs' : cs = g z := hcs
    subst hcs'
    have := run_loadVar' (w := w) ht hn ⟨ablk A, aoff A + i.toNat * sz + j, none⟩ (((g z).drop j).take n) hl (fun q u hu => by
      rw [add_off]
      rw [List.getElem?_take] at hu
      split at hu
      · rw [List.getElem?_drop] at hu
        rw [← hds, List.getElem?_take] at hu
        split at hu
        · rw [List.getElem?_drop] at hu
          have := (hc _ _ hu).1
          simp only [ground] at this
          rw [show aoff A + i.toNat * sz + j + q = aoff A + (i.toNat * sz + (j + q)) by omega]
          exact this
        · cases hu
      · cases hu)
    simp only [execOp, hop, hh.eval hx, Instr.loadAt, Instr.sureAddr, Sem.run_bind, Sem.run_pure, Result.andThen, this, hv])⟩

/-- A sealed cell that is known. -/
def cellF (a : Addr) (v : Value) : Fact := ⟨fun γ w => w.cell? a = some v ∧ a.spot = none ∧ a.off < γ a.block, fun {γ w γ' w'} hle h => by
  obtain ⟨b, off, sp⟩ := a
  obtain ⟨h1, h2, h3⟩ := h
  simp only at h2
  subst h2
  exact ⟨(hle.cell _ _ h3).trans h1, rfl, Nat.lt_of_lt_of_le h3 (hle.up _)⟩⟩

theorem v_loadF {k : Nat} {T : TypeId} {x : Operand} {ad : Addr} {v : Value} (hop : o.op = .load T x) (ht : tyOf P T = some (false, 1)) (hx : ev s.L x = some (.pointer (some ad))) (hk : s.F[k]? = some (cellF ad v)) : OpV P e o s v :=
  ⟨by rw [hop]; intro c; simp, fun γ a w hh => by
    have hf : (cellF ad v).p γ w := hh.facts _ (List.mem_of_getElem? hk)
    have := run_loadVar' (w := w) ht (fun _ => rfl) ad [v] rfl (fun j u hu => by
      match j, hu with
      | 0, hu => simp at hu; subst hu; rw [show ad.add 0 = ad from by simp [Addr.add]]; exact hf.1
      | j + 1, hu => simp at hu)
    simp only [execOp, hop, hh.eval hx, Instr.loadAt, Instr.sureAddr, Sem.run_bind, Sem.run_pure, Result.andThen, this]
    rfl⟩

/-- An element that is itself a slice is opened. -/
theorem Holds.openS {α : Type} {rp : Rep α} {k c : Nat} {i : Int} {A : Option Addr} {xs : List (List α)} {z : List α} (hh : Holds e s γ a w) (hk : s.F[k]? = some (slF (rSl rp) A c xs)) (hi : rdo xs i = some z) :
    ∃ B q, Holds e { s with F := s.F ++ [slF rp B q z, cellF ⟨ablk A, aoff A + i.toNat * 1, none⟩ (.slice B z.length q)] } γ a w := by
  obtain ⟨h0, h1', h2⟩ := rdo_some hi
  have hf : SlP (rSl rp) γ w A c xs := hh.facts _ (List.mem_of_getElem? hk)
  have hA := hf.addr h2
  obtain ⟨_, ds, hr, hc⟩ := hf.row _ hA
  obtain ⟨cs, ⟨B, q, hcs, hz⟩, hds⟩ := hr.get h2
  subst hcs
  have hd0 : ds[i.toNat * 1]? = some (.slice B z.length q) := by
    have := congrArg (fun l => l[0]?) hds
    simp only [List.getElem?_take, List.getElem?_drop] at this
    simpa [rSl] using this
  have hcell := hc _ _ hd0
  have h3 := (hh.addF (f := slF rp B q z) hz).addF (f := cellF ⟨ablk A, aoff A + i.toNat * 1, none⟩ (.slice B z.length q)) ⟨hcell.1, rfl, hcell.2⟩
  simp only [List.append_assoc, List.singleton_append] at h3
  exact ⟨B, q, h3⟩
theorem TrL.openS {α : Type} {rp : Rep α} {k c : Nat} {i : Int} {A : Option Addr} {xs : List (List α)} {z : List α} {ops : Array Oper} {l : List Oper} (hk : s.F[k]? = some (slF (rSl rp) A c xs)) (hi : rdo xs i = some z)
    (h : ∀ B q, TrL P r e ops l Kn { s with F := s.F ++ [slF rp B q z, cellF ⟨ablk A, aoff A + i.toNat * 1, none⟩ (.slice B z.length q)] }) : TrL P r e ops l Kn s := fun γ a w hh => by
  obtain ⟨B, q, h2⟩ := hh.openS hk hi
  exact h B q γ a w h2
end
end Go.Proofs.Ytbeknohemgjfbaa.L
namespace Go.Proofs.Ytbeknohemgjfbaa.L
open Go Go.Proofs.Ytbeknohemgjfbaa.Pu
set_option linter.unusedVariables false

/-- A block that is no row of cells. -/
def objc (b : Nat) (o : Obj) : Chunk where
  fp := (· = b)
  p γ w := w.heap[b]? = some o ∧ o.isCells = false ∧ γ b = 0
  lt := fun ⟨h, _⟩ hb => by subst hb; exact (Array.getElem?_eq_some_iff.1 h).1
  stable := fun hs _ ⟨h, g, k⟩ => ⟨(hs b rfl).1.trans h, g, (hs b rfl).2.trans k⟩

/-- The contract of a function: what is owned and what is known before, and after. -/
def Ctr (P : Program) (f : FuncId) (args : List Value) (M : List Chunk) (F : List Fact) (R : Value → List Chunk → List Fact → Prop) : Prop :=
  ∀ γ w, HM γ w M → (∀ g ∈ F, g.p γ w) → GhOk γ w → Calls P f args.toArray w fun en w' => ∃ ret M' F' γ', en = .returned ret ∧ R ret M' F' ∧ HM γ' w' M' ∧ (∀ g ∈ F', g.p γ' w') ∧
    (∀ c ∈ M', ∀ b, c.fp b → fpM M b ∨ w.heap.size ≤ b) ∧ Fr (fpM M) γ w γ' w' ∧ GhOk γ' w'

def entersOf (P : Program) (f : FuncId) : Bool :=
  match P.funcs[f]? with
  | some fn => !(fn.name == "runtime.NumGoroutine") && fn.body.isSome
  | none => false
theorem enters_run {P : Program} {f : FuncId} (h : entersOf P f = true) (args : Array Value) (w : World) : (callFunc f args).run P w = .ok (.enter f args) w := by
  unfold entersOf at h
  split at h
  · rename_i fn hfn
    simp only [Bool.and_eq_true, Bool.not_eq_true', beq_eq_false_iff_ne, ne_eq] at h
    obtain ⟨h1, h2⟩ := h
    cases hb : fn.body with
    | none => rw [hb] at h2; cases h2
    | some c => simp [callFunc, hfn, h1, hb]
  · cases h

section
variable {P : Program} {r : Option Nat} {e : Env} {o : Oper} {Kn : St → Prop} {s : St} {γ γ' : Gh} {w w' : World} {a : Act}

/-! ### Pure consequences, new facts -/
def Pre (s : St) (φ : Prop) : Prop := ∀ γ w, (∀ f ∈ s.F, f.p γ w) → (∀ c ∈ s.M, c.p γ w) → φ

theorem Tr.pure {c : Code} {Q : SPost} {φ : Prop} (hp : Pre s φ) (h : φ → Tr P r e c Q s) : Tr P r e c Q s := fun γ a w hh => h (hp γ w hh.facts hh.hm.all) γ a w hh
theorem TrL.pure {ops : Array Oper} {l : List Oper} {φ : Prop} (hp : Pre s φ) (h : φ → TrL P r e ops l Kn s) : TrL P r e ops l Kn s := fun γ a w hh => h (hp γ w hh.facts hh.hm.all) γ a w hh

theorem TrL.weaken {ops : Array Oper} {l : List Oper} (t : St) (hL : ∀ p ∈ t.L, s.L.lookup p.1 = some p.2) (hM : t.M.Sublist s.M) (hF : ∀ f ∈ t.F, f ∈ s.F) (hD : t.D = s.D) (h : TrL P r e ops l Kn t) : TrL P r e ops l Kn s :=
  fun γ a w hh => h γ a w (hh.weaken hL hM hF hD)

theorem TrL.mono {ops : Array Oper} {l : List Oper} {Kn' : St → Prop} (h : TrL P r e ops l Kn s) (hk : ∀ s', Kn s' → Kn' s') : TrL P r e ops l Kn' s :=
  fun γ a w hh Q hQ => h γ a w hh Q fun s' γ' a' w' k hh' => hQ s' γ' a' w' (hk _ k) hh'

/-- The chunks in another order. -/
theorem Holds.perm {M' : List Chunk} (h : Holds e s γ a w) (hp : s.M.Perm M') : Holds e { s with M := M' } γ a w where
  size := h.size
  slots := h.slots
  defers := h.defers
  hm := ⟨fun c hc => h.hm.all c (hp.mem_iff.2 hc), (hp.pairwise_iff (fun {x y} hxy b hy hx => hxy b hx hy)).1 h.hm.sep⟩
  own c hc := h.own c (hp.mem_iff.2 hc)
  facts := h.facts
  fr := h.fr
  ok := h.ok

theorem perm_front : ∀ {M : List Chunk} {k : Nat} {c : Chunk}, M[k]? = some c → M.Perm (c :: M.eraseIdx k) := by
  intro M
  induction M with
  | nil => intro k c h; simp at h
  | cons d M ih =>
    intro k c h
    cases k with
    | zero => simp at h; subst h; exact .refl _
    | succ k =>
      simp at h
      rw [List.eraseIdx_cons_succ]
      exact ((ih h).cons d).trans (.swap _ _ _)

theorem OpTr.front {k : Nat} {c : Chunk} (hk : s.M[k]? = some c) (h : OpTr P r e o Kn { s with M := c :: s.M.eraseIdx k }) : OpTr P r e o Kn s :=
  fun γ a w hh => h γ a w (hh.perm (perm_front hk))
theorem OpTr.weaken (t : St) (hL : ∀ p ∈ t.L, s.L.lookup p.1 = some p.2) (hM : t.M.Sublist s.M) (hF : ∀ f ∈ t.F, f ∈ s.F) (hD : t.D = s.D) (h : OpTr P r e o Kn t) : OpTr P r e o Kn s :=
  fun γ a w hh => h γ a w (hh.weaken hL hM hF hD)
theorem OpTr.pure {φ : Prop} (hp : Pre s φ) (h : φ → OpTr P r e o Kn s) : OpTr P r e o Kn s := fun γ a w hh => h (hp γ w hh.facts hh.hm.all) γ a w hh

/-! ### Calls -/
theorem evs_eval (hh : Holds e s γ a w) : ∀ {xs : List Operand} {vs : List Value}, xs.map (ev s.L) = vs.map some → xs.map a.eval = vs := by
  intro xs
  induction xs with
  | nil => intro vs h; cases vs <;> simp_all
  | cons y l ih =>
    intro vs h
    cases vs with
    | nil => simp at h
    | cons u us => simp only [List.map_cons, List.cons.injEq] at h; simp [hh.eval h.1, ih h.2]

theorem HM.append_of {A B : List Chunk} (h1 : HM γ w A) (h2 : HM γ w B) (hd : ∀ c ∈ A, ∀ d ∈ B, ∀ b, c.fp b → ¬ d.fp b) : HM γ w (A ++ B) :=
  ⟨fun c hc => by rcases List.mem_append.1 hc with q | q; exact h1.all c q; exact h2.all c q, List.pairwise_append.2 ⟨h1.sep, h2.sep, hd⟩⟩

theorem calls_any {f : FuncId} {args : Array Value} {R : Ending → World → Prop} (h : Calls P f args w R) (r : Option Nat) (n : Nat) : CallsIn (fen r) n P f args w R := by
  have h1 := (callsIn_wide (n := n)).2 h
  cases r with
  | none => exact h1
  | some l => exact CallsIn.inRound l h1

/-- A call of a known function by its contract: the chunks Mp (at the head) and the facts Fp are handed over. -/
theorem op_call {f : FuncId} {fo : Operand} {xs : List Operand} {tys : Array TypeId} {vs cap : List Value} {Mp Mr : List Chunk} {Fp : List Fact} {R : Value → List Chunk → List Fact → Prop} (hop : o.op = .call { callee := .value fo, args := xs.toArray, argTypes := tys })
    (hf : ev s.L fo = some (.func (.func f) #[] cap.toArray)) (hxs : xs.map (ev s.L) = vs.map some) (hen : entersOf P f = true) (hc : Ctr P f (vs ++ cap) Mp Fp R) (hM : s.M = Mp ++ Mr) (hF : ∀ g ∈ Fp, g ∈ s.F) (hd : ∀ d, o.dst = some d → d < e.N)
    (h : ∀ ret M' F', R ret M' F' → Kn (match o.dst with
      | some d => ({ s with M := M' ++ Mr, F := s.F ++ F' } : St).put d ret
      | none => { s with M := M' ++ Mr, F := s.F ++ F' })) : OpTr P r e o Kn s := by
  intro γ a w hh K Q hK
  refine ⟨fun f _ => fen_fn r f, ?_⟩
  have hargs : (xs.toArray.map a.eval) = vs.toArray := by rw [List.map_toArray, evs_eval hh hxs]
  have hrun : (execOp a.eval o).run P w = .ok (.enter f (vs ++ cap).toArray) w := by
    simp only [execOp, hop, resolve, hh.eval hf, Deferred.ofValue, Sem.run_bind, Sem.run_pure, Result.andThen, hargs, invoke]
    have : (#[] ++ vs.toArray ++ cap.toArray : Array Value) = (vs ++ cap).toArray := by simp
    rw [this, enters_run hen]
  rw [semAt_eq _ _ _ (by rw [hop]; intro c; simp), hrun, Oper.uponIn_enter]
  refine ⟨fun hds => by simp [fen] at hds, ?_⟩
  have hm0 := hh.hm
  rw [hM] at hm0
  have hsep := List.pairwise_append.1 hm0.sep
  have hmp : HM γ w Mp := ⟨fun c hc' => hm0.all c (List.mem_append_left _ hc'), hsep.1⟩
  have hmr : HM γ w Mr := ⟨fun c hc' => hm0.all c (List.mem_append_right _ hc'), hsep.2.1⟩
  have hcall := hc γ w hmp (fun g hg => hh.facts g (hF g hg)) hh.ok
  refine (calls_any hcall r _).mono ?_
  rintro en w' ⟨ret, M', F', γ', rfl, hR, hM', hF', hfp, hfr, hok'⟩
  have hX : ∀ b, fpM Mp b → e.bs b ∨ e.w0.heap.size ≤ b := fun b ⟨c, hc1, hc2⟩ => hh.own c (by rw [hM]; exact List.mem_append_left _ hc1) b hc2
  have hmr' : HM γ' w' Mr := hmr.keep hfr (fun c hc' b hb ⟨d, hd1, hd2⟩ => hsep.2.2 d hd1 c hc' b hd2 hb)
  have hsz : e.w0.heap.size ≤ w.heap.size := hh.fr.le.size
  have hall : HM γ' w' (M' ++ Mr) := hM'.append_of hmr' (fun c hc1 d hd1 b hb hdb => by
    rcases hfp c hc1 b hb with ⟨q, hq1, hq2⟩ | q
    · exact hsep.2.2 q hq1 d hd1 b hq2 hdb
    · have := d.lt (hmr.all d hd1) hdb; omega)
  have hown : ∀ c ∈ M' ++ Mr, ∀ b, c.fp b → e.bs b ∨ e.w0.heap.size ≤ b := fun c hc1 b hb => by
    rcases List.mem_append.1 hc1 with q | q
    · rcases hfp c q b hb with q' | q'
      · exact hX b q'
      · exact .inr (by omega)
    · exact hh.own c (by rw [hM]; exact List.mem_append_right _ q) b hb
  have hst := hh.step (M' := M' ++ Mr) hfr hX hall hown hok'
  have hst2 : Holds e { s with M := M' ++ Mr, F := s.F ++ F' } γ' a w' :=
    { size := hst.size, slots := hst.slots, defers := hst.defers, hm := hst.hm, own := hst.own, fr := hst.fr, ok := hst.ok
      facts := fun g hg => by rcases List.mem_append.1 hg with q | q; exact hst.facts g q; exact hF' g q }
  have hk := h ret M' F' hR
  cases hdst : o.dst with
  | none => rw [hdst] at hk; exact hK _ γ' _ _ hk hst2
  | some d => rw [hdst] at hk; exact hK _ γ' _ _ hk (hst2.put d ret (hd d hdst))

/-! ### Entry and return -/
def slots0 (vs : List Value) (i : Nat := 0) : List (Nat × Value) :=
  match vs with
  | [] => []
  | v :: vs => (i, v) :: slots0 vs (i + 1)

theorem slots0_lookup : ∀ (vs : List Value) (i j : Nat) (v : Value), (slots0 vs i).lookup j = some v → i ≤ j ∧ vs[j - i]? = some v := by
  intro vs
  induction vs with
  | nil => intro i j v h; simp [slots0] at h
  | cons u us ih =>
    intro i j v h
    rw [slots0, List.lookup_cons] at h
    split at h
    · rename_i hb
      simp at hb
      subst hb
      simp at h
      subst h
      simp
    · rename_i hb
      simp at hb
      obtain ⟨h1, h2⟩ := ih (i + 1) j v h
      refine ⟨by omega, ?_⟩
      rw [show j - i = (j - (i + 1)) + 1 by omega]
      simpa using h2

/-- A result variable's value. -/
def resV (P : Program) (e : Env) (s : St) (rv : ResultVar) (v : Value) : Prop :=
  ∀ γ a w, Holds e s γ a w → (match rv with
    | .tmp t => (Pure.pure (a.tmps.getD t undef) : Sem Value)
    | .cell c t => do loadVar t (← asAddr (a.tmps.getD c undef))).run P w = .ok v w

theorem resv_tmp {t : Nat} {v : Value} (h : ev s.L (.tmp t) = some v) : resV P e s (.tmp t) v := fun γ a w hh => by
  have := hh.eval h
  simp only [Act.eval] at this
  simp [this]

theorem resv_cell {t k b off n : Nat} {T Tb : TypeId} {ag : Bool} {c : List Value} {v : Value} (hx : ev s.L (.tmp t) = some (.pointer (some ⟨b, off, none⟩)))
    (hk : s.M[k]? = some (cells b c Tb)) (ht : tyOf P T = some (ag, n)) (hn : ag = false → n = 1) (hl : ((c.drop off).take n).length = n) (hv : mkv ag ((c.drop off).take n) = v) : resV P e s (.cell t T) v := fun γ a w hh => by
  have hc := hh.hm.all _ (List.mem_of_getElem? hk)
  have hev := hh.eval hx
  simp only [Act.eval] at hev
  have := run_loadVar' (w := w) ht hn ⟨b, off, none⟩ ((c.drop off).take n) hl (fun j u hu => by
      rw [add_off, cell_of_cells hc]
      rw [List.getElem?_take] at hu
      split at hu
      · rwa [List.getElem?_drop] at hu
      · cases hu)
  simp only [hev, asAddr, Sem.run_bind, Sem.run_pure, Result.andThen, this, hv]

inductive All2 {α β : Type} (R : α → β → Prop) : List α → List β → Prop
  | nil : All2 R [] []
  | cons {x : α} {y : β} {xs : List α} {ys : List β} (h : R x y) (t : All2 R xs ys) : All2 R (x :: xs) (y :: ys)

def ret1 : List Value → Value
  | [v] => v
  | vs => .tuple vs.toArray

theorem run_mapM_res (hh : Holds e s γ a w) : ∀ (rvs : List ResultVar) (vs : List Value), All2 (resV P e s) rvs vs →
    (rvs.mapM (m := Sem) fun
      | .tmp t => Pure.pure (a.tmps.getD t undef)
      | .cell c t => do loadVar t (← asAddr (a.tmps.getD c undef))).run P w = .ok vs w := by
  intro rvs vs hf
  induction hf with
  | nil => rfl
  | cons h1 _ ih =>
    rw [List.mapM_cons, Sem.run_bind]
    have := h1 γ a w hh
    rename_i rv v rvs vs _
    have h2 : (match rv with
      | .tmp t => (Pure.pure (a.tmps.getD t undef) : Sem Value)
      | .cell c t => do loadVar t (← asAddr (a.tmps.getD c undef))).run P w = .ok v w := this
    rw [h2, Result.andThen_ok, Sem.run_bind, ih]
    rfl

theorem run_results (hh : Holds e s γ a w) {fn : Func} {rvs : List ResultVar} {vs : List Value} (hr : fn.results = rvs.toArray) (hf : All2 (resV P e s) rvs vs) : (results fn a.tmps).run P w = .ok (ret1 vs) w := by
  unfold results
  rw [hr, Sem.run_bind, List.mapM_toArray, Sem.run_map]
  refine (congrArg (fun z : Result (List Value) => (z.andThen fun a w' => Result.ok a.toArray w').andThen fun a w' => Sem.run P (Pure.pure (if h : a.size = 1 then a[0] else Value.tuple a)) w') (run_mapM_res hh rvs vs hf)).trans ?_
  simp only [Result.andThen_ok, Sem.run_pure]
  clear hf
  match vs with
  | [] => rfl
  | [v] => rfl
  | v :: u :: vs => simp [ret1]

def marks (ds : List Nat) : List Deferred := ds.map fun d => { target := .collected d, args := #[] }

/-- What a body must have reached where it ends: the results' values; the loops' marks, each with its block; what is handed back. -/
def RetOk (P : Program) (e : Env) (rvs : List ResultVar) (R : Value → List Chunk → List Fact → Prop) (s : St) : Prop :=
  ∃ vs M' F' ds Mr, R (ret1 vs) M' F' ∧ All2 (resV P e { s with M := Mr, D := [] }) rvs vs ∧ s.D = marks ds ∧ s.M.Perm ((ds.map fun d => objc d (.deferred (some []))) ++ Mr) ∧ M'.Sublist Mr ∧ (∀ f ∈ F', f ∈ s.F)

def retQ (P : Program) (e : Env) (rvs : List ResultVar) (R : Value → List Chunk → List Fact → Prop) : SPost
  | .normal, s | .ret, s => RetOk P e rvs R s
  | _, _ => False

theorem retOk_plain {rvs : List ResultVar} {R : Value → List Chunk → List Fact → Prop} (vs : List Value) (M' : List Chunk) (F' : List Fact) (hD : s.D = []) (hR : R (ret1 vs) M' F') (hv : All2 (resV P e s) rvs vs) (hM : M'.Sublist s.M) (hF : ∀ f ∈ F', f ∈ s.F) : RetOk P e rvs R s := by
  obtain ⟨L, M, F, D⟩ := s
  simp only at hD
  subst hD
  exact ⟨vs, M', F', [], M, hR, hv, rfl, .refl _, hM, hF⟩

end
end Go.Proofs.Ytbeknohemgjfbaa.L
namespace Go.Proofs.Ytbeknohemgjfbaa.L
open Go Go.Proofs.Ytbeknohemgjfbaa.Pu
set_option linter.unusedVariables false

section
variable {P : Program} {r : Option Nat} {e : Env} {o : Oper} {Kn : St → Prop} {s : St} {γ γ' : Gh} {w w' : World} {a : Act}

theorem cell_not_cells {b : Nat} {ob : Obj} (h : w.heap[b]? = some ob) (hn : ob.isCells = false) (j : Nat) : w.cell? ⟨b, j, none⟩ = none := by
  unfold World.cell?
  rw [h]
  cases ob <;> simp_all [Obj.isCells]

/-- A block that is no row of cells becomes another such one. -/
theorem Fr.putObj {b : Nat} {o1 o2 : Obj} (h : (objc b o1).p γ w) (h2 : o2.isCells = false) : Fr (· = b) γ w γ (w.putObj b o2) where
  le := ⟨by simp, fun _ => Nat.le_refl _, fun x j hj => by
    have hne : x ≠ b := fun q => by subst q; rw [h.2.2] at hj; omega
    exact World.cell?_of_block (World.putObj_heap_other hne)⟩
  os := rfl
  tape := rfl
  output := rfl
  block x _ hx := World.putObj_heap_other hx
  gh _ _ _ := rfl

theorem objc_put {b : Nat} {o1 o2 : Obj} (h : (objc b o1).p γ w) (h2 : o2.isCells = false) : (objc b o2).p γ (w.putObj b o2) :=
  ⟨World.putObj_heap_same (Array.getElem?_eq_some_iff.1 h.1).1, h2, h.2.2⟩

theorem GhOk.size (h : GhOk γ w) (hs : w'.heap.size = w.heap.size) : GhOk γ w' := fun b hb => h b (by omega)

/-- The marks are taken up, one by one. -/
theorem leaves_marks {fn : Func} {R' : Ending → World → Prop} {tmps : Array Value} {L : List (Nat × Value)} {F : List Fact} {Mr : List Chunk} : ∀ (ds : List Nat) (γ : Gh) (a : Act) (w : World),
    a.tmps = tmps → Holds e ⟨L, (ds.map fun d => objc d (.deferred (some []))) ++ Mr, F, marks ds⟩ γ a w → (∀ γ' w', Holds e ⟨L, Mr, F, []⟩ γ' ⟨tmps, []⟩ w' → ∃ v, (results fn tmps).run P w' = .ok v w' ∧ R' (.returned v) w') →
    LeavesInM Fence.wide 0 P fn tmps R' (marks ds) .returning w := by
  intro ds
  induction ds with
  | nil =>
    intro γ a w ha hh hfin
    have := hfin γ w { size := by rw [← ha]; exact hh.size, slots := by rw [← ha]; exact hh.slots, defers := rfl, hm := hh.hm, own := hh.own, facts := hh.facts, fr := hh.fr, ok := hh.ok }
    exact this
  | cons d ds ih =>
    intro γ a w ha hh hfin
    have hd : (objc d (.deferred (some []))).p γ w := hh.hm.all _ (by simp)
    refine ⟨by simp, .inl ⟨d, _, rfl, run_takeDeferred hd.1, ?_⟩⟩
    have fr : Fr (· = d) γ w γ (w.putObj d (.deferred none)) := Fr.putObj hd rfl
    have hsep := List.pairwise_cons.1 hh.hm.sep
    have hm' : HM γ (w.putObj d (.deferred none)) ((ds.map fun d => objc d (.deferred (some []))) ++ Mr) := by
      have h0 : HM γ w ((ds.map fun d => objc d (.deferred (some []))) ++ Mr) := ⟨fun c hc => hh.hm.all c (List.mem_cons_of_mem _ hc), hsep.2⟩
      exact h0.keep fr (fun c hc b hb hbd => hsep.1 c hc b hbd hb)
    have h2 := hh.step fr (fun b hb => hh.own _ List.mem_cons_self b hb) hm' (fun c hc => hh.own c (List.mem_cons_of_mem _ hc)) (hh.ok.size (by simp))
    exact ih γ ⟨tmps, marks ds⟩ _ rfl { size := by have := h2.size; rw [ha] at this; exact this, slots := by have := h2.slots; rw [ha] at this; exact this, defers := rfl, hm := h2.hm, own := h2.own, facts := h2.facts, fr := h2.fr, ok := h2.ok } hfin

/-- A function's contract, from its body. -/
theorem ctr_of {f : FuncId} {fn : Func} {c : Code} {args : List Value} {M : List Chunk} {F : List Fact} {R : Value → List Chunk → List Fact → Prop} {N : Nat} {rvs : List ResultVar} (hf : P.funcs[f]? = some fn) (hb : fn.body = some c) (hN : fn.ntmps = N) (hr : fn.results = rvs.toArray) (hle : args.length ≤ N)
    (h : ∀ γ0 w0, Tr P none ⟨N, fpM M, γ0, w0⟩ c (retQ P ⟨N, fpM M, γ0, w0⟩ rvs R) ⟨slots0 args, M, F, []⟩) : Ctr P f args M F R := by
  intro γ w hm hF hok
  refine (callsIn_wide (n := 0)).1 ?_
  refine callsIn_of_wp_marks hf hb trivial ?_ rfl
  have h0 : Holds ⟨N, fpM M, γ, w⟩ ⟨slots0 args, M, F, []⟩ γ { tmps := args.toArray ++ Array.replicate (fn.ntmps - args.toArray.size) undef, defers := [] } w :=
    { size := by simp [hN]; omega
      slots := fun i v hi => by
        obtain ⟨_, h2⟩ := slots0_lookup args 0 i v hi
        simp only [Nat.sub_zero] at h2
        have hlt := (List.getElem?_eq_some_iff.1 h2).1
        rw [Array.getElem?_append_left (by simpa using hlt)]
        simpa using h2
      defers := rfl
      hm := hm
      own := fun c hc b hb => .inl ⟨c, hc, hb⟩
      facts := hF
      fr := Fr.refl _ _ _
      ok := hok }
  have key : ∀ s' γ' a' w', RetOk P ⟨N, fpM M, γ, w⟩ rvs R s' → Holds ⟨N, fpM M, γ, w⟩ s' γ' a' w' →
      LeavesInM Fence.wide 0 P fn a'.tmps (fun en w' => ∃ ret M' F' γ', en = .returned ret ∧ R ret M' F' ∧ HM γ' w' M' ∧ (∀ g ∈ F', g.p γ' w') ∧
        (∀ c ∈ M', ∀ b, c.fp b → fpM M b ∨ w.heap.size ≤ b) ∧ Fr (fpM M) γ w γ' w' ∧ GhOk γ' w') a'.defers .returning w' := by
    rintro s' γ' a' w' ⟨vs, M', F', ds, Mr, hR, hv, hD, hM, hM', hF'⟩ hh
    have h1 := hh.perm hM
    have ha : a'.defers = marks ds := hh.defers.trans hD
    rw [ha]
    refine leaves_marks (e := ⟨N, fpM M, γ, w⟩) (L := s'.L) (F := s'.F) (Mr := Mr) ds γ' a' w' rfl ?_ ?_
    · rw [← hD]; exact h1
    · intro γ2 w2 h2
      refine ⟨ret1 vs, run_results (s := { s' with M := Mr, D := [] }) h2 hr hv, ret1 vs, M', F', γ2, rfl, hR, ⟨fun c hc => h2.hm.all c (hM'.subset hc), h2.hm.sep.sublist hM'⟩, fun g hg => h2.facts g (hF' g hg), fun c hc b hb => h2.own c (hM'.subset hc) b hb, h2.fr, h2.ok⟩
  refine wpIn_mono (h γ w γ _ w h0) ?_
  rintro x a' w' ⟨hf', s', γ', q, hh'⟩
  cases x with
  | normal => exact key s' γ' a' w' q hh'
  | ret => exact key s' γ' a' w' q hh'
  | exit i => exact q.elim
  | goto l => exact hf'.elim
  | panic ch => exact hf'.elim
  | outgrown => exact hf'.elim

/-! ### Loops -/
theorem stepsIn_of_next {I : Machine → Prop} {m m1 m2 m' : Machine} (h1 : step P m1 = .next m) (h2 : step P m2 = .next m) (hI : I m2) (hs : StepsIn I P m1 m') (hne : m' ≠ m1) : StepsIn I P m2 m' := by
  cases hs with
  | refl => exact absurd rfl hne
  | head _ hx hrest =>
    rw [h1] at hx
    cases hx
    exact .head hI h2 hrest

theorem exitTo_length {id : Nat} : ∀ {k k' : List Item}, exitTo id k = some k' → k'.length < k.length := by
  intro k
  induction k with
  | nil => intro k' h; simp [exitTo] at h
  | cons x k ih =>
    intro k' h
    cases x <;> first
      | (simp only [exitTo] at h; have := ih h; simp; omega)
      | (simp only [exitTo] at h; split at h; (simp at h; subst h; simp); (have := ih h; simp; omega))

theorem lone_inj {fr fr' : Frame} {cs cs' : List Frame} {w w' : World} (h : lone fr cs w = lone fr' cs' w') : fr = fr' := by
  simp only [lone, Machine.mk.injEq] at h
  have h2 := congrArg (fun (x : Array Goroutine) => (x[0]?).map (·.frame)) h.2.1
  simpa using h2

/-- A loop is a round, and then the loop. -/
theorem wpIn_unroll {F : Fence} {n : Nat} {c : Code} {Q : Exit → Act → World → Prop} (hQ : ∀ x a w, Q x a w → fine x)
    (h : c.wpIn F n P (Exit.then (fun a' w' => (Code.loop c).wpIn F n P Q a' w') Q) a w) : (Code.loop c).wpIn F n P Q a w := by
  intro b k cs hro hb hr
  obtain ⟨x, a1, w1, hq, harr⟩ := h b (.inLoop c :: k) cs hro hb hr
  have h0 : ∀ a w, (lone (b.atR a (.code (.loop c) :: k)) cs w).fenced P F := fun a w => fenced_calm hb hr rfl
  cases x with
  | normal =>
    have hq' : (Code.loop c).wpIn F n P Q a1 w1 := hq
    obtain ⟨e2, a2, w2, hq2, harr2⟩ := hq' b k cs hro hb hr
    refine ⟨e2, a2, w2, hq2, .of_steps (StepsIn.trans (.one (h0 a w) stepR_loop) harr) ?_⟩
    have hI : (lone (b.atR a1 (.inLoop c :: k)) cs w1).fenced P F := fenced_calm hb hr rfl
    have tr : ∀ m', m' ≠ lone (b.atR a1 (.code (.loop c) :: k)) cs w1 → StepsIn (Machine.fenced P F) P (lone (b.atR a1 (.code (.loop c) :: k)) cs w1) m' → StepsIn (Machine.fenced P F) P (lone (b.atR a1 (.inLoop c :: k)) cs w1) m' :=
      fun m' hne hs => stepsIn_of_next stepR_loop stepR_inLoop hI hs hne
    have hlen : ∀ a' w' (k' : List Item), k'.length ≤ k.length → lone (b.atR a' k') cs w' ≠ lone (b.atR a1 (.code (.loop c) :: k)) cs w1 := by
      intro a' w' k' hk q
      have := congrArg Frame.todo (lone_inj q)
      simp only [Frame.atR] at this
      rw [this] at hk
      simp at hk
      omega
    cases e2 with
    | normal => exact tr _ (hlen _ _ _ (Nat.le_refl _)) harr2
    | exit id =>
      refine ⟨fun k' hk => tr _ (hlen _ _ _ (Nat.le_of_lt (exitTo_length hk))) (harr2.1 k' hk), fun hr' hk => ?_⟩
      obtain ⟨k1, hk1, hs⟩ := harr2.2 hr' hk
      refine ⟨k1, hk1, tr _ (fun q => ?_) hs⟩
      have := congrArg Frame.todo (lone_inj q)
      simp [Frame.atR] at this
    | ret =>
      refine ⟨fun hn => ?_, fun hs => ?_⟩
      · obtain ⟨todo, hs⟩ := harr2.1 hn
        refine ⟨todo, tr _ (fun q => ?_) hs⟩
        have := congrArg Frame.mode (lone_inj q)
        simp [Frame.atR] at this
      · obtain ⟨k1, hs'⟩ := harr2.2 hs
        refine ⟨k1, tr _ (fun q => ?_) hs'⟩
        have := congrArg Frame.todo (lone_inj q)
        simp [Frame.atR] at this
    | goto l => exact (hQ _ _ _ hq2).elim
    | panic ch => exact (hQ _ _ _ hq2).elim
    | outgrown => exact (hQ _ _ _ hq2).elim
  | exit id => exact ⟨_, a1, w1, hq, .of_steps (.one (h0 a w) stepR_loop) (.pass (x := .inLoop c) rfl (fun _ _ => .inl (by simp)) harr)⟩
  | ret => exact ⟨_, a1, w1, hq, .of_steps (.one (h0 a w) stepR_loop) (.pass (x := .inLoop c) rfl (fun _ _ => .inl (by simp)) harr)⟩
  | goto l => exact (hQ _ _ _ hq).elim
  | panic ch => exact (hQ _ _ _ hq).elim
  | outgrown => exact (hQ _ _ _ hq).elim

theorem Tr.loop {c : Code} {Q : SPost} (h : Tr P r e c (qthen (fun s' => Tr P r e (.loop c) Q s') Q) s) : Tr P r e (.loop c) Q s := by
  intro γ a w hh
  refine wpIn_unroll (fun x a w q => q.1) (wpIn_mono (h γ a w hh) ?_)
  rintro x a' w' ⟨hf, s', γ', q, hh'⟩
  cases x with
  | normal => exact q γ' a' w' hh'
  | exit i => exact ⟨hf, s', γ', q, hh'⟩
  | ret => exact ⟨hf, s', γ', q, hh'⟩
  | goto l => exact hf.elim
  | panic ch => exact hf.elim
  | outgrown => exact hf.elim
end
end Go.Proofs.Ytbeknohemgjfbaa.L
namespace Go.Proofs.Ytbeknohemgjfbaa.L
open Go Go.Proofs.Ytbeknohemgjfbaa.Pu
set_option linter.unusedVariables false

def bytesOf (P : Program) (T : TypeId) : Option Nat := (P.info? T).map (·.bytes)

/-- A slice to which may be appended: its block, if it is owned; else it is full. -/
def grow (E : TypeId) (sz : Nat) (v : Value) (n : Nat) (ob : Option Nat) : Chunk where
  fp b := ob = some b
  p γ w := (ob = none ∧ ∃ A, v = .slice A n n) ∨ ∃ b cap cur, ob = some b ∧ v = .slice (some ⟨b, 0, none⟩) n cap ∧ w.heap[b]? = some (.cells cur E (0, 0)) ∧ n ≤ cap ∧ cur.size = cap * sz ∧ γ b = n * sz
  lt := fun h hb => by
    rcases h with ⟨h, _⟩ | ⟨b, cap, cur, h, _, hh, _⟩
    · rw [h] at hb; cases hb
    · rw [h] at hb; cases hb; exact (Array.getElem?_eq_some_iff.1 hh).1
  stable := fun hs _ h => by
    rcases h with h | ⟨b, cap, cur, h, hv, hh, hn, hc, hg⟩
    · exact .inl h
    · exact .inr ⟨b, cap, cur, h, hv, (hs b h).1.trans hh, hn, hc, (hs b h).2.trans hg⟩

section
variable {P : Program} {r : Option Nat} {e : Env} {o : Oper} {Kn : St → Prop} {s : St} {γ γ' : Gh} {w w' : World} {a : Act}

theorem run_append_same {t ty E : TypeId} {i : TypeInfo} (ht : P.underlying t = some (.slice E)) (hi : P.info? E = some i) (A B : Option Addr) (n cap c : Nat) (hn : n ≤ cap) :
    (Builtin.append_ #[t, t] ty #[.slice A n cap, .slice B 0 c]).run P w = .ok (.slice A n cap) w := by
  have hf : (Builtin.firstCells i.size 0 (.slice B 0 c)).run P w = .ok #[] w := by
    cases B <;> simp [Builtin.firstCells, loadCells, loadCellsFrom]
  cases A <;> simp [Builtin.append_, run_underlying ht, sizeOf, typeInfo, hi, Builtin.lenOf, hn, hf, storeCells]

/-- What an append comes to. -/
theorem append_step {α : Type} {rp : Rep α} {t ty E : TypeId} {i : TypeInfo} {z : Value} {xs ys : List α} {A B : Option Addr} {cx cy : Nat} {ob : Option Nat} (ht : P.underlying t = some (.slice E)) (hi : P.info? E = some i) (hz : i.zero = some z) (hsz : i.size = rp.sz) (hzs : z.cells.size = rp.sz)
    (hc : (grow E rp.sz (.slice A xs.length cx) xs.length ob).p γ w) (hx : SlP rp γ w A cx xs) (hy : SlP rp γ w B cy ys) (hb : (xs.length + ys.length) * i.bytes ≤ big) (hb2 : xs.length + ys.length ≤ big) (hok : GhOk γ w) :
    ∃ A' c' ob' γ' w', (Builtin.append_ #[t, t] ty #[.slice A xs.length cx, .slice B ys.length cy]).run P w = .ok (.slice A' (xs ++ ys).length c') w' ∧ (grow E rp.sz (.slice A' (xs ++ ys).length c') (xs ++ ys).length ob').p γ' w' ∧
      SlP rp γ' w' A' c' (xs ++ ys) ∧ Fr (fun b => ob = some b) γ w γ' w' ∧ (∀ b, ob' = some b → ob = some b ∨ w.heap.size ≤ b) ∧ GhOk γ' w' := by
  by_cases hm : ys.length = 0
  · have : ys = [] := List.eq_nil_of_length_eq_zero hm
    subst this
    refine ⟨A, cx, ob, γ, w, ?_, ?_, ?_, Fr.refl _ _ _, fun b hb => .inl hb, hok⟩
    · simp only [List.append_nil, List.length_nil]
      exact run_append_same ht hi A B xs.length cx cy hx.le
    · simpa using hc
    · simpa using hx
  · obtain ⟨ad, hB⟩ : ∃ ad, B = some ad := by
      cases B with
      | none => exact absurd (by rw [hy.nil rfl]; rfl) hm
      | some ad => exact ⟨ad, rfl⟩
    subst hB
    obtain ⟨hspot', dy, hry, hcy⟩ := hy.row ad rfl
    have hspot : ad.spot = none := hspot' (fun q => hm (by rw [q]; rfl))
    have hadd : ∀ (q : Addr), q.spot = none → ∀ j, q.add j = ⟨q.block, q.off + j, none⟩ := by
      intro q hq j
      obtain ⟨qb, qo, qs⟩ := q
      simp at hq
      subst hq
      exact add_off _ _ _
    have hly : dy.length = ys.length * i.size := by rw [hry.len, hsz]
    have hny : ∀ j v, dy[j]? = some v → w.cell? (ad.add j) = some v := fun j v hv => by rw [hadd ad hspot]; exact (hcy j v hv).1
    have hlen : (xs ++ ys).length = xs.length + ys.length := List.length_append
    simp only [big] at hb hb2
    have h63 : ((xs.length + ys.length : Nat) : Int) ≤ 9223372036854775807 := by omega
    -- what is common to the two ways that lay a new block
    have fresh : ∀ (dx : List Value) (old : Nat), Row rp γ w xs dx →
        (grow E rp.sz (.slice (some ⟨w.heap.size, 0, none⟩) (xs ++ ys).length (grownCap w (xs.length + ys.length) old E)) (xs ++ ys).length (some w.heap.size)).p
          (upd γ w.heap.size ((xs ++ ys).length * rp.sz)) (w.drew.alloc (.cells (dx.toArray ++ dy.toArray ++ Builtin.zeroCells z.cells (grownCap w (xs.length + ys.length) old E - (xs.length + ys.length))) E)) ∧
        SlP rp (upd γ w.heap.size ((xs ++ ys).length * rp.sz)) (w.drew.alloc (.cells (dx.toArray ++ dy.toArray ++ Builtin.zeroCells z.cells (grownCap w (xs.length + ys.length) old E - (xs.length + ys.length))) E)) (some ⟨w.heap.size, 0, none⟩) (grownCap w (xs.length + ys.length) old E) (xs ++ ys) ∧
        Fr (fun b => ob = some b) γ w (upd γ w.heap.size ((xs ++ ys).length * rp.sz)) (w.drew.alloc (.cells (dx.toArray ++ dy.toArray ++ Builtin.zeroCells z.cells (grownCap w (xs.length + ys.length) old E - (xs.length + ys.length))) E)) ∧
        GhOk (upd γ w.heap.size ((xs ++ ys).length * rp.sz)) (w.drew.alloc (.cells (dx.toArray ++ dy.toArray ++ Builtin.zeroCells z.cells (grownCap w (xs.length + ys.length) old E - (xs.length + ys.length))) E)) := by
      intro dx old hrx
      have hge := grownCap_ge w (xs.length + ys.length) old E
      have hok' : GhOk γ w.drew := hok
      have fr0 := Fr.alloc hok' (dx.toArray ++ dy.toArray ++ Builtin.zeroCells z.cells (grownCap w (xs.length + ys.length) old E - (xs.length + ys.length))) E ((xs ++ ys).length * rp.sz)
      have fr : Fr (fun b => ob = some b) γ w (upd γ w.heap.size ((xs ++ ys).length * rp.sz)) (w.drew.alloc (.cells (dx.toArray ++ dy.toArray ++ Builtin.zeroCells z.cells (grownCap w (xs.length + ys.length) old E - (xs.length + ys.length))) E)) :=
        ⟨⟨fr0.le.size, fr0.le.up, fr0.le.cell⟩, fr0.os, fr0.tape, fr0.output, fun b hb _ => fr0.block b hb (fun q => q), fun b hb _ => fr0.gh b hb (fun q => q)⟩
      refine ⟨.inr ⟨w.heap.size, _, _, rfl, rfl, heap_alloc_new w.drew _, by rw [hlen]; exact hge, ?_, upd_same _ _ _⟩, ⟨by rw [hlen]; exact hge, by rw [hlen]; simp only [top]; omega, (fun q => by cases q), fun q hq => ?_⟩, fr, hok'.alloc _ _⟩
      · simp only [Array.size_append, List.size_toArray, size_zeroCells, hzs, hrx.len, hry.len, ← Nat.add_mul]
        congr 1
        omega
      · cases hq
        refine ⟨fun _ => rfl, dx ++ dy, (hrx.append hry).mono fr.le, fun j v hv => ?_⟩
        have hj : j < (dx ++ dy).length := (List.getElem?_eq_some_iff.1 hv).1
        have hll : (dx ++ dy).length = (xs ++ ys).length * rp.sz := by rw [List.length_append, hrx.len, hry.len, hlen, Nat.add_mul]
        refine ⟨?_, by rw [upd_same]; simp only [Nat.zero_add]; omega⟩
        have := World.cell?_alloc_new w.drew (dx.toArray ++ dy.toArray ++ Builtin.zeroCells z.cells (grownCap w (xs.length + ys.length) old E - (xs.length + ys.length))) E (0 + j)
        rw [World.size_drew] at this
        rw [this, Nat.zero_add, Array.getElem?_append_left (by simpa using hj)]
        simpa using hv
    rcases hc with ⟨rfl, A0, hv⟩ | ⟨b, cap, cur, rfl, hv, hh, hn, hcs, hg⟩
    · -- a full slice (or none)
      cases hv
      cases A with
      | none =>
        have hx0 := hx.nil rfl
        subst hx0
        have hr := run_append_nil (P := P) w t ty E i z ht hi hz ad ys.length cy dy hly hny (by omega) (by simpa using h63) (by simp at hb; omega)
        obtain ⟨f1, f2, f3, f4⟩ := fresh [] 0 .nil
        simp only [List.length_nil, Nat.zero_add, List.nil_append, Array.empty_append] at f1 f2 f3 f4 hr ⊢
        exact ⟨_, _, _, _, _, hr, f1, f2, f3, fun b hb => .inr (by cases hb; exact Nat.le_refl _), f4⟩
      | some ax =>
        obtain ⟨hsx', dx, hrx, hcx⟩ := hx.row ax rfl
        have hr := run_append_grow (P := P) w t ty E i z ht hi hz ax xs.length xs.length dx (by rw [hrx.len, hsz]) (fun j v hv => by
          have hne : xs ≠ [] := fun q => by subst q; have := hrx.len; simp at this; subst this; simp at hv
          rw [hadd ax (hsx' hne)]; exact (hcx j v hv).1) ad ys.length cy dy hly hny (by omega) h63 (growslice_fits (by omega) hb)
        obtain ⟨f1, f2, f3, f4⟩ := fresh dx xs.length hrx
        rw [← hlen] at hr f1 f2 f3 f4
        exact ⟨_, _, _, _, _, hr, f1, f2, f3, fun b hb => .inr (by cases hb; exact Nat.le_refl _), f4⟩
    · cases hv
      obtain ⟨_, dx, hrx, hcx⟩ := hx.row _ rfl
      by_cases hroom : xs.length + ys.length ≤ cx
      · have hfit : xs.length * i.size + dy.length ≤ cur.size := by rw [hly, hcs, hsz, ← Nat.add_mul]; exact Nat.mul_le_mul_right _ hroom
        have hr := run_append_room (P := P) w t ty E i ht hi b xs.length cx cur hh ad ys.length cy dy hly hny hry.one hroom hfit
        have hlt : b < w.heap.size := (Array.getElem?_eq_some_iff.1 hh).1
        generalize hcur' : (cur.toList.take (xs.length * i.size) ++ dy ++ cur.toList.drop (xs.length * i.size + dy.length)).toArray = cur' at hr
        have hblk : (w.setRow b cur').heap[b]? = some (.cells cur' E (0, 0)) := setRow_heap w b cur cur' E (0, 0) hh
        have hcell : ∀ j, (w.setRow b cur').cell? ⟨b, j, none⟩ = cur'[j]? := fun j => by simp [World.cell?, hblk]
        have hsize' : cur'.size = cur.size := by rw [← hcur']; simp; omega
        have hold : ∀ j, j < xs.length * rp.sz → cur'[j]? = cur[j]? := fun j hj => by
          rw [← hcur', hsz]
          have : j < (cur.toList.take (xs.length * rp.sz)).length := by simp; rw [hsz] at hfit; omega
          rw [List.getElem?_toArray, List.append_assoc, List.getElem?_append_left this, List.getElem?_take, if_pos hj, Array.getElem?_toList]
        have fr : Fr (fun x => some b = some x) γ w (upd γ b ((xs ++ ys).length * rp.sz)) (w.setRow b cur') := {
          le := ⟨by simp, fun x => by
              by_cases hx : x = b
              · subst hx; rw [upd_same, hg, hlen]; exact Nat.mul_le_mul_right _ (Nat.le_add_right _ _)
              · rw [upd_other _ _ hx]; exact Nat.le_refl _, fun x j hj => by
              by_cases hx : x = b
              · subst hx; rw [hg] at hj; rw [hcell, hold j hj]; simp [World.cell?, hh]
              · exact World.cell?_of_block (setRow_other w b x _ hx)⟩
          os := rfl
          tape := rfl
          output := rfl
          block := fun x _ hx => setRow_other w b x _ (fun q => hx (by rw [q]))
          gh := fun x _ hx => upd_other _ _ (fun q => hx (by rw [q])) }
        rw [← hlen] at hr
        refine ⟨_, _, some b, _, _, hr, .inr ⟨b, cx, cur', rfl, rfl, hblk, by rw [hlen]; exact hroom, by rw [hsize', hcs], upd_same _ _ _⟩, ⟨by rw [hlen]; exact hroom, by rw [hlen]; simp only [top]; omega, (fun q => by cases q), fun q hq => ?_⟩, fr, fun x hx => .inl hx, fun x hx => ?_⟩
        · cases hq
          refine ⟨fun _ => rfl, dx ++ dy, (hrx.append hry).mono fr.le, fun j v hv => ?_⟩
          have hj : j < (dx ++ dy).length := (List.getElem?_eq_some_iff.1 hv).1
          have hll : (dx ++ dy).length = (xs ++ ys).length * rp.sz := by rw [List.length_append, hrx.len, hry.len, hlen, Nat.add_mul]
          refine ⟨?_, by rw [upd_same]; simp only [Nat.zero_add]; omega⟩
          show (w.setRow b cur').cell? ⟨b, 0 + j, none⟩ = some v
          rw [hcell, Nat.zero_add]
          by_cases hjx : j < dx.length
          · rw [hold j (by rw [← hrx.len]; exact hjx)]
            rw [List.getElem?_append_left hjx] at hv
            have := (hcx j v hv).1
            simpa [World.cell?, hh] using this
          · rw [List.getElem?_append_right (by omega)] at hv
            have ht : (cur.toList.take (xs.length * i.size)).length = dx.length := by simp [hrx.len, hsz]; rw [hsz] at hfit; omega
            rw [← hcur', List.getElem?_toArray, List.append_assoc, List.getElem?_append_right (by rw [ht]; omega), ht, List.getElem?_append_left (by rw [List.length_append] at hj; omega)]
            exact hv
        · rw [upd_other _ _ (by simp at hx; omega)]
          exact hok x (by simpa using hx)
      · have hr := run_append_grow (P := P) w t ty E i z ht hi hz ⟨b, 0, none⟩ xs.length cx dx (by rw [hrx.len, hsz]) (fun j v hv => by rw [add_off]; exact (hcx j v hv).1) ad ys.length cy dy hly hny (by omega) h63 (growslice_fits (by omega) hb)
        obtain ⟨f1, f2, f3, f4⟩ := fresh dx cx hrx
        rw [← hlen] at hr f1 f2 f3 f4
        exact ⟨_, _, _, _, _, hr, f1, f2, f3, fun x hx => .inr (by cases hx; exact Nat.le_refl _), f4⟩

theorem bytesOf_info {T : TypeId} {n : Nat} (h : bytesOf P T = some n) : ∃ i, P.info? T = some i ∧ i.bytes = n := by
  unfold bytesOf at h
  cases hi : P.info? T with
  | none => rw [hi] at h; cases h
  | some i => rw [hi] at h; simp at h; exact ⟨i, rfl, h⟩

theorem zeroOf_info {T : TypeId} {cs : List Value} (h : zeroOf P T = some cs) : ∃ i z, P.info? T = some i ∧ i.zero = some z ∧ z.cells.toList = cs := by
  unfold zeroOf at h
  cases hi : P.info? T with
  | none => rw [hi] at h; cases h
  | some i =>
    rw [hi] at h
    cases hz : i.zero with
    | none => simp [hz] at h
    | some z => simp [hz] at h; exact ⟨i, z, rfl, hz, h⟩

/-- append(x, y...) -/
theorem op_append {α : Type} {rp : Rep α} {d k kx ky by_ : Nat} {T E : TypeId} {x y : Operand} {ag : Bool} {xs ys : List α} {A B : Option Addr} {n m cx cy : Nat} {ob : Option Nat} {zc : List Value} (ho : o.dst = some d) (hN : d < e.N)
    (hop : o.op = .call { callee := .builtin .append, args := #[x, y], argTypes := #[T, T] }) (hT : sliceOf P T = some E) (ht : tyOf P E = some (ag, rp.sz)) (hz : zeroOf P E = some zc) (hzl : zc.length = rp.sz) (hby : bytesOf P E = some by_)
    (hx : ev s.L x = some (.slice A n cx)) (hn : n = xs.length) (hy : ev s.L y = some (.slice B m cy)) (hm : m = ys.length) (hk : s.M[k]? = some (grow E rp.sz (.slice A n cx) n ob)) (hfx : s.F[kx]? = some (slF rp A cx xs)) (hfy : s.F[ky]? = some (slF rp B cy ys))
    (hb : (xs.length + ys.length) * by_ ≤ big) (hb2 : xs.length + ys.length ≤ big)
    (h : ∀ A' c' ob', Kn (({ s with M := s.M.set k (grow E rp.sz (.slice A' (xs ++ ys).length c') (xs ++ ys).length ob'), F := s.F ++ [slF rp A' c' (xs ++ ys)] } : St).put d (.slice A' (xs ++ ys).length c'))) : OpTr P r e o Kn s := by
  intro γ a w hh K Q hK
  refine ⟨fun f _ => fen_fn r f, ?_⟩
  subst hn
  subst hm
  obtain ⟨i, hi, hsz⟩ := tyOf_info ht
  obtain ⟨i', z, hi', hz', hzc⟩ := zeroOf_info hz
  obtain ⟨i'', hi'', hby'⟩ := bytesOf_info hby
  rw [hi] at hi' hi''
  cases hi'
  cases hi''
  obtain ⟨A', c', ob', γ', w', hr, hc', hs', fr, hob, hok⟩ := append_step (ty := o.type) (sliceOf_und hT) hi hz' hsz (by rw [← hzl, ← hzc]; simp) (hh.hm.all _ (List.mem_of_getElem? hk)) (hh.facts _ (List.mem_of_getElem? hfx)) (hh.facts _ (List.mem_of_getElem? hfy)) (by rw [hby']; exact hb) hb2 hh.ok
  have hrun : (execOp a.eval o).run P w = .ok (.value (.slice A' (xs ++ ys).length c')) w' := by
    simp only [execOp, hop, resolve, invoke, builtin, Sem.run_bind, Sem.run_pure, Result.andThen_ok, List.map_toArray, List.map_cons, List.map_nil, hh.eval hx, hh.eval hy, hr]
  rw [semAt_eq _ _ _ (by rw [hop]; intro c; simp), hrun, Oper.uponIn_value, ho]
  have hlt : k < s.M.length := (List.getElem?_eq_some_iff.1 hk).1
  have hst := hh.step (M' := s.M.set k (grow E rp.sz (.slice A' (xs ++ ys).length c') (xs ++ ys).length ob')) fr (fun b hb => hh.own _ (List.mem_of_getElem? hk) b hb) (hh.hm.set hk fr hc' (fun b hb => hob b hb))
    (fun c hc b hb => by
      rcases List.mem_or_eq_of_mem_set hc with q | q
      · exact hh.own c q b hb
      · subst q
        rcases hob b hb with q | q
        · exact hh.own _ (List.mem_of_getElem? hk) b q
        · exact .inr (Nat.le_trans hh.fr.le.size q)) hok
  exact hK _ γ' _ _ (h A' c' ob') ((hst.addF (f := slF rp A' c' (xs ++ ys)) hs').put d _ hN)

/-- A slice that is full may be appended to. -/
theorem OpTr.full {E : TypeId} {sz : Nat} {A : Option Addr} {n : Nat} (h : OpTr P r e o Kn { s with M := grow E sz (.slice A n n) n none :: s.M }) : OpTr P r e o Kn s :=
  fun γ a w hh => h γ a w
    { size := hh.size, slots := hh.slots, defers := hh.defers, facts := hh.facts, fr := hh.fr, ok := hh.ok
      hm := hh.hm.cons (.inl ⟨rfl, A, rfl⟩) (fun d hd b hb => by cases hb)
      own := fun c hc b hb => by
        rcases List.mem_cons.1 hc with q | q
        · subst q; cases hb
        · exact hh.own c q b hb }
theorem TrL.full {ops : Array Oper} {l : List Oper} {E : TypeId} {sz : Nat} {A : Option Addr} {n : Nat} (h : TrL P r e ops l Kn { s with M := grow E sz (.slice A n n) n none :: s.M }) : TrL P r e ops l Kn s :=
  fun γ a w hh => h γ a w
    { size := hh.size, slots := hh.slots, defers := hh.defers, facts := hh.facts, fr := hh.fr, ok := hh.ok
      hm := hh.hm.cons (.inl ⟨rfl, A, rfl⟩) (fun d hd b hb => by cases hb)
      own := fun c hc b hb => by
        rcases List.mem_cons.1 hc with q | q
        · subst q; cases hb
        · exact hh.own c q b hb }
theorem Tr.full {c : Code} {Q : SPost} {E : TypeId} {sz : Nat} {A : Option Addr} {n : Nat} (h : Tr P r e c Q { s with M := grow E sz (.slice A n n) n none :: s.M }) : Tr P r e c Q s :=
  fun γ a w hh => h γ a w
    { size := hh.size, slots := hh.slots, defers := hh.defers, facts := hh.facts, fr := hh.fr, ok := hh.ok
      hm := hh.hm.cons (.inl ⟨rfl, A, rfl⟩) (fun d hd b hb => by cases hb)
      own := fun c hc b hb => by
        rcases List.mem_cons.1 hc with q | q
        · subst q; cases hb
        · exact hh.own c q b hb }
theorem Tr.addF {c : Code} {Q : SPost} (f : Fact) (hf : ∀ γ w, (∀ g ∈ s.F, g.p γ w) → (∀ c ∈ s.M, c.p γ w) → f.p γ w) (h : Tr P r e c Q { s with F := s.F ++ [f] }) : Tr P r e c Q s :=
  fun γ a w hh => h γ a w (hh.addF (hf γ w hh.facts hh.hm.all))
theorem TrL.addF {ops : Array Oper} {l : List Oper} (f : Fact) (hf : ∀ γ w, (∀ g ∈ s.F, g.p γ w) → (∀ c ∈ s.M, c.p γ w) → f.p γ w) (h : TrL P r e ops l Kn { s with F := s.F ++ [f] }) : TrL P r e ops l Kn s :=
  fun γ a w hh => h γ a w (hh.addF (hf γ w hh.facts hh.hm.all))
theorem OpTr.addF (f : Fact) (hf : ∀ γ w, (∀ g ∈ s.F, g.p γ w) → (∀ c ∈ s.M, c.p γ w) → f.p γ w) (h : OpTr P r e o Kn { s with F := s.F ++ [f] }) : OpTr P r e o Kn s :=
  fun γ a w hh => h γ a w (hh.addF (hf γ w hh.facts hh.hm.all))
end
end Go.Proofs.Ytbeknohemgjfbaa.L
namespace Go.Proofs.Ytbeknohemgjfbaa.L
open Go Go.Proofs.Ytbeknohemgjfbaa.Pu
set_option linter.unusedVariables false

/-- Where the parts of a struct lie. -/
def placesOf (P : Program) (T : TypeId) : Option (List (Nat × Nat)) :=
  match P.underlying T with
  | some (.struct fs) => fs.toList.mapM fun f => (P.info? f.type).map fun i => (f.offset, i.size)
  | _ => none
def arrayOf (P : Program) (T : TypeId) : Option (Nat × TypeId) :=
  match P.underlying T with
  | some (.array n E) => some (n, E)
  | _ => none

def fillL (place : Nat → Option (Nat × Nat)) (cells : List Value) : List (Nat × List Value) → Option (List Value)
  | [] => some cells
  | (i, cs) :: rest =>
    match place i with
    | none => none
    | some (off, size) => if cs.length ≠ size ∨ off + cs.length > cells.length then none else fillL place (spl cells off cs) rest

theorem foldl_set (off : Nat) : ∀ (cs : List Value) (j : Nat) (cells : Array Value), off + j + cs.length ≤ cells.size →
    (cs.zipIdx j).foldl (fun (c : Array Value) (p : Value × Nat) => c.setIfInBounds (off + p.2) p.1) cells = (spl cells.toList (off + j) cs).toArray := by
  intro cs
  induction cs with
  | nil => intro j cells h; simp [spl]
  | cons v cs ih =>
    intro j cells h
    simp only [List.length_cons] at h
    rw [List.zipIdx_cons, List.foldl_cons, ih (j + 1) _ (by simp; omega)]
    congr 1
    simp only [spl, Array.toList_setIfInBounds, List.length_cons]
    apply List.ext_getElem?
    intro q
    simp only [List.append_assoc, List.getElem?_append, List.length_take, List.length_set, Array.length_toList, List.getElem?_take, List.getElem?_set, List.getElem?_drop]
    by_cases h1 : q < off + j
    · have : q < min (off + (j + 1)) cells.size := by omega
      have h2 : q < min (off + j) cells.size := by omega
      simp only [this, h2, if_true, h1, show q < off + (j + 1) by omega, show ¬ off + j = q by omega, if_false]
    · by_cases h2 : q = off + j
      · subst h2
        have : off + j < min (off + (j + 1)) cells.size := by omega
        have h3 : ¬ off + j < min (off + j) cells.size := by omega
        simp only [this, h3, if_true, if_false, show off + j < off + (j + 1) by omega, show off + j < cells.size by omega, show off + j - min (off + j) cells.size = 0 by omega]
        simp
      · have h3 : ¬ q < min (off + (j + 1)) cells.size := by omega
        have h4 : ¬ q < min (off + j) cells.size := by omega
        simp only [h3, h4, if_false]
        have h5 : min (off + (j + 1)) cells.size = off + (j + 1) := by omega
        have h6 : min (off + j) cells.size = off + j := by omega
        rw [h5, h6, show q - (off + j) = (q - (off + (j + 1))) + 1 by omega]
        simp only [List.getElem?_cons_succ, List.length_cons, Nat.add_lt_add_iff_right]
        split
        · rfl
        · simp only [show ¬ off + j = off + (j + 1) + cs.length + (q - (off + (j + 1)) - cs.length) by omega, if_false]
          congr 1
          omega

theorem fill_list (place : Nat → Option (Nat × Nat)) : ∀ (parts : List (Nat × Value)) (cells out : List Value), fillL place cells (parts.map fun p => (p.1, p.2.cells.toList)) = some out → Instr.fill place cells.toArray parts = some out.toArray := by
  intro parts
  induction parts with
  | nil => intro cells out h; simp [fillL] at h; subst h; rfl
  | cons p parts ih =>
    obtain ⟨i, v⟩ := p
    intro cells out h
    rw [List.map_cons, fillL] at h
    simp only [Instr.fill]
    cases hp : place i with
    | none => rw [hp] at h; cases h
    | some q =>
      obtain ⟨off, size⟩ := q
      rw [hp] at h
      simp only [Array.length_toList] at h
      split at h
      · cases h
      · rename_i hne
        have hn1 : ¬ (v.cells.size ≠ size ∨ off + v.cells.size > cells.length) := hne
        have h0 : off + v.cells.size ≤ cells.length := by omega
        have := foldl_set off v.cells.toList 0 cells.toArray (by simpa using h0)
        have hz : v.cells.zipIdx.foldl (fun (cs : Array Value) (x : Value × Nat) => cs.setIfInBounds (off + x.2) x.1) cells.toArray = (spl cells off v.cells.toList).toArray := by
          rw [← Array.foldl_toList, Array.toList_zipIdx]
          simpa using this
        have hd : ¬ ((decide (v.cells.size ≠ size) || decide (off + v.cells.size > cells.toArray.size)) = true) := by
          simp only [Bool.or_eq_true, decide_eq_true_eq, List.size_toArray]; exact hn1
        exact (if_neg hd).trans ((congrArg (fun c => Instr.fill place c parts) hz).trans (ih _ _ h))

section
variable {P : Program} {r : Option Nat} {e : Env} {o : Oper} {Kn : St → Prop} {s : St} {γ γ' : Gh} {w w' : World} {a : Act}

theorem run_places {fs : Array Field} {pl : List (Nat × Nat)} (h : (fs.toList.mapM fun f => (P.info? f.type).map fun i => (f.offset, i.size)) = some pl) :
    (fs.mapM (m := Sem) fun f => do Pure.pure (f.offset, ← sizeOf f.type)).run P w = .ok pl.toArray w := by
  have key : ∀ (l : List Field) (pl : List (Nat × Nat)), (l.mapM fun f => (P.info? f.type).map fun i => (f.offset, i.size)) = some pl → (l.mapM (m := Sem) fun f => do Pure.pure (f.offset, ← sizeOf f.type)).run P w = .ok pl w := by
    intro l
    induction l with
    | nil => intro pl h; simp at h; subst h; rfl
    | cons f l ih =>
      intro pl h
      rw [List.mapM_cons] at h
      cases hi : P.info? f.type with
      | none => rw [hi] at h; simp at h
      | some i =>
        rw [hi] at h
        simp only [Option.map_some, Option.bind_eq_bind, Option.bind_some] at h
        obtain ⟨q, hq, h2⟩ := Option.bind_eq_some_iff.1 h
        simp at h2
        subst h2
        rw [List.mapM_cons, Sem.run_bind, Sem.run_bind, sizeOf, Sem.run_bind, run_typeInfo' hi]
        simp only [Result.andThen_ok, Sem.run_pure, Sem.run_bind, ih q hq]
  rw [← Array.toArray_toList (xs := fs), List.mapM_toArray, Sem.run_map, key fs.toList pl h]
  rfl

theorem parts_eval (hh : Holds e s γ a w) {ps : List (Nat × Operand)} {vs : List Value} (h : ps.map (fun p => ev s.L p.2) = vs.map some) : (ps.map fun p => (p.1, a.eval p.2)) = (ps.map (·.1)).zip vs := by
  induction ps generalizing vs with
  | nil => cases vs <;> simp_all
  | cons p ps ih =>
    cases vs with
    | nil => simp at h
    | cons v vs => simp only [List.map_cons, List.cons.injEq] at h; simp [hh.eval h.1, ih h.2]

theorem zip_cells : ∀ (is : List Nat) (vs : List Value), ((is.zip vs).map fun p => (p.1, p.2.cells.toList)) = is.zip (vs.map fun v => v.cells.toList) := by
  intro is
  induction is with
  | nil => intro vs; rfl
  | cons i is ih => intro vs; cases vs with
    | nil => rfl
    | cons v vs => simp [ih vs]

theorem v_build {T : TypeId} {ps : List (Nat × Operand)} {vs zc out : List Value} {pl : List (Nat × Nat)} (hop : o.op = .build T ps.toArray) (hpl : placesOf P T = some pl) (hz : zeroOf P T = some zc)
    (hps : ps.map (fun p => ev s.L p.2) = vs.map some) (hout : fillL (pl[·]?) zc ((ps.map (·.1)).zip (vs.map fun v => v.cells.toList)) = some out) : OpV P e o s (.agg out.toArray) :=
  ⟨(by rw [hop]; intro c; simp), (fun γ a w hh => by
    obtain ⟨z, hz1, hz2⟩ := run_zeroValue' (w := w) hz
    unfold placesOf at hpl
    split at hpl
    · rename_i fs hfs
      have hfill := fill_list (fun i => pl.toArray[i]?) ((ps.map (·.1)).zip vs) zc out (by rw [zip_cells]; rw [← hout]; congr 1; funext i; simp)
      have hpe : (ps.toArray.map fun p => (p.1, a.eval p.2)) = ((ps.map (·.1)).zip vs).toArray := by rw [List.map_toArray, parts_eval hh hps]
      simp only [execOp, hop, Instr.build, Sem.run_bind, hz2, Result.andThen_ok, run_und' hfs, run_places hpl, hpe, hz1, hfill, Sem.run_pure]
    · cases hpl)⟩

theorem v_buildArr {n m : Nat} {T E : TypeId} {ag : Bool} {ps : List (Nat × Operand)} {vs zc out : List Value} (hop : o.op = .build T ps.toArray) (ha : arrayOf P T = some (n, E)) (ht : tyOf P E = some (ag, m)) (hz : zeroOf P T = some zc)
    (hps : ps.map (fun p => ev s.L p.2) = vs.map some) (hout : fillL (fun i => some (i * m, m)) zc ((ps.map (·.1)).zip (vs.map fun v => v.cells.toList)) = some out) : OpV P e o s (.agg out.toArray) :=
  ⟨(by rw [hop]; intro c; simp), (fun γ a w hh => by
    obtain ⟨z, hz1, hz2⟩ := run_zeroValue' (w := w) hz
    unfold arrayOf at ha
    split at ha
    · rename_i n' E' hfs
      simp at ha
      obtain ⟨rfl, rfl⟩ := ha
      have hfill := fill_list (fun i => some (i * m, m)) ((ps.map (·.1)).zip vs) zc out (by rw [zip_cells]; exact hout)
      have hpe : (ps.toArray.map fun p => (p.1, a.eval p.2)) = ((ps.map (·.1)).zip vs).toArray := by rw [List.map_toArray, parts_eval hh hps]
      simp only [execOp, hop, Instr.build, Sem.run_bind, hz2, Result.andThen_ok, run_und' hfs, run_sizeOf' ht, hpe, hz1, hfill, Sem.run_pure]
    · cases ha)⟩

def zrow (zc : List Value) (n : Nat) : List Value := (List.range n).map fun j => zc.toArray[j % zc.toArray.size]!

/-- A new slice of given elements. -/
theorem op_buildSlice {α : Type} {rp : Rep α} {d len : Nat} {T E : TypeId} {ag : Bool} {ps : List (Nat × Operand)} {vs zc out : List Value} {xs : List α} (ho : o.dst = some d) (hN : d < e.N) (hop : o.op = .buildSlice T len ps.toArray) (hT : sliceOf P T = some E) (ht : tyOf P E = some (ag, rp.sz)) (hz : zeroOf P E = some zc)
    (hps : ps.map (fun p => ev s.L p.2) = vs.map some) (hout : fillL (fun i => some (i * rp.sz, rp.sz)) (if len * rp.sz = 0 then [] else zrow zc (len * rp.sz)) ((ps.map (·.1)).zip (vs.map fun v => v.cells.toList)) = some out) (hbig : len * rp.sz ≤ 16777216) (hbig2 : len ≤ big) (hlen : xs.length = len)
    (hrow : ∀ γ w, (∀ f ∈ s.F, f.p γ w) → Row rp γ w xs out) (h : ∀ A, Kn (({ s with F := s.F ++ [slF rp A len xs] } : St).put d (.slice A len len))) : OpTr P r e o Kn s := by
  intro γ a w hh K Q hK
  refine ⟨fun f _ => fen_fn r f, ?_⟩
  obtain ⟨z, hz1, hz2⟩ := run_zeroValue' (w := w) hz
  have hfill := fill_list (fun i => some (i * rp.sz, rp.sz)) ((ps.map (·.1)).zip vs) _ out (by rw [zip_cells]; exact hout)
  have hpe : (ps.toArray.map fun p => (p.1, a.eval p.2)) = ((ps.map (·.1)).zip vs).toArray := by rw [List.map_toArray, parts_eval hh hps]
  have hlim : ¬ (len * rp.sz > 2 ^ 24) := by omega
  have hcells : ((Array.range (len * rp.sz)).map fun j => zc.toArray[j % zc.toArray.size]!) = (zrow zc (len * rp.sz)).toArray := by
    apply Array.ext'
    simp [zrow]
  have hrun : (execOp a.eval o).run P w = .ok (.value (.slice (some ⟨w.heap.size, 0, none⟩) len len)) (w.alloc (.cells out.toArray E)) := by
    simp only [execOp, hop, Instr.buildSlice, Sem.run_bind, run_und' (sliceOf_und hT), Result.andThen_ok, run_sizeOf' ht, hlim, if_false, Sem.run_ite]
    by_cases h0 : len * rp.sz = 0
    · simp only [h0, if_true, Sem.run_pure, Result.andThen_ok]
      rw [if_pos h0] at hfill
      have hf' : Instr.fill (fun i => some (i * rp.sz, rp.sz)) ((Array.range 0).map fun j => (#[] : Array Value)[j % (#[] : Array Value).size]!) ((ps.map (·.1)).zip vs) = some out.toArray := by
        have he : ((Array.range 0).map fun j => (#[] : Array Value)[j % (#[] : Array Value).size]!) = #[] := by apply Array.ext'; simp
        rw [he]; exact hfill
      simp only [hpe]
      rw [hf']
      simp [newRow]
    · simp only [h0, if_false, hz2, Result.andThen_ok, Sem.run_pure, hz1, hcells]
      rw [if_neg h0] at hfill
      simp only [hpe]
      rw [hfill]
      simp [newRow]
  rw [semAt_eq _ _ _ (by rw [hop]; intro c; simp), hrun, Oper.uponIn_value, ho]
  have hr := hrow γ w hh.facts
  have fr := Fr.alloc hh.ok out.toArray E (len * rp.sz)
  have hst := hh.step fr (fun b hb => hb.elim) (hh.hm.keep fr (fun _ _ _ _ q => q)) hh.own (hh.ok.alloc _ _)
  have hsl : SlP rp (upd γ w.heap.size (len * rp.sz)) (w.alloc (.cells out.toArray E)) (some ⟨w.heap.size, 0, none⟩) len xs := by
    refine ⟨by omega, ?_, (fun q => by cases q), fun q hq => ?_⟩
    · rw [hlen]; exact Nat.le_trans hbig2 (by decide)
    · cases hq
      refine ⟨fun _ => rfl, out, hr.mono fr.le, fun j v hv => ?_⟩
      have hj : j < out.length := (List.getElem?_eq_some_iff.1 hv).1
      rw [hr.len, hlen] at hj
      refine ⟨?_, by rw [upd_same]; simp only [Nat.zero_add]; exact hj⟩
      rw [World.cell?_alloc_new, Nat.zero_add]
      simpa using hv
  exact hK _ _ _ _ (h (some ⟨w.heap.size, 0, none⟩)) ((hst.addF (f := slF rp (some ⟨w.heap.size, 0, none⟩) len xs) hsl).put d _ hN)
end
end Go.Proofs.Ytbeknohemgjfbaa.L
namespace Go.Proofs.Ytbeknohemgjfbaa.L
open Go Go.Proofs.Ytbeknohemgjfbaa.Pu
set_option linter.unusedVariables false

def fieldTy (P : Program) (S : TypeId) (f : Nat) : Option (Nat × TypeId) :=
  match P.underlying S with
  | some (.struct fs) => match fs[f]? with
    | some fd => some (fd.offset, fd.type)
    | none => none
  | _ => none

section
variable {P : Program} {r : Option Nat} {e : Env} {o : Oper} {Kn : St → Prop} {s : St} {γ γ' : Gh} {w w' : World} {a : Act}

/-- A bound of a slice expression. -/
def bnd (s : St) (y : Option Operand) (dflt n : Nat) : Prop :=
  match y with
  | none => n = dflt
  | some y => ∃ k i, ev s.L y = some (.int k i) ∧ 0 ≤ i ∧ i.toNat = n

theorem run_sliceBound {k : IntKind} {i : Int} {y : Nat} (code : BoundsCode) (h0 : 0 ≤ i) (h1 : i.toNat ≤ y) : (Instr.sliceBound (.int k i) y code).run P w = .ok i.toNat w := by
  have : i ≤ y := by omega
  simp [Instr.sliceBound, asIntOf, h0, this]

theorem run_sliceBounds (hh : Holds e s γ a w) {lo hi mx : Option Operand} {len cap l h m : Nat} (hlo : bnd s lo 0 l) (hhi : bnd s hi len h) (hmx : bnd s mx cap m) (hlh : l ≤ h) (hhm : h ≤ m) (hmc : m ≤ cap) (hms : mx.isSome = true → hi.isSome = true) :
    (Instr.sliceBounds true len cap (lo.map a.eval) (hi.map a.eval) (mx.map a.eval)).run P w = .ok (l, h, m) w := by
  have hl : (match lo.map a.eval with
      | some v => Instr.sliceBound v h (if (mx.map a.eval).isSome then .slice3C else .sliceB)
      | none => Pure.pure 0 : Sem Nat).run P w = .ok l w := by
    cases lo with
    | none => simp only [bnd] at hlo; subst hlo; rfl
    | some y =>
      obtain ⟨k, i, hy, h0, rfl⟩ := hlo
      simp only [Option.map_some, hh.eval hy]
      exact run_sliceBound _ h0 hlh
  have hb : (match hi.map a.eval, mx.map a.eval with
      | some v, some _ => Instr.sliceBound v m .slice3B
      | some v, none => Instr.sliceBound v m .sliceAcap
      | none, none => Pure.pure len
      | none, some _ => stuck "Slice: max without high" : Sem Nat).run P w = .ok h w := by
    cases hi with
    | none =>
      cases mx with
      | none => simp only [bnd] at hhi; subst hhi; rfl
      | some _ => simp at hms
    | some y =>
      obtain ⟨k, i, hy, h0, rfl⟩ := hhi
      cases mx with
      | none => simp only [Option.map_some, Option.map_none, hh.eval hy]; exact run_sliceBound _ h0 hhm
      | some _ => simp only [Option.map_some, hh.eval hy]; exact run_sliceBound _ h0 hhm
  have hm : (match mx.map a.eval with
      | some v => Instr.sliceBound v cap .slice3Acap
      | none => Pure.pure cap : Sem Nat).run P w = .ok m w := by
    cases mx with
    | none => simp only [bnd] at hmx; subst hmx; rfl
    | some y =>
      obtain ⟨k, i, hy, h0, rfl⟩ := hmx
      simp only [Option.map_some, hh.eval hy]
      exact run_sliceBound _ h0 hmc
  have key : ∀ (L H M : Option Value), Instr.sliceBounds true len cap L H M = ((match M with
      | some v => Instr.sliceBound v cap .slice3Acap
      | none => Pure.pure cap : Sem Nat) >>= fun m => (match H, M with
      | some v, some _ => Instr.sliceBound v m .slice3B
      | some v, none => Instr.sliceBound v m .sliceAcap
      | none, none => Pure.pure len
      | none, some _ => stuck "Slice: max without high" : Sem Nat) >>= fun h => (match L with
      | some v => Instr.sliceBound v h (if M.isSome then .slice3C else .sliceB)
      | none => Pure.pure 0 : Sem Nat) >>= fun l => Pure.pure (l, h, m)) := by
    intro L H M
    cases L <;> cases H <;> cases M <;> rfl
  rw [key, Sem.run_bind, hm, Result.andThen_ok, Sem.run_bind, hb, Result.andThen_ok, Sem.run_bind, hl, Result.andThen_ok]
  rfl

theorem SlP.part {α : Type} {rp : Rep α} {A : Option Addr} {c l h m : Nat} {xs : List α} (hs : SlP rp γ w A c xs) (hlh : l ≤ h) (hhl : h ≤ xs.length) (hhm : h ≤ m) (hmc : m ≤ c) :
    SlP rp γ w (if m = l then A else A.map (·.add (l * rp.sz))) (m - l) ((xs.take h).drop l) := by
  refine ⟨by simp; omega, ?_, fun hA => ?_, fun q hq => ?_⟩
  · have := hs.bd
    simp only [List.length_drop, List.length_take, top] at *
    omega
  · split at hA
    · rw [hs.nil hA]; simp
    · cases A with
      | none => rw [hs.nil rfl]; simp
      | some _ => simp at hA
  · split at hq
    · obtain ⟨h1, ds, hr, hc⟩ := hs.row q hq
      have : (xs.take h).drop l = [] := by apply List.eq_nil_of_length_eq_zero; simp; omega
      rw [this]
      exact ⟨fun q => absurd rfl q, [], .nil, fun j v hv => by simp at hv⟩
    · cases A with
      | none => simp at hq
      | some ad =>
        obtain ⟨h1', ds, hr, hc⟩ := hs.row ad rfl
        by_cases hxe : xs = []
        · subst hxe
          have : (([] : List α).take h).drop l = [] := by simp
          rw [this]
          exact ⟨fun q => absurd rfl q, [], .nil, fun j v hv => by simp at hv⟩
        have h1 := h1' hxe
        simp only [Option.map_some, Option.some.injEq] at hq
        have hq' : q = ⟨ad.block, ad.off + l * rp.sz, none⟩ := by
          rw [← hq]
          obtain ⟨b, of, sp⟩ := ad
          simp at h1
          subst h1
          exact add_off _ _ _
        subst hq'
        refine ⟨fun _ => rfl, (ds.take (h * rp.sz)).drop (l * rp.sz), (hr.take h).drop l, fun j v hv => ?_⟩
        rw [List.getElem?_drop, List.getElem?_take] at hv
        split at hv
        · have := hc _ _ hv
          simp only [Nat.add_assoc] at this ⊢
          exact this
        · cases hv

def slA (A : Option Addr) (l m sz : Nat) : Option Addr := if m = l then A else A.map (·.add (l * sz))

/-- x[lo:hi], x[lo:hi:max] of a slice. -/
theorem v_slice {l h m c n cc sz q : Nat} {T E : TypeId} {x : Operand} {lo hi mx : Option Operand} {ag : Bool} {A : Option Addr} (hop : o.op = .slice T x lo hi mx) (hT : sliceOf P T = some E) (ht : tyOf P E = some (ag, sz))
    (hx : ev s.L x = some (.slice A n c)) (hlo : bnd s lo 0 l) (hhi : bnd s hi n h) (hmx : bnd s mx c m) (hlh : l ≤ h) (hhm : h ≤ m) (hmc : m ≤ c) (hms : mx.isSome = true → hi.isSome = true)
    (hlen : h - l = q) (hcc : m - l = cc) : OpV P e o s (.slice (slA A l m sz) q cc) :=
  ⟨by rw [hop]; intro c; simp, fun γ a w hh => by
    simp only [execOp, hop, Instr.sliceAt, Sem.run_bind, run_und' (sliceOf_und hT), Result.andThen_ok, Instr.slice, hh.eval hx, run_sliceBounds hh hlo hhi hmx hlh hhm hmc hms, run_sizeOf' ht, Sem.run_pure, hlen, hcc]
    rfl⟩
theorem slF_part {α : Type} {rp : Rep α} {A : Option Addr} {c l h m cc k : Nat} {xs ys : List α} (hk : s.F[k]? = some (slF rp A c xs)) (hlh : l ≤ h) (hhl : h ≤ xs.length) (hhm : h ≤ m) (hmc : m ≤ c) (hys : (xs.take h).drop l = ys) (hcc : m - l = cc) :
    ∀ γ w, (∀ g ∈ s.F, g.p γ w) → (∀ c ∈ s.M, c.p γ w) → (slF rp (slA A l m rp.sz) cc ys).p γ w := fun γ w hF _ => by
  have hf : SlP rp γ w A c xs := hF _ (List.mem_of_getElem? hk)
  have hp := hf.part (m := m) hlh hhl hhm hmc
  rw [hys, hcc] at hp
  exact hp
/-- What a slice's fact says of its lengths. -/
theorem slF_le {α : Type} {rp : Rep α} {A : Option Addr} {c k : Nat} {xs : List α} (hk : s.F[k]? = some (slF rp A c xs)) : Pre s (xs.length ≤ c ∧ xs.length ≤ top) := fun γ w hF _ => by
  have hf : SlP rp γ w A c xs := hF _ (List.mem_of_getElem? hk)
  exact ⟨hf.le, hf.bd⟩

/-! ### Parts of values -/
theorem run_part {T : TypeId} {ag : Bool} {n : Nat} (ht : tyOf P T = some (ag, n)) (hn : ag = false → n = 1) (cs : List Value) (off : Nat) (hl : ((cs.drop off).take n).length = n) : (part T cs.toArray off).run P w = .ok (mkv ag ((cs.drop off).take n)) w := by
  unfold part
  rw [Sem.run_bind, run_isAgg' ht]
  cases ag with
  | true =>
    simp only [Result.andThen, if_true, Sem.run_bind, run_sizeOf' ht, Sem.run_pure, mkv]
    congr 2
    apply Array.ext'
    simp only [Array.toList_extract, List.extract_eq_take_drop, Nat.add_sub_cancel_left]
  | false =>
    have h1 := hn rfl
    subst h1
    simp only [Result.andThen, List.getElem?_toArray]
    have h0 : off < cs.length := by simp at hl; omega
    rw [List.getElem?_eq_getElem h0, List.drop_eq_getElem_cons h0]
    simp only [List.take_succ_cons, List.take_zero, mkv, List.headD_cons]
    rfl

theorem v_index {n m : Nat} {T E : TypeId} {x y : Operand} {ag : Bool} {cs : List Value} {k : IntKind} {i : Int} {v : Value} (hop : o.op = .index T x y) (ha : arrayOf P T = some (n, E)) (ht : tyOf P E = some (ag, m)) (hn : ag = false → m = 1)
    (hx : ev s.L x = some (.agg cs.toArray)) (hy : ev s.L y = some (.int k i)) (h0 : 0 ≤ i) (h1 : i < n) (hl : ((cs.drop (i.toNat * m)).take m).length = m) (hv : mkv ag ((cs.drop (i.toNat * m)).take m) = v) : OpV P e o s v :=
  ⟨(by rw [hop]; intro c; simp), (fun γ a w hh => by
    unfold arrayOf at ha
    split at ha
    · rename_i n' E' hfs
      simp at ha
      obtain ⟨rfl, rfl⟩ := ha
      simp only [execOp, hop, hh.eval hx, hh.eval hy, Instr.index, asIntOf, Sem.run_bind, Sem.run_pure, Result.andThen_ok, run_und' hfs, h0, h1, and_self, if_true, run_sizeOf' ht, run_part ht hn cs _ hl, hv, Sem.run_ite]
    · cases ha)⟩

theorem v_field {f off n : Nat} {S T : TypeId} {x : Operand} {ag : Bool} {cs : List Value} {v : Value} (hop : o.op = .field S x f) (hf : fieldTy P S f = some (off, T)) (ht : tyOf P T = some (ag, n)) (hn : ag = false → n = 1)
    (hx : ev s.L x = some (.agg cs.toArray)) (hl : ((cs.drop off).take n).length = n) (hv : mkv ag ((cs.drop off).take n) = v) : OpV P e o s v :=
  ⟨(by rw [hop]; intro c; simp), (fun γ a w hh => by
    unfold fieldTy at hf
    split at hf
    · rename_i fs hfs
      split at hf
      · rename_i fd hfd
        simp at hf
        obtain ⟨rfl, rfl⟩ := hf
        simp only [execOp, hop, hh.eval hx, Instr.field, asAgg, Sem.run_bind, Sem.run_pure, Result.andThen_ok, run_und' hfs, hfd, run_part ht hn cs _ hl, hv]
      · cases hf
    · cases hf)⟩

/-! ### Structs of whole numbers, compared -/
/-- The places of a struct's fields, if all are whole numbers. -/
def intFields (P : Program) (T : TypeId) : Option (List Nat) :=
  match P.underlying T with
  | some (.struct fs) => if P.stoodInHeld T then none else fs.toList.mapM fun f =>
      match P.underlying f.type, tyOf P f.type with
      | some (.int _), some (false, 1) => if f.name = "_" then none else some f.offset
      | _, _ => none
  | _ => none

def eqCells (ofs : List Nat) (xs ys : List Value) : Option Bool :=
  match ofs with
  | [] => some true
  | o :: ofs => match xs[o]?, ys[o]? with
    | some (.int k a), some (.int k' b) => if k = k' then (if a == b then eqCells ofs xs ys else some false) else none
    | _, _ => none

theorem run_equal_ints {T : TypeId} {ofs : List Nat} (hT : intFields P T = some ofs) {xs ys : List Value} {b : Bool} (hb : eqCells ofs xs ys = some b) (w : World) : (Op.equal T (.agg xs.toArray) (.agg ys.toArray)).run P w = .ok b w := by
  have : ∀ d, (Op.equalIn (d + 2) T (.agg xs.toArray) (.agg ys.toArray)).run P w = .ok b w := by
    intro d
    unfold intFields at hT
    split at hT
    · rename_i fs hfs
      split at hT
      · cases hT
      · rename_i hst
        rw [Op.equalIn, Sem.run_bind, run_und' hfs]
        simp only [Result.andThen_ok, Sem.run_bind, run_program, hst, if_false, Bool.false_eq_true]
        rw [← Array.toArray_toList (xs := fs)]
        generalize fs.toList = l at hT
        rw [List.forIn_toArray]
        induction l generalizing ofs with
        | nil =>
          simp at hT
          subst hT
          simp [eqCells] at hb
          subst hb
          rfl
        | cons f l ih =>
          rw [List.mapM_cons] at hT
          obtain ⟨q, hq, hT2⟩ := Option.bind_eq_some_iff.1 hT
          obtain ⟨qs, hqs, h3⟩ := Option.bind_eq_some_iff.1 hT2
          simp at h3
          subst h3
          split at hq
          · rename_i kk hu htt
            split at hq
            · cases hq
            · rename_i hnm
              simp at hq
              subst hq
              rw [eqCells] at hb
              split at hb
              · rename_i k x k' y hx hy
                split at hb
                · rename_i hkk
                  subst hkk
                  have hxl : f.offset < xs.length := (List.getElem?_eq_some_iff.1 hx).1
                  have hyl : f.offset < ys.length := (List.getElem?_eq_some_iff.1 hy).1
                  have px := run_part (w := w) htt (fun _ => rfl) xs f.offset (by simp; omega)
                  have py := run_part (w := w) htt (fun _ => rfl) ys f.offset (by simp; omega)
                  have ex : mkv false ((xs.drop f.offset).take 1) = .int k x := by
                    rw [List.drop_eq_getElem_cons hxl]; simp only [List.take_succ_cons, List.take_zero, mkv, List.headD_cons]; rw [List.getElem?_eq_getElem hxl] at hx; simpa using hx
                  have ey : mkv false ((ys.drop f.offset).take 1) = .int k y := by
                    rw [List.drop_eq_getElem_cons hyl]; simp only [List.take_succ_cons, List.take_zero, mkv, List.headD_cons]; rw [List.getElem?_eq_getElem hyl] at hy; simpa using hy
                  rw [ex] at px
                  rw [ey] at py
                  have hcmp : (Op.equalIn (d + 1) f.type (.int k x) (.int k y)).run P w = .ok (x == y) w := by
                    simp only [Op.equalIn, Sem.run_bind, run_und' hu, Result.andThen_ok, if_true, Sem.run_pure]
                  rw [List.forIn_cons]
                  simp only [ne_eq, hnm, not_false_eq_true, if_true, Sem.run_bind, px, py, Result.andThen_ok, hcmp, Sem.run_ite]
                  cases hxy : (x == y) with
                  | true =>
                    simp only [hxy, if_true] at hb
                    simp only [Bool.not_true, Bool.false_eq_true, if_false, Sem.run_pure, Result.andThen_ok]
                    exact ih hb hqs
                  | false =>
                    simp only [hxy, Bool.false_eq_true, if_false, Option.some.injEq] at hb
                    subst hb
                    simp
                · cases hb
              · cases hb
          · cases hq
    · cases hT
  exact this 9998
end
end Go.Proofs.Ytbeknohemgjfbaa.L
namespace Go.Proofs.Ytbeknohemgjfbaa.L
open Go Go.Proofs.Ytbeknohemgjfbaa.Pu
set_option linter.unusedVariables false

def SubL : List (Nat × Value) → List (Nat × Value) → Prop
  | [], _ => True
  | (i, v) :: t, s => s.lookup i = some v ∧ SubL t s

theorem SubL.spec : ∀ {t s : List (Nat × Value)}, SubL t s → ∀ p ∈ t, s.lookup p.1 = some p.2 := by
  intro t
  induction t with
  | nil => intro s h p hp; simp at hp
  | cons q t ih =>
    intro s h p hp
    rcases List.mem_cons.1 hp with r | r
    · subst r; exact h.1
    · exact ih h.2 p r

section
variable {P : Program} {r : Option Nat} {e : Env} {o : Oper} {Kn : St → Prop} {s : St} {γ γ' : Gh} {w w' : World} {a : Act}

theorem mem_of_places {α : Type} {l t : List α} {js : List Nat} (h : js.map (l[·]?) = t.map some) : ∀ f ∈ t, f ∈ l := by
  intro f hf
  have : some f ∈ t.map some := List.mem_map.2 ⟨f, hf, rfl⟩
  rw [← h] at this
  obtain ⟨j, _, hj⟩ := List.mem_map.1 this
  exact List.mem_of_getElem? hj

theorem HM.places {M T : List Chunk} {ks : List Nat} (h : HM γ w M) (hn : ks.Nodup) (hM : ks.map (M[·]?) = T.map some) : HM γ w T := by
  refine ⟨fun c hc => h.all c (mem_of_places hM c hc), ?_⟩
  have hlen : ks.length = T.length := by have := congrArg List.length hM; simpa using this
  rw [List.pairwise_iff_getElem]
  intro i j hi hj hij b hb
  have gi : M[ks[i]'(by omega)]? = some T[i] := by
    have := congrArg (fun l => l[i]?) hM
    simpa [List.getElem?_map, List.getElem?_eq_getElem hi, List.getElem?_eq_getElem (show i < ks.length by omega)] using this
  have gj : M[ks[j]'(by omega)]? = some T[j] := by
    have := congrArg (fun l => l[j]?) hM
    simpa [List.getElem?_map, List.getElem?_eq_getElem hj, List.getElem?_eq_getElem (show j < ks.length by omega)] using this
  have hne : ks[i]'(by omega) ≠ ks[j]'(by omega) := by
    have := List.pairwise_iff_getElem.1 hn i j (by omega) (by omega) hij
    exact this
  obtain ⟨hi', ei⟩ := List.getElem?_eq_some_iff.1 gi
  obtain ⟨hj', ej⟩ := List.getElem?_eq_some_iff.1 gj
  have hp := List.pairwise_iff_getElem.1 h.sep
  rcases Nat.lt_or_ge (ks[i]'(by omega)) (ks[j]'(by omega)) with q | q
  · have := hp _ _ hi' hj' q b
    rw [ei, ej] at this
    exact this hb
  · have := hp _ _ hj' hi' (by omega) b
    rw [ei, ej] at this
    exact fun hjb => this hjb hb

theorem Holds.re (t : St) (ks js : List Nat) (hL : SubL t.L s.L) (hn : ks.Nodup) (hM : ks.map (s.M[·]?) = t.M.map some) (hF : js.map (s.F[·]?) = t.F.map some) (hD : t.D = s.D) (h : Holds e s γ a w) : Holds e t γ a w := by
  have h1 := h.weaken (t := { t with M := [] }) (SubL.spec hL) (List.nil_sublist _) (mem_of_places hF) hD
  exact { size := h1.size, slots := h1.slots, defers := h1.defers, hm := h.hm.places hn hM, own := fun c hc => h.own c (mem_of_places hM c hc), facts := h1.facts, fr := h1.fr, ok := h1.ok }
theorem Tr.re (t : St) (ks js : List Nat) {c : Code} {Q : SPost} (hL : SubL t.L s.L) (hn : ks.Nodup) (hM : ks.map (s.M[·]?) = t.M.map some) (hF : js.map (s.F[·]?) = t.F.map some) (hD : t.D = s.D) (h : Tr P r e c Q t) : Tr P r e c Q s :=
  fun γ a w hh => h γ a w (hh.re t ks js hL hn hM hF hD)
theorem TrL.re (t : St) (ks js : List Nat) {ops : Array Oper} {l : List Oper} (hL : SubL t.L s.L) (hn : ks.Nodup) (hM : ks.map (s.M[·]?) = t.M.map some) (hF : js.map (s.F[·]?) = t.F.map some) (hD : t.D = s.D) (h : TrL P r e ops l Kn t) : TrL P r e ops l Kn s :=
  fun γ a w hh => h γ a w (hh.re t ks js hL hn hM hF hD)

/-- A call: the chunks at the places ks and the facts at the places js are handed over; those at the places rs stay. -/
theorem op_callp {f : FuncId} {fo : Operand} {xs : List Operand} {tys : Array TypeId} {vs cap : List Value} {Mp Mr : List Chunk} {Fp : List Fact} {R : Value → List Chunk → List Fact → Prop} (ks rs js : List Nat) (hop : o.op = .call { callee := .value fo, args := xs.toArray, argTypes := tys })
    (hf : ev s.L fo = some (.func (.func f) #[] cap.toArray)) (hxs : xs.map (ev s.L) = vs.map some) (hen : entersOf P f = true) (hc : Ctr P f (vs ++ cap) Mp Fp R) (hn : (ks ++ rs).Nodup) (hM : (ks ++ rs).map (s.M[·]?) = (Mp ++ Mr).map some) (hF : js.map (s.F[·]?) = Fp.map some) (hd : ∀ d, o.dst = some d → d < e.N)
    (h : ∀ ret M' F', R ret M' F' → Kn (match o.dst with
      | some d => ({ s with M := M' ++ Mr, F := s.F ++ F' } : St).put d ret
      | none => { s with M := M' ++ Mr, F := s.F ++ F' })) : OpTr P r e o Kn s := by
  intro γ a w hh
  have hh' : Holds e { s with M := Mp ++ Mr } γ a w := { size := hh.size, slots := hh.slots, defers := hh.defers, hm := hh.hm.places hn hM, own := fun c hc => hh.own c (mem_of_places hM c hc), facts := hh.facts, fr := hh.fr, ok := hh.ok }
  exact op_call (s := { s with M := Mp ++ Mr }) hop hf hxs hen hc rfl (mem_of_places hF) hd h γ a w hh'
/-- A call that takes no chunk and gives none. -/
theorem op_call0 {f d : Nat} {fo : Operand} {xs : List Operand} {tys : Array TypeId} {vs cap : List Value} {Fp : List Fact} {R : Value → List Chunk → List Fact → Prop} (js : List Nat) (hop : o.op = .call { callee := .value fo, args := xs.toArray, argTypes := tys }) (ho : o.dst = some d) (hN : d < e.N)
    (hf : ev s.L fo = some (.func (.func f) #[] cap.toArray)) (hxs : xs.map (ev s.L) = vs.map some) (hen : entersOf P f = true) (hc : Ctr P f (vs ++ cap) [] Fp R) (hF : js.map (s.F[·]?) = Fp.map some)
    (h : ∀ ret M' F', R ret M' F' → Kn (({ s with M := M' ++ s.M, F := s.F ++ F' } : St).put d ret)) : OpTr P r e o Kn s :=
  op_call (Mr := s.M) hop hf hxs hen hc rfl (mem_of_places hF) (fun q hq => by rw [ho] at hq; cases hq; exact hN) (fun ret M' F' hR => by rw [ho]; exact h ret M' F' hR)

/-! ### Regions that draw their order -/
def waits (ops : Array Oper) (j i : Nat) : Bool := (ops[j]?).any fun o => o.after.any fun e => Region.binds .any e && e.on == i

/-- An operation that comes to a value and leaves the world, or is passed over. -/
def OpVal (P : Program) (e : Env) (ops : Array Oper) (i : Nat) (v : Value) (s : St) : Prop :=
  ∃ o, ops[i]? = some o ∧ (∀ c, o.op ≠ .defer c) ∧ ∀ γ a w, Holds e s γ a w →
    ((Region.wanted o (yielded ops a.tmps) = true ∧ (execOp a.eval o).run P w = .ok (.value v) w) ∨ (Region.wanted o (yielded ops a.tmps) = false ∧ v = undef))

theorem OpVal.plain {ops : Array Oper} {i : Nat} {v : Value} (hi : ops[i]? = some o) (hg : o.guard = none) (hv : OpV P e o s v) : OpVal P e ops i v s :=
  ⟨o, hi, hv.nd, fun γ a w hh => .inl ⟨by simp [Region.wanted, hg], hv.run γ a w hh⟩⟩
theorem OpVal.yes {ops : Array Oper} {i j d : Nat} {v : Value} {want b : Bool} (hi : ops[i]? = some o) (hg : o.guard = some (j, want)) (hd : (ops[j]?).bind (·.dst) = some d) (hb : s.L.lookup d = some (.bool b)) (hw : b = want) (hv : OpV P e o s v) : OpVal P e ops i v s :=
  ⟨o, hi, hv.nd, fun γ a w hh => .inl ⟨by simp [Region.wanted, hg, yielded_of hh hd hb, hw], hv.run γ a w hh⟩⟩
theorem OpVal.no {ops : Array Oper} {i j d : Nat} {want b : Bool} (hi : ops[i]? = some o) (hnd : ∀ c, o.op ≠ .defer c) (hg : o.guard = some (j, want)) (hd : (ops[j]?).bind (·.dst) = some d) (hb : s.L.lookup d = some (.bool b)) (hw : (b == want) = false) : OpVal P e ops i undef s :=
  ⟨o, hi, hnd, fun γ a w hh => .inr ⟨by simp [Region.wanted, hg, yielded_of hh hd hb, hw], rfl⟩⟩

abbrev Fl := List (Nat × Nat × Value)

/-- The two frames agree outside the slots of what is promised and has not come yet. -/
def Rel (fl : Fl) (listed : Array Bool) (a af : Act) : Prop :=
  a.defers = af.defers ∧ a.tmps.size = af.tmps.size ∧ ∀ t, (∀ p ∈ fl, listed.getD p.1 false = false → p.2.1 ≠ t) → a.tmps[t]? = af.tmps[t]?

def Cons (ops : Array Oper) (fl : Fl) (dn : List Nat) (listed : Array Bool) : Prop :=
  listed.size = ops.size ∧ (∀ i, listed.getD i false = true → i ∈ dn ∨ i ∈ fl.map (·.1)) ∧ ∀ i ∈ dn, listed.getD i false = true

def unl (ops : Array Oper) (listed : Array Bool) : Nat := (List.range ops.size).countP fun i => !listed.getD i false

/-- The shape that every promise keeps: its slot is its own, whoever looks at it or writes it waits for it. -/
def Shaped (ops : Array Oper) (fl : Fl) : Prop := ∀ p ∈ fl, ∃ o, ops[p.1]? = some o ∧ o.dst = some p.2.1 ∧ ∀ j oj, ops[j]? = some oj → j ≠ p.1 → (p.2.1 ∈ oj.looksAt ops ∨ oj.dst = some p.2.1) → waits ops j p.1 = true

def TrAny (P : Program) (r : Option Nat) (e : Env) (ops : Array Oper) (fl : Fl) (dn : List Nat) (Kn : St → Prop) (s : St) : Prop :=
  ∀ fuel listed, Cons ops fl dn listed → unl ops listed ≤ fuel → (∀ p ∈ fl, listed.getD p.1 false = false → OpVal P e ops p.1 p.2.2 s) → ∀ γ a af w, Holds e s γ af w → Rel fl listed a af →
    ∀ (Q : Exit → Act → World → Prop), (∀ s' γ' a' w', Kn s' → Holds e s' γ' a' w' → Q .normal a' w') → wpAnyIn (fen r) 0 P .any ops Q fuel listed a w

theorem ready_iff {ops : Array Oper} {listed : Array Bool} (hs : listed.size = ops.size) {j : Nat} : j ∈ Region.ready .any ops listed ↔ j < ops.size ∧ listed.getD j false = false ∧ ∀ i, waits ops j i = true → listed.getD i false = true := by
  rw [mem_ready]
  constructor
  · rintro ⟨h0, o, ho, hall⟩
    have hlt : j < ops.size := (Array.getElem?_eq_some_iff.1 ho).1
    refine ⟨hlt, ?_, fun i hi => ?_⟩
    · have : j < listed.size := by omega
      simpa [Array.getD_eq_getD_getElem?, this] using h0
    · simp only [waits, ho, Option.any_some, Array.any_eq_true', Bool.and_eq_true, beq_iff_eq] at hi
      obtain ⟨ed, he, hb, rfl⟩ := hi
      exact hall ed he hb
  · rintro ⟨hlt, h0, hall⟩
    refine ⟨?_, ops[j], Array.getElem?_eq_getElem hlt, fun ed he hb => hall _ ?_⟩
    · have : j < listed.size := by omega
      simpa [Array.getD_eq_getD_getElem?, this] using h0
    · simp only [waits, Array.getElem?_eq_getElem hlt, Option.any_some, Array.any_eq_true', Bool.and_eq_true, beq_iff_eq]
      exact ⟨ed, he, hb, rfl⟩

theorem getD_set {listed : Array Bool} {i j : Nat} (hi : i < listed.size) : (listed.setIfInBounds i true).getD j false = if j = i then true else listed.getD j false := by
  simp only [Array.getD_eq_getD_getElem?, Array.getElem?_setIfInBounds]
  by_cases h : i = j
  · subst h; simp [hi]
  · simp [h, show ¬ j = i from fun q => h q.symm]

theorem unl_set {ops : Array Oper} {listed : Array Bool} {i : Nat} (hs : listed.size = ops.size) (hi : i < ops.size) (h0 : listed.getD i false = false) : unl ops (listed.setIfInBounds i true) + 1 = unl ops listed := by
  have key : ∀ n, (List.range n).countP (fun j => !(listed.setIfInBounds i true).getD j false) + (if i < n then 1 else 0) = (List.range n).countP (fun j => !listed.getD j false) := by
    intro n
    induction n with
    | zero => simp
    | succ n ih =>
      rw [List.range_succ, List.countP_append, List.countP_append, List.countP_singleton, List.countP_singleton, getD_set (by omega)]
      by_cases h : n = i
      · subst h
        simp only [if_true, h0, Bool.not_true, Bool.not_false, Bool.false_eq_true, if_false, Nat.lt_irrefl, Nat.lt_succ_self] at ih ⊢
        omega
      · simp only [h, if_false]
        split at ih <;> split <;> first | omega | (split <;> omega)
  have := key ops.size
  rw [if_pos hi] at this
  exact this

/-- The frame with a value in place is as it was to whoever waits for it. -/
theorem Rel.eval {ops : Array Oper} {fl : Fl} {listed : Array Bool} {af : Act} (hsh : Shaped ops fl) (h : Rel fl listed a af) {j : Nat} {oj : Oper} (hj : ops[j]? = some oj) (hready : ∀ i, waits ops j i = true → listed.getD i false = true) (hjn : ∀ p ∈ fl, p.1 = j → listed.getD p.1 false = false → p.2.1 ∉ oj.looksAt ops) :
    (∀ x ∈ oj.op.operands, a.eval x = af.eval x) ∧ Region.wanted oj (yielded ops a.tmps) = Region.wanted oj (yielded ops af.tmps) := by
  have key : ∀ t ∈ oj.looksAt ops, a.tmps[t]? = af.tmps[t]? := by
    intro t ht
    refine h.2.2 t fun p hp hl hpt => ?_
    subst hpt
    by_cases hpj : p.1 = j
    · exact hjn p hp hpj hl ht
    · obtain ⟨o, ho, hd, hw⟩ := hsh p hp
      have := hready _ (hw j oj hj (fun q => hpj q.symm) (.inl ht))
      rw [this] at hl
      cases hl
  refine ⟨fun x hx => ?_, ?_⟩
  · cases x with
    | tmp t =>
      have := key t (List.mem_append_left _ (List.mem_filterMap.2 ⟨.tmp t, by simpa using hx, rfl⟩))
      simp [Act.eval, Array.getD_eq_getD_getElem?, this]
    | const v => rfl
    | global g => rfl
    | func f => rfl
  · unfold Region.wanted
    cases hg : oj.guard with
    | none => rfl
    | some gw =>
      obtain ⟨g, want⟩ := gw
      have : yielded ops a.tmps g = yielded ops af.tmps g := by
        unfold yielded
        cases ht : (ops[g]?).bind (·.dst) with
        | none => rfl
        | some t =>
          have := key t (by simp [Oper.looksAt, hg, ht])
          simp [this]
      simp only [this]

def noSel (ops : Array Oper) : Bool := ops.all fun o => match o.op with | .select .. => false | _ => true
theorem noSel_spec {ops : Array Oper} (h : noSel ops = true) {j : Nat} {o : Oper} (ho : ops[j]? = some o) : ∀ cs b, o.op ≠ .select cs b := by
  intro cs b heq
  have := Array.all_eq_true_iff_forall_mem.1 h o (Array.mem_of_getElem? ho)
  simp [heq] at this

/-- A promised operation comes up. -/
theorem TrAny.float {ops : Array Oper} {fl : Fl} {dn : List Nat} (hsel : noSel ops = true) (hsh : Shaped ops fl) {fuel : Nat} {listed : Array Bool} (hc : Cons ops fl dn listed) (hu : unl ops listed ≤ fuel + 1) (hv : ∀ p ∈ fl, listed.getD p.1 false = false → OpVal P e ops p.1 p.2.2 s) {γ : Gh} {a af : Act} {w : World}
    (hh : Holds e s γ af w) (hr : Rel fl listed a af) {Q : Exit → Act → World → Prop} {p : Nat × Nat × Value} (hp : p ∈ fl) (hrd : p.1 ∈ Region.ready .any ops listed) (hself : ∀ q ∈ fl, q.1 = p.1 → q = p) (hpl : ∀ o, ops[p.1]? = some o → p.2.1 ∉ o.looksAt ops) (hs : ∀ q ∈ s.L, True)
    (hslot : af.tmps[p.2.1]? = some p.2.2)
    (K : ∀ listed', Cons ops fl dn listed' → unl ops listed' ≤ fuel → (∀ q ∈ fl, listed'.getD q.1 false = false → OpVal P e ops q.1 q.2.2 s) → ∀ a', Rel fl listed' a' af → wpAnyIn (fen r) 0 P .any ops Q fuel listed' a' w) :
    wpOpIn (fen r) 0 P ops Q p.1 (wpAnyIn (fen r) 0 P .any ops Q fuel (listed.setIfInBounds p.1 true)) a w := by
  obtain ⟨hlt, h0, hw⟩ := (ready_iff hc.1).1 hrd
  obtain ⟨o, ho, hnd, hrun⟩ := hv p hp h0
  obtain ⟨o', ho', hd, hsp⟩ := hsh p hp
  rw [ho] at ho'
  cases ho'
  have hev := hr.eval hsh ho hw (fun q hq hqj hql => by rw [hself q hq hqj]; exact hpl o ho)
  have hc' : Cons ops fl dn (listed.setIfInBounds p.1 true) := by
    refine ⟨by simpa using hc.1, fun i hi => ?_, fun i hi => ?_⟩
    · rw [getD_set (by rw [hc.1]; exact hlt)] at hi
      split at hi
      · rename_i q; subst q; exact .inr (List.mem_map.2 ⟨p, hp, rfl⟩)
      · exact hc.2.1 i hi
    · rw [getD_set (by rw [hc.1]; exact hlt)]
      split
      · rfl
      · exact hc.2.2 i hi
  have hu' : unl ops (listed.setIfInBounds p.1 true) ≤ fuel := by have := unl_set hc.1 hlt h0; omega
  have hv' : ∀ q ∈ fl, (listed.setIfInBounds p.1 true).getD q.1 false = false → OpVal P e ops q.1 q.2.2 s := fun q hq hql => by
    rw [getD_set (by rw [hc.1]; exact hlt)] at hql
    split at hql
    · cases hql
    · exact hv q hq hql
  have hrel : ∀ v, v = p.2.2 → Rel fl (listed.setIfInBounds p.1 true) (a.put o.dst v) af := by
    intro v hvv
    subst hvv
    rw [hd]
    refine ⟨hr.1, by simp [Act.put, hr.2.1], fun t ht => ?_⟩
    simp only [Act.put]
    by_cases htp : t = p.2.1
    · subst htp
      have hsz : p.2.1 < a.tmps.size := by rw [hr.2.1]; exact (Array.getElem?_eq_some_iff.1 hslot).1
      rw [Array.getElem?_setIfInBounds_self_of_lt hsz, hslot]
    · rw [Array.getElem?_setIfInBounds_ne (fun q => htp q.symm)]
      refine hr.2.2 t fun q hq hql hqt => ?_
      by_cases hqp : q.1 = p.1
      · rw [hself q hq hqp] at hqt; exact htp hqt.symm
      · refine ht q hq ?_ hqt
        rw [getD_set (by rw [hc.1]; exact hlt), if_neg hqp]
        exact hql
  unfold wpOpIn
  simp only [ho]
  rcases hrun γ af w hh with ⟨hw1, hw2⟩ | ⟨hw1, hw2⟩
  · rw [hev.2, if_pos hw1]
    refine ⟨fun f _ => fen_fn r f, ?_⟩
    rw [semAt_eq _ _ _ hnd, execOp_congr o (noSel_spec hsel ho) hev.1, hw2, Oper.uponIn_value]
    exact K _ hc' hu' hv' _ (hrel _ rfl)
  · rw [hev.2, if_neg (by rw [hw1]; simp)]
    exact ⟨fun f _ => fen_fn r f, K _ hc' hu' hv' _ (hrel _ hw2.symm)⟩
end
end Go.Proofs.Ytbeknohemgjfbaa.L
namespace Go.Proofs.Ytbeknohemgjfbaa.L
open Go Go.Proofs.Ytbeknohemgjfbaa.Pu
set_option linter.unusedVariables false

section
variable {P : Program} {r : Option Nat} {e : Env} {o : Oper} {Kn : St → Prop} {s : St} {γ γ' : Gh} {w w' : World} {a : Act} {ops : Array Oper} {fl : Fl} {dn : List Nat}

/-- The shape of one promise, as a check. -/
def shapedB (ops : Array Oper) (i d : Nat) : Bool :=
  (match ops[i]? with
    | some o => o.dst == some d && !(o.looksAt ops).contains d
    | none => false) &&
  (List.range ops.size).all fun j => j == i || waits ops j i || match ops[j]? with
    | some oj => !(oj.looksAt ops).contains d && !(oj.dst == some d)
    | none => true

def backB (ops : Array Oper) : Bool := (List.range ops.size).all fun j => match ops[j]? with
  | some o => o.after.all fun e => !(Region.binds .any e) || decide (e.on < j)
  | none => true

theorem backB_spec (h : backB ops = true) {j i : Nat} (hw : waits ops j i = true) : i < j := by
  unfold waits at hw
  cases ho : ops[j]? with
  | none => rw [ho] at hw; simp at hw
  | some o =>
    rw [ho] at hw
    simp only [Option.any_some, Array.any_eq_true', Bool.and_eq_true, beq_iff_eq] at hw
    obtain ⟨ed, he, hb, rfl⟩ := hw
    have hlt : j < ops.size := (Array.getElem?_eq_some_iff.1 ho).1
    have h1 := List.all_eq_true.1 h j (List.mem_range.2 hlt)
    simp only [ho] at h1
    have h2 := Array.all_eq_true_iff_forall_mem.1 h1 ed he
    simpa [hb] using h2

theorem shapedB_spec {i d : Nat} (h : shapedB ops i d = true) : ∃ o, ops[i]? = some o ∧ o.dst = some d ∧ d ∉ o.looksAt ops ∧ ∀ j oj, ops[j]? = some oj → j ≠ i → (d ∈ oj.looksAt ops ∨ oj.dst = some d) → waits ops j i = true := by
  simp only [shapedB, Bool.and_eq_true] at h
  obtain ⟨h1, h2⟩ := h
  cases ho : ops[i]? with
  | none => rw [ho] at h1; cases h1
  | some o =>
    rw [ho] at h1
    simp only [Bool.and_eq_true, beq_iff_eq, Bool.not_eq_true', List.contains_eq_mem, decide_eq_false_iff_not] at h1
    refine ⟨o, rfl, h1.1, h1.2, fun j oj hj hne hl => ?_⟩
    have hlt : j < ops.size := (Array.getElem?_eq_some_iff.1 hj).1
    have h3 := List.all_eq_true.1 h2 j (List.mem_range.2 hlt)
    simp only [hj, Bool.or_eq_true, beq_iff_eq, hne, false_or, Bool.and_eq_true, Bool.not_eq_true', List.contains_eq_mem, decide_eq_false_iff_not, beq_eq_false_iff_ne, ne_eq] at h3
    rcases h3 with h3 | h3
    · exact h3
    · rcases hl with q | q
      · exact absurd q h3.1
      · exact absurd q h3.2

/-- What holds of all promises. -/
structure FlOk (ops : Array Oper) (fl : Fl) (s : St) : Prop where
  shaped : ∀ p ∈ fl, shapedB ops p.1 p.2.1 = true
  nodup : (fl.map (·.1)).Nodup
  slot : ∀ p ∈ fl, s.L.lookup p.2.1 = some p.2.2

theorem FlOk.toShaped (h : FlOk ops fl s) : Shaped ops fl := fun p hp => by
  obtain ⟨o, h1, h2, _, h3⟩ := shapedB_spec (h.shaped p hp)
  exact ⟨o, h1, h2, h3⟩
theorem FlOk.own (h : FlOk ops fl s) {p : Nat × Nat × Value} (hp : p ∈ fl) : ∀ o, ops[p.1]? = some o → p.2.1 ∉ o.looksAt ops := fun o ho => by
  obtain ⟨o', h1, _, h2, _⟩ := shapedB_spec (h.shaped p hp)
  rw [ho] at h1; cases h1; exact h2
theorem inj_of_nodup : ∀ {fl : Fl}, (fl.map (·.1)).Nodup → ∀ {p q : Nat × Nat × Value}, p ∈ fl → q ∈ fl → q.1 = p.1 → q = p := by
  intro fl
  induction fl with
  | nil => intro _ p q hp; simp at hp
  | cons x fl ih =>
    intro hn p q hp hq hqp
    rw [List.map_cons, List.nodup_cons] at hn
    rcases List.mem_cons.1 hp with h1 | h1 <;> rcases List.mem_cons.1 hq with h2 | h2
    · rw [h1, h2]
    · subst h1; exact absurd (List.mem_map.2 ⟨q, h2, hqp⟩) hn.1
    · subst h2; exact absurd (List.mem_map.2 ⟨p, h1, hqp.symm⟩) hn.1
    · exact ih hn.2 h1 h2 hqp

theorem OpVal.put {i d : Nat} {v u : Value} (hd : s.L.lookup d = none) (h : OpVal P e ops i v s) : OpVal P e ops i v (s.put d u) := by
  obtain ⟨o, ho, hnd, hrun⟩ := h
  refine ⟨o, ho, hnd, fun γ a w hh => hrun γ a w { size := hh.size, slots := fun t x ht => ?_, defers := hh.defers, hm := hh.hm, own := hh.own, facts := hh.facts, fr := hh.fr, ok := hh.ok }⟩
  refine hh.slots t x ?_
  simp only [St.put, List.lookup_cons]
  by_cases h : t = d
  · subst h; rw [hd] at ht; cases ht
  · rw [show (t == d) = false by simpa using h]; exact ht

theorem TrAny.promise {i d : Nat} {v : Value} (hok : FlOk ops fl s) (hv : OpVal P e ops i v s) (hsh : shapedB ops i d = true) (hd : s.L.lookup d = none) (hN : d < e.N) (hi : i ∉ fl.map (·.1)) (hi2 : i ∉ dn)
    (h : FlOk ops (fl ++ [(i, d, v)]) (s.put d v) → TrAny P r e ops (fl ++ [(i, d, v)]) dn Kn (s.put d v)) : TrAny P r e ops fl dn Kn s := by
  intro fuel listed hc hu hvs γ a af w hh hr Q hQ
  have hok' : FlOk ops (fl ++ [(i, d, v)]) (s.put d v) := by
    refine ⟨fun p hp => ?_, ?_, fun p hp => ?_⟩
    · rcases List.mem_append.1 hp with q | q
      · exact hok.shaped p q
      · simp at q; subst q; exact hsh
    · rw [List.map_append, List.nodup_append]
      refine ⟨hok.nodup, by simp, fun x hx y hy hxy => ?_⟩
      simp at hy
      subst hy
      subst hxy
      exact hi hx
    · simp only [St.put, List.lookup_cons]
      rcases List.mem_append.1 hp with q | q
      · have := hok.slot p q
        by_cases hpd : p.2.1 = d
        · rw [hpd, hd] at this; cases this
        · rw [show (p.2.1 == d) = false by simpa using hpd]; exact this
      · simp at q; subst q; simp
  have hil : listed.getD i false = false := by
    cases hb : listed.getD i false with
    | false => rfl
    | true => rcases hc.2.1 i hb with q | q; exact absurd q hi2; exact absurd q hi
  refine h hok' fuel listed ⟨hc.1, fun j hj => ?_, hc.2.2⟩ hu ?_ γ a (af.put (some d) v) w (hh.put d v hN) ?_ Q hQ
  · rcases hc.2.1 j hj with q | q
    · exact .inl q
    · exact .inr (by rw [List.map_append]; exact List.mem_append_left _ q)
  · intro p hp hpl
    rcases List.mem_append.1 hp with q | q
    · exact (hvs p q hpl).put hd
    · simp at q; subst q; exact hv.put hd
  · refine ⟨hr.1, by simp [Act.put, hr.2.1], fun t ht => ?_⟩
    have hdt : d ≠ t := ht (i, d, v) (by simp) hil
    simp only [Act.put]
    rw [Array.getElem?_setIfInBounds_ne hdt]
    exact hr.2.2 t fun p hp => ht p (List.mem_append_left _ hp)

/-- As long as something has not come up, something is ready. -/
theorem ready_ne {listed : Array Bool} (hs : listed.size = ops.size) (hb : backB ops = true) {j : Nat} (hj : j < ops.size) (h0 : listed.getD j false = false) : Region.ready .any ops listed ≠ [] := by
  induction j using Nat.strongRecOn with
  | _ j ih =>
    by_cases hall : ∀ i, waits ops j i = true → listed.getD i false = true
    · intro hn
      have := (ready_iff hs).2 ⟨hj, h0, hall⟩
      rw [hn] at this
      cases this
    · simp only [Classical.not_forall] at hall
      obtain ⟨i, hi, hil⟩ := hall
      have hlt := backB_spec hb hi
      exact ih i hlt (by omega) (by simpa using hil)

theorem unl_zero {listed : Array Bool} (h : unl ops listed ≤ 0) : ∀ j, j < ops.size → listed.getD j false = true := by
  intro j hj
  have : unl ops listed = 0 := by omega
  have := List.countP_eq_zero.1 this j (List.mem_range.2 hj)
  simpa using this

theorem Rel.holds {listed : Array Bool} {af : Act} (hh : Holds e s γ af w) (hr : Rel fl listed a af) (hall : ∀ p ∈ fl, listed.getD p.1 false = true) : Holds e s γ a w where
  size := hr.2.1.trans hh.size
  slots i v hi := by
    rw [hr.2.2 i (fun p hp hl => by rw [hall p hp] at hl; cases hl)]
    exact hh.slots i v hi
  defers := hr.1.trans hh.defers
  hm := hh.hm
  own := hh.own
  facts := hh.facts
  fr := hh.fr
  ok := hh.ok

/-- All has been promised or has come up. -/
theorem TrAny.done (hsel : noSel ops = true) (hback : backB ops = true) (hok : FlOk ops fl s) (hall : (List.range ops.size).all (fun i => dn.contains i || (fl.map (·.1)).contains i) = true) (h : Kn s) : TrAny P r e ops fl dn Kn s := by
  have hall' : ∀ i, i < ops.size → i ∈ dn ∨ i ∈ fl.map (·.1) := fun i hi => by
    have := List.all_eq_true.1 hall i (List.mem_range.2 hi)
    simpa using this
  intro fuel
  induction fuel with
  | zero =>
    intro listed hc hu hvs γ a af w hh hr Q hQ
    have hl := unl_zero hu
    refine ⟨?_, hQ s γ a w h (hr.holds hh fun p hp => ?_)⟩
    · cases hrd : Region.ready .any ops listed with
      | nil => rfl
      | cons x xs =>
        have := (ready_iff hc.1).1 (by rw [hrd]; exact List.mem_cons_self : x ∈ Region.ready .any ops listed)
        rw [hl x this.1] at this
        simp at this
    · obtain ⟨o, ho, _⟩ := shapedB_spec (hok.shaped p hp)
      exact hl _ (Array.getElem?_eq_some_iff.1 ho).1
  | succ fuel ih =>
    intro listed hc hu hvs γ a af w hh hr Q hQ
    refine ⟨fun hn => hQ s γ a w h (hr.holds hh fun p hp => ?_), fun i hi => ?_⟩
    · obtain ⟨o, ho, _⟩ := shapedB_spec (hok.shaped p hp)
      cases hb : listed.getD p.1 false with
      | true => rfl
      | false => exact absurd hn (ready_ne hc.1 hback (Array.getElem?_eq_some_iff.1 ho).1 hb)
    · obtain ⟨hlt, h0, _⟩ := (ready_iff hc.1).1 hi
      have hifl : i ∈ fl.map (·.1) := (hall' i hlt).resolve_left (fun q => by rw [hc.2.2 i q] at h0; cases h0)
      obtain ⟨p, hp, rfl⟩ := List.mem_map.1 hifl
      exact TrAny.float hsel hok.toShaped hc hu hvs hh hr hp hi (fun q hq hqp => inj_of_nodup hok.nodup hp hq hqp) (hok.own hp) (fun _ _ => trivial) (hh.slots _ _ (hok.slot p hp)) fun listed' hc' hu' hvs' a' hr' => ih listed' hc' hu' hvs' γ a' af w hh hr' Q hQ

/-- An operation's step, seen from a frame that agrees on what it looks at. -/
theorem wpIn_transfer {oj : Oper} {af : Act} {Kf Ka : Act → World → Prop} {Q : Exit → Act → World → Prop} (hnd : ∀ c, oj.op ≠ .defer c) (hD : a.defers = af.defers) (hev : execOp a.eval oj = execOp af.eval oj) (h : oj.wpIn (fen r) 0 P af w Kf fun _ _ _ => False)
    (hK : ∀ D v w', Kf (({ af with defers := D } : Act).put oj.dst v) w' → Ka (({ a with defers := D } : Act).put oj.dst v) w') : oj.wpIn (fen r) 0 P a w Ka Q := by
  obtain ⟨at_, ad⟩ := a
  obtain ⟨aft, afd⟩ := af
  simp only at hD
  subst hD
  obtain ⟨_, h⟩ := h
  refine ⟨fun f _ => fen_fn r f, ?_⟩
  rw [semAt_eq _ _ _ hnd] at h ⊢
  rw [hev]
  generalize (execOp (Act.mk aft ad).eval oj).run P w = res at h ⊢
  cases res with
  | ok n w' =>
    cases n <;> simp only [Oper.uponIn] at h ⊢
    case value v => exact hK ad v w' h
    case skip => exact hK ad undef w' h
    case defer d => exact hK (d :: ad) undef w' h
    case enter f args =>
      refine ⟨h.1, h.2.mono fun en w'' he => ?_⟩
      cases en with
      | returned v => exact hK ad v w'' he
      | panicked c => exact he.elim
      | outgrown => obtain ⟨_, _, he⟩ := he; exact he.elim
    case row row args => exact ⟨h.1, h.2.mono fun v w'' he => hK ad v w'' he⟩
    case round l f tmps assign body =>
      refine ⟨h.1, h.2.mono fun en w'' he => ?_⟩
      cases en with
      | returned v => exact hK ad v w'' he
      | panicked c => exact he.elim
      | outgrown => obtain ⟨_, _, he⟩ := he; exact he.elim
  | halt x w' => cases x <;> simp only [Oper.uponIn] at h ⊢

/-- What must come up next: whatever else has not been promised waits for something that has not come up. -/
def nextB (ops : Array Oper) (fl : List Nat) (dn : List Nat) (j : Nat) : Bool := (List.range ops.size).all fun i => i == j || dn.contains i || fl.contains i ||
  (List.range ops.size).any fun k => waits ops i k && !dn.contains k && !fl.contains k

theorem nextB_spec {fls dn : List Nat} {j : Nat} (h : nextB ops fls dn j = true) {i : Nat} (hi : i < ops.size) (hij : i ≠ j) (h1 : i ∉ dn) (h2 : i ∉ fls) : ∃ k, waits ops i k = true ∧ k ∉ dn ∧ k ∉ fls := by
  have h3 := List.all_eq_true.1 h i (List.mem_range.2 hi)
  simp only [Bool.or_eq_true, beq_iff_eq, hij, false_or, List.contains_eq_mem, decide_eq_true_eq, h1, h2] at h3
  obtain ⟨k, _, hk⟩ := List.any_eq_true.1 h3
  simp only [Bool.and_eq_true, Bool.not_eq_true', decide_eq_false_iff_not] at hk
  exact ⟨k, hk.1.1, hk.1.2, hk.2⟩

/-- What was promised is kept by the step j. -/
def Kp (P : Program) (e : Env) (ops : Array Oper) (j : Nat) (fl : Fl) (s s' : St) : Prop := ∀ p ∈ fl, waits ops j p.1 = false → OpVal P e ops p.1 p.2.2 s → OpVal P e ops p.1 p.2.2 s'
/-- The next step. -/
theorem TrAny.step {j : Nat} {oj : Oper} (hsel : noSel ops = true) (hback : backB ops = true) (hok : FlOk ops fl s) (hj : ops[j]? = some oj) (hg : ∀ γ a w, Holds e s γ a w → Region.wanted oj (yielded ops a.tmps) = true) (hnd : ∀ c, oj.op ≠ .defer c) (hjd : j ∉ dn) (hjf : j ∉ fl.map (·.1)) (hnext : nextB ops (fl.map (·.1)) dn j = true) (hdst : ∀ p ∈ fl, oj.dst ≠ some p.2.1)
    (h : OpTr P r e oj (fun s' => Kp P e ops j fl s s' ∧ TrAny P r e ops fl (j :: dn) Kn s') s) : TrAny P r e ops fl dn Kn s := by
  have hjlt : j < ops.size := (Array.getElem?_eq_some_iff.1 hj).1
  intro fuel
  induction fuel with
  | zero =>
    intro listed hc hu
    have := unl_zero hu j hjlt
    rcases hc.2.1 j this with q | q
    · exact absurd q hjd
    · exact absurd q hjf
  | succ fuel ih =>
    intro listed hc hu hvs γ a af w hh hr Q hQ
    have hjl : listed.getD j false = false := by
      cases hb : listed.getD j false with
      | false => rfl
      | true => rcases hc.2.1 j hb with q | q; exact absurd q hjd; exact absurd q hjf
    refine ⟨fun hn => absurd hn (ready_ne hc.1 hback hjlt hjl), fun i hi => ?_⟩
    obtain ⟨hlt, h0, hw⟩ := (ready_iff hc.1).1 hi
    by_cases hifl : i ∈ fl.map (·.1)
    · obtain ⟨p, hp, rfl⟩ := List.mem_map.1 hifl
      exact TrAny.float hsel hok.toShaped hc hu hvs hh hr hp hi (fun q hq hqp => inj_of_nodup hok.nodup hp hq hqp) (hok.own hp) (fun _ _ => trivial) (hh.slots _ _ (hok.slot p hp)) fun listed' hc' hu' hvs' a' hr' => ih listed' hc' hu' hvs' γ a' af w hh hr' Q hQ
    · by_cases hij : i = j
      · subst hij
        have hev := hr.eval hok.toShaped hj hw (fun p hp hpj _ => absurd (List.mem_map.2 ⟨p, hp, hpj⟩) hjf)
        unfold wpOpIn
        simp only [hj]
        rw [if_pos (hev.2.trans (hg γ af w hh))]
        refine wpIn_transfer (af := af) hnd hr.1 (execOp_congr oj (noSel_spec hsel hj) hev.1) (h γ af w hh (fun a' w' => ∃ s' γ', (Kp P e ops i fl s s' ∧ TrAny P r e ops fl (i :: dn) Kn s') ∧ Holds e s' γ' a' w') (fun _ _ _ => False) (fun s' γ' a' w' hk hh' => ⟨s', γ', hk, hh'⟩)) ?_
        rintro D v w' ⟨s', γ', ⟨hv', hk⟩, hh'⟩
        refine hk fuel (listed.setIfInBounds i true) ⟨by simpa using hc.1, fun q hq => ?_, fun q hq => ?_⟩ (by have := unl_set hc.1 hjlt hjl; omega) ?_ γ' _ _ w' hh' ?_ Q hQ
        · rw [getD_set (by rw [hc.1]; exact hjlt)] at hq
          split at hq
          · rename_i q'; subst q'; exact .inl List.mem_cons_self
          · rcases hc.2.1 q hq with q' | q'
            · exact .inl (List.mem_cons_of_mem _ q')
            · exact .inr q'
        · rw [getD_set (by rw [hc.1]; exact hjlt)]
          split
          · rfl
          · rename_i hne
            rcases List.mem_cons.1 hq with q' | q'
            · exact absurd q' hne
            · exact hc.2.2 q q'
        · intro p hp hpl
          rw [getD_set (by rw [hc.1]; exact hjlt)] at hpl
          split at hpl
          · cases hpl
          · refine hv' p hp ?_ (hvs p hp hpl)
            cases hb : waits ops i p.1 with
            | false => rfl
            | true => rw [hw _ hb] at hpl; cases hpl
        · refine ⟨?_, ?_, fun t ht => ?_⟩
          · cases oj.dst <;> rfl
          · cases hd : oj.dst <;> simp [Act.put, hr.2.1]
          · have hold : (∀ p ∈ fl, listed.getD p.1 false = false → p.2.1 ≠ t) := fun p hp hpl hpt => by
              refine ht p hp ?_ hpt
              rw [getD_set (by rw [hc.1]; exact hjlt)]
              split
              · rename_i q'; exact absurd (List.mem_map.2 ⟨p, hp, q'⟩) hjf
              · exact hpl
            have h1 := hr.2.2 t hold
            cases hd : oj.dst with
            | none => exact h1
            | some d =>
              simp only [Act.put]
              by_cases hdt : d = t
              · subst hdt
                simp only [Array.getElem?_setIfInBounds, if_true, hr.2.1]
              · rw [Array.getElem?_setIfInBounds_ne hdt, Array.getElem?_setIfInBounds_ne hdt]
                exact h1
      · have hidn : i ∉ dn := fun q => by rw [hc.2.2 i q] at h0; cases h0
        obtain ⟨k, hk1, hk2, hk3⟩ := nextB_spec hnext hlt hij hidn hifl
        have := hw k hk1
        rcases hc.2.1 k this with q | q
        · exact absurd q hk2
        · exact absurd q hk3

theorem Holds.drew (h : Holds e s γ a w) : Holds e s γ a w.drew := by
  have fr : Fr (fun _ => False) γ w γ w.drew := ⟨⟨Nat.le_refl _, fun _ => Nat.le_refl _, fun _ _ _ => rfl⟩, rfl, rfl, rfl, fun _ _ _ => rfl, fun _ _ _ => rfl⟩
  exact h.step fr (fun b hb => hb.elim) (h.hm.keep fr (fun _ _ _ _ q => q)) h.own h.ok

theorem Tr.regionD {id : Nat} {Q : SPost} (hm : P.follows .mixedOrders = true) (h : FlOk ops [] s → TrAny P r e ops [] [] (Q .normal) s) : Tr P r e (.region id ops true) Q s := by
  intro γ a w hh
  refine wpIn_region_any hm ?_
  refine h ⟨fun p hp => by simp at hp, by simp, fun p hp => by simp at hp⟩ ops.size _ ⟨by simp, fun i hi => ?_, fun i hi => by simp at hi⟩ ?_ (fun p hp => by simp at hp) γ a a w.drew hh.drew ⟨rfl, rfl, fun _ _ => rfl⟩ _ fun s' γ' a' w' hk hh' => ⟨trivial, s', γ', hk, hh'⟩
  · simp only [Array.getD_eq_getD_getElem?, Array.getElem?_replicate] at hi
    split at hi <;> simp at hi
  · unfold unl
    refine Nat.le_trans (List.countP_le_length) (by simp)
end
end Go.Proofs.Ytbeknohemgjfbaa.L
namespace Go.Proofs.Ytbeknohemgjfbaa.L
open Go Go.Proofs.Ytbeknohemgjfbaa.Pu
set_option linter.unusedVariables false

theorem wrap_u64 (x : Int) : IntKind.u64.wrap x = wu64 x := rfl
theorem wrap_u32 (x : Int) : IntKind.u32.wrap x = wu32 x := rfl
theorem wrap_u8 (x : Int) : IntKind.u8.wrap x = wu8 x := rfl
theorem wrap_i64 (x : Int) : IntKind.i64.wrap x = wi64 x := by
  unfold IntKind.wrap wi64
  simp [IntKind.bits, IntKind.signed]

theorem bt_dec {p : Prop} [Decidable p] (h : p) : decide p = true := decide_eq_true h
theorem bf_dec {p : Prop} [Decidable p] (h : ¬ p) : decide p = false := decide_eq_false h
theorem bt_eq {a b : Int} (h : a = b) : (a == b) = true := beq_iff_eq.2 h
theorem bf_eq {a b : Int} (h : ¬ a = b) : (a == b) = false := beq_eq_false_iff_ne.2 h
theorem bt_ne {a b : Int} (h : ¬ a = b) : (a != b) = true := by simpa using h
theorem bf_ne {a b : Int} (h : a = b) : (a != b) = false := by simpa using h
theorem bt_b {b : Bool} (h : b = true) : b = true := h
theorem bf_b {b : Bool} (h : ¬ b = true) : b = false := by simpa using h
theorem bt_not {b : Bool} (h : b = false) : (!b) = true := by rw [h]; rfl
theorem bf_not {b : Bool} (h : b = true) : (!b) = false := by rw [h]; rfl

section
variable {P : Program} {r : Option Nat} {e : Env} {o : Oper} {Kn : St → Prop} {s : St} {γ γ' : Gh} {w w' : World} {a : Act}

def Imp (e : Env) (s t : St) : Prop := ∀ γ a w, Holds e s γ a w → Holds e t γ a w
theorem Imp.re (t : St) (ks js : List Nat) (hL : SubL t.L s.L) (hn : ks.Nodup) (hM : ks.map (s.M[·]?) = t.M.map some) (hF : js.map (s.F[·]?) = t.F.map some) (hD : t.D = s.D) : Imp e s t := fun γ a w hh => hh.re t ks js hL hn hM hF hD

/-- Two ways meet: whatever comes to the end comes to one of these states. -/
def qjoin (e : Env) {ι : Type} (stJ : ι → St) (Q : SPost) : SPost
  | .normal, s => ∃ i, Imp e s (stJ i)
  | x, s => Q x s
theorem qjoin_n {ι : Type} {stJ : ι → St} {Q : SPost} (i : ι) (h : Imp e s (stJ i)) : qjoin e stJ Q .normal s := ⟨i, h⟩
theorem qjoin_x {ι : Type} {stJ : ι → St} {Q : SPost} {i : Nat} (h : Q (.exit i) s) : qjoin e stJ Q (.exit i) s := h
theorem qjoin_r {ι : Type} {stJ : ι → St} {Q : SPost} (h : Q .ret s) : qjoin e stJ Q .ret s := h
theorem Tr.cut {c : Code} {Q : SPost} {ι : Type} (stJ : ι → St) (h : Tr P r e c (qjoin e stJ Q) s) (hJ : ∀ i, Q .normal (stJ i)) : Tr P r e c Q s := by
  intro γ a w hh
  refine wpIn_mono (h γ a w hh) ?_
  rintro x a' w' ⟨hf, s', γ', q, hh'⟩
  cases x with
  | normal => obtain ⟨i, hi⟩ := q; exact ⟨hf, stJ i, γ', hJ i, hi _ _ _ hh'⟩
  | exit i => exact ⟨hf, s', γ', q, hh'⟩
  | ret => exact ⟨hf, s', γ', q, hh'⟩
  | goto l => exact hf.elim
  | panic ch => exact hf.elim
  | outgrown => exact hf.elim
theorem TrL.cut {ops : Array Oper} {l : List Oper} {ι : Type} (n : Nat) (stJ : ι → St) (h : TrL P r e ops (l.take n) (fun s' => ∃ i, Imp e s' (stJ i)) s) (hJ : ∀ i, TrL P r e ops (l.drop n) Kn (stJ i)) : TrL P r e ops l Kn s := by
  have split : ∀ (l1 l2 : List Oper) (s : St), TrL P r e ops l1 (fun s' => TrL P r e ops l2 Kn s') s → TrL P r e ops (l1 ++ l2) Kn s := by
    intro l1
    induction l1 with
    | nil => intro l2 s h γ a w hh Q hQ; exact h γ a w hh (fun _ a' w' => wpListIn (fen r) 0 P ops Q l2 a' w') (fun s' γ' a' w' hk hh' => hk γ' a' w' hh' Q hQ)
    | cons o l1 ih =>
      intro l2 s h γ a w hh Q hQ
      -- the head's step is the same; behind it the induction
      have key : ∀ (l : List Oper) (a : Act) (w : World) (Q1 : Exit → Act → World → Prop), wpListIn (fen r) 0 P ops Q1 l a w → (∀ x a w, x ≠ .normal → Q1 x a w → Q x a w) → (∀ a w, Q1 .normal a w → wpListIn (fen r) 0 P ops Q l2 a w) → wpListIn (fen r) 0 P ops Q (l ++ l2) a w := by
        intro l
        induction l with
        | nil => intro a w Q1 h1 _ h2; exact h2 _ _ h1
        | cons o l ih2 =>
          intro a w Q1 h1 hx h2
          rw [List.cons_append]
          unfold wpListIn at h1 ⊢
          split
          · rename_i hw
            rw [if_pos hw] at h1
            obtain ⟨hab, h1⟩ := h1
            refine ⟨hab, ?_⟩
            generalize (o.semAt (fen r).round a.eval).run P w = res at h1 ⊢
            cases res with
            | ok n w' =>
              cases n <;> simp only [Oper.uponIn] at h1 ⊢
              case value v => exact ih2 _ _ Q1 h1 hx h2
              case skip => exact ih2 _ _ Q1 h1 hx h2
              case defer d => exact ih2 _ _ Q1 h1 hx h2
              case enter f args =>
                refine ⟨h1.1, h1.2.mono fun en w'' he => ?_⟩
                cases en with
                | returned v => exact ih2 _ _ Q1 he hx h2
                | panicked c => exact hx _ _ _ (by simp) he
                | outgrown => obtain ⟨a0, w0, he⟩ := he; exact ⟨a0, w0, hx _ _ _ (by simp) he⟩
              case row row args => exact ⟨h1.1, h1.2.mono fun v w'' he => ih2 _ _ Q1 he hx h2⟩
              case round l f tmps assign body =>
                refine ⟨h1.1, h1.2.mono fun en w'' he => ?_⟩
                cases en with
                | returned v => exact ih2 _ _ Q1 he hx h2
                | panicked c => exact hx _ _ _ (by simp) he
                | outgrown => obtain ⟨a0, w0, he⟩ := he; exact ⟨a0, w0, hx _ _ _ (by simp) he⟩
            | halt x w' => cases x <;> simp only [Oper.uponIn] at h1 ⊢; exact hx _ _ _ (by simp) h1
          · rename_i hw
            rw [if_neg hw] at h1
            exact ⟨h1.1, ih2 _ _ Q1 h1.2 hx h2⟩
      exact key (o :: l1) a w (fun x a' w' => match x with
        | .normal => wpListIn (fen r) 0 P ops Q l2 a' w'
        | _ => False) (h γ a w hh _ fun s' γ' a' w' hk hh' => hk γ' a' w' hh' Q hQ) (fun x a w hn hx => by cases x <;> simp at hn hx) (fun a w h => h)
  have := split (l.take n) (l.drop n) s (h.mono fun s' ⟨i, hi⟩ => fun γ a w hh => hJ i γ a w (hi _ _ _ hh))
  rwa [List.take_append_drop] at this

/-! ### A loop beside its pure side -/
def qloop (e : Env) {S X ι : Type} (y : S ⊕ X) (stI : S → ι → St) (Q : SPost) : SPost
  | .normal, s => ∃ s2 i2, y = .inl s2 ∧ Imp e s (stI s2 i2)
  | x, s => Q x s
theorem qloop_n {S X ι : Type} {stI : S → ι → St} {Q : SPost} {s2 : S} (i2 : ι) (h : Imp e s (stI s2 i2)) : qloop e (X := X) (.inl s2) stI Q .normal s := ⟨s2, i2, rfl, h⟩
theorem qloop_x {S X ι : Type} {stI : S → ι → St} {Q : SPost} {y : S ⊕ X} {i : Nat} (h : Q (.exit i) s) : qloop e y stI Q (.exit i) s := h
theorem qloop_r {S X ι : Type} {stI : S → ι → St} {Q : SPost} {y : S ⊕ X} (h : Q .ret s) : qloop e y stI Q .ret s := h

theorem Tr.loopI {c : Code} {Q : SPost} {S X ι : Type} {step : S → Option (S ⊕ X)} {x : X} {s0 : S} (stI : S → ι → St) (i0 : ι) (hx : loopO step s0 = some x) (h0 : Imp e s (stI s0 i0))
    (h : ∀ s i y, step s = some y → (∀ x', y = .inr x' → x' = x) → Tr P r e c (qloop e y stI Q) (stI s i)) : Tr P r e (.loop c) Q s := by
  have key : ∀ i, Tr P r e (.loop c) Q (stI s0 i) := by
    refine loopO_ind (motive := fun s => ∀ i, Tr P r e (.loop c) Q (stI s i)) ?_ ?_ hx
    · intro s hs i
      refine Tr.loop ((h s i _ hs (fun x' hx' => by cases hx'; rfl)).mono fun q s' hq => ?_)
      cases q with
      | normal => obtain ⟨s2, i2, hy, _⟩ := hq; cases hy
      | exit i => exact hq
      | ret => exact hq
      | goto l => exact hq
      | panic ch => exact hq
      | outgrown => exact hq
    · intro s s1 hs _ ih i
      refine Tr.loop ((h s i _ hs (fun x' hx' => by cases hx')).mono fun q s' hq => ?_)
      cases q with
      | normal =>
        obtain ⟨s2, i2, hy, hi⟩ := hq
        cases hy
        exact fun γ a w hh => ih i2 γ a w (hi _ _ _ hh)
      | exit i => exact hq
      | ret => exact hq
      | goto l => exact hq
      | panic ch => exact hq
      | outgrown => exact hq
  exact fun γ a w hh => key i0 γ a w (h0 _ _ _ hh)

/-- The promises, one by one, behind a step. -/
def AllV (P : Program) (e : Env) (ops : Array Oper) (j : Nat) (s : St) : Fl → Prop
  | [] => True
  | p :: t => (waits ops j p.1 = true ∨ OpVal P e ops p.1 p.2.2 s) ∧ AllV P e ops j s t
theorem AllV.spec {ops : Array Oper} {j : Nat} : ∀ {fl : Fl}, AllV P e ops j s fl → ∀ p ∈ fl, waits ops j p.1 = false → OpVal P e ops p.1 p.2.2 s := by
  intro fl
  induction fl with
  | nil => intro _ p hp; simp at hp
  | cons q t ih =>
    intro h p hp hw
    rcases List.mem_cons.1 hp with r | r
    · subst r
      rcases h.1 with h1 | h1
      · rw [h1] at hw; cases hw
      · exact h1
    · exact ih h.2 p r hw
def AllD (d : Option Tmp) : Fl → Prop
  | [] => True
  | p :: t => d ≠ some p.2.1 ∧ AllD d t
theorem AllD.spec {d : Option Tmp} : ∀ {fl : Fl}, AllD d fl → ∀ p ∈ fl, d ≠ some p.2.1 := by
  intro fl
  induction fl with
  | nil => intro _ p hp; simp at hp
  | cons q t ih =>
    intro h p hp
    rcases List.mem_cons.1 hp with r | r
    · subst r; exact h.1
    · exact ih h.2 p r
def allDB (d : Option Tmp) (ds : List Nat) : Bool := match d with
  | none => true
  | some d => !ds.contains d
theorem allDB_spec {d : Option Tmp} {fl : Fl} (h : allDB d (fl.map (·.2.1)) = true) : ∀ p ∈ fl, d ≠ some p.2.1 := by
  intro p hp hd
  subst hd
  simp only [allDB, Bool.not_eq_true', List.contains_eq_mem, decide_eq_false_iff_not] at h
  exact h (List.mem_map.2 ⟨p, hp, rfl⟩)

def stepB (ops : Array Oper) (fl : List Nat) (ds : List Nat) (dn : List Nat) (j : Nat) : Bool := match ops[j]? with
  | some o => o.guard.isNone && !dn.contains j && !fl.contains j && nextB ops fl dn j && allDB o.dst ds && (match o.op with | .defer _ => false | _ => true)
  | none => false

/-- The next step, its checks in one. -/
theorem TrAny.next {ops : Array Oper} {fl : Fl} {dn : List Nat} {j : Nat} {oj : Oper} (hsel : (noSel ops && backB ops) = true) (hok : FlOk ops fl s) (hj : ops[j]? = some oj) (hb : stepB ops (fl.map (·.1)) (fl.map (·.2.1)) dn j = true)
    (h : OpTr P r e oj (fun s' => Kp P e ops j fl s s' ∧ TrAny P r e ops fl (j :: dn) Kn s') s) : TrAny P r e ops fl dn Kn s := by
  simp only [Bool.and_eq_true] at hsel
  simp only [stepB, hj, Bool.and_eq_true, Bool.not_eq_true', List.contains_eq_mem, decide_eq_false_iff_not, Option.isNone_iff_eq_none] at hb
  obtain ⟨⟨⟨⟨⟨h1, h2⟩, h3⟩, h4⟩, h5⟩, h6⟩ := hb
  refine TrAny.step hsel.1 hsel.2 hok hj (fun _ _ _ _ => by simp [Region.wanted, h1]) (fun c hc => by rw [hc] at h6; cases h6) h2 h3 h4 (allDB_spec h5) h

def promB (ops : Array Oper) (fl : List Nat) (dn : List Nat) (i d : Nat) : Bool := shapedB ops i d && !fl.contains i && !dn.contains i
theorem TrAny.prom {ops : Array Oper} {fl : Fl} {dn : List Nat} {i d : Nat} {v : Value} (hok : FlOk ops fl s) (hv : OpVal P e ops i v s) (hb : promB ops (fl.map (·.1)) dn i d = true) (hd : s.L.lookup d = none) (hN : d < e.N)
    (h : FlOk ops (fl ++ [(i, d, v)]) (s.put d v) → TrAny P r e ops (fl ++ [(i, d, v)]) dn Kn (s.put d v)) : TrAny P r e ops fl dn Kn s := by
  simp only [promB, Bool.and_eq_true, Bool.not_eq_true', List.contains_eq_mem, decide_eq_false_iff_not] at hb
  exact TrAny.promise hok hv hb.1.1 hd hN hb.1.2 hb.2 h

theorem TrAny.openS {α : Type} {rp : Rep α} {k c : Nat} {i : Int} {A : Option Addr} {xs : List (List α)} {z : List α} {ops : Array Oper} {fl : Fl} {dn : List Nat} (hk : s.F[k]? = some (slF (rSl rp) A c xs)) (hi : rdo xs i = some z) (hok : FlOk ops fl s)
    (h : ∀ B q, FlOk ops fl { s with F := s.F ++ [slF rp B q z, cellF ⟨ablk A, aoff A + i.toNat * 1, none⟩ (.slice B z.length q)] } → TrAny P r e ops fl dn Kn { s with F := s.F ++ [slF rp B q z, cellF ⟨ablk A, aoff A + i.toNat * 1, none⟩ (.slice B z.length q)] }) : TrAny P r e ops fl dn Kn s :=
  fun fuel listed hc hu hv γ a af w hh hr Q hQ => by
    obtain ⟨B, q, h2⟩ := hh.openS hk hi
    refine h B q ⟨hok.shaped, hok.nodup, hok.slot⟩ fuel listed hc hu (fun p hp hl => ?_) γ a af w h2 hr Q hQ
    obtain ⟨o, ho, hnd, hrun⟩ := hv p hp hl
    exact ⟨o, ho, hnd, fun γ a w hh => hrun γ a w { size := hh.size, slots := hh.slots, defers := hh.defers, hm := hh.hm, own := hh.own, facts := fun f hf => hh.facts f (List.mem_append_left _ hf), fr := hh.fr, ok := hh.ok }⟩
theorem TrAny.addF {ops : Array Oper} {fl : Fl} {dn : List Nat} (f : Fact) (hf : ∀ γ w, (∀ g ∈ s.F, g.p γ w) → (∀ c ∈ s.M, c.p γ w) → f.p γ w) (hok : FlOk ops fl s) (h : FlOk ops fl { s with F := s.F ++ [f] } → TrAny P r e ops fl dn Kn { s with F := s.F ++ [f] }) : TrAny P r e ops fl dn Kn s :=
  fun fuel listed hc hu hv γ a af w hh hr Q hQ => by
    refine h ⟨hok.shaped, hok.nodup, hok.slot⟩ fuel listed hc hu (fun p hp hl => ?_) γ a af w (hh.addF (hf γ w hh.facts hh.hm.all)) hr Q hQ
    obtain ⟨o, ho, hnd, hrun⟩ := hv p hp hl
    exact ⟨o, ho, hnd, fun γ a w hh => hrun γ a w { size := hh.size, slots := hh.slots, defers := hh.defers, hm := hh.hm, own := hh.own, facts := fun f hf => hh.facts f (List.mem_append_left _ hf), fr := hh.fr, ok := hh.ok }⟩
theorem TrAny.pure {ops : Array Oper} {fl : Fl} {dn : List Nat} {φ : Prop} (hp : Pre s φ) (h : φ → TrAny P r e ops fl dn Kn s) : TrAny P r e ops fl dn Kn s :=
  fun fuel listed hc hu hv γ a af w hh => h (hp γ w hh.facts hh.hm.all) fuel listed hc hu hv γ a af w hh
end
end Go.Proofs.Ytbeknohemgjfbaa.L
namespace Go.Proofs.Ytbeknohemgjfbaa.L
open Go Go.Proofs.Ytbeknohemgjfbaa.Pu
set_option linter.unusedVariables false

section
variable {k : IntKind} {a b : Int}
theorem ar_add_i64 : arith .add .i64 a b = some (.int .i64 (wi64 (a + b))) := by rw [← wrap_i64]; rfl
theorem ar_sub_i64 : arith .sub .i64 a b = some (.int .i64 (wi64 (a - b))) := by rw [← wrap_i64]; rfl
theorem ar_mul_i64 : arith .mul .i64 a b = some (.int .i64 (wi64 (a * b))) := by rw [← wrap_i64]; rfl
theorem ar_add_u64 : arith .add .u64 a b = some (.int .u64 (wu64 (a + b))) := rfl
theorem ar_sub_u64 : arith .sub .u64 a b = some (.int .u64 (wu64 (a - b))) := rfl
theorem ar_mul_u64 : arith .mul .u64 a b = some (.int .u64 (wu64 (a * b))) := rfl
theorem ar_add_u32 : arith .add .u32 a b = some (.int .u32 (wu32 (a + b))) := rfl
theorem ar_sub_u32 : arith .sub .u32 a b = some (.int .u32 (wu32 (a - b))) := rfl
theorem ar_mul_u32 : arith .mul .u32 a b = some (.int .u32 (wu32 (a * b))) := rfl
theorem ar_add_u8 : arith .add .u8 a b = some (.int .u8 (wu8 (a + b))) := rfl
theorem ar_sub_u8 : arith .sub .u8 a b = some (.int .u8 (wu8 (a - b))) := rfl
theorem ar_mul_u8 : arith .mul .u8 a b = some (.int .u8 (wu8 (a * b))) := rfl
theorem dec_iff {p q : Prop} [Decidable p] [Decidable q] (h : p ↔ q) : decide p = decide q := by simp [h]
theorem ar_eql : arith .eql k a b = some (.bool (decide (a = b))) := by simp only [arith]; congr 1
theorem ar_neq : arith .neq k a b = some (.bool (decide (¬ a = b))) := by simp only [arith]; congr 2; by_cases h : a = b <;> simp [h]
theorem ar_lss : arith .lss k a b = some (.bool (decide (a < b))) := rfl
theorem ar_leq : arith .leq k a b = some (.bool (decide (a ≤ b))) := rfl
theorem ar_gtr : arith .gtr k a b = some (.bool (decide (b < a))) := rfl
theorem ar_geq : arith .geq k a b = some (.bool (decide (b ≤ a))) := rfl
end

section
variable {P : Program} {r : Option Nat} {e : Env} {o : Oper} {Kn : St → Prop} {s : St} {γ γ' : Gh} {w w' : World} {a : Act}

theorem OpV.cast {v v' : Value} (h : OpV P e o s v) (hv : v = v') : OpV P e o s v' := hv ▸ h
theorem v_quo' {T T' : TypeId} {x y : Operand} {k : IntKind} {a b q : Int} (hop : o.op = .binOp .quo T x y T') (hx : ev s.L x = some (.int k a)) (hy : ev s.L y = some (.int k b)) (hb : b ≠ 0) (hq : k.wrap (a.tdiv b) = q) : OpV P e o s (.int k q) := (v_quo hop hx hy hb).cast (by rw [hq])
theorem v_shl' {T T' : TypeId} {x y : Operand} {k k' : IntKind} {a b q : Int} {n : Nat} (hop : o.op = .binOp .shl T x y T') (hx : ev s.L x = some (.int k a)) (hy : ev s.L y = some (.int k' b)) (hb : 0 ≤ b) (hn : k.bits = n) (hq : k.wrap (shlk n a b) = q) : OpV P e o s (.int k q) := by
  subst hn; exact (v_shl hop hx hy hb).cast (by rw [← hq]; rfl)
theorem v_shr' {T T' : TypeId} {x y : Operand} {k k' : IntKind} {a b : Int} {n : Nat} (hop : o.op = .binOp .shr T x y T') (hx : ev s.L x = some (.int k a)) (hy : ev s.L y = some (.int k' b)) (hb : 0 ≤ b) (hn : k.bits = n) : OpV P e o s (.int k (shrk n a b)) := by
  subst hn; exact (v_shr hop hx hy hb)
theorem v_conv' {T T' : TypeId} {x : Operand} {k k' : IntKind} {n q : Int} (hop : o.op = .convert T T' x) (hT : ∃ t, P.underlying T = some t) (hT' : P.underlying T' = some (.int k')) (hx : ev s.L x = some (.int k n)) (hq : k'.wrap n = q) : OpV P e o s (.int k' q) := (v_conv hop hT hT' hx).cast (by rw [hq])
theorem v_notd {T : TypeId} {x : Operand} {p : Prop} [Decidable p] (hop : o.op = .unOp .not T x) (hx : ev s.L x = some (.bool (decide p))) : OpV P e o s (.bool (decide (¬ p))) := (v_not hop hx).cast (by simp)
theorem v_eqd {T T' : TypeId} {x y : Operand} {a b : Bool} (hop : o.op = .binOp .eql T x y T') (hT : P.underlying T = some .bool) (hx : ev s.L x = some (.bool a)) (hy : ev s.L y = some (.bool b)) : OpV P e o s (.bool (decide (a = b))) := (v_eqb hop hT hx hy).cast (by cases a <;> cases b <;> rfl)
theorem v_ned {T T' : TypeId} {x y : Operand} {a b : Bool} (hop : o.op = .binOp .neq T x y T') (hT : P.underlying T = some .bool) (hx : ev s.L x = some (.bool a)) (hy : ev s.L y = some (.bool b)) : OpV P e o s (.bool (decide (¬ a = b))) := (v_neb hop hT hx hy).cast (by cases a <;> cases b <;> rfl)
theorem v_max {x y : Operand} {T T' : TypeId} {k : IntKind} {a b : Int} (hop : o.op = .call { callee := .builtin .max, args := #[x, y], argTypes := #[T, T'] }) (hx : ev s.L x = some (.int k a)) (hy : ev s.L y = some (.int k b)) : OpV P e o s (.int k (max a b)) :=
  ⟨(by rw [hop]; intro c; simp), (fun γ a' w hh => by
    have : (if b > a then b else a) = max a b := by simp only [Int.max_def]; split <;> split <;> omega
    simp [execOp, hop, hh.eval hx, hh.eval hy, resolve, invoke, builtin, Builtin.max_, Builtin.max2]
    exact this)⟩
theorem v_min {x y : Operand} {T T' : TypeId} {k : IntKind} {a b : Int} (hop : o.op = .call { callee := .builtin .min, args := #[x, y], argTypes := #[T, T'] }) (hx : ev s.L x = some (.int k a)) (hy : ev s.L y = some (.int k b)) : OpV P e o s (.int k (min a b)) :=
  ⟨(by rw [hop]; intro c; simp), (fun γ a' w hh => by
    have : (if b < a then b else a) = min a b := by simp only [Int.min_def]; split <;> split <;> omega
    simp [execOp, hop, hh.eval hx, hh.eval hy, resolve, invoke, builtin, Builtin.min_, Builtin.min2]
    exact this)⟩
theorem v_fieldAddr' {f off o' q : Nat} {S : TypeId} {x : Operand} {b : Nat} (hop : o.op = .fieldAddr S x f) (hf : fieldOff P S f = some o') (hx : ev s.L x = some (.pointer (some ⟨b, off, none⟩))) (hq : off + o' = q) : OpV P e o s (.pointer (some ⟨b, q, none⟩)) := hq ▸ v_fieldAddr hop hf hx
/-- An element of an array behind a pointer. -/
theorem v_indexArr {n m b off q : Nat} {T E : TypeId} {x y : Operand} {kd : IntKind} {i : Int} {ag : Bool} (hop : o.op = .indexAddr T x y) (ha : arrayOf P T = some (n, E)) (ht : tyOf P E = some (ag, m)) (hx : ev s.L x = some (.pointer (some ⟨b, off, none⟩))) (hy : ev s.L y = some (.int kd i)) (h0 : 0 ≤ i) (h1 : i < n) (hq : off + i.toNat * m = q) :
    OpV P e o s (.pointer (some ⟨b, q, none⟩)) :=
  ⟨(by rw [hop]; intro c; simp), (fun γ a w hh => by
    unfold arrayOf at ha
    split at ha
    · rename_i n' E' hfs
      simp at ha
      obtain ⟨rfl, rfl⟩ := ha
      simp only [execOp, hop, hh.eval hx, hh.eval hy, Instr.indexAt, asIntOf, Sem.run_bind, Sem.run_pure, Result.andThen, run_und' hfs, Instr.sureAddr]
      simp [h0, h1, run_sizeOf' ht, add_off, hq]
    · cases ha)⟩
theorem v_indexStr {T : TypeId} {x y : Operand} {kd : IntKind} {i : Int} {str : ByteArray} {c : UInt8} (hop : o.op = .index T x y) (hT : P.underlying T = some .string) (hx : ev s.L x = some (.string str)) (hy : ev s.L y = some (.int kd i)) (h0 : 0 ≤ i) (h1 : str[i.toNat]? = some c) : OpV P e o s (.int .u8 c.toNat) :=
  ⟨(by rw [hop]; intro c; simp), (fun γ a w hh => by
    simp only [execOp, hop, hh.eval hx, hh.eval hy, Instr.index, asIntOf, Sem.run_bind, Sem.run_pure, Result.andThen, run_und' hT]
    simp [h0, h1])⟩
theorem eqc_nil {xs ys : List Value} : eqCells [] xs ys = some (decide True) := rfl
theorem eqc_cons {ofs : List Nat} {xs ys : List Value} {j : Nat} {k : IntKind} {a b : Int} {p : Prop} [Decidable p] (hx : xs[j]? = some (.int k a)) (hy : ys[j]? = some (.int k b)) (h : eqCells ofs xs ys = some (decide p)) : eqCells (j :: ofs) xs ys = some (decide (a = b ∧ p)) := by
  simp only [eqCells, hx, hy, if_true, h]
  by_cases hab : a = b <;> simp [hab]
theorem eqc_end {ofs : List Nat} {xs ys : List Value} {p : Prop} [Decidable p] (h : eqCells ofs xs ys = some (decide (p ∧ True))) : eqCells ofs xs ys = some (decide p) := by rw [h]; simp
theorem run_eqGuard {T : TypeId} {op : BinOp} {x y : Operand} {u v : Array Value} (hg : P.eqGuardType P.depth T = false) (w : World) : (eqGuard op T x y (.agg u) (.agg v)).run P w = .ok () w := by
  have hp : (Sem.program Sem.pure).run P w = .ok P w := rfl
  unfold eqGuard
  cases op <;> simp [program, hp, hg, Result.andThen]
theorem v_eqs {T T' : TypeId} {x y : Operand} {ofs : List Nat} {xs ys : List Value} {b : Bool} (hop : o.op = .binOp .eql T x y T') (hT : intFields P T = some ofs) (hg : P.eqGuardType P.depth T = false) (hx : ev s.L x = some (.agg xs.toArray)) (hy : ev s.L y = some (.agg ys.toArray)) (hb : eqCells ofs xs ys = some b) : OpV P e o s (.bool b) :=
  ⟨(by rw [hop]; intro c; simp), (fun γ a' w hh => by
    simp only [execOp, hop, hh.eval hx, hh.eval hy, Sem.run_bind, run_eqGuard hg, Result.andThen_ok, binOp, run_equal_ints hT hb]
    simp)⟩
theorem v_nes {T T' : TypeId} {x y : Operand} {ofs : List Nat} {xs ys : List Value} {p : Prop} [Decidable p] (hop : o.op = .binOp .neq T x y T') (hT : intFields P T = some ofs) (hg : P.eqGuardType P.depth T = false) (hx : ev s.L x = some (.agg xs.toArray)) (hy : ev s.L y = some (.agg ys.toArray)) (hb : eqCells ofs xs ys = some (decide p)) : OpV P e o s (.bool (decide (¬ p))) :=
  ⟨(by rw [hop]; intro c; simp), (fun γ a' w hh => by
    simp only [execOp, hop, hh.eval hx, hh.eval hy, Sem.run_bind, run_eqGuard hg, Result.andThen_ok, binOp, run_equal_ints hT hb]
    simp)⟩
theorem v_makeFunc' {fn : Fn} {fs xs : Array Operand} {us vs : List Value} (hop : o.op = .makeFunc fn fs xs) (hf : fs.toList.map (ev s.L) = us.map some) (hx : xs.toList.map (ev s.L) = vs.map some) (hn : Instr.makeFunc fn us.toArray vs.toArray = pure (.func fn us.toArray vs.toArray)) : OpV P e o s (.func fn us.toArray vs.toArray) :=
  ⟨(by rw [hop]; intro c; simp), (fun γ a w hh => by
    have h1 : fs.map a.eval = us.toArray := by rw [← Array.toArray_toList (xs := fs), List.map_toArray, evs_eval hh hf]
    have h2 : xs.map a.eval = vs.toArray := by rw [← Array.toArray_toList (xs := xs), List.map_toArray, evs_eval hh hx]
    simp only [execOp, hop, h1, h2, hn, Sem.run_bind, Sem.run_pure, Result.andThen])⟩

/-! ### Implications of states -/
theorem Imp.refl : Imp e s s := fun _ _ _ h => h
theorem Imp.trans {t u : St} (h : Imp e s t) (k : Imp e t u) : Imp e s u := fun γ a w hh => k γ a w (h γ a w hh)
theorem Imp.full {t : St} {E : TypeId} {sz : Nat} {A : Option Addr} {n : Nat} (h : Imp e { s with M := grow E sz (.slice A n n) n none :: s.M } t) : Imp e s t := fun γ a w hh => h γ a w
    { size := hh.size, slots := hh.slots, defers := hh.defers, facts := hh.facts, fr := hh.fr, ok := hh.ok
      hm := hh.hm.cons (.inl ⟨rfl, A, rfl⟩) (fun d hd b hb => by cases hb)
      own := fun c hc b hb => by
        rcases List.mem_cons.1 hc with q | q
        · subst q; cases hb
        · exact hh.own c q b hb }
theorem Imp.addF {t : St} (f : Fact) (hf : ∀ γ w, (∀ g ∈ s.F, g.p γ w) → (∀ c ∈ s.M, c.p γ w) → f.p γ w) (h : Imp e { s with F := s.F ++ [f] } t) : Imp e s t := fun γ a w hh => h γ a w (hh.addF (hf γ w hh.facts hh.hm.all))
/-- No slice is a slice of nothing. -/
theorem nilF {α : Type} (rp : Rep α) : ∀ γ w, (∀ g ∈ s.F, g.p γ w) → (∀ c ∈ s.M, c.p γ w) → (slF rp none 0 []).p γ w := fun γ w _ _ => SlP.empty rp γ w

/-! ### Joins by data -/
def qcut (e : Env) (x0 : Exit) {D M : Type} (φ : D → Prop) (stJ : D → M → St) (Q : SPost) : SPost := fun x s => (x = x0 → ∃ d m, φ d ∧ Imp e s (stJ d m)) ∧ (x ≠ x0 → Q x s)
theorem qcut_hit {x0 : Exit} {D M : Type} {φ : D → Prop} {stJ : D → M → St} {Q : SPost} (d : D) (m : M) (hd : φ d) (h : Imp e s (stJ d m)) : qcut e x0 φ stJ Q x0 s := ⟨fun _ => ⟨d, m, hd, h⟩, fun h => absurd rfl h⟩
theorem qcut_miss {x0 x : Exit} {D M : Type} {φ : D → Prop} {stJ : D → M → St} {Q : SPost} (hne : x ≠ x0) (h : Q x s) : qcut e x0 φ stJ Q x s := ⟨fun q => absurd q hne, fun _ => h⟩
theorem Tr.cutE {c : Code} {Q : SPost} {D M : Type} (x0 : Exit) (φ : D → Prop) (stJ : D → M → St) (h : Tr P r e c (qcut e x0 φ stJ Q) s) (hJ : ∀ d m, φ d → Q x0 (stJ d m)) : Tr P r e c Q s := fun γ a w hh =>
  wpIn_mono (h γ a w hh) fun x a' w' ⟨hf, s', γ', q, hh'⟩ => by
    by_cases hx : x = x0
    · obtain ⟨d, m, hd, hi⟩ := q.1 hx
      subst hx
      exact ⟨hf, _, γ', hJ d m hd, hi _ _ _ hh'⟩
    · exact ⟨hf, s', γ', q.2 hx, hh'⟩

/-! ### Returns by data -/
def qret (e : Env) (Q : SPost) : SPost := fun x s => ∃ t, Imp e s t ∧ Q x t
theorem ctr_ofI {f : FuncId} {fn : Func} {c : Code} {args : List Value} {M : List Chunk} {F : List Fact} {R : Value → List Chunk → List Fact → Prop} {N : Nat} {rvs : List ResultVar} (hf : P.funcs[f]? = some fn) (hb : fn.body = some c) (hN : fn.ntmps = N) (hr : fn.results = rvs.toArray) (hle : args.length ≤ N)
    (h : ∀ γ0 w0, Tr P none ⟨N, fpM M, γ0, w0⟩ c (qret ⟨N, fpM M, γ0, w0⟩ (retQ P ⟨N, fpM M, γ0, w0⟩ rvs R)) ⟨slots0 args, M, F, []⟩) : Ctr P f args M F R :=
  ctr_of hf hb hN hr hle fun γ0 w0 γ a w hh => wpIn_mono (h γ0 w0 γ a w hh) fun x a' w' ⟨hf', s', γ', ⟨t, hi, q⟩, hh'⟩ => ⟨hf', t, γ', q, hi _ _ _ hh'⟩
theorem ret_r {rvs : List ResultVar} {R : Value → List Chunk → List Fact → Prop} (t : St) (vs : List Value) (M' X : List Chunk) (hI : Imp e s t) (hD : t.D = []) (hM : t.M = M' ++ X) (hR : R (ret1 vs) M' t.F) (hv : All2 (resV P e t) rvs vs) : qret e (retQ P e rvs R) .ret s :=
  ⟨t, hI, retOk_plain vs M' t.F hD hR hv (hM ▸ List.sublist_append_left _ _) (fun _ h => h)⟩
theorem ret_n {rvs : List ResultVar} {R : Value → List Chunk → List Fact → Prop} (t : St) (vs : List Value) (M' X : List Chunk) (hI : Imp e s t) (hD : t.D = []) (hM : t.M = M' ++ X) (hR : R (ret1 vs) M' t.F) (hv : All2 (resV P e t) rvs vs) : qret e (retQ P e rvs R) .normal s :=
  ⟨t, hI, retOk_plain vs M' t.F hD hR hv (hM ▸ List.sublist_append_left _ _) (fun _ h => h)⟩

/-! ### Calls with values that stand first -/
theorem op_callg {f : FuncId} {fo : Operand} {xs : List Operand} {tys : Array TypeId} {fs vs cap : List Value} {Mp Mr : List Chunk} {Fp : List Fact} {R : Value → List Chunk → List Fact → Prop} (ks rs js : List Nat) (hop : o.op = .call { callee := .value fo, args := xs.toArray, argTypes := tys })
    (hf : ev s.L fo = some (.func (.func f) fs.toArray cap.toArray)) (hxs : xs.map (ev s.L) = vs.map some) (hen : entersOf P f = true) (hc : Ctr P f (fs ++ vs ++ cap) Mp Fp R) (hn : (ks ++ rs).Nodup) (hM : (ks ++ rs).map (s.M[·]?) = (Mp ++ Mr).map some) (hF : js.map (s.F[·]?) = Fp.map some) (hd : ∀ d, o.dst = some d → d < e.N)
    (h : ∀ ret M' F', R ret M' F' → Kn (match o.dst with
      | some d => ({ s with M := M' ++ Mr, F := s.F ++ F' } : St).put d ret
      | none => { s with M := M' ++ Mr, F := s.F ++ F' })) : OpTr P r e o Kn s := by
  intro γ a w hh0 K Q hK
  have hh : Holds e { s with M := Mp ++ Mr } γ a w := { size := hh0.size, slots := hh0.slots, defers := hh0.defers, hm := hh0.hm.places hn hM, own := fun c hc => hh0.own c (mem_of_places hM c hc), facts := hh0.facts, fr := hh0.fr, ok := hh0.ok }
  refine ⟨fun f _ => fen_fn r f, ?_⟩
  have hargs : (xs.toArray.map a.eval) = vs.toArray := by rw [List.map_toArray, evs_eval hh hxs]
  have hrun : (execOp a.eval o).run P w = .ok (.enter f (fs ++ vs ++ cap).toArray) w := by
    simp only [execOp, hop, resolve, hh.eval hf, Deferred.ofValue, Sem.run_bind, Sem.run_pure, Result.andThen, hargs, invoke]
    have : (fs.toArray ++ vs.toArray ++ cap.toArray : Array Value) = (fs ++ vs ++ cap).toArray := by simp
    rw [this, enters_run hen]
  rw [semAt_eq _ _ _ (by rw [hop]; intro c; simp), hrun, Oper.uponIn_enter]
  refine ⟨fun hds => by simp [fen] at hds, ?_⟩
  have hm0 := hh.hm
  have hsep := List.pairwise_append.1 hm0.sep
  have hmp : HM γ w Mp := ⟨fun c hc' => hm0.all c (List.mem_append_left _ hc'), hsep.1⟩
  have hmr : HM γ w Mr := ⟨fun c hc' => hm0.all c (List.mem_append_right _ hc'), hsep.2.1⟩
  have hcall := hc γ w hmp (fun g hg => hh.facts g (mem_of_places hF g hg)) hh.ok
  refine (calls_any hcall r _).mono ?_
  rintro en w' ⟨ret, M', F', γ', rfl, hR, hM', hF', hfp, hfr, hok'⟩
  have hX : ∀ b, fpM Mp b → e.bs b ∨ e.w0.heap.size ≤ b := fun b ⟨c, hc1, hc2⟩ => hh.own c (List.mem_append_left _ hc1) b hc2
  have hmr' : HM γ' w' Mr := hmr.keep hfr (fun c hc' b hb ⟨d, hd1, hd2⟩ => hsep.2.2 d hd1 c hc' b hd2 hb)
  have hsz : e.w0.heap.size ≤ w.heap.size := hh.fr.le.size
  have hall : HM γ' w' (M' ++ Mr) := hM'.append_of hmr' (fun c hc1 d hd1 b hb hdb => by
    rcases hfp c hc1 b hb with ⟨q, hq1, hq2⟩ | q
    · exact hsep.2.2 q hq1 d hd1 b hq2 hdb
    · have := d.lt (hmr.all d hd1) hdb; omega)
  have hown : ∀ c ∈ M' ++ Mr, ∀ b, c.fp b → e.bs b ∨ e.w0.heap.size ≤ b := fun c hc1 b hb => by
    rcases List.mem_append.1 hc1 with q | q
    · rcases hfp c q b hb with q' | q'
      · exact hX b q'
      · exact .inr (by omega)
    · exact hh.own c (List.mem_append_right _ q) b hb
  have hst := hh.step (M' := M' ++ Mr) hfr hX hall hown hok'
  have hst2 : Holds e { s with M := M' ++ Mr, F := s.F ++ F' } γ' a w' :=
    { size := hst.size, slots := hst.slots, defers := hst.defers, hm := hst.hm, own := hst.own, fr := hst.fr, ok := hst.ok
      facts := fun g hg => by rcases List.mem_append.1 hg with q | q; exact hst.facts g q; exact hF' g q }
  have hk := h ret M' F' hR
  cases hdst : o.dst with
  | none => rw [hdst] at hk; exact hK _ γ' _ _ hk hst2
  | some d => rw [hdst] at hk; exact hK _ γ' _ _ hk (hst2.put d ret (hd d hdst))

/-! ### Drawn orders -/
theorem FlOk.re {ops : Array Oper} {fl : Fl} {s' : St} (h : FlOk ops fl s) (hs : SubL (fl.map (·.2)) s'.L) : FlOk ops fl s' :=
  ⟨h.shaped, h.nodup, fun p hp => SubL.spec hs p.2 (List.mem_map.2 ⟨p, hp, rfl⟩)⟩
def stepB2 (ops : Array Oper) (fl : List Nat) (ds : List Nat) (dn : List Nat) (j : Nat) : Bool := match ops[j]? with
  | some o => !dn.contains j && !fl.contains j && nextB ops fl dn j && allDB o.dst ds && (match o.op with | .defer _ => false | _ => true)
  | none => false
/-- The next step, guarded and wanted. -/
theorem TrAny.nextY {ops : Array Oper} {fl : Fl} {dn : List Nat} {j i d : Nat} {want b : Bool} {oj : Oper} (hsel : (noSel ops && backB ops) = true) (hok : FlOk ops fl s) (hj : ops[j]? = some oj) (hb : stepB2 ops (fl.map (·.1)) (fl.map (·.2.1)) dn j = true)
    (hg : oj.guard = some (i, want)) (hd : (ops[i]?).bind (·.dst) = some d) (hbv : s.L.lookup d = some (.bool b)) (hw : b = want)
    (h : OpTr P r e oj (fun s' => Kp P e ops j fl s s' ∧ TrAny P r e ops fl (j :: dn) Kn s') s) : TrAny P r e ops fl dn Kn s := by
  simp only [Bool.and_eq_true] at hsel
  simp only [stepB2, hj, Bool.and_eq_true, Bool.not_eq_true', List.contains_eq_mem, decide_eq_false_iff_not] at hb
  obtain ⟨⟨⟨⟨h2, h3⟩, h4⟩, h5⟩, h6⟩ := hb
  refine TrAny.step hsel.1 hsel.2 hok hj (fun γ a w hh => by simp [Region.wanted, hg, yielded_of hh hd hbv, hw]) (fun c hc => by rw [hc] at h6; cases h6) h2 h3 h4 (allDB_spec h5) h
end
end Go.Proofs.Ytbeknohemgjfbaa.L
namespace Go.Proofs.Ytbeknohemgjfbaa.L
open Go Go.Proofs.Ytbeknohemgjfbaa.Pu
set_option linter.unusedVariables false

theorem gn_t {b : Bool} (h : b = false) : (b == true) = false := by rw [h]; rfl
theorem gn_f {b : Bool} (h : b = true) : (b == false) = false := by rw [h]; rfl
theorem bdec {L : List (Nat × Value)} {x : Operand} {b : Bool} (h : ev L x = some (.bool b)) : ev L x = some (.bool (decide (b = true))) := by rw [h]; cases b <;> rfl
theorem wrap_u64' {x : Int} : IntKind.u64.wrap x = wu64 x := rfl
theorem wrap_u32' {x : Int} : IntKind.u32.wrap x = wu32 x := rfl
theorem wrap_u8' {x : Int} : IntKind.u8.wrap x = wu8 x := rfl
theorem wrap_i64' {x : Int} : IntKind.i64.wrap x = wi64 x := wrap_i64 x
theorem sn {s : List (Nat × Value)} : SubL [] s := trivial
theorem sc {i : Nat} {v : Value} {t s : List (Nat × Value)} (h : s.lookup i = some v) (k : SubL t s) : SubL ((i, v) :: t) s := ⟨h, k⟩
def Ones : List Value → Prop
  | [] => True
  | v :: t => v.oneCell' = true ∧ Ones t
theorem on : Ones [] := trivial
theorem oc {v : Value} {t : List Value} (h : v.oneCell' = true) (k : Ones t) : Ones (v :: t) := ⟨h, k⟩
theorem ones : ∀ {l : List Value}, Ones l → ∀ u ∈ l, u.oneCell' = true
  | [], _, u, hu => by simp at hu
  | v :: t, ⟨h, k⟩, u, hu => by rcases List.mem_cons.1 hu with q | q; (subst q; exact h); exact ones k u q

section
variable {P : Program} {r : Option Nat} {e : Env} {o : Oper} {Kn : St → Prop} {s : St} {γ γ' : Gh} {w w' : World} {a : Act}
theorem an {ops : Array Oper} {j : Nat} : AllV P e ops j s [] := trivial
theorem ac {ops : Array Oper} {j : Nat} {p : Nat × Nat × Value} {t : Fl} (h : waits ops j p.1 = true ∨ OpVal P e ops p.1 p.2.2 s) (k : AllV P e ops j s t) : AllV P e ops j s (p :: t) := ⟨h, k⟩
theorem TrAny.full {ops : Array Oper} {fl : Fl} {dn : List Nat} {E : TypeId} {sz : Nat} {A : Option Addr} {n : Nat} (hok : FlOk ops fl s) (h : FlOk ops fl { s with M := grow E sz (.slice A n n) n none :: s.M } → TrAny P r e ops fl dn Kn { s with M := grow E sz (.slice A n n) n none :: s.M }) : TrAny P r e ops fl dn Kn s :=
  fun fuel listed hc hu hv γ a af w hh hr Q hQ => by
    refine h ⟨hok.shaped, hok.nodup, hok.slot⟩ fuel listed hc hu (fun p hp hl => ?_) γ a af w (Imp.full (E := E) (sz := sz) (A := A) (n := n) Imp.refl γ af w hh) hr Q hQ
    obtain ⟨o, ho, hnd, hrun⟩ := hv p hp hl
    exact ⟨o, ho, hnd, fun γ a w hh => hrun γ a w { size := hh.size, slots := hh.slots, defers := hh.defers, hm := ⟨fun c hc => hh.hm.all c (List.mem_cons_of_mem _ hc), (List.pairwise_cons.1 hh.hm.sep).2⟩, own := fun c hc => hh.own c (List.mem_cons_of_mem _ hc), facts := hh.facts, fr := hh.fr, ok := hh.ok }⟩

section
variable {α : Type} {rp : Rep α} {k sz n c : Nat} {T E : TypeId} {x y z u : Operand} {ag : Bool} {A : Option Addr} {xs : List α} {kd kd' kd2 : IntKind} {i j m : Int}
theorem slF_lec (hk : s.F[k]? = some (slF rp A c xs)) (hF : ∀ g ∈ s.F, g.p γ w) : xs.length ≤ c := by
  have hf : SlP rp γ w A c xs := hF _ (List.mem_of_getElem? hk)
  exact hf.le
theorem slx1_v (hop : o.op = .slice T x (some y) none none) (hT : sliceOf P T = some E) (ht : tyOf P E = some (ag, sz)) (hx : ev s.L x = some (.slice A n c)) (hn : n = xs.length) (hy : ev s.L y = some (.int kd i)) (h : 0 ≤ i ∧ i ≤ xs.length) (hk : s.F[k]? = some (slF rp A c xs)) :
    OpV P e o s (.slice (slA A i.toNat c sz) (xs.drop i.toNat).length (c - i.toNat)) :=
  ⟨by rw [hop]; intro c; simp, fun γ a w hh => by
    have hc := slF_lec hk hh.facts
    subst hn
    exact (v_slice (l := i.toNat) (h := xs.length) (m := c) hop hT ht hx ⟨kd, i, hy, h.1, rfl⟩ rfl rfl (by omega) hc (Nat.le_refl _) (by simp) (by simp) rfl).run γ a w hh⟩
theorem slx1_f (hk : s.F[k]? = some (slF rp A c xs)) (h : 0 ≤ i ∧ i ≤ xs.length) : ∀ γ w, (∀ g ∈ s.F, g.p γ w) → (∀ c ∈ s.M, c.p γ w) → (slF rp (slA A i.toNat c rp.sz) (c - i.toNat) (xs.drop i.toNat)).p γ w := fun γ w hF hM =>
  slF_part (l := i.toNat) (h := xs.length) (m := c) hk (by omega) (Nat.le_refl _) (slF_lec hk hF) (Nat.le_refl _) (by rw [List.take_length]) rfl γ w hF hM
theorem slx2_v (hop : o.op = .slice T x none (some y) none) (hT : sliceOf P T = some E) (ht : tyOf P E = some (ag, sz)) (hx : ev s.L x = some (.slice A n c)) (hn : n = xs.length) (hy : ev s.L y = some (.int kd i)) (h : 0 ≤ i ∧ i ≤ xs.length) (hk : s.F[k]? = some (slF rp A c xs)) :
    OpV P e o s (.slice (slA A 0 c sz) (xs.take i.toNat).length c) :=
  ⟨by rw [hop]; intro c; simp, fun γ a w hh => by
    have hc := slF_lec hk hh.facts
    subst hn
    exact (v_slice (l := 0) (h := i.toNat) (m := c) hop hT ht hx rfl ⟨kd, i, hy, h.1, rfl⟩ rfl (by omega) (by omega) (Nat.le_refl _) (by simp) (by rw [List.length_take]; omega) rfl).run γ a w hh⟩
theorem slx2_f (hk : s.F[k]? = some (slF rp A c xs)) (h : 0 ≤ i ∧ i ≤ xs.length) : ∀ γ w, (∀ g ∈ s.F, g.p γ w) → (∀ c ∈ s.M, c.p γ w) → (slF rp (slA A 0 c rp.sz) c (xs.take i.toNat)).p γ w := fun γ w hF hM => by
  have hc := slF_lec hk hF
  exact slF_part (l := 0) (h := i.toNat) (m := c) hk (by omega) (by omega) (by omega) (Nat.le_refl _) rfl rfl γ w hF hM
theorem slx3_v (hop : o.op = .slice T x (some y) (some z) (some u)) (hT : sliceOf P T = some E) (ht : tyOf P E = some (ag, sz)) (hx : ev s.L x = some (.slice A n c)) (hn : n = xs.length) (hy : ev s.L y = some (.int kd i)) (hz : ev s.L z = some (.int kd' j)) (hu : ev s.L u = some (.int kd2 m)) (h : 0 ≤ i ∧ i ≤ j ∧ j ≤ m ∧ m ≤ xs.length) (hk : s.F[k]? = some (slF rp A c xs)) :
    OpV P e o s (.slice (slA A i.toNat m.toNat sz) ((xs.take j.toNat).drop i.toNat).length (m.toNat - i.toNat)) :=
  ⟨by rw [hop]; intro c; simp, fun γ a w hh => by
    have hc := slF_lec hk hh.facts
    subst hn
    exact (v_slice (l := i.toNat) (h := j.toNat) (m := m.toNat) hop hT ht hx ⟨kd, i, hy, h.1, rfl⟩ ⟨kd', j, hz, by omega, rfl⟩ ⟨kd2, m, hu, by omega, rfl⟩ (by omega) (by omega) (by omega) (by simp) (by rw [List.length_drop, List.length_take]; omega) rfl).run γ a w hh⟩
theorem slx3_f (hk : s.F[k]? = some (slF rp A c xs)) (h : 0 ≤ i ∧ i ≤ j ∧ j ≤ m ∧ m ≤ xs.length) : ∀ γ w, (∀ g ∈ s.F, g.p γ w) → (∀ c ∈ s.M, c.p γ w) → (slF rp (slA A i.toNat m.toNat rp.sz) (m.toNat - i.toNat) ((xs.take j.toNat).drop i.toNat)).p γ w := fun γ w hF hM => by
  have hc := slF_lec hk hF
  exact slF_part (l := i.toNat) (h := j.toNat) (m := m.toNat) hk (by omega) (by omega) (by omega) (by omega) rfl rfl γ w hF hM
theorem slx4_v (hop : o.op = .slice T x (some y) (some z) none) (hT : sliceOf P T = some E) (ht : tyOf P E = some (ag, sz)) (hx : ev s.L x = some (.slice A n c)) (hn : n = xs.length) (hy : ev s.L y = some (.int kd i)) (hz : ev s.L z = some (.int kd' j)) (h : 0 ≤ i ∧ i ≤ j ∧ j ≤ xs.length) (hk : s.F[k]? = some (slF rp A c xs)) :
    OpV P e o s (.slice (slA A i.toNat c sz) ((xs.take j.toNat).drop i.toNat).length (c - i.toNat)) :=
  ⟨by rw [hop]; intro c; simp, fun γ a w hh => by
    have hc := slF_lec hk hh.facts
    subst hn
    exact (v_slice (l := i.toNat) (h := j.toNat) (m := c) hop hT ht hx ⟨kd, i, hy, h.1, rfl⟩ ⟨kd', j, hz, by omega, rfl⟩ rfl (by omega) (by omega) (Nat.le_refl _) (by simp) (by rw [List.length_drop, List.length_take]; omega) rfl).run γ a w hh⟩
theorem slx4_f (hk : s.F[k]? = some (slF rp A c xs)) (h : 0 ≤ i ∧ i ≤ j ∧ j ≤ xs.length) : ∀ γ w, (∀ g ∈ s.F, g.p γ w) → (∀ c ∈ s.M, c.p γ w) → (slF rp (slA A i.toNat c rp.sz) (c - i.toNat) ((xs.take j.toNat).drop i.toNat)).p γ w := fun γ w hF hM => by
  have hc := slF_lec hk hF
  exact slF_part (l := i.toNat) (h := j.toNat) (m := c) hk (by omega) (by omega) (by omega) (Nat.le_refl _) rfl rfl γ w hF hM
end
end
end Go.Proofs.Ytbeknohemgjfbaa.L
namespace Go.Proofs.Ytbeknohemgjfbaa.L
open Go Go.Proofs.Ytbeknohemgjfbaa.Pu
set_option linter.unusedVariables false

section
variable {P : Program} {r : Option Nat} {e : Env} {o : Oper} {Kn : St → Prop} {s : St} {γ γ' : Gh} {w w' : World} {a : Act} {ops : Array Oper} {fl : Fl} {dn : List Nat}

theorem TrAny.cut {ι : Type} (stJ : ι → St) (h : TrAny P r e ops fl dn (fun s' => ∃ i, Imp e s' (stJ i)) s) (hJ : ∀ i, Kn (stJ i)) : TrAny P r e ops fl dn Kn s :=
  fun fuel listed hc hu hv γ a af w hh hr Q hQ => h fuel listed hc hu hv γ a af w hh hr Q fun s' γ' a' w' ⟨i, hi⟩ hh' => hQ (stJ i) γ' a' w' (hJ i) (hi _ _ _ hh')

def StepAt (P : Program) (r : Option Nat) (e : Env) (ops : Array Oper) (fl : Fl) (dn : List Nat) (Kn : St → Prop) (s : St) (j : Nat) : Prop :=
  ∃ oj, ops[j]? = some oj ∧ (∀ γ a w, Holds e s γ a w → Region.wanted oj (yielded ops a.tmps) = true) ∧ (∀ c, oj.op ≠ .defer c) ∧ j ∉ dn ∧ j ∉ fl.map (·.1) ∧ (∀ p ∈ fl, oj.dst ≠ some p.2.1) ∧
    OpTr P r e oj (fun s' => Kp P e ops j fl s s' ∧ TrAny P r e ops fl (j :: dn) Kn s') s
inductive AllS (X : Nat → Prop) : List Nat → Prop
  | nil : AllS X []
  | cons {j : Nat} {t : List Nat} (h : X j) (k : AllS X t) : AllS X (j :: t)
theorem AllS.spec {X : Nat → Prop} {l : List Nat} (h : AllS X l) : ∀ j ∈ l, X j := by
  induction h with
  | nil => simp
  | cons h _ ih => intro j hj; rcases List.mem_cons.1 hj with q | q; (subst q; exact h); exact ih j q
def nextBs (ops : Array Oper) (fl : List Nat) (dn : List Nat) (js : List Nat) : Bool := (List.range ops.size).all fun i => js.contains i || dn.contains i || fl.contains i ||
  (List.range ops.size).any fun k => waits ops i k && !dn.contains k && !fl.contains k
theorem nextBs_spec {fls dn js : List Nat} (h : nextBs ops fls dn js = true) {i : Nat} (hi : i < ops.size) (hij : i ∉ js) (h1 : i ∉ dn) (h2 : i ∉ fls) : ∃ k, waits ops i k = true ∧ k ∉ dn ∧ k ∉ fls := by
  have := List.all_eq_true.1 h i (List.mem_range.2 hi)
  simp only [Bool.or_eq_true, List.contains_eq_mem, decide_eq_true_eq] at this
  rcases this with ((q | q) | q) | q
  · exact absurd q hij
  · exact absurd q h1
  · exact absurd q h2
  · obtain ⟨k, _, hk⟩ := List.any_eq_true.1 q
    simp only [Bool.and_eq_true, Bool.not_eq_true', decide_eq_false_iff_not] at hk
    exact ⟨k, hk.1.1, hk.1.2, hk.2⟩

/-- One of these steps is the next. -/
theorem TrAny.fork (js : List Nat) (hsel : (noSel ops && backB ops) = true) (hok : FlOk ops fl s) (hj0 : ∃ j ∈ js, j < ops.size) (hnext : nextBs ops (fl.map (·.1)) dn js = true) (h : AllS (StepAt P r e ops fl dn Kn s) js) : TrAny P r e ops fl dn Kn s := by
  simp only [Bool.and_eq_true] at hsel
  obtain ⟨hsel, hback⟩ := hsel
  obtain ⟨j0, hj0m, hj0lt⟩ := hj0
  obtain ⟨_, _, _, _, hjd0, hjf0, _, _⟩ := h.spec j0 hj0m
  intro fuel
  induction fuel with
  | zero =>
    intro listed hc hu
    have := unl_zero hu j0 hj0lt
    rcases hc.2.1 j0 this with q | q
    · exact absurd q hjd0
    · exact absurd q hjf0
  | succ fuel ih =>
    intro listed hc hu hvs γ a af w hh hr Q hQ
    have hjl0 : listed.getD j0 false = false := by
      cases hb : listed.getD j0 false with
      | false => rfl
      | true => rcases hc.2.1 j0 hb with q | q; exact absurd q hjd0; exact absurd q hjf0
    refine ⟨fun hn => absurd hn (ready_ne hc.1 hback hj0lt hjl0), fun i hi => ?_⟩
    obtain ⟨hlt, h0, hw⟩ := (ready_iff hc.1).1 hi
    by_cases hifl : i ∈ fl.map (·.1)
    · obtain ⟨p, hp, rfl⟩ := List.mem_map.1 hifl
      exact TrAny.float hsel hok.toShaped hc hu hvs hh hr hp hi (fun q hq hqp => inj_of_nodup hok.nodup hp hq hqp) (hok.own hp) (fun _ _ => trivial) (hh.slots _ _ (hok.slot p hp)) fun listed' hc' hu' hvs' a' hr' => ih listed' hc' hu' hvs' γ a' af w hh hr' Q hQ
    · by_cases hij : i ∈ js
      · obtain ⟨oj, hj, hg, hnd, hjd, hjf, hdst, hop⟩ := h.spec i hij
        have hjlt := hlt
        have hjl := h0
        have hev := hr.eval hok.toShaped hj hw (fun p hp hpj _ => absurd (List.mem_map.2 ⟨p, hp, hpj⟩) hjf)
        unfold wpOpIn
        simp only [hj]
        rw [if_pos (hev.2.trans (hg γ af w hh))]
        refine wpIn_transfer (af := af) hnd hr.1 (execOp_congr oj (noSel_spec hsel hj) hev.1) (hop γ af w hh (fun a' w' => ∃ s' γ', (Kp P e ops i fl s s' ∧ TrAny P r e ops fl (i :: dn) Kn s') ∧ Holds e s' γ' a' w') (fun _ _ _ => False) (fun s' γ' a' w' hk hh' => ⟨s', γ', hk, hh'⟩)) ?_
        rintro D v w' ⟨s', γ', ⟨hv', hk⟩, hh'⟩
        refine hk fuel (listed.setIfInBounds i true) ⟨by simpa using hc.1, fun q hq => ?_, fun q hq => ?_⟩ (by have := unl_set hc.1 hjlt hjl; omega) ?_ γ' _ _ w' hh' ?_ Q hQ
        · rw [getD_set (by rw [hc.1]; exact hjlt)] at hq
          split at hq
          · rename_i q'; subst q'; exact .inl List.mem_cons_self
          · rcases hc.2.1 q hq with q' | q'
            · exact .inl (List.mem_cons_of_mem _ q')
            · exact .inr q'
        · rw [getD_set (by rw [hc.1]; exact hjlt)]
          split
          · rfl
          · rename_i hne
            rcases List.mem_cons.1 hq with q' | q'
            · exact absurd q' hne
            · exact hc.2.2 q q'
        · intro p hp hpl
          rw [getD_set (by rw [hc.1]; exact hjlt)] at hpl
          split at hpl
          · cases hpl
          · refine hv' p hp ?_ (hvs p hp hpl)
            cases hb : waits ops i p.1 with
            | false => rfl
            | true => rw [hw _ hb] at hpl; cases hpl
        · refine ⟨?_, ?_, fun t ht => ?_⟩
          · cases oj.dst <;> rfl
          · cases hd : oj.dst <;> simp [Act.put, hr.2.1]
          · have hold : (∀ p ∈ fl, listed.getD p.1 false = false → p.2.1 ≠ t) := fun p hp hpl hpt => by
              refine ht p hp ?_ hpt
              rw [getD_set (by rw [hc.1]; exact hjlt)]
              split
              · rename_i q'; exact absurd (List.mem_map.2 ⟨p, hp, q'⟩) hjf
              · exact hpl
            have h1 := hr.2.2 t hold
            cases hd : oj.dst with
            | none => exact h1
            | some d =>
              simp only [Act.put]
              by_cases hdt : d = t
              · subst hdt
                simp only [Array.getElem?_setIfInBounds, if_true, hr.2.1]
              · rw [Array.getElem?_setIfInBounds_ne hdt, Array.getElem?_setIfInBounds_ne hdt]
                exact h1
      · have hidn : i ∉ dn := fun q => by rw [hc.2.2 i q] at h0; cases h0
        obtain ⟨k, hk1, hk2, hk3⟩ := nextBs_spec hnext hlt hij hidn hifl
        have := hw k hk1
        rcases hc.2.1 k this with q | q
        · exact absurd q hk2
        · exact absurd q hk3

def stepB3 (ops : Array Oper) (fl : List Nat) (ds : List Nat) (dn : List Nat) (j : Nat) : Bool := match ops[j]? with
  | some o => !dn.contains j && !fl.contains j && allDB o.dst ds && (match o.op with | .defer _ => false | _ => true)
  | none => false
theorem step_n {j : Nat} {oj : Oper} (hj : ops[j]? = some oj) (hb : stepB3 ops (fl.map (·.1)) (fl.map (·.2.1)) dn j = true) (hg : oj.guard = none)
    (h : OpTr P r e oj (fun s' => Kp P e ops j fl s s' ∧ TrAny P r e ops fl (j :: dn) Kn s') s) : StepAt P r e ops fl dn Kn s j := by
  simp only [stepB3, hj, Bool.and_eq_true, Bool.not_eq_true', List.contains_eq_mem, decide_eq_false_iff_not] at hb
  obtain ⟨⟨⟨h2, h3⟩, h5⟩, h6⟩ := hb
  exact ⟨oj, hj, fun _ _ _ _ => by simp [Region.wanted, hg], (fun c hc => by rw [hc] at h6; cases h6), h2, h3, allDB_spec h5, h⟩
theorem step_y {j i d : Nat} {want b : Bool} {oj : Oper} (hj : ops[j]? = some oj) (hb : stepB3 ops (fl.map (·.1)) (fl.map (·.2.1)) dn j = true)
    (hg : oj.guard = some (i, want)) (hd : (ops[i]?).bind (·.dst) = some d) (hbv : s.L.lookup d = some (.bool b)) (hw : b = want)
    (h : OpTr P r e oj (fun s' => Kp P e ops j fl s s' ∧ TrAny P r e ops fl (j :: dn) Kn s') s) : StepAt P r e ops fl dn Kn s j := by
  simp only [stepB3, hj, Bool.and_eq_true, Bool.not_eq_true', List.contains_eq_mem, decide_eq_false_iff_not] at hb
  obtain ⟨⟨⟨h2, h3⟩, h5⟩, h6⟩ := hb
  exact ⟨oj, hj, fun γ a w hh => by simp [Region.wanted, hg, yielded_of hh hd hbv, hw], (fun c hc => by rw [hc] at h6; cases h6), h2, h3, allDB_spec h5, h⟩

theorem yielded_un {s : St} (hh : Holds e s γ a w) {ops : Array Oper} {j d : Nat} (hd : (ops[j]?).bind (·.dst) = some d) (hb : s.L.lookup d = some undef) : yielded ops a.tmps j = none := by
  simp only [yielded, hd, Option.bind_some, hh.slots d _ hb]
  rfl
/-- A guarded operation whose guard itself was passed over. -/
theorem TrL.cons_un {ops : Array Oper} {o : Oper} {rest : List Oper} {j d d' : Nat} {want : Bool} (hg : o.guard = some (j, want)) (hd : (ops[j]?).bind (·.dst) = some d) (hb : s.L.lookup d = some undef)
    (ho : o.dst = some d') (hN : d' < e.N) (h : TrL P r e ops rest Kn (s.put d' undef)) : TrL P r e ops (o :: rest) Kn s := by
  intro γ a w hh Q hQ
  refine wpListIn_step fun K hK => ?_
  rw [if_neg (by simp [Region.wanted, hg, yielded_un hh hd hb])]
  refine ⟨fun f _ => fen_fn r f, hK _ _ ?_⟩
  rw [ho]
  exact h γ _ w (hh.put d' undef hN) Q hQ
theorem OpVal.un {ops : Array Oper} {i j d : Nat} {want : Bool} (hi : ops[i]? = some o) (hnd : ∀ c, o.op ≠ .defer c) (hg : o.guard = some (j, want)) (hd : (ops[j]?).bind (·.dst) = some d) (hb : s.L.lookup d = some undef) : OpVal P e ops i undef s :=
  ⟨o, hi, hnd, fun γ a w hh => .inr ⟨by simp [Region.wanted, hg, yielded_un hh hd hb], rfl⟩⟩
theorem rowc {α : Type} {rp : Rep α} {x : α} {xs : List α} {cs ds out : List Value} (h : rp.R γ w x cs) (t : Row rp γ w xs ds) (ho : cs ++ ds = out) : Row rp γ w (x :: xs) out := ho ▸ Row.cons h t
theorem rown {α : Type} {rp : Rep α} : Row rp γ w [] [] := .nil
/-- A scope of labels to which nothing jumps. -/
theorem stepR_scope {b : Frame} {k : List Item} {cs : List Frame} {c : Code} : Go.step P (lone (b.atR a (.code (.scope c) :: k)) cs w) = .next (lone (b.atR a (.code c :: .inScope c :: k)) cs w) :=
  step_lone_go (by simp [stepG, stepG.exec, Frame.atR])
theorem stepR_inScope {b : Frame} {k : List Item} {cs : List Frame} {c : Code} : Go.step P (lone (b.atR a (.inScope c :: k)) cs w) = .next (lone (b.atR a k) cs w) :=
  step_lone_go (by simp [stepG, stepG.exec, Frame.atR])
theorem wpIn_scope_fine {F : Fence} {n : Nat} {c : Code} {Q : Exit → Act → World → Prop} (hQ : ∀ x a w, Q x a w → fine x) (h : c.wpIn F n P Q a w) : (Code.scope c).wpIn F n P Q a w := by
  intro b k cs hro hb hr
  have h0 : (lone (b.atR a (.code (.scope c) :: k)) cs w).fenced P F := fenced_calm hb hr rfl
  obtain ⟨x, a1, w1, hq, harr⟩ := h b (.inScope c :: k) cs hro hb hr
  cases x with
  | normal => exact ⟨.normal, a1, w1, hq, .head h0 stepR_scope (StepsIn.trans harr (.one (fenced_calm hb hr rfl) stepR_inScope))⟩
  | exit id =>
    have hx : exitTo id (.inScope c :: k) = exitTo id k := by simp [exitTo]
    exact ⟨.exit id, a1, w1, hq, fun k' hk => .head h0 stepR_scope (harr.1 k' (by rw [hx]; exact hk)), fun hr' hk => let ⟨k1, h1, h2⟩ := harr.2 hr' (by rw [hx]; exact hk); ⟨k1, h1, .head h0 stepR_scope h2⟩⟩
  | ret => exact ⟨_, a1, w1, hq, .of_steps (.one h0 stepR_scope) harr⟩
  | goto l => exact (hQ _ _ _ hq).elim
  | panic ch => exact (hQ _ _ _ hq).elim
  | outgrown => exact (hQ _ _ _ hq).elim
theorem Tr.scope {c : Code} {Q : SPost} (h : Tr P r e c Q s) : Tr P r e (.scope c) Q s := fun γ a w hh => wpIn_scope_fine (fun _ _ _ q => q.1) (h γ a w hh)
end
end Go.Proofs.Ytbeknohemgjfbaa.L
namespace Go.Proofs.Ytbeknohemgjfbaa.L
open Go Go.Proofs.Ytbeknohemgjfbaa.Pu
set_option linter.unusedVariables false

def St.cm (s : St) (c : Chunk) : St := { s with M := c :: s.M }
def St.cf (s : St) (f : Fact) : St := { s with F := s.F ++ [f] }
def St.cf2 (s : St) (f g : Fact) : St := { s with F := s.F ++ [f, g] }
def St.sm (s : St) (k : Nat) (c : Chunk) : St := { s with M := s.M.set k c }
def St.ca (s : St) (k : Nat) (c : Chunk) (f : Fact) : St := { s with M := s.M.set k c, F := s.F ++ [f] }
def St.cc (s : St) (M : List Chunk) (F : List Fact) : St := { s with M := M, F := s.F ++ F }
def St.c0 (s : St) (M : List Chunk) (F : List Fact) : St := { s with M := M ++ s.M, F := s.F ++ F }

section
variable {P : Program} {r : Option Nat} {e : Env} {o : Oper} {Kn : St → Prop} {s : St} {γ γ' : Gh} {w w' : World} {a : Act} {ops : Array Oper} {l : List Oper} {fl : Fl} {dn : List Nat}
theorem op_alloc' {d : Nat} {T : TypeId} {cs : List Value} (ho : o.dst = some d) (hN : d < e.N) (hop : o.op = .alloc T) (hz : zeroOf P T = some cs) (h : ∀ b, Kn ((s.cm (cells b cs T)).put d (.pointer (some ⟨b, 0, none⟩)))) : OpTr P r e o Kn s := op_alloc ho hN hop hz h
theorem op_box' {d : Nat} {T : TypeId} {x : Operand} {v : Value} {cs : List Value} (ho : o.dst = some d) (hN : d < e.N) (hop : o.op = .box T x) (hx : ev s.L x = some v) (hc : v.cells.toList = cs) (h : ∀ b, Kn ((s.cm (cells b cs T)).put d (.pointer (some ⟨b, 0, none⟩)))) : OpTr P r e o Kn s := by
  subst hc; exact op_box ho hN hop hx h
theorem op_store' {k b off n : Nat} {T Tb : TypeId} {x y : Operand} {ag : Bool} {c c' : List Value} {v : Value} (ho : o.dst = none) (hop : o.op = .store T x y) (hx : ev s.L x = some (.pointer (some ⟨b, off, none⟩))) (hy : ev s.L y = some v)
    (hk : s.M[k]? = some (cells b c Tb)) (ht : tyOf P T = some (ag, n)) (hl : v.cells.toList.length = n) (hfit : off + n ≤ c.length) (h1 : ∀ u ∈ v.cells.toList, u.oneCell' = true) (hc' : spl c off v.cells.toList = c')
    (h : Kn (s.sm k (cells b c' Tb))) : OpTr P r e o Kn s := op_store ho hop hx hy hk ht hl hfit h1 hc' h
theorem op_call0' {f d : Nat} {fo : Operand} {xs : List Operand} {tys : Array TypeId} {vs cap : List Value} {Fp : List Fact} {R : Value → List Chunk → List Fact → Prop} (js : List Nat) (hop : o.op = .call { callee := .value fo, args := xs.toArray, argTypes := tys }) (ho : o.dst = some d) (hN : d < e.N)
    (hf : ev s.L fo = some (.func (.func f) #[] cap.toArray)) (hxs : xs.map (ev s.L) = vs.map some) (hen : entersOf P f = true) (hc : Ctr P f (vs ++ cap) [] Fp R) (hF : js.map (s.F[·]?) = Fp.map some)
    (h : ∀ ret M' F', R ret M' F' → Kn ((s.c0 M' F').put d ret)) : OpTr P r e o Kn s := op_call0 js hop ho hN hf hxs hen hc hF h
/-- A call of any known function; its result has a slot. -/
theorem op_callg' {f d : Nat} {fo : Operand} {xs : List Operand} {tys : Array TypeId} {fs vs cap : List Value} {Mp Mr : List Chunk} {Fp : List Fact} {R : Value → List Chunk → List Fact → Prop} (ks rs js : List Nat) (hop : o.op = .call { callee := .value fo, args := xs.toArray, argTypes := tys })
    (hf : ev s.L fo = some (.func (.func f) fs.toArray cap.toArray)) (hxs : xs.map (ev s.L) = vs.map some) (hen : entersOf P f = true) (hc : Ctr P f (fs ++ vs ++ cap) Mp Fp R) (hn : (ks ++ rs).Nodup) (hM : (ks ++ rs).map (s.M[·]?) = (Mp ++ Mr).map some) (hF : js.map (s.F[·]?) = Fp.map some) (ho : o.dst = some d) (hN : d < e.N)
    (h : ∀ ret M' F', R ret M' F' → Kn ((s.cc (M' ++ Mr) F').put d ret)) : OpTr P r e o Kn s :=
  op_callg ks rs js hop hf hxs hen hc hn hM hF (fun q hq => by rw [ho] at hq; cases hq; exact hN) (fun ret M' F' hR => by rw [ho]; exact h ret M' F' hR)
/-- A call without a slot for its result. -/
theorem op_callv' {f : Nat} {fo : Operand} {xs : List Operand} {tys : Array TypeId} {fs vs cap : List Value} {Mp Mr : List Chunk} {Fp : List Fact} {R : Value → List Chunk → List Fact → Prop} (ks rs js : List Nat) (hop : o.op = .call { callee := .value fo, args := xs.toArray, argTypes := tys })
    (hf : ev s.L fo = some (.func (.func f) fs.toArray cap.toArray)) (hxs : xs.map (ev s.L) = vs.map some) (hen : entersOf P f = true) (hc : Ctr P f (fs ++ vs ++ cap) Mp Fp R) (hn : (ks ++ rs).Nodup) (hM : (ks ++ rs).map (s.M[·]?) = (Mp ++ Mr).map some) (hF : js.map (s.F[·]?) = Fp.map some) (ho : o.dst = none)
    (h : ∀ ret M' F', R ret M' F' → Kn (s.cc (M' ++ Mr) F')) : OpTr P r e o Kn s :=
  op_callg ks rs js hop hf hxs hen hc hn hM hF (fun q hq => by rw [ho] at hq; cases hq) (fun ret M' F' hR => by rw [ho]; exact h ret M' F' hR)
theorem op_append' {α : Type} {rp : Rep α} {d k kx ky by_ : Nat} {T E : TypeId} {x y : Operand} {ag : Bool} {xs ys : List α} {A B : Option Addr} {n m cx cy : Nat} {ob : Option Nat} {zc : List Value} (ho : o.dst = some d) (hN : d < e.N)
    (hop : o.op = .call { callee := .builtin .append, args := #[x, y], argTypes := #[T, T] }) (hT : sliceOf P T = some E) (ht : tyOf P E = some (ag, rp.sz)) (hz : zeroOf P E = some zc) (hzl : zc.length = rp.sz) (hby : bytesOf P E = some by_)
    (hx : ev s.L x = some (.slice A n cx)) (hn : n = xs.length) (hy : ev s.L y = some (.slice B m cy)) (hm : m = ys.length) (hk : s.M[k]? = some (grow E rp.sz (.slice A n cx) n ob)) (hfx : s.F[kx]? = some (slF rp A cx xs)) (hfy : s.F[ky]? = some (slF rp B cy ys))
    (hb : (xs.length + ys.length) * by_ ≤ big) (hb2 : xs.length + ys.length ≤ big)
    (h : ∀ A' c' ob', Kn ((s.ca k (grow E rp.sz (.slice A' (xs ++ ys).length c') (xs ++ ys).length ob') (slF rp A' c' (xs ++ ys))).put d (.slice A' (xs ++ ys).length c'))) : OpTr P r e o Kn s := op_append ho hN hop hT ht hz hzl hby hx hn hy hm hk hfx hfy hb hb2 h
theorem op_buildSlice' {α : Type} {rp : Rep α} {d len : Nat} {T E : TypeId} {ag : Bool} {ps : List (Nat × Operand)} {vs zc out : List Value} {xs : List α} (ho : o.dst = some d) (hN : d < e.N) (hop : o.op = .buildSlice T len ps.toArray) (hT : sliceOf P T = some E) (ht : tyOf P E = some (ag, rp.sz)) (hz : zeroOf P E = some zc)
    (hps : ps.map (fun p => ev s.L p.2) = vs.map some) (hout : fillL (fun i => some (i * rp.sz, rp.sz)) (if len * rp.sz = 0 then [] else zrow zc (len * rp.sz)) ((ps.map (·.1)).zip (vs.map fun v => v.cells.toList)) = some out) (hbig : len * rp.sz ≤ 16777216) (hbig2 : len ≤ big) (hlen : xs.length = len)
    (hrow : ∀ γ w, (∀ f ∈ s.F, f.p γ w) → Row rp γ w xs out) (h : ∀ A, Kn ((s.cf (slF rp A len xs)).put d (.slice A len len))) : OpTr P r e o Kn s := op_buildSlice ho hN hop hT ht hz hps hout hbig hbig2 hlen hrow h
theorem TrL.addF' (f : Fact) (hf : ∀ γ w, (∀ g ∈ s.F, g.p γ w) → (∀ c ∈ s.M, c.p γ w) → f.p γ w) (h : TrL P r e ops l Kn (s.cf f)) : TrL P r e ops l Kn s := TrL.addF f hf h
theorem TrAny.addF' (f : Fact) (hf : ∀ γ w, (∀ g ∈ s.F, g.p γ w) → (∀ c ∈ s.M, c.p γ w) → f.p γ w) (hok : FlOk ops fl s) (h : FlOk ops fl (s.cf f) → TrAny P r e ops fl dn Kn (s.cf f)) : TrAny P r e ops fl dn Kn s := TrAny.addF f hf hok h
theorem TrL.openS' {α : Type} {rp : Rep α} {k c : Nat} {i : Int} {A : Option Addr} {xs : List (List α)} {z : List α} (hk : s.F[k]? = some (slF (rSl rp) A c xs)) (hi : rdo xs i = some z)
    (h : ∀ B q, TrL P r e ops l Kn (s.cf2 (slF rp B q z) (cellF ⟨ablk A, aoff A + i.toNat * 1, none⟩ (.slice B z.length q)))) : TrL P r e ops l Kn s := TrL.openS hk hi h
theorem TrAny.openS' {α : Type} {rp : Rep α} {k c : Nat} {i : Int} {A : Option Addr} {xs : List (List α)} {z : List α} (hk : s.F[k]? = some (slF (rSl rp) A c xs)) (hi : rdo xs i = some z) (hok : FlOk ops fl s)
    (h : ∀ B q, FlOk ops fl (s.cf2 (slF rp B q z) (cellF ⟨ablk A, aoff A + i.toNat * 1, none⟩ (.slice B z.length q))) → TrAny P r e ops fl dn Kn (s.cf2 (slF rp B q z) (cellF ⟨ablk A, aoff A + i.toNat * 1, none⟩ (.slice B z.length q)))) : TrAny P r e ops fl dn Kn s := TrAny.openS hk hi hok h
theorem TrL.full' {E : TypeId} {sz : Nat} {A : Option Addr} {n : Nat} (h : TrL P r e ops l Kn (s.cm (grow E sz (.slice A n n) n none))) : TrL P r e ops l Kn s := TrL.full h
theorem TrAny.full' {E : TypeId} {sz : Nat} {A : Option Addr} {n : Nat} (hok : FlOk ops fl s) (h : FlOk ops fl (s.cm (grow E sz (.slice A n n) n none)) → TrAny P r e ops fl dn Kn (s.cm (grow E sz (.slice A n n) n none))) : TrAny P r e ops fl dn Kn s := TrAny.full hok h
theorem Imp.full' {t : St} {E : TypeId} {sz : Nat} {A : Option Addr} {n : Nat} (h : Imp e (s.cm (grow E sz (.slice A n n) n none)) t) : Imp e s t := Imp.full h
theorem Imp.addF' {t : St} (f : Fact) (hf : ∀ γ w, (∀ g ∈ s.F, g.p γ w) → (∀ c ∈ s.M, c.p γ w) → f.p γ w) (h : Imp e (s.cf f) t) : Imp e s t := Imp.addF f hf h

/-! ### What is kept by a step in a drawn order -/
theorem Holds.putBack {X : St} {d : Nat} {v : Value} (hL : X.L = s.L) (hd : s.L.lookup d = none) (hM : s.M.Sublist X.M) (hF : ∀ f ∈ s.F, f ∈ X.F) (hD : s.D = X.D) : Imp e (X.put d v) s := fun γ a w hh =>
  { size := hh.size
    slots := fun i u hi => hh.slots i u (by
      simp only [St.put, List.lookup_cons, hL]
      by_cases h : i = d
      · subst h; rw [hd] at hi; cases hi
      · rw [show (i == d) = false by simpa using h]; exact hi)
    defers := hh.defers.trans hD.symm
    hm := ⟨fun c hc => hh.hm.all c (hM.subset hc), hh.hm.sep.sublist hM⟩
    own := fun c hc => hh.own c (hM.subset hc)
    facts := fun f hf => hh.facts f (hF f hf)
    fr := hh.fr
    ok := hh.ok }
theorem kp_c0 {d : Nat} {v : Value} {M' : List Chunk} {F' : List Fact} (hd : s.L.lookup d = none) : Imp e ((s.c0 M' F').put d v) s := Holds.putBack rfl hd (List.sublist_append_right _ _) (fun _ hf => List.mem_append_left _ hf) rfl
theorem kp_cm {d : Nat} {v : Value} {c : Chunk} (hd : s.L.lookup d = none) : Imp e ((s.cm c).put d v) s := Holds.putBack rfl hd (List.sublist_cons_self _ _) (fun _ hf => hf) rfl
theorem kp_cf {d : Nat} {v : Value} {f : Fact} (hd : s.L.lookup d = none) : Imp e ((s.cf f).put d v) s := Holds.putBack rfl hd (List.Sublist.refl _) (fun _ hf => List.mem_append_left _ hf) rfl
theorem kp_put {d : Nat} {v : Value} (hd : s.L.lookup d = none) : Imp e (s.put d v) s := Holds.putBack rfl hd (List.Sublist.refl _) (fun _ hf => hf) rfl
theorem kp_imp {j : Nat} {s' : St} (hi : Imp e s' s) : Kp P e ops j fl s s' := fun p hp _ ⟨o, ho, hnd, hrun⟩ => ⟨o, ho, hnd, fun γ a w hh => hrun γ a w (hi γ a w hh)⟩
theorem kp_all {j : Nat} {s' : St} (h : AllV P e ops j s' fl) : Kp P e ops j fl s s' := fun p hp hw _ => h.spec p hp hw
def awB (ops : Array Oper) (j : Nat) (fl : List Nat) : Bool := fl.all fun i => waits ops j i
theorem kp_aw {j : Nat} {s' : St} (h : awB ops j (fl.map (·.1)) = true) : Kp P e ops j fl s s' := fun p hp hw _ => by
  have := List.all_eq_true.1 h p.1 (List.mem_map.2 ⟨p, hp, rfl⟩)
  rw [this] at hw
  cases hw
theorem FlOk.put {X : St} {d : Nat} {v : Value} (hok : FlOk ops fl s) (hL : X.L = s.L) (hd : allDB (some d) (fl.map (·.2.1)) = true) : FlOk ops fl (X.put d v) := ⟨hok.shaped, hok.nodup, fun p hp => by
  have hne := allDB_spec hd p hp
  simp only [St.put, List.lookup_cons, hL]
  rw [show (p.2.1 == d) = false by simpa using fun q : p.2.1 = d => hne (by rw [q])]
  exact hok.slot p hp⟩
theorem FlOk.same {s' : St} (hok : FlOk ops fl s) (hL : s'.L = s.L) : FlOk ops fl s' := ⟨hok.shaped, hok.nodup, fun p hp => by rw [hL]; exact hok.slot p hp⟩
/-- Behind a step that has a slot. -/
theorem nxp {X : St} {d j : Nat} {v : Value} (hok : FlOk ops fl s) (hk : Kp P e ops j fl s (X.put d v)) (hL : X.L = s.L) (hd : allDB (some d) (fl.map (·.2.1)) = true) (h : FlOk ops fl (X.put d v) → TrAny P r e ops fl (j :: dn) Kn (X.put d v)) :
    Kp P e ops j fl s (X.put d v) ∧ TrAny P r e ops fl (j :: dn) Kn (X.put d v) := ⟨hk, h (hok.put hL hd)⟩
/-- Behind a step without a slot. -/
theorem nxs {s' : St} {j : Nat} (hok : FlOk ops fl s) (hk : Kp P e ops j fl s s') (hL : s'.L = s.L) (h : FlOk ops fl s' → TrAny P r e ops fl (j :: dn) Kn s') :
    Kp P e ops j fl s s' ∧ TrAny P r e ops fl (j :: dn) Kn s' := ⟨hk, h (hok.same hL)⟩
end
end Go.Proofs.Ytbeknohemgjfbaa.L
