/- A program logic over the kit's Code.wpIn: symbolic states (slots, owned chunks of memory, persistent facts), and the rules for sequences, blocks, tests, regions. -/
import Derived.RangeFuncNested
import Derived.WalkKit
import Derived.RowKit3
namespace Go.Proofs.Ythgeodagikmpjaa.L
open Go
set_option linter.unusedVariables false

/-- How many cells of each block are sealed: they are never written again. -/
abbrev Gh := Nat → Nat

structure Le (γ : Gh) (w : World) (γ' : Gh) (w' : World) : Prop where
  size : w.heap.size ≤ w'.heap.size
  up : ∀ b, γ b ≤ γ' b
  cell : ∀ b j, j < γ b → w'.cell? ⟨b, j, none⟩ = w.cell? ⟨b, j, none⟩

theorem Le.refl (γ : Gh) (w : World) : Le γ w γ w := ⟨Nat.le_refl _, fun _ => Nat.le_refl _, fun _ _ _ => rfl⟩
theorem Le.trans {γ γ1 γ2 : Gh} {w w1 w2 : World} (h : Le γ w γ1 w1) (k : Le γ1 w1 γ2 w2) : Le γ w γ2 w2 :=
  ⟨Nat.le_trans h.size k.size, fun b => Nat.le_trans (h.up b) (k.up b), fun b j hj => (k.cell b j (Nat.lt_of_lt_of_le hj (h.up b))).trans (h.cell b j hj)⟩

/-- Of what was there nothing has turned but the blocks bs. -/
structure Fr (bs : Nat → Prop) (γ : Gh) (w : World) (γ' : Gh) (w' : World) : Prop where
  le : Le γ w γ' w'
  os : w'.os = w.os
  tape : w'.tape = w.tape
  output : w'.output = w.output
  block : ∀ b, b < w.heap.size → ¬ bs b → w'.heap[b]? = w.heap[b]?
  gh : ∀ b, b < w.heap.size → ¬ bs b → γ' b = γ b

theorem Fr.fz {bs : Nat → Prop} {γ : Gh} {w : World} {γ' : Gh} {w' : World} (h : Fr bs γ w γ' w') (a : Addr) (ha : a.block < w.heap.size) (hb : ¬ bs a.block) : w'.frozen? a = w.frozen? a := by
  simp only [World.frozen?, h.block _ ha hb]
theorem Fr.refl (bs : Nat → Prop) (γ : Gh) (w : World) : Fr bs γ w γ w := ⟨Le.refl _ _, rfl, rfl, rfl, fun _ _ _ => rfl, fun _ _ _ => rfl⟩
theorem Fr.trans {bs bs1 : Nat → Prop} {γ γ1 γ2 : Gh} {w w1 w2 : World} (h : Fr bs γ w γ1 w1) (k : Fr bs1 γ1 w1 γ2 w2) (hs : ∀ b, b < w.heap.size → bs1 b → bs b) : Fr bs γ w γ2 w2 where
  le := h.le.trans k.le
  os := k.os.trans h.os
  tape := k.tape.trans h.tape
  output := k.output.trans h.output
  block b hb hn := (k.block b (Nat.lt_of_lt_of_le hb h.le.size) (fun q => hn (hs b hb q))).trans (h.block b hb hn)
  gh b hb hn := (k.gh b (Nat.lt_of_lt_of_le hb h.le.size) (fun q => hn (hs b hb q))).trans (h.gh b hb hn)

def GhOk (γ : Gh) (w : World) : Prop := ∀ b, w.heap.size ≤ b → γ b = 0

/-- A persistent fact: it outlives whatever is done. -/
structure Fact where
  p : Gh → World → Prop
  mono : ∀ {γ w γ' w'}, Le γ w γ' w' → p γ w → p γ' w'

/-- A piece of memory that is owned. -/
structure Chunk where
  fp : Nat → Prop
  p : Gh → World → Prop
  lt : ∀ {γ w b}, p γ w → fp b → b < w.heap.size
  stable : ∀ {γ w γ' w'}, (∀ b, fp b → w'.heap[b]? = w.heap[b]? ∧ γ' b = γ b) → Le γ w γ' w' → p γ w → p γ' w'

structure HM (γ : Gh) (w : World) (M : List Chunk) : Prop where
  all : ∀ c ∈ M, c.p γ w
  sep : M.Pairwise fun c d => ∀ b, c.fp b → ¬ d.fp b

def fpM (M : List Chunk) (b : Nat) : Prop := ∃ c ∈ M, c.fp b

structure St where
  L : List (Nat × Value)
  M : List Chunk
  F : List Fact
  D : List Deferred := []

structure Env where
  N : Nat
  bs : Nat → Prop
  γ0 : Gh
  w0 : World

structure Holds (e : Env) (s : St) (γ : Gh) (a : Act) (w : World) : Prop where
  size : a.tmps.size = e.N
  slots : ∀ i v, s.L.lookup i = some v → a.tmps[i]? = some v
  defers : a.defers = s.D
  hm : HM γ w s.M
  own : ∀ c ∈ s.M, ∀ b, c.fp b → e.bs b ∨ e.w0.heap.size ≤ b
  facts : ∀ f ∈ s.F, f.p γ w
  fr : Fr e.bs e.γ0 e.w0 γ w
  ok : GhOk γ w

/-- The fence of a frame: of a function's, or of a round's. -/
def fen (r : Option Nat) : Fence := { fn := fun _ => True, depth := none, alive := false, round := r }
theorem fen_none : fen none = Fence.wide := rfl

def fine : Exit → Prop
  | .normal | .exit _ | .ret => True
  | _ => False

abbrev SPost := Exit → St → Prop

section
variable {P : Program} {r : Option Nat} {e : Env}

/-- From each state that is so the code comes to an exit and a state of the post. -/
def Tr (P : Program) (r : Option Nat) (e : Env) (c : Code) (Q : SPost) (s : St) : Prop :=
  ∀ γ a w, Holds e s γ a w → c.wpIn (fen r) 0 P (fun x a' w' => fine x ∧ ∃ s' γ', Q x s' ∧ Holds e s' γ' a' w') a w

/-- One operation. -/
def OpTr (P : Program) (r : Option Nat) (e : Env) (o : Oper) (Kn : St → Prop) (s : St) : Prop :=
  ∀ γ a w, Holds e s γ a w → ∀ (K : Act → World → Prop) (Q : Exit → Act → World → Prop), (∀ s' γ' a' w', Kn s' → Holds e s' γ' a' w' → K a' w') → o.wpIn (fen r) 0 P a w K Q

/-- A list of operations (of a region's operations ops). -/
def TrL (P : Program) (r : Option Nat) (e : Env) (ops : Array Oper) (l : List Oper) (Kn : St → Prop) (s : St) : Prop :=
  ∀ γ a w, Holds e s γ a w → ∀ (Q : Exit → Act → World → Prop), (∀ s' γ' a' w', Kn s' → Holds e s' γ' a' w' → Q .normal a' w') → wpListIn (fen r) 0 P ops Q l a w

/-! ### Structure -/
def qthen (K : St → Prop) (Q : SPost) : SPost
  | .normal, s => K s
  | x, s => Q x s
def qblock (id : Nat) (Q : SPost) : SPost
  | .exit i, s => if i = id then Q .normal s else Q (.exit i) s
  | x, s => Q x s

theorem qthen_n {K : St → Prop} {Q : SPost} {s : St} (h : K s) : qthen K Q .normal s := h
theorem qthen_x {K : St → Prop} {Q : SPost} {s : St} {i : Nat} (h : Q (.exit i) s) : qthen K Q (.exit i) s := h
theorem qthen_r {K : St → Prop} {Q : SPost} {s : St} (h : Q .ret s) : qthen K Q .ret s := h
theorem qblock_n {id : Nat} {Q : SPost} {s : St} (h : Q .normal s) : qblock id Q .normal s := h
theorem qblock_r {id : Nat} {Q : SPost} {s : St} (h : Q .ret s) : qblock id Q .ret s := h
theorem qblock_hit {id : Nat} {Q : SPost} {s : St} (h : Q .normal s) : qblock id Q (.exit id) s := by simp only [qblock, if_true]; exact h
theorem qblock_miss {id i : Nat} {Q : SPost} {s : St} (hne : i ≠ id) (h : Q (.exit i) s) : qblock id Q (.exit i) s := by simp only [qblock, if_neg hne]; exact h

theorem Tr.mono {c : Code} {Q Q' : SPost} {s : St} (h : Tr P r e c Q s) (hq : ∀ x s', Q x s' → Q' x s') : Tr P r e c Q' s :=
  fun γ a w hh => wpIn_mono (h γ a w hh) fun x a' w' ⟨hf, s', γ', q, hh'⟩ => ⟨hf, s', γ', hq _ _ q, hh'⟩

theorem Tr.skip {Q : SPost} {s : St} (h : Q .normal s) : Tr P r e .skip Q s := fun γ a w hh => wpIn_skip ⟨trivial, s, γ, h, hh⟩
theorem Tr.label {l : Nat} {Q : SPost} {s : St} (h : Q .normal s) : Tr P r e (.label l) Q s := fun γ a w hh => wpIn_label ⟨trivial, s, γ, h, hh⟩
theorem Tr.exit {id : Nat} {Q : SPost} {s : St} (h : Q (.exit id) s) : Tr P r e (.exit id) Q s := fun γ a w hh => wpIn_exit ⟨trivial, s, γ, h, hh⟩
theorem Tr.ret {Q : SPost} {s : St} (h : Q .ret s) : Tr P r e .ret Q s := fun γ a w hh => wpIn_ret ⟨trivial, s, γ, h, hh⟩

theorem Tr.seq {c d : Code} {Q : SPost} {s : St} (h : Tr P r e c (qthen (fun s' => Tr P r e d Q s') Q) s) : Tr P r e (.seq c d) Q s := by
  intro γ a w hh
  refine wpIn_seq (wpIn_mono (h γ a w hh) ?_)
  rintro x a' w' ⟨hf, s', γ', q, hh'⟩
  cases x with
  | normal => exact q γ' a' w' hh'
  | exit i => exact ⟨hf, s', γ', q, hh'⟩
  | ret => exact ⟨hf, s', γ', q, hh'⟩
  | goto l => exact hf.elim
  | panic ch => exact hf.elim
  | outgrown => exact hf.elim

theorem Tr.block {id : Nat} {c : Code} {Q : SPost} {s : St} (h : Tr P r e c (qblock id Q) s) : Tr P r e (.block id c) Q s := by
  intro γ a w hh
  refine wpIn_block (wpIn_mono (h γ a w hh) ?_)
  rintro x a' w' ⟨hf, s', γ', q, hh'⟩
  cases x with
  | normal => exact ⟨hf, s', γ', q, hh'⟩
  | exit i =>
    by_cases hi : i = id
    · simp only [Exit.inBlock, qblock, hi, if_true] at q ⊢
      exact ⟨trivial, s', γ', q, hh'⟩
    · simp only [Exit.inBlock, qblock, hi, if_false] at q ⊢
      exact ⟨trivial, s', γ', q, hh'⟩
  | ret => exact ⟨hf, s', γ', q, hh'⟩
  | goto l => exact hf.elim
  | panic ch => exact hf.elim
  | outgrown => exact hf.elim

/-- The value of an operand, as far as the slots tell. -/
def ev (L : List (Nat × Value)) : Operand → Option Value
  | .tmp t => L.lookup t
  | .const v => some v
  | .global g => some (.pointer (some ⟨g, 0, none⟩))
  | .func f => some (.func (.func f) #[] #[])

theorem Holds.eval {s : St} {γ : Gh} {a : Act} {w : World} (h : Holds e s γ a w) {x : Operand} {v : Value} (hv : ev s.L x = some v) : a.eval x = v := by
  cases x with
  | tmp t =>
    have := h.slots t v hv
    simp [Act.eval, Array.getD_eq_getD_getElem?, this]
  | const c => simpa [ev, Act.eval] using hv
  | global g => simpa [ev, Act.eval] using hv
  | func f => simpa [ev, Act.eval] using hv

theorem Tr.cond_t {c : Operand} {x y : Code} {Q : SPost} {s : St} {b : Bool} (hc : ev s.L c = some (.bool b)) (hb : b = true) (h : Tr P r e x Q s) : Tr P r e (.cond c x y) Q s :=
  fun γ a w hh => wpIn_cond_true (by rw [hh.eval hc, hb]) (h γ a w hh)
theorem Tr.cond_f {c : Operand} {x y : Code} {Q : SPost} {s : St} {b : Bool} (hc : ev s.L c = some (.bool b)) (hb : b = false) (h : Tr P r e y Q s) : Tr P r e (.cond c x y) Q s :=
  fun γ a w hh => wpIn_cond_false (by rw [hh.eval hc, hb]) (h γ a w hh)

def St.put (s : St) (d : Nat) (v : Value) : St := { s with L := (d, v) :: s.L }

theorem Holds.put {s : St} {γ : Gh} {a : Act} {w : World} (h : Holds e s γ a w) (d : Nat) (v : Value) (hd : d < e.N) : Holds e (s.put d v) γ (a.put (some d) v) w where
  size := by simp [Act.put, h.size]
  slots i u hi := by
    simp only [St.put, List.lookup_cons] at hi
    simp only [Act.put]
    by_cases hid : i = d
    · subst hid
      simp only [beq_self_eq_true] at hi
      cases hi
      rw [Array.getElem?_setIfInBounds_self_of_lt (by rw [h.size]; exact hd)]
    · have hne : (i == d) = false := by simpa using hid
      simp only [hne] at hi
      rw [Array.getElem?_setIfInBounds_ne (fun q => hid q.symm)]
      exact h.slots i u hi
  defers := h.defers
  hm := h.hm
  own := h.own
  facts := h.facts
  fr := h.fr
  ok := h.ok

theorem TrL.nil {ops : Array Oper} {Kn : St → Prop} {s : St} (h : Kn s) : TrL P r e ops [] Kn s := fun γ a w hh Q hQ => hQ s γ a w h hh
theorem TrL.cons {ops : Array Oper} {o : Oper} {rest : List Oper} {Kn : St → Prop} {s : St} (hg : o.guard = none) (h : OpTr P r e o (fun s' => TrL P r e ops rest Kn s') s) : TrL P r e ops (o :: rest) Kn s := by
  intro γ a w hh Q hQ
  refine wpListIn_plain hg fun K hK => h γ a w hh K Q fun s' γ' a' w' hk hh' => hK _ _ (hk γ' a' w' hh' Q hQ)

theorem yielded_of {s : St} {γ : Gh} {a : Act} {w : World} (hh : Holds e s γ a w) {ops : Array Oper} {j d : Nat} {b : Bool} (hd : (ops[j]?).bind (·.dst) = some d) (hb : s.L.lookup d = some (.bool b)) : yielded ops a.tmps j = some b := by
  simp only [yielded, hd, Option.bind_some, hh.slots d _ hb]

/-- A guarded operation that is wanted. -/
theorem TrL.cons_yes {ops : Array Oper} {o : Oper} {rest : List Oper} {Kn : St → Prop} {s : St} {j d : Nat} {want b : Bool} (hg : o.guard = some (j, want)) (hd : (ops[j]?).bind (·.dst) = some d) (hb : s.L.lookup d = some (.bool b)) (hw : b = want)
    (h : OpTr P r e o (fun s' => TrL P r e ops rest Kn s') s) : TrL P r e ops (o :: rest) Kn s := by
  intro γ a w hh Q hQ
  refine wpListIn_step fun K hK => ?_
  rw [if_pos (by simp [Region.wanted, hg, yielded_of hh hd hb, hw])]
  exact h γ a w hh K Q fun s' γ' a' w' hk hh' => hK _ _ (hk γ' a' w' hh' Q hQ)

theorem fen_fn (r : Option Nat) (f : FuncId) : (fen r).fn f := trivial

/-- A guarded operation that is passed over. -/
theorem TrL.cons_no {ops : Array Oper} {o : Oper} {rest : List Oper} {Kn : St → Prop} {s : St} {j d d' : Nat} {want b : Bool} (hg : o.guard = some (j, want)) (hd : (ops[j]?).bind (·.dst) = some d) (hb : s.L.lookup d = some (.bool b)) (hw : (b == want) = false)
    (ho : o.dst = some d') (hN : d' < e.N) (h : TrL P r e ops rest Kn (s.put d' undef)) : TrL P r e ops (o :: rest) Kn s := by
  intro γ a w hh Q hQ
  refine wpListIn_step fun K hK => ?_
  rw [if_neg (by simp [Region.wanted, hg, yielded_of hh hd hb, hw])]
  refine ⟨fun f _ => fen_fn r f, hK _ _ ?_⟩
  rw [ho]
  exact h γ _ w (hh.put d' undef hN) Q hQ

theorem Tr.region {id : Nat} {ops : Array Oper} {Q : SPost} {s : St} (h : TrL P r e ops ops.toList (Q .normal) s) : Tr P r e (.region id ops false) Q s :=
  fun γ a w hh => wpIn_region_list (h γ a w hh _ fun s' γ' a' w' hk hh' => ⟨trivial, s', γ', hk, hh'⟩)

/-! ### Weakening -/
theorem Holds.weaken {s t : St} {γ : Gh} {a : Act} {w : World} (h : Holds e s γ a w) (hL : ∀ p ∈ t.L, s.L.lookup p.1 = some p.2) (hM : t.M.Sublist s.M) (hF : ∀ f ∈ t.F, f ∈ s.F) (hD : t.D = s.D) : Holds e t γ a w where
  size := h.size
  slots i v hi := by
    have hm : (i, v) ∈ t.L := by
      have : ∀ (l : List (Nat × Value)), l.lookup i = some v → (i, v) ∈ l := by
        intro l
        induction l with
        | nil => intro h; simp at h
        | cons p l ih =>
          obtain ⟨k, u⟩ := p
          intro h
          rw [List.lookup_cons] at h
          split at h
          · rename_i hb; simp only [Option.some.injEq] at h; simp at hb; subst hb; subst h; exact List.mem_cons_self
          · exact List.mem_cons_of_mem _ (ih h)
      exact this _ hi
    exact h.slots i v (hL _ hm)
  defers := h.defers.trans hD.symm
  hm := ⟨fun c hc => h.hm.all c (hM.subset hc), h.hm.sep.sublist hM⟩
  own c hc := h.own c (hM.subset hc)
  facts f hf := h.facts f (hF f hf)
  fr := h.fr
  ok := h.ok

theorem Tr.weaken {c : Code} {Q : SPost} {s : St} (t : St) (hL : ∀ p ∈ t.L, s.L.lookup p.1 = some p.2) (hM : t.M.Sublist s.M) (hF : ∀ f ∈ t.F, f ∈ s.F) (hD : t.D = s.D) (h : Tr P r e c Q t) : Tr P r e c Q s :=
  fun γ a w hh => h γ a w (hh.weaken hL hM hF hD)
end
end Go.Proofs.Ythgeodagikmpjaa.L
