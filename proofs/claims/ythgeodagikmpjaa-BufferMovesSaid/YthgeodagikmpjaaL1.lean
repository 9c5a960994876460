/- Readings of data in memory (Rep), owned blocks (cells), and the rules for the operations that only compute. -/
import Derived.Test.YthgeodagikmpjaaL0
namespace Go.Proofs.Ythgeodagikmpjaa.L
open Go
set_option linter.unusedVariables false

/-! ### Facts on types, each a closed reckoning -/
def aggD : TypeDesc → Bool
  | .struct _ | .array _ _ => true
  | _ => false
def tyOf (P : Program) (T : TypeId) : Option (Bool × Nat) :=
  match P.underlying T, P.info? T with
  | some d, some i => some (aggD d, i.size)
  | _, _ => none
def zeroOf (P : Program) (T : TypeId) : Option (List Value) :=
  match P.info? T with
  | some i => i.zero.map fun z => z.cells.toList
  | none => none
def fieldOff (P : Program) (S : TypeId) (f : Nat) : Option Nat :=
  match P.underlying S with
  | some (.struct fs) => match fs[f]? with
    | some fd => match P.info? fd.type with
      | some i => if i.size = 0 then none else some fd.offset
      | none => none
    | none => none
  | _ => none
def sliceOf (P : Program) (T : TypeId) : Option TypeId :=
  match P.underlying T with
  | some (.slice e) => some e
  | _ => none

section
variable {P : Program} {w : World}
theorem run_typeInfo' {t : TypeId} {i : TypeInfo} (h : P.info? t = some i) : (typeInfo t).run P w = .ok i w := by simp [typeInfo, h]
theorem run_und' {t : TypeId} {d : TypeDesc} (h : P.underlying t = some d) : (underlying t).run P w = .ok d w := by simp [underlying, h]

theorem tyOf_und {T : TypeId} {ag : Bool} {n : Nat} (h : tyOf P T = some (ag, n)) : ∃ d, P.underlying T = some d ∧ aggD d = ag := by
  unfold tyOf at h; split at h
  · rename_i d i hd hi; simp at h; exact ⟨d, hd, h.1⟩
  · cases h
theorem tyOf_info {T : TypeId} {ag : Bool} {n : Nat} (h : tyOf P T = some (ag, n)) : ∃ i, P.info? T = some i ∧ i.size = n := by
  unfold tyOf at h; split at h
  · rename_i d i hd hi; simp at h; exact ⟨i, hi, h.2⟩
  · cases h
theorem run_isAgg' {T : TypeId} {ag : Bool} {n : Nat} (h : tyOf P T = some (ag, n)) : (isAgg T).run P w = .ok ag w := by
  obtain ⟨d, hd, ha⟩ := tyOf_und h
  unfold isAgg
  rw [Sem.run_bind, run_und' hd]
  cases d <;> simp_all [aggD]
theorem run_sizeOf' {T : TypeId} {ag : Bool} {n : Nat} (h : tyOf P T = some (ag, n)) : (sizeOf T).run P w = .ok n w := by
  obtain ⟨i, hi, hn⟩ := tyOf_info h
  unfold sizeOf
  rw [Sem.run_bind, run_typeInfo' hi]
  simp [hn]
theorem run_zeroValue' {T : TypeId} {cs : List Value} (h : zeroOf P T = some cs) : ∃ z : Value, z.cells = cs.toArray ∧ (zeroValue T).run P w = .ok z w := by
  unfold zeroOf at h
  split at h
  · rename_i i hi
    cases hz : i.zero with
    | none => rw [hz] at h; cases h
    | some z =>
      rw [hz] at h
      simp at h
      refine ⟨z, by rw [← h], ?_⟩
      unfold zeroValue
      rw [Sem.run_bind, run_typeInfo' hi]
      simp only [Result.andThen, hz]
      rfl
  · cases h
theorem sliceOf_und {T E : TypeId} (h : sliceOf P T = some E) : P.underlying T = some (.slice E) := by
  unfold sliceOf at h; split at h
  · rename_i e he; simp at h; rw [he, h]
  · cases h
end

theorem add_off (b off j : Nat) : (⟨b, off, none⟩ : Addr).add j = ⟨b, off + j, none⟩ := by unfold Addr.add; split <;> simp_all

/-! ### An owned block of known cells -/
def cells (b : Nat) (c : List Value) (T : TypeId) : Chunk where
  fp := (· = b)
  p γ w := w.heap[b]? = some (.cells c.toArray T (0, 0)) ∧ γ b = 0
  lt := fun ⟨h, _⟩ hb => by subst hb; exact (Array.getElem?_eq_some_iff.1 h).1
  stable := fun hs _ ⟨h, g⟩ => ⟨(hs b rfl).1.trans h, (hs b rfl).2.trans g⟩

theorem cell_of_cells {γ : Gh} {w : World} {b : Nat} {c : List Value} {T : TypeId} (h : (cells b c T).p γ w) (j : Nat) : w.cell? ⟨b, j, none⟩ = c[j]? := by
  have := h.1
  simp [World.cell?, this]

def mkv (ag : Bool) (cs : List Value) : Value := if ag then .agg cs.toArray else cs.headD undef

/-- A variable of a type is loaded out of cells that are known. -/
theorem run_loadVar' {P : Program} {w : World} {T : TypeId} {ag : Bool} {n : Nat} (ht : tyOf P T = some (ag, n)) (hn : ag = false → n = 1) (a : Addr) (cs : List Value) (hl : cs.length = n) (hc : ∀ j v, cs[j]? = some v → w.cell? (a.add j) = some v) :
    (loadVar T a).run P w = .ok (mkv ag cs) w := by
  unfold loadVar
  rw [Sem.run_bind, run_isAgg' ht]
  cases ag with
  | true =>
    simp only [Result.andThen, if_true, Sem.run_bind, run_sizeOf' ht]
    subst hl
    rw [run_loadCells_list w a cs hc]
    simp [mkv]
  | false =>
    have h1 := hn rfl
    subst h1
    match cs, hl with
    | [v], _ =>
      have := hc 0 v rfl
      rw [show a.add 0 = a from by simp [Addr.add]] at this
      simp [mkv, this]

section
variable {P : Program} {r : Option Nat} {e : Env} {o : Oper} {Kn : St → Prop} {s : St}

theorem semAt_eq (r : Option Nat) (ρ : Operand → Value) (o : Oper) (h : ∀ c, o.op ≠ .defer c) : Oper.semAt r ρ o = execOp ρ o := by
  cases r with
  | none => rfl
  | some l => exact Oper.semAt_some l ρ o h

/-- An operation comes to a value and leaves the world. -/
structure OpV (P : Program) (e : Env) (o : Oper) (s : St) (v : Value) : Prop where
  nd : ∀ c, o.op ≠ .defer c
  run : ∀ γ a w, Holds e s γ a w → (execOp a.eval o).run P w = .ok (.value v) w

theorem bl {a b : Nat} (h : Nat.ble (a + 1) b = true) : a < b := Nat.le_of_ble_eq_true h

theorem OpTr.v {d : Nat} {v : Value} (hv : OpV P e o s v) (ho : o.dst = some d) (hN : d < e.N) (h : Kn (s.put d v)) : OpTr P r e o Kn s := by
  intro γ a w hh K Q hK
  refine ⟨fun f _ => fen_fn r f, ?_⟩
  rw [semAt_eq _ _ _ hv.nd, hv.run γ a w hh, Oper.uponIn_value, ho]
  exact hK _ γ _ _ h (hh.put d v hN)
theorem TrL.v {ops : Array Oper} {rest : List Oper} {d : Nat} {v : Value} (hv : OpV P e o s v) (hg : o.guard = none) (ho : o.dst = some d) (hN : d < e.N) (h : TrL P r e ops rest Kn (s.put d v)) : TrL P r e ops (o :: rest) Kn s :=
  TrL.cons hg (OpTr.v hv ho hN h)

theorem v_move {x : Operand} {v : Value} (hop : o.op = .move x) (hv : ev s.L x = some v) : OpV P e o s v :=
  ⟨(by rw [hop]; intro c; simp), (fun γ a w hh => by simp [execOp, hop, hh.eval hv])⟩
theorem v_assign {x : Operand} {v : Value} (hop : o.op = .assign x) (hv : ev s.L x = some v) : OpV P e o s v :=
  ⟨(by rw [hop]; intro c; simp), (fun γ a w hh => by simp [execOp, hop, hh.eval hv])⟩

/-! #### Whole numbers -/
def arith (op : BinOp) (k : IntKind) (a b : Int) : Option Value :=
  match op with
  | .add => some (.int k (k.wrap (a + b)))
  | .sub => some (.int k (k.wrap (a - b)))
  | .mul => some (.int k (k.wrap (a * b)))
  | .eql => some (.bool (a == b))
  | .neq => some (.bool (a != b))
  | .lss => some (.bool (decide (a < b)))
  | .leq => some (.bool (decide (a ≤ b)))
  | .gtr => some (.bool (decide (a > b)))
  | .geq => some (.bool (decide (a ≥ b)))
  | .and => some (.int k (k.wrap (BitVec.ofInt k.bits a &&& BitVec.ofInt k.bits b).toNat))
  | .or => some (.int k (k.wrap (BitVec.ofInt k.bits a ||| BitVec.ofInt k.bits b).toNat))
  | .xor => some (.int k (k.wrap (BitVec.ofInt k.bits a ^^^ BitVec.ofInt k.bits b).toNat))
  | .andNot => some (.int k (k.wrap (BitVec.ofInt k.bits a &&& ~~~ BitVec.ofInt k.bits b).toNat))
  | _ => none

theorem v_arith {op : BinOp} {T T' : TypeId} {x y : Operand} {k : IntKind} {a b : Int} {v : Value} (hop : o.op = .binOp op T x y T') (hx : ev s.L x = some (.int k a)) (hy : ev s.L y = some (.int k b)) (hv : arith op k a b = some v) : OpV P e o s v :=
  ⟨(by rw [hop]; intro c; simp), (fun γ a' w hh => by
    simp only [execOp, hop, hh.eval hx, hh.eval hy]
    cases op <;> simp [arith] at hv <;> subst hv <;> simp [eqGuard, binOp, Op.intArith, Op.intBits, Op.intCmp])⟩

/-- Quotient and rest by what is not 0. -/
theorem v_quo {T T' : TypeId} {x y : Operand} {k : IntKind} {a b : Int} (hop : o.op = .binOp .quo T x y T') (hx : ev s.L x = some (.int k a)) (hy : ev s.L y = some (.int k b)) (hb : b ≠ 0) : OpV P e o s (.int k (k.wrap (a.tdiv b))) :=
  ⟨(by rw [hop]; intro c; simp), (fun γ a' w hh => by
    simp only [execOp, hop, hh.eval hx, hh.eval hy]
    simp [eqGuard, binOp, Op.intDiv, hb])⟩
theorem v_rem {T T' : TypeId} {x y : Operand} {k : IntKind} {a b : Int} (hop : o.op = .binOp .rem T x y T') (hx : ev s.L x = some (.int k a)) (hy : ev s.L y = some (.int k b)) (hb : b ≠ 0) : OpV P e o s (.int k (a.tmod b)) :=
  ⟨(by rw [hop]; intro c; simp), (fun γ a' w hh => by
    simp only [execOp, hop, hh.eval hx, hh.eval hy]
    simp [eqGuard, binOp, Op.intDiv, hb])⟩
theorem v_shl {T T' : TypeId} {x y : Operand} {k k' : IntKind} {a b : Int} (hop : o.op = .binOp .shl T x y T') (hx : ev s.L x = some (.int k a)) (hy : ev s.L y = some (.int k' b)) (hb : 0 ≤ b) : OpV P e o s (.int k (k.wrap (a * 2 ^ (min b.toNat k.bits)))) :=
  ⟨(by rw [hop]; intro c; simp), (fun γ a' w hh => by
    simp only [execOp, hop, hh.eval hx, hh.eval hy]
    simp [eqGuard, binOp, Op.shift, Int.not_lt.2 hb])⟩
theorem v_shr {T T' : TypeId} {x y : Operand} {k k' : IntKind} {a b : Int} (hop : o.op = .binOp .shr T x y T') (hx : ev s.L x = some (.int k a)) (hy : ev s.L y = some (.int k' b)) (hb : 0 ≤ b) : OpV P e o s (.int k (a.fdiv (2 ^ (min b.toNat k.bits)))) :=
  ⟨(by rw [hop]; intro c; simp), (fun γ a' w hh => by
    simp only [execOp, hop, hh.eval hx, hh.eval hy]
    simp [eqGuard, binOp, Op.shift, Int.not_lt.2 hb])⟩

/-! #### Bools -/
theorem v_not {T : TypeId} {x : Operand} {b : Bool} (hop : o.op = .unOp .not T x) (hx : ev s.L x = some (.bool b)) : OpV P e o s (.bool (!b)) :=
  ⟨(by rw [hop]; intro c; simp), (fun γ a w hh => by simp [execOp, hop, hh.eval hx, Op.unary])⟩
theorem run_equal_bool {T : TypeId} (hT : P.underlying T = some .bool) (a b : Bool) (w : World) : (Op.equal T (.bool a) (.bool b)).run P w = .ok (a == b) w := by
  have : ∀ d, (Op.equalIn (d + 1) T (.bool a) (.bool b)).run P w = .ok (a == b) w := by
    intro d
    simp only [Op.equalIn, Sem.run_bind, run_und' hT, Result.andThen, Sem.run_pure]
  exact this 9999
theorem v_eqb {T T' : TypeId} {x y : Operand} {a b : Bool} (hop : o.op = .binOp .eql T x y T') (hT : P.underlying T = some .bool) (hx : ev s.L x = some (.bool a)) (hy : ev s.L y = some (.bool b)) : OpV P e o s (.bool (a == b)) :=
  ⟨(by rw [hop]; intro c; simp), (fun γ a' w hh => by
    simp only [execOp, hop, hh.eval hx, hh.eval hy, eqGuard, binOp, Sem.run_bind, run_equal_bool hT]
    simp)⟩
theorem v_neb {T T' : TypeId} {x y : Operand} {a b : Bool} (hop : o.op = .binOp .neq T x y T') (hT : P.underlying T = some .bool) (hx : ev s.L x = some (.bool a)) (hy : ev s.L y = some (.bool b)) : OpV P e o s (.bool (!(a == b))) :=
  ⟨(by rw [hop]; intro c; simp), (fun γ a' w hh => by
    simp only [execOp, hop, hh.eval hx, hh.eval hy, eqGuard, binOp, Sem.run_bind, run_equal_bool hT]
    simp)⟩
theorem v_pick_t {c x y : Operand} {b : Bool} {v : Value} (hop : o.op = .pick c x y) (hc : ev s.L c = some (.bool b)) (hb : b = true) (hv : ev s.L x = some v) : OpV P e o s v :=
  ⟨(by rw [hop]; intro c; simp), (fun γ a w hh => by simp [execOp, hop, hh.eval hc, hb, asBool, hh.eval hv])⟩
theorem v_pick_f {c x y : Operand} {b : Bool} {v : Value} (hop : o.op = .pick c x y) (hc : ev s.L c = some (.bool b)) (hb : b = false) (hv : ev s.L y = some v) : OpV P e o s v :=
  ⟨(by rw [hop]; intro c; simp), (fun γ a w hh => by simp [execOp, hop, hh.eval hc, hb, asBool, hh.eval hv])⟩

/-! #### Others that only compute -/
theorem v_conv {T T' : TypeId} {x : Operand} {k k' : IntKind} {n : Int} (hop : o.op = .convert T T' x) (hT : ∃ t, P.underlying T = some t) (hT' : P.underlying T' = some (.int k')) (hx : ev s.L x = some (.int k n)) : OpV P e o s (.int k' (k'.wrap n)) :=
  ⟨(by rw [hop]; intro c; simp), (fun γ a w hh => by
    obtain ⟨t, ht⟩ := hT
    simp [execOp, hop, hh.eval hx, convert, run_und' ht, run_und' hT', Conv.intToInt])⟩
theorem v_extract {i : Nat} {x : Operand} {vs : Array Value} {v : Value} (hop : o.op = .extract x i) (hx : ev s.L x = some (.tuple vs)) (hv : vs[i]? = some v) : OpV P e o s v :=
  ⟨(by rw [hop]; intro c; simp), (fun γ a w hh => by simp [execOp, hop, hh.eval hx, Instr.extract, hv])⟩
theorem v_nilCheck {x : Operand} {a : Addr} (hop : o.op = .nilCheck x) (hx : ev s.L x = some (.pointer (some a))) : OpV P e o s (.pointer (some a)) :=
  ⟨(by rw [hop]; intro c; simp), (fun γ a' w hh => by simp [execOp, hop, hh.eval hx])⟩
theorem v_len {x : Operand} {T : TypeId} {E : TypeId} {A : Option Addr} {n c : Nat} (hop : o.op = .call { callee := .builtin .len, args := #[x], argTypes := #[T] }) (hT : sliceOf P T = some E) (hx : ev s.L x = some (.slice A n c)) : OpV P e o s (.int .i64 n) :=
  ⟨(by rw [hop]; intro c; simp), (fun γ a w hh => by
    simp [execOp, hop, hh.eval hx, resolve, invoke, builtin, Builtin.len_, run_und' (sliceOf_und hT), goInt])⟩
theorem v_fieldAddr {f off o' : Nat} {S : TypeId} {x : Operand} {b : Nat} (hop : o.op = .fieldAddr S x f) (hf : fieldOff P S f = some o') (hx : ev s.L x = some (.pointer (some ⟨b, off, none⟩))) : OpV P e o s (.pointer (some ⟨b, off + o', none⟩)) :=
  ⟨(by rw [hop]; intro c; simp), (fun γ a w hh => by
    unfold fieldOff at hf
    split at hf
    · rename_i fs hfs
      split at hf
      · rename_i fd hfd
        split at hf
        · rename_i i hi
          split at hf
          · cases hf
          · rename_i hsz
            simp only [Option.some.injEq] at hf
            simp [execOp, hop, hh.eval hx, Instr.fieldAt, run_und' hfs, hfd, Instr.sureAddr, fieldPlace, sizeOf, run_typeInfo' hi, hsz, add_off, hf]
        · cases hf
      · cases hf
    · cases hf)⟩
theorem v_makeFunc {fn : Fn} {xs : Array Operand} {vs : List Value} (hop : o.op = .makeFunc fn #[] xs) (hx : xs.toList.map (ev s.L) = vs.map some) : OpV P e o s (.func fn #[] vs.toArray) :=
  ⟨(by rw [hop]; intro c; simp), (fun γ a w hh => by
    have : xs.map a.eval = vs.toArray := by
      apply Array.ext'
      simp only [Array.toList_map]
      have hm : ∀ (l : List Operand) (us : List Value), l.map (ev s.L) = us.map some → l.map a.eval = us := by
        intro l
        induction l with
        | nil => intro us h; cases us <;> simp_all
        | cons y l ih =>
          intro us h
          cases us with
          | nil => simp at h
          | cons u us => simp only [List.map_cons, List.cons.injEq] at h; simp [hh.eval h.1, ih us h.2]
      exact hm _ _ hx
    simp [execOp, hop, Instr.makeFunc, this])⟩
end
end Go.Proofs.Ythgeodagikmpjaa.L
