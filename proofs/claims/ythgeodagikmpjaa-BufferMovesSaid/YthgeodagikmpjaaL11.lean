/- The last rules for the printed proofs: values in their plain form, joins by data, returns by data, guarded steps in a drawn order. -/
import Derived.Test.YthgeodagikmpjaaL10
import Derived.Test.YthgeodagikmpjaaP1
namespace Go.Proofs.Ythgeodagikmpjaa.L
open Go Go.Proofs.Ythgeodagikmpjaa.Pu
set_option linter.unusedVariables false

section
variable {k : IntKind} {a b : Int}
theorem ar_add_i64 : arith .add .i64 a b = some (.int .i64 (wi64 (a + b))) := by rw [← wrap_i64]; rfl
theorem ar_sub_i64 : arith .sub .i64 a b = some (.int .i64 (wi64 (a - b))) := by rw [← wrap_i64]; rfl
theorem ar_mul_i64 : arith .mul .i64 a b = some (.int .i64 (wi64 (a * b))) := by rw [← wrap_i64]; rfl
theorem ar_add_u64 : arith .add .u64 a b = some (.int .u64 (wu64 (a + b))) := rfl
theorem ar_sub_u64 : arith .sub .u64 a b = some (.int .u64 (wu64 (a - b))) := rfl
theorem ar_mul_u64 : arith .mul .u64 a b = some (.int .u64 (wu64 (a * b))) := rfl
theorem ar_add_u32 : arith .add .u32 a b = some (.int .u32 (wu32 (a + b))) := rfl
theorem ar_sub_u32 : arith .sub .u32 a b = some (.int .u32 (wu32 (a - b))) := rfl
theorem ar_mul_u32 : arith .mul .u32 a b = some (.int .u32 (wu32 (a * b))) := rfl
theorem ar_add_u8 : arith .add .u8 a b = some (.int .u8 (wu8 (a + b))) := rfl
theorem ar_sub_u8 : arith .sub .u8 a b = some (.int .u8 (wu8 (a - b))) := rfl
theorem ar_mul_u8 : arith .mul .u8 a b = some (.int .u8 (wu8 (a * b))) := rfl
theorem dec_iff {p q : Prop} [Decidable p] [Decidable q] (h : p ↔ q) : decide p = decide q := by simp [h]
theorem ar_eql : arith .eql k a b = some (.bool (decide (a = b))) := by simp only [arith]; congr 1
theorem ar_neq : arith .neq k a b = some (.bool (decide (¬ a = b))) := by simp only [arith]; congr 2; by_cases h : a = b <;> simp [h]
theorem ar_lss : arith .lss k a b = some (.bool (decide (a < b))) := rfl
theorem ar_leq : arith .leq k a b = some (.bool (decide (a ≤ b))) := rfl
theorem ar_gtr : arith .gtr k a b = some (.bool (decide (b < a))) := rfl
theorem ar_geq : arith .geq k a b = some (.bool (decide (b ≤ a))) := rfl
end

section
variable {P : Program} {r : Option Nat} {e : Env} {o : Oper} {Kn : St → Prop} {s : St} {γ γ' : Gh} {w w' : World} {a : Act}

theorem OpV.cast {v v' : Value} (h : OpV P e o s v) (hv : v = v') : OpV P e o s v' := hv ▸ h
theorem v_quo' {T T' : TypeId} {x y : Operand} {k : IntKind} {a b q : Int} (hop : o.op = .binOp .quo T x y T') (hx : ev s.L x = some (.int k a)) (hy : ev s.L y = some (.int k b)) (hb : b ≠ 0) (hq : k.wrap (a.tdiv b) = q) : OpV P e o s (.int k q) := (v_quo hop hx hy hb).cast (by rw [hq])
theorem v_shl' {T T' : TypeId} {x y : Operand} {k k' : IntKind} {a b q : Int} {n : Nat} (hop : o.op = .binOp .shl T x y T') (hx : ev s.L x = some (.int k a)) (hy : ev s.L y = some (.int k' b)) (hb : 0 ≤ b) (hn : k.bits = n) (hq : k.wrap (shlk n a b) = q) : OpV P e o s (.int k q) := by
  subst hn; exact (v_shl hop hx hy hb).cast (by rw [← hq]; rfl)
theorem v_shr' {T T' : TypeId} {x y : Operand} {k k' : IntKind} {a b : Int} {n : Nat} (hop : o.op = .binOp .shr T x y T') (hx : ev s.L x = some (.int k a)) (hy : ev s.L y = some (.int k' b)) (hb : 0 ≤ b) (hn : k.bits = n) : OpV P e o s (.int k (shrk n a b)) := by
  subst hn; exact (v_shr hop hx hy hb)
theorem v_conv' {T T' : TypeId} {x : Operand} {k k' : IntKind} {n q : Int} (hop : o.op = .convert T T' x) (hT : ∃ t, P.underlying T = some t) (hT' : P.underlying T' = some (.int k')) (hx : ev s.L x = some (.int k n)) (hq : k'.wrap n = q) : OpV P e o s (.int k' q) := (v_conv hop hT hT' hx).cast (by rw [hq])
theorem v_notd {T : TypeId} {x : Operand} {p : Prop} [Decidable p] (hop : o.op = .unOp .not T x) (hx : ev s.L x = some (.bool (decide p))) : OpV P e o s (.bool (decide (¬ p))) := (v_not hop hx).cast (by simp)
theorem v_eqd {T T' : TypeId} {x y : Operand} {a b : Bool} (hop : o.op = .binOp .eql T x y T') (hT : P.underlying T = some .bool) (hx : ev s.L x = some (.bool a)) (hy : ev s.L y = some (.bool b)) : OpV P e o s (.bool (decide (a = b))) := (v_eqb hop hT hx hy).cast (by cases a <;> cases b <;> rfl)
theorem v_ned {T T' : TypeId} {x y : Operand} {a b : Bool} (hop : o.op = .binOp .neq T x y T') (hT : P.underlying T = some .bool) (hx : ev s.L x = some (.bool a)) (hy : ev s.L y = some (.bool b)) : OpV P e o s (.bool (decide (¬ a = b))) := (v_neb hop hT hx hy).cast (by cases a <;> cases b <;> rfl)
theorem v_max {x y : Operand} {T T' : TypeId} {k : IntKind} {a b : Int} (hop : o.op = .call { callee := .builtin .max, args := #[x, y], argTypes := #[T, T'] }) (hx : ev s.L x = some (.int k a)) (hy : ev s.L y = some (.int k b)) : OpV P e o s (.int k (max a b)) :=
  ⟨(by rw [hop]; intro c; simp), (fun γ a' w hh => by
    have : (if b > a then b else a) = max a b := by simp only [Int.max_def]; split <;> split <;> omega
    simp [execOp, hop, hh.eval hx, hh.eval hy, resolve, invoke, builtin, Builtin.max_, Builtin.max2]
    exact this)⟩
theorem v_min {x y : Operand} {T T' : TypeId} {k : IntKind} {a b : Int} (hop : o.op = .call { callee := .builtin .min, args := #[x, y], argTypes := #[T, T'] }) (hx : ev s.L x = some (.int k a)) (hy : ev s.L y = some (.int k b)) : OpV P e o s (.int k (min a b)) :=
  ⟨(by rw [hop]; intro c; simp), (fun γ a' w hh => by
    have : (if b < a then b else a) = min a b := by simp only [Int.min_def]; split <;> split <;> omega
    simp [execOp, hop, hh.eval hx, hh.eval hy, resolve, invoke, builtin, Builtin.min_, Builtin.min2]
    exact this)⟩
theorem v_fieldAddr' {f off o' q : Nat} {S : TypeId} {x : Operand} {b : Nat} (hop : o.op = .fieldAddr S x f) (hf : fieldOff P S f = some o') (hx : ev s.L x = some (.pointer (some ⟨b, off, none⟩))) (hq : off + o' = q) : OpV P e o s (.pointer (some ⟨b, q, none⟩)) := hq ▸ v_fieldAddr hop hf hx
/-- An element of an array behind a pointer. -/
theorem v_indexArr {n m b off q : Nat} {T E : TypeId} {x y : Operand} {kd : IntKind} {i : Int} {ag : Bool} (hop : o.op = .indexAddr T x y) (ha : arrayOf P T = some (n, E)) (ht : tyOf P E = some (ag, m)) (hx : ev s.L x = some (.pointer (some ⟨b, off, none⟩))) (hy : ev s.L y = some (.int kd i)) (h0 : 0 ≤ i) (h1 : i < n) (hq : off + i.toNat * m = q) :
    OpV P e o s (.pointer (some ⟨b, q, none⟩)) :=
  ⟨(by rw [hop]; intro c; simp), (fun γ a w hh => by
    unfold arrayOf at ha
    split at ha
    · rename_i n' E' hfs
      simp at ha
      obtain ⟨rfl, rfl⟩ := ha
      simp only [execOp, hop, hh.eval hx, hh.eval hy, Instr.indexAt, asIntOf, Sem.run_bind, Sem.run_pure, Result.andThen, run_und' hfs, Instr.sureAddr]
      simp [h0, h1, run_sizeOf' ht, add_off, hq]
    · cases ha)⟩
theorem v_indexStr {T : TypeId} {x y : Operand} {kd : IntKind} {i : Int} {str : ByteArray} {c : UInt8} (hop : o.op = .index T x y) (hT : P.underlying T = some .string) (hx : ev s.L x = some (.string str)) (hy : ev s.L y = some (.int kd i)) (h0 : 0 ≤ i) (h1 : str[i.toNat]? = some c) : OpV P e o s (.int .u8 c.toNat) :=
  ⟨(by rw [hop]; intro c; simp), (fun γ a w hh => by
    simp only [execOp, hop, hh.eval hx, hh.eval hy, Instr.index, asIntOf, Sem.run_bind, Sem.run_pure, Result.andThen, run_und' hT]
    simp [h0, h1])⟩
theorem eqc_nil {xs ys : List Value} : eqCells [] xs ys = some (decide True) := rfl
theorem eqc_cons {ofs : List Nat} {xs ys : List Value} {j : Nat} {k : IntKind} {a b : Int} {p : Prop} [Decidable p] (hx : xs[j]? = some (.int k a)) (hy : ys[j]? = some (.int k b)) (h : eqCells ofs xs ys = some (decide p)) : eqCells (j :: ofs) xs ys = some (decide (a = b ∧ p)) := by
  simp only [eqCells, hx, hy, if_true, h]
  by_cases hab : a = b <;> simp [hab]
theorem eqc_end {ofs : List Nat} {xs ys : List Value} {p : Prop} [Decidable p] (h : eqCells ofs xs ys = some (decide (p ∧ True))) : eqCells ofs xs ys = some (decide p) := by rw [h]; simp
theorem run_eqGuard {T : TypeId} {op : BinOp} {x y : Operand} {u v : Array Value} (hg : P.eqGuardType P.depth T = false) (w : World) : (eqGuard op T x y (.agg u) (.agg v)).run P w = .ok () w := by
  have hp : (Sem.program Sem.pure).run P w = .ok P w := rfl
  unfold eqGuard
  cases op <;> simp [program, hp, hg, Result.andThen]
theorem v_eqs {T T' : TypeId} {x y : Operand} {ofs : List Nat} {xs ys : List Value} {b : Bool} (hop : o.op = .binOp .eql T x y T') (hT : intFields P T = some ofs) (hg : P.eqGuardType P.depth T = false) (hx : ev s.L x = some (.agg xs.toArray)) (hy : ev s.L y = some (.agg ys.toArray)) (hb : eqCells ofs xs ys = some b) : OpV P e o s (.bool b) :=
  ⟨(by rw [hop]; intro c; simp), (fun γ a' w hh => by
    simp only [execOp, hop, hh.eval hx, hh.eval hy, Sem.run_bind, run_eqGuard hg, Result.andThen_ok, binOp, run_equal_ints hT hb]
    simp)⟩
theorem v_nes {T T' : TypeId} {x y : Operand} {ofs : List Nat} {xs ys : List Value} {p : Prop} [Decidable p] (hop : o.op = .binOp .neq T x y T') (hT : intFields P T = some ofs) (hg : P.eqGuardType P.depth T = false) (hx : ev s.L x = some (.agg xs.toArray)) (hy : ev s.L y = some (.agg ys.toArray)) (hb : eqCells ofs xs ys = some (decide p)) : OpV P e o s (.bool (decide (¬ p))) :=
  ⟨(by rw [hop]; intro c; simp), (fun γ a' w hh => by
    simp only [execOp, hop, hh.eval hx, hh.eval hy, Sem.run_bind, run_eqGuard hg, Result.andThen_ok, binOp, run_equal_ints hT hb]
    simp)⟩
theorem v_makeFunc' {fn : Fn} {fs xs : Array Operand} {us vs : List Value} (hop : o.op = .makeFunc fn fs xs) (hf : fs.toList.map (ev s.L) = us.map some) (hx : xs.toList.map (ev s.L) = vs.map some) (hn : Instr.makeFunc fn us.toArray vs.toArray = pure (.func fn us.toArray vs.toArray)) : OpV P e o s (.func fn us.toArray vs.toArray) :=
  ⟨(by rw [hop]; intro c; simp), (fun γ a w hh => by
    have h1 : fs.map a.eval = us.toArray := by rw [← Array.toArray_toList (xs := fs), List.map_toArray, evs_eval hh hf]
    have h2 : xs.map a.eval = vs.toArray := by rw [← Array.toArray_toList (xs := xs), List.map_toArray, evs_eval hh hx]
    simp only [execOp, hop, h1, h2, hn, Sem.run_bind, Sem.run_pure, Result.andThen])⟩

/-! ### Implications of states -/
theorem Imp.refl : Imp e s s := fun _ _ _ h => h
theorem Imp.trans {t u : St} (h : Imp e s t) (k : Imp e t u) : Imp e s u := fun γ a w hh => k γ a w (h γ a w hh)
theorem Imp.full {t : St} {E : TypeId} {sz : Nat} {A : Option Addr} {n : Nat} (h : Imp e { s with M := grow E sz (.slice A n n) n none :: s.M } t) : Imp e s t := fun γ a w hh => h γ a w
    { size := hh.size, slots := hh.slots, defers := hh.defers, facts := hh.facts, fr := hh.fr, ok := hh.ok
      hm := hh.hm.cons (.inl ⟨rfl, A, rfl⟩) (fun d hd b hb => by cases hb)
      own := fun c hc b hb => by
        rcases List.mem_cons.1 hc with q | q
        · subst q; cases hb
        · exact hh.own c q b hb }
theorem Imp.addF {t : St} (f : Fact) (hf : ∀ γ w, (∀ g ∈ s.F, g.p γ w) → (∀ c ∈ s.M, c.p γ w) → f.p γ w) (h : Imp e { s with F := s.F ++ [f] } t) : Imp e s t := fun γ a w hh => h γ a w (hh.addF (hf γ w hh.facts hh.hm.all))
/-- No slice is a slice of nothing. -/
theorem nilF {α : Type} (rp : Rep α) : ∀ γ w, (∀ g ∈ s.F, g.p γ w) → (∀ c ∈ s.M, c.p γ w) → (slF rp none 0 []).p γ w := fun γ w _ _ => SlP.empty rp γ w

/-! ### Joins by data -/
def qcut (e : Env) (x0 : Exit) {D M : Type} (φ : D → Prop) (stJ : D → M → St) (Q : SPost) : SPost := fun x s => (x = x0 → ∃ d m, φ d ∧ Imp e s (stJ d m)) ∧ (x ≠ x0 → Q x s)
theorem qcut_hit {x0 : Exit} {D M : Type} {φ : D → Prop} {stJ : D → M → St} {Q : SPost} (d : D) (m : M) (hd : φ d) (h : Imp e s (stJ d m)) : qcut e x0 φ stJ Q x0 s := ⟨fun _ => ⟨d, m, hd, h⟩, fun h => absurd rfl h⟩
theorem qcut_miss {x0 x : Exit} {D M : Type} {φ : D → Prop} {stJ : D → M → St} {Q : SPost} (hne : x ≠ x0) (h : Q x s) : qcut e x0 φ stJ Q x s := ⟨fun q => absurd q hne, fun _ => h⟩
theorem Tr.cutE {c : Code} {Q : SPost} {D M : Type} (x0 : Exit) (φ : D → Prop) (stJ : D → M → St) (h : Tr P r e c (qcut e x0 φ stJ Q) s) (hJ : ∀ d m, φ d → Q x0 (stJ d m)) : Tr P r e c Q s := fun γ a w hh =>
  wpIn_mono (h γ a w hh) fun x a' w' ⟨hf, s', γ', q, hh'⟩ => by
    by_cases hx : x = x0
    · obtain ⟨d, m, hd, hi⟩ := q.1 hx
      subst hx
      exact ⟨hf, _, γ', hJ d m hd, hi _ _ _ hh'⟩
    · exact ⟨hf, s', γ', q.2 hx, hh'⟩

/-! ### Returns by data -/
def qret (e : Env) (Q : SPost) : SPost := fun x s => ∃ t, Imp e s t ∧ Q x t
theorem ctr_ofI {f : FuncId} {fn : Func} {c : Code} {args : List Value} {M : List Chunk} {F : List Fact} {R : Value → List Chunk → List Fact → Prop} {N : Nat} {rvs : List ResultVar} (hf : P.funcs[f]? = some fn) (hb : fn.body = some c) (hN : fn.ntmps = N) (hr : fn.results = rvs.toArray) (hle : args.length ≤ N)
    (h : ∀ γ0 w0, Tr P none ⟨N, fpM M, γ0, w0⟩ c (qret ⟨N, fpM M, γ0, w0⟩ (retQ P ⟨N, fpM M, γ0, w0⟩ rvs R)) ⟨slots0 args, M, F, []⟩) : Ctr P f args M F R :=
  ctr_of hf hb hN hr hle fun γ0 w0 γ a w hh => wpIn_mono (h γ0 w0 γ a w hh) fun x a' w' ⟨hf', s', γ', ⟨t, hi, q⟩, hh'⟩ => ⟨hf', t, γ', q, hi _ _ _ hh'⟩
theorem ret_r {rvs : List ResultVar} {R : Value → List Chunk → List Fact → Prop} (t : St) (vs : List Value) (M' X : List Chunk) (hI : Imp e s t) (hD : t.D = []) (hM : t.M = M' ++ X) (hR : R (ret1 vs) M' t.F) (hv : All2 (resV P e t) rvs vs) : qret e (retQ P e rvs R) .ret s :=
  ⟨t, hI, retOk_plain vs M' t.F hD hR hv (hM ▸ List.sublist_append_left _ _) (fun _ h => h)⟩
theorem ret_n {rvs : List ResultVar} {R : Value → List Chunk → List Fact → Prop} (t : St) (vs : List Value) (M' X : List Chunk) (hI : Imp e s t) (hD : t.D = []) (hM : t.M = M' ++ X) (hR : R (ret1 vs) M' t.F) (hv : All2 (resV P e t) rvs vs) : qret e (retQ P e rvs R) .normal s :=
  ⟨t, hI, retOk_plain vs M' t.F hD hR hv (hM ▸ List.sublist_append_left _ _) (fun _ h => h)⟩

/-! ### Calls with values that stand first -/
theorem op_callg {f : FuncId} {fo : Operand} {xs : List Operand} {tys : Array TypeId} {fs vs cap : List Value} {Mp Mr : List Chunk} {Fp : List Fact} {R : Value → List Chunk → List Fact → Prop} (ks rs js : List Nat) (hop : o.op = .call { callee := .value fo, args := xs.toArray, argTypes := tys })
    (hf : ev s.L fo = some (.func (.func f) fs.toArray cap.toArray)) (hxs : xs.map (ev s.L) = vs.map some) (hen : entersOf P f = true) (hc : Ctr P f (fs ++ vs ++ cap) Mp Fp R) (hn : (ks ++ rs).Nodup) (hM : (ks ++ rs).map (s.M[·]?) = (Mp ++ Mr).map some) (hF : js.map (s.F[·]?) = Fp.map some) (hd : ∀ d, o.dst = some d → d < e.N)
    (h : ∀ ret M' F', R ret M' F' → Kn (match o.dst with
      | some d => ({ s with M := M' ++ Mr, F := s.F ++ F' } : St).put d ret
      | none => { s with M := M' ++ Mr, F := s.F ++ F' })) : OpTr P r e o Kn s := by
  intro γ a w hh0 K Q hK
  have hh : Holds e { s with M := Mp ++ Mr } γ a w := { size := hh0.size, slots := hh0.slots, defers := hh0.defers, hm := hh0.hm.places hn hM, own := fun c hc => hh0.own c (mem_of_places hM c hc), facts := hh0.facts, fr := hh0.fr, ok := hh0.ok }
  refine ⟨fun f _ => fen_fn r f, ?_⟩
  have hargs : (xs.toArray.map a.eval) = vs.toArray := by rw [List.map_toArray, evs_eval hh hxs]
  have hrun : (execOp a.eval o).run P w = .ok (.enter f (fs ++ vs ++ cap).toArray) w := by
    simp only [execOp, hop, resolve, hh.eval hf, Deferred.ofValue, Sem.run_bind, Sem.run_pure, Result.andThen, hargs, invoke]
    have : (fs.toArray ++ vs.toArray ++ cap.toArray : Array Value) = (fs ++ vs ++ cap).toArray := by simp
    rw [this, enters_run hen]
  rw [semAt_eq _ _ _ (by rw [hop]; intro c; simp), hrun, Oper.uponIn_enter]
  refine ⟨fun hds => by simp [fen] at hds, ?_⟩
  have hm0 := hh.hm
  have hsep := List.pairwise_append.1 hm0.sep
  have hmp : HM γ w Mp := ⟨fun c hc' => hm0.all c (List.mem_append_left _ hc'), hsep.1⟩
  have hmr : HM γ w Mr := ⟨fun c hc' => hm0.all c (List.mem_append_right _ hc'), hsep.2.1⟩
  have hcall := hc γ w hmp (fun g hg => hh.facts g (mem_of_places hF g hg)) hh.ok
  refine (calls_any hcall r _).mono ?_
  rintro en w' ⟨ret, M', F', γ', rfl, hR, hM', hF', hfp, hfr, hok'⟩
  have hX : ∀ b, fpM Mp b → e.bs b ∨ e.w0.heap.size ≤ b := fun b ⟨c, hc1, hc2⟩ => hh.own c (List.mem_append_left _ hc1) b hc2
  have hmr' : HM γ' w' Mr := hmr.keep hfr (fun c hc' b hb ⟨d, hd1, hd2⟩ => hsep.2.2 d hd1 c hc' b hd2 hb)
  have hsz : e.w0.heap.size ≤ w.heap.size := hh.fr.le.size
  have hall : HM γ' w' (M' ++ Mr) := hM'.append_of hmr' (fun c hc1 d hd1 b hb hdb => by
    rcases hfp c hc1 b hb with ⟨q, hq1, hq2⟩ | q
    · exact hsep.2.2 q hq1 d hd1 b hq2 hdb
    · have := d.lt (hmr.all d hd1) hdb; omega)
  have hown : ∀ c ∈ M' ++ Mr, ∀ b, c.fp b → e.bs b ∨ e.w0.heap.size ≤ b := fun c hc1 b hb => by
    rcases List.mem_append.1 hc1 with q | q
    · rcases hfp c q b hb with q' | q'
      · exact hX b q'
      · exact .inr (by omega)
    · exact hh.own c (List.mem_append_right _ q) b hb
  have hst := hh.step (M' := M' ++ Mr) hfr hX hall hown hok'
  have hst2 : Holds e { s with M := M' ++ Mr, F := s.F ++ F' } γ' a w' :=
    { size := hst.size, slots := hst.slots, defers := hst.defers, hm := hst.hm, own := hst.own, fr := hst.fr, ok := hst.ok
      facts := fun g hg => by rcases List.mem_append.1 hg with q | q; exact hst.facts g q; exact hF' g q }
  have hk := h ret M' F' hR
  cases hdst : o.dst with
  | none => rw [hdst] at hk; exact hK _ γ' _ _ hk hst2
  | some d => rw [hdst] at hk; exact hK _ γ' _ _ hk (hst2.put d ret (hd d hdst))

/-! ### Drawn orders -/
theorem FlOk.re {ops : Array Oper} {fl : Fl} {s' : St} (h : FlOk ops fl s) (hs : SubL (fl.map (·.2)) s'.L) : FlOk ops fl s' :=
  ⟨h.shaped, h.nodup, fun p hp => SubL.spec hs p.2 (List.mem_map.2 ⟨p, hp, rfl⟩)⟩
def stepB2 (ops : Array Oper) (fl : List Nat) (ds : List Nat) (dn : List Nat) (j : Nat) : Bool := match ops[j]? with
  | some o => !dn.contains j && !fl.contains j && nextB ops fl dn j && allDB o.dst ds && (match o.op with | .defer _ => false | _ => true)
  | none => false
/-- The next step, guarded and wanted. -/
theorem TrAny.nextY {ops : Array Oper} {fl : Fl} {dn : List Nat} {j i d : Nat} {want b : Bool} {oj : Oper} (hsel : (noSel ops && backB ops) = true) (hok : FlOk ops fl s) (hj : ops[j]? = some oj) (hb : stepB2 ops (fl.map (·.1)) (fl.map (·.2.1)) dn j = true)
    (hg : oj.guard = some (i, want)) (hd : (ops[i]?).bind (·.dst) = some d) (hbv : s.L.lookup d = some (.bool b)) (hw : b = want)
    (h : OpTr P r e oj (fun s' => Kp P e ops j fl s s' ∧ TrAny P r e ops fl (j :: dn) Kn s') s) : TrAny P r e ops fl dn Kn s := by
  simp only [Bool.and_eq_true] at hsel
  simp only [stepB2, hj, Bool.and_eq_true, Bool.not_eq_true', List.contains_eq_mem, decide_eq_false_iff_not] at hb
  obtain ⟨⟨⟨⟨h2, h3⟩, h4⟩, h5⟩, h6⟩ := hb
  refine TrAny.step hsel.1 hsel.2 hok hj (fun γ a w hh => by simp [Region.wanted, hg, yielded_of hh hd hbv, hw]) (fun c hc => by rw [hc] at h6; cases h6) h2 h3 h4 (allDB_spec h5) h
end
end Go.Proofs.Ythgeodagikmpjaa.L
