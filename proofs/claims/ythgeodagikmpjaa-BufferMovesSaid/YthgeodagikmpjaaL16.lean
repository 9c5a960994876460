/- Bits of numbers; bytes as a string; strings that are compared. -/
import Derived.Test.YthgeodagikmpjaaL15
import Derived.Laws.BytesArg
import Derived.Laws.Strings
namespace Go.Proofs.Ythgeodagikmpjaa.L
open Go Go.Proofs.Ythgeodagikmpjaa.Pu
set_option linter.unusedVariables false

section
variable {a b : Int}
theorem ar_and_u64 : arith .and .u64 a b = some (.int .u64 (wu64 (andk 64 a b))) := rfl
theorem ar_or_u64 : arith .or .u64 a b = some (.int .u64 (wu64 (ork 64 a b))) := rfl
theorem ar_xor_u64 : arith .xor .u64 a b = some (.int .u64 (wu64 (xork 64 a b))) := rfl
theorem ar_andNot_u64 : arith .andNot .u64 a b = some (.int .u64 (wu64 (andnk 64 a b))) := rfl
theorem ar_and_u8 : arith .and .u8 a b = some (.int .u8 (wu8 (andk 8 a b))) := rfl
theorem ar_or_u8 : arith .or .u8 a b = some (.int .u8 (wu8 (ork 8 a b))) := rfl
theorem ar_xor_u8 : arith .xor .u8 a b = some (.int .u8 (wu8 (xork 8 a b))) := rfl
theorem ar_and_i64 : arith .and .i64 a b = some (.int .i64 (wi64 (andk 64 a b))) := by
  show some (Value.int .i64 (IntKind.i64.wrap _)) = _
  rw [wrap_i64]; rfl
theorem ar_or_i64 : arith .or .i64 a b = some (.int .i64 (wi64 (ork 64 a b))) := by
  show some (Value.int .i64 (IntKind.i64.wrap _)) = _
  rw [wrap_i64]; rfl
end

section
variable {P : Program} {r : Option Nat} {e : Env} {o : Oper} {Kn : St → Prop} {s : St} {γ γ' : Gh} {w w' : World} {a : Act}
theorem row_ints {k : IntKind} {xs : List Int} {ds : List Value} (h : Row (rInt k) γ w xs ds) : ds = xs.map (.int k) := by
  induction h with
  | nil => rfl
  | cons hx _ ih =>
    have : _ = [Value.int k _] := hx
    rw [this, ih]; rfl
theorem conv_bstr {P : Program} {T T' e' : TypeId} {A : Option Addr} {n c : Nat} {xs : List Int} {γ : Gh} {w : World} (hT : P.underlying T = some (.slice e')) (he : P.underlying e' = some (.int .u8)) (hT' : P.underlying T' = some .string) (hn : n = xs.length) (hf : SlP (rInt .u8) γ w A c xs) :
    (convert T T' (.slice A n c)).run P w = .ok (.string (bstr xs)) w := by
  cases A with
  | none =>
    obtain rfl := hf.nil rfl
    subst hn
    rw [List.length_nil, run_convert_bytes_nil w T e' hT he 0 c T' hT']
    rfl
  | some ad =>
    obtain ⟨hs, ds, hr, hc⟩ := hf.row ad rfl
    have hds := row_ints hr
    by_cases hxs : xs = []
    · subst hxs
      have hl : (loadCells ad 0).run P w = .ok (([] : List Int).map (Value.int .u8)).toArray w := by simp [loadCells, loadCellsFrom, Sem.run_pure]
      subst hn
      rw [run_convert_bytes_string w T T' e' _ _ c hT he hT', List.length_nil, run_bytesToString w ad 0 c [] hl]
      rfl
    · have hsp := hs hxs
      obtain ⟨b, off, spot⟩ := ad
      simp only at hsp
      subst hsp
      refine run_convert_bytes_arg w T e' hT he b off n c xs hn.symm (fun i hi => ?_) T' hT'
      have hi' : i < xs.length := by omega
      refine (hc i _ ?_).1
      rw [hds, List.getElem?_map, List.getElem?_eq_getElem hi', List.getD_eq_getElem?_getD, List.getElem?_eq_getElem hi']
      rfl
/-- Bytes as a string. -/
theorem v_bstr {T T' e' : TypeId} {x : Operand} {A : Option Addr} {n c k : Nat} {xs : List Int} (hop : o.op = .convert T T' x) (hT : P.underlying T = some (.slice e')) (he : P.underlying e' = some (.int .u8)) (hT' : P.underlying T' = some .string) (hx : ev s.L x = some (.slice A n c)) (hn : n = xs.length) (hk : s.F[k]? = some (slF (rInt .u8) A c xs)) :
    OpV P e o s (.string (bstr xs)) :=
  ⟨(by rw [hop]; intro c; simp), (fun γ a w hh => by
    have hf : SlP (rInt .u8) γ w A c xs := hh.facts _ (List.mem_of_getElem? hk)
    simp only [execOp, hop, hh.eval hx, Sem.run_bind, conv_bstr hT he hT' hn hf, Result.andThen, Sem.run_pure])⟩
theorem bytes_eq {x y : ByteArray} : (x.toList == y.toList) = decide (x = y) := by
  rw [ByteArray.toList_eq, ByteArray.toList_eq, Bool.eq_iff_iff, beq_iff_eq, decide_eq_true_eq]
  constructor
  · intro h
    obtain ⟨x⟩ := x
    obtain ⟨y⟩ := y
    exact congrArg ByteArray.mk (Array.toList_inj.1 h)
  · intro h; rw [h]
theorem v_streq {T T' : TypeId} {x y : Operand} {u v : ByteArray} (hop : o.op = .binOp .eql T x y T') (hx : ev s.L x = some (.string u)) (hy : ev s.L y = some (.string v)) : OpV P e o s (.bool (decide (u = v))) :=
  ⟨(by rw [hop]; intro c; simp), (fun γ a w hh => by
    simp only [execOp, hop, hh.eval hx, hh.eval hy]
    simp [eqGuard, binOp, Op.stringOp, ← bytes_eq])⟩
theorem v_strne {T T' : TypeId} {x y : Operand} {u v : ByteArray} (hop : o.op = .binOp .neq T x y T') (hx : ev s.L x = some (.string u)) (hy : ev s.L y = some (.string v)) : OpV P e o s (.bool (decide (¬ u = v))) :=
  ⟨(by rw [hop]; intro c; simp), (fun γ a w hh => by
    simp only [execOp, hop, hh.eval hx, hh.eval hy]
    simp only [decide_not, ← bytes_eq]
    simp [eqGuard, binOp, Op.stringOp])⟩
end
end Go.Proofs.Ythgeodagikmpjaa.L
