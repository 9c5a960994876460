/- New structs and slices out of parts; parts of slices; elements of arrays; structs that are compared. -/
import Derived.Test.YthgeodagikmpjaaL5
namespace Go.Proofs.Ythgeodagikmpjaa.L
open Go Go.Proofs.Ythgeodagikmpjaa.Pu
set_option linter.unusedVariables false

/-- Where the parts of a struct lie. -/
def placesOf (P : Program) (T : TypeId) : Option (List (Nat × Nat)) :=
  match P.underlying T with
  | some (.struct fs) => fs.toList.mapM fun f => (P.info? f.type).map fun i => (f.offset, i.size)
  | _ => none
def arrayOf (P : Program) (T : TypeId) : Option (Nat × TypeId) :=
  match P.underlying T with
  | some (.array n E) => some (n, E)
  | _ => none

def fillL (place : Nat → Option (Nat × Nat)) (cells : List Value) : List (Nat × List Value) → Option (List Value)
  | [] => some cells
  | (i, cs) :: rest =>
    match place i with
    | none => none
    | some (off, size) => if cs.length ≠ size ∨ off + cs.length > cells.length then none else fillL place (spl cells off cs) rest

theorem foldl_set (off : Nat) : ∀ (cs : List Value) (j : Nat) (cells : Array Value), off + j + cs.length ≤ cells.size →
    (cs.zipIdx j).foldl (fun (c : Array Value) (p : Value × Nat) => c.setIfInBounds (off + p.2) p.1) cells = (spl cells.toList (off + j) cs).toArray := by
  intro cs
  induction cs with
  | nil => intro j cells h; simp [spl]
  | cons v cs ih =>
    intro j cells h
    simp only [List.length_cons] at h
    rw [List.zipIdx_cons, List.foldl_cons, ih (j + 1) _ (by simp; omega)]
    congr 1
    simp only [spl, Array.toList_setIfInBounds, List.length_cons]
    apply List.ext_getElem?
    intro q
    simp only [List.append_assoc, List.getElem?_append, List.length_take, List.length_set, Array.length_toList, List.getElem?_take, List.getElem?_set, List.getElem?_drop]
    by_cases h1 : q < off + j
    · have : q < min (off + (j + 1)) cells.size := by omega
      have h2 : q < min (off + j) cells.size := by omega
      simp only [this, h2, if_true, h1, show q < off + (j + 1) by omega, show ¬ off + j = q by omega, if_false]
    · by_cases h2 : q = off + j
      · subst h2
        have : off + j < min (off + (j + 1)) cells.size := by omega
        have h3 : ¬ off + j < min (off + j) cells.size := by omega
        simp only [this, h3, if_true, if_false, show off + j < off + (j + 1) by omega, show off + j < cells.size by omega, show off + j - min (off + j) cells.size = 0 by omega]
        simp
      · have h3 : ¬ q < min (off + (j + 1)) cells.size := by omega
        have h4 : ¬ q < min (off + j) cells.size := by omega
        simp only [h3, h4, if_false]
        have h5 : min (off + (j + 1)) cells.size = off + (j + 1) := by omega
        have h6 : min (off + j) cells.size = off + j := by omega
        rw [h5, h6, show q - (off + j) = (q - (off + (j + 1))) + 1 by omega]
        simp only [List.getElem?_cons_succ, List.length_cons, Nat.add_lt_add_iff_right]
        split
        · rfl
        · simp only [show ¬ off + j = off + (j + 1) + cs.length + (q - (off + (j + 1)) - cs.length) by omega, if_false]
          congr 1
          omega

theorem fill_list (place : Nat → Option (Nat × Nat)) : ∀ (parts : List (Nat × Value)) (cells out : List Value), fillL place cells (parts.map fun p => (p.1, p.2.cells.toList)) = some out → Instr.fill place cells.toArray parts = some out.toArray := by
  intro parts
  induction parts with
  | nil => intro cells out h; simp [fillL] at h; subst h; rfl
  | cons p parts ih =>
    obtain ⟨i, v⟩ := p
    intro cells out h
    rw [List.map_cons, fillL] at h
    simp only [Instr.fill]
    cases hp : place i with
    | none => rw [hp] at h; cases h
    | some q =>
      obtain ⟨off, size⟩ := q
      rw [hp] at h
      simp only [Array.length_toList] at h
      split at h
      · cases h
      · rename_i hne
        have hn1 : ¬ (v.cells.size ≠ size ∨ off + v.cells.size > cells.length) := hne
        have h0 : off + v.cells.size ≤ cells.length := by omega
        have := foldl_set off v.cells.toList 0 cells.toArray (by simpa using h0)
        have hz : v.cells.zipIdx.foldl (fun (cs : Array Value) (x : Value × Nat) => cs.setIfInBounds (off + x.2) x.1) cells.toArray = (spl cells off v.cells.toList).toArray := by
          rw [← Array.foldl_toList, Array.toList_zipIdx]
          simpa using this
        have hd : ¬ ((decide (v.cells.size ≠ size) || decide (off + v.cells.size > cells.toArray.size)) = true) := by
          simp only [Bool.or_eq_true, decide_eq_true_eq, List.size_toArray]; exact hn1
        exact (if_neg hd).trans ((congrArg (fun c => Instr.fill place c parts) hz).trans (ih _ _ h))

section
variable {P : Program} {r : Option Nat} {e : Env} {o : Oper} {Kn : St → Prop} {s : St} {γ γ' : Gh} {w w' : World} {a : Act}

theorem run_places {fs : Array Field} {pl : List (Nat × Nat)} (h : (fs.toList.mapM fun f => (P.info? f.type).map fun i => (f.offset, i.size)) = some pl) :
    (fs.mapM (m := Sem) fun f => do Pure.pure (f.offset, ← sizeOf f.type)).run P w = .ok pl.toArray w := by
  have key : ∀ (l : List Field) (pl : List (Nat × Nat)), (l.mapM fun f => (P.info? f.type).map fun i => (f.offset, i.size)) = some pl → (l.mapM (m := Sem) fun f => do Pure.pure (f.offset, ← sizeOf f.type)).run P w = .ok pl w := by
    intro l
    induction l with
    | nil => intro pl h; simp at h; subst h; rfl
    | cons f l ih =>
      intro pl h
      rw [List.mapM_cons] at h
      cases hi : P.info? f.type with
      | none => rw [hi] at h; simp at h
      | some i =>
        rw [hi] at h
        simp only [Option.map_some, Option.bind_eq_bind, Option.bind_some] at h
        obtain ⟨q, hq, h2⟩ := Option.bind_eq_some_iff.1 h
        simp at h2
        subst h2
        rw [List.mapM_cons, Sem.run_bind, Sem.run_bind, sizeOf, Sem.run_bind, run_typeInfo' hi]
        simp only [Result.andThen_ok, Sem.run_pure, Sem.run_bind, ih q hq]
  rw [← Array.toArray_toList (xs := fs), List.mapM_toArray, Sem.run_map, key fs.toList pl h]
  rfl

theorem parts_eval (hh : Holds e s γ a w) {ps : List (Nat × Operand)} {vs : List Value} (h : ps.map (fun p => ev s.L p.2) = vs.map some) : (ps.map fun p => (p.1, a.eval p.2)) = (ps.map (·.1)).zip vs := by
  induction ps generalizing vs with
  | nil => cases vs <;> simp_all
  | cons p ps ih =>
    cases vs with
    | nil => simp at h
    | cons v vs => simp only [List.map_cons, List.cons.injEq] at h; simp [hh.eval h.1, ih h.2]

theorem zip_cells : ∀ (is : List Nat) (vs : List Value), ((is.zip vs).map fun p => (p.1, p.2.cells.toList)) = is.zip (vs.map fun v => v.cells.toList) := by
  intro is
  induction is with
  | nil => intro vs; rfl
  | cons i is ih => intro vs; cases vs with
    | nil => rfl
    | cons v vs => simp [ih vs]

theorem v_build {T : TypeId} {ps : List (Nat × Operand)} {vs zc out : List Value} {pl : List (Nat × Nat)} (hop : o.op = .build T ps.toArray) (hpl : placesOf P T = some pl) (hz : zeroOf P T = some zc)
    (hps : ps.map (fun p => ev s.L p.2) = vs.map some) (hout : fillL (pl[·]?) zc ((ps.map (·.1)).zip (vs.map fun v => v.cells.toList)) = some out) : OpV P e o s (.agg out.toArray) :=
  ⟨(by rw [hop]; intro c; simp), (fun γ a w hh => by
    obtain ⟨z, hz1, hz2⟩ := run_zeroValue' (w := w) hz
    unfold placesOf at hpl
    split at hpl
    · rename_i fs hfs
      have hfill := fill_list (fun i => pl.toArray[i]?) ((ps.map (·.1)).zip vs) zc out (by rw [zip_cells]; rw [← hout]; congr 1; funext i; simp)
      have hpe : (ps.toArray.map fun p => (p.1, a.eval p.2)) = ((ps.map (·.1)).zip vs).toArray := by rw [List.map_toArray, parts_eval hh hps]
      simp only [execOp, hop, Instr.build, Sem.run_bind, hz2, Result.andThen_ok, run_und' hfs, run_places hpl, hpe, hz1, hfill, Sem.run_pure]
    · cases hpl)⟩

theorem v_buildArr {n m : Nat} {T E : TypeId} {ag : Bool} {ps : List (Nat × Operand)} {vs zc out : List Value} (hop : o.op = .build T ps.toArray) (ha : arrayOf P T = some (n, E)) (ht : tyOf P E = some (ag, m)) (hz : zeroOf P T = some zc)
    (hps : ps.map (fun p => ev s.L p.2) = vs.map some) (hout : fillL (fun i => some (i * m, m)) zc ((ps.map (·.1)).zip (vs.map fun v => v.cells.toList)) = some out) : OpV P e o s (.agg out.toArray) :=
  ⟨(by rw [hop]; intro c; simp), (fun γ a w hh => by
    obtain ⟨z, hz1, hz2⟩ := run_zeroValue' (w := w) hz
    unfold arrayOf at ha
    split at ha
    · rename_i n' E' hfs
      simp at ha
      obtain ⟨rfl, rfl⟩ := ha
      have hfill := fill_list (fun i => some (i * m, m)) ((ps.map (·.1)).zip vs) zc out (by rw [zip_cells]; exact hout)
      have hpe : (ps.toArray.map fun p => (p.1, a.eval p.2)) = ((ps.map (·.1)).zip vs).toArray := by rw [List.map_toArray, parts_eval hh hps]
      simp only [execOp, hop, Instr.build, Sem.run_bind, hz2, Result.andThen_ok, run_und' hfs, run_sizeOf' ht, hpe, hz1, hfill, Sem.run_pure]
    · cases ha)⟩

def zrow (zc : List Value) (n : Nat) : List Value := (List.range n).map fun j => zc.toArray[j % zc.toArray.size]!

/-- A new slice of given elements. -/
theorem op_buildSlice {α : Type} {rp : Rep α} {d len : Nat} {T E : TypeId} {ag : Bool} {ps : List (Nat × Operand)} {vs zc out : List Value} {xs : List α} (ho : o.dst = some d) (hN : d < e.N) (hop : o.op = .buildSlice T len ps.toArray) (hT : sliceOf P T = some E) (ht : tyOf P E = some (ag, rp.sz)) (hz : zeroOf P E = some zc)
    (hps : ps.map (fun p => ev s.L p.2) = vs.map some) (hout : fillL (fun i => some (i * rp.sz, rp.sz)) (if len * rp.sz = 0 then [] else zrow zc (len * rp.sz)) ((ps.map (·.1)).zip (vs.map fun v => v.cells.toList)) = some out) (hbig : len * rp.sz ≤ 16777216) (hbig2 : len ≤ big) (hlen : xs.length = len)
    (hrow : ∀ γ w, (∀ f ∈ s.F, f.p γ w) → Row rp γ w xs out) (h : ∀ A, Kn (({ s with F := s.F ++ [slF rp A len xs] } : St).put d (.slice A len len))) : OpTr P r e o Kn s := by
  intro γ a w hh K Q hK
  refine ⟨fun f _ => fen_fn r f, ?_⟩
  obtain ⟨z, hz1, hz2⟩ := run_zeroValue' (w := w) hz
  have hfill := fill_list (fun i => some (i * rp.sz, rp.sz)) ((ps.map (·.1)).zip vs) _ out (by rw [zip_cells]; exact hout)
  have hpe : (ps.toArray.map fun p => (p.1, a.eval p.2)) = ((ps.map (·.1)).zip vs).toArray := by rw [List.map_toArray, parts_eval hh hps]
  have hlim : ¬ (len * rp.sz > 2 ^ 24) := by omega
  have hcells : ((Array.range (len * rp.sz)).map fun j => zc.toArray[j % zc.toArray.size]!) = (zrow zc (len * rp.sz)).toArray := by
    apply Array.ext'
    simp [zrow]
  have hrun : (execOp a.eval o).run P w = .ok (.value (.slice (some ⟨w.heap.size, 0, none⟩) len len)) (w.alloc (.cells out.toArray E)) := by
    simp only [execOp, hop, Instr.buildSlice, Sem.run_bind, run_und' (sliceOf_und hT), Result.andThen_ok, run_sizeOf' ht, hlim, if_false, Sem.run_ite]
    by_cases h0 : len * rp.sz = 0
    · simp only [h0, if_true, Sem.run_pure, Result.andThen_ok]
      rw [if_pos h0] at hfill
      have hf' : Instr.fill (fun i => some (i * rp.sz, rp.sz)) ((Array.range 0).map fun j => (#[] : Array Value)[j % (#[] : Array Value).size]!) ((ps.map (·.1)).zip vs) = some out.toArray := by
        have he : ((Array.range 0).map fun j => (#[] : Array Value)[j % (#[] : Array Value).size]!) = #[] := by apply Array.ext'; simp
        rw [he]; exact hfill
      simp only [hpe]
      rw [hf']
      simp [newRow]
    · simp only [h0, if_false, hz2, Result.andThen_ok, Sem.run_pure, hz1, hcells]
      rw [if_neg h0] at hfill
      simp only [hpe]
      rw [hfill]
      simp [newRow]
  rw [semAt_eq _ _ _ (by rw [hop]; intro c; simp), hrun, Oper.uponIn_value, ho]
  have hr := hrow γ w hh.facts
  have fr := Fr.alloc hh.ok out.toArray E (len * rp.sz)
  have hst := hh.step fr (fun b hb => hb.elim) (hh.hm.keep fr (fun _ _ _ _ q => q)) hh.own (hh.ok.alloc _ _)
  have hsl : SlP rp (upd γ w.heap.size (len * rp.sz)) (w.alloc (.cells out.toArray E)) (some ⟨w.heap.size, 0, none⟩) len xs := by
    refine ⟨by omega, ?_, (fun q => by cases q), fun q hq => ?_⟩
    · rw [hlen]; exact Nat.le_trans hbig2 (by decide)
    · cases hq
      refine ⟨fun _ => rfl, out, hr.mono fr.le, fun j v hv => ?_⟩
      have hj : j < out.length := (List.getElem?_eq_some_iff.1 hv).1
      rw [hr.len, hlen] at hj
      refine ⟨?_, by rw [upd_same]; simp only [Nat.zero_add]; exact hj⟩
      rw [World.cell?_alloc_new, Nat.zero_add]
      simpa using hv
  exact hK _ _ _ _ (h (some ⟨w.heap.size, 0, none⟩)) ((hst.addF (f := slF rp (some ⟨w.heap.size, 0, none⟩) len xs) hsl).put d _ hN)
end
end Go.Proofs.Ythgeodagikmpjaa.L
