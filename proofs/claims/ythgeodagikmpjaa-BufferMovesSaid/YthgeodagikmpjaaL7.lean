/- Parts of slices; elements and fields of values; structs that are compared. -/
import Derived.Test.YthgeodagikmpjaaL6
namespace Go.Proofs.Ythgeodagikmpjaa.L
open Go Go.Proofs.Ythgeodagikmpjaa.Pu
set_option linter.unusedVariables false

def fieldTy (P : Program) (S : TypeId) (f : Nat) : Option (Nat × TypeId) :=
  match P.underlying S with
  | some (.struct fs) => match fs[f]? with
    | some fd => some (fd.offset, fd.type)
    | none => none
  | _ => none

section
variable {P : Program} {r : Option Nat} {e : Env} {o : Oper} {Kn : St → Prop} {s : St} {γ γ' : Gh} {w w' : World} {a : Act}

/-- A bound of a slice expression. -/
def bnd (s : St) (y : Option Operand) (dflt n : Nat) : Prop :=
  match y with
  | none => n = dflt
  | some y => ∃ k i, ev s.L y = some (.int k i) ∧ 0 ≤ i ∧ i.toNat = n

theorem run_sliceBound {k : IntKind} {i : Int} {y : Nat} (code : BoundsCode) (h0 : 0 ≤ i) (h1 : i.toNat ≤ y) : (Instr.sliceBound (.int k i) y code).run P w = .ok i.toNat w := by
  have : i ≤ y := by omega
  simp [Instr.sliceBound, asIntOf, h0, this]

theorem run_sliceBounds (hh : Holds e s γ a w) {lo hi mx : Option Operand} {len cap l h m : Nat} (hlo : bnd s lo 0 l) (hhi : bnd s hi len h) (hmx : bnd s mx cap m) (hlh : l ≤ h) (hhm : h ≤ m) (hmc : m ≤ cap) (hms : mx.isSome = true → hi.isSome = true) :
    (Instr.sliceBounds true len cap (lo.map a.eval) (hi.map a.eval) (mx.map a.eval)).run P w = .ok (l, h, m) w := by
  have hl : (match lo.map a.eval with
      | some v => Instr.sliceBound v h (if (mx.map a.eval).isSome then .slice3C else .sliceB)
      | none => Pure.pure 0 : Sem Nat).run P w = .ok l w := by
    cases lo with
    | none => simp only [bnd] at hlo; subst hlo; rfl
    | some y =>
      obtain ⟨k, i, hy, h0, rfl⟩ := hlo
      simp only [Option.map_some, hh.eval hy]
      exact run_sliceBound _ h0 hlh
  have hb : (match hi.map a.eval, mx.map a.eval with
      | some v, some _ => Instr.sliceBound v m .slice3B
      | some v, none => Instr.sliceBound v m .sliceAcap
      | none, none => Pure.pure len
      | none, some _ => stuck "Slice: max without high" : Sem Nat).run P w = .ok h w := by
    cases hi with
    | none =>
      cases mx with
      | none => simp only [bnd] at hhi; subst hhi; rfl
      | some _ => simp at hms
    | some y =>
      obtain ⟨k, i, hy, h0, rfl⟩ := hhi
      cases mx with
      | none => simp only [Option.map_some, Option.map_none, hh.eval hy]; exact run_sliceBound _ h0 hhm
      | some _ => simp only [Option.map_some, hh.eval hy]; exact run_sliceBound _ h0 hhm
  have hm : (match mx.map a.eval with
      | some v => Instr.sliceBound v cap .slice3Acap
      | none => Pure.pure cap : Sem Nat).run P w = .ok m w := by
    cases mx with
    | none => simp only [bnd] at hmx; subst hmx; rfl
    | some y =>
      obtain ⟨k, i, hy, h0, rfl⟩ := hmx
      simp only [Option.map_some, hh.eval hy]
      exact run_sliceBound _ h0 hmc
  have key : ∀ (L H M : Option Value), Instr.sliceBounds true len cap L H M = ((match M with
      | some v => Instr.sliceBound v cap .slice3Acap
      | none => Pure.pure cap : Sem Nat) >>= fun m => (match H, M with
      | some v, some _ => Instr.sliceBound v m .slice3B
      | some v, none => Instr.sliceBound v m .sliceAcap
      | none, none => Pure.pure len
      | none, some _ => stuck "Slice: max without high" : Sem Nat) >>= fun h => (match L with
      | some v => Instr.sliceBound v h (if M.isSome then .slice3C else .sliceB)
      | none => Pure.pure 0 : Sem Nat) >>= fun l => Pure.pure (l, h, m)) := by
    intro L H M
    cases L <;> cases H <;> cases M <;> rfl
  rw [key, Sem.run_bind, hm, Result.andThen_ok, Sem.run_bind, hb, Result.andThen_ok, Sem.run_bind, hl, Result.andThen_ok]
  rfl

theorem SlP.part {α : Type} {rp : Rep α} {A : Option Addr} {c l h m : Nat} {xs : List α} (hs : SlP rp γ w A c xs) (hlh : l ≤ h) (hhl : h ≤ xs.length) (hhm : h ≤ m) (hmc : m ≤ c) :
    SlP rp γ w (if m = l then A else A.map (·.add (l * rp.sz))) (m - l) ((xs.take h).drop l) := by
  refine ⟨by simp; omega, ?_, fun hA => ?_, fun q hq => ?_⟩
  · have := hs.bd
    simp only [List.length_drop, List.length_take, top] at *
    omega
  · split at hA
    · rw [hs.nil hA]; simp
    · cases A with
      | none => rw [hs.nil rfl]; simp
      | some _ => simp at hA
  · split at hq
    · obtain ⟨h1, ds, hr, hc⟩ := hs.row q hq
      have : (xs.take h).drop l = [] := by apply List.eq_nil_of_length_eq_zero; simp; omega
      rw [this]
      exact ⟨fun q => absurd rfl q, [], .nil, fun j v hv => by simp at hv⟩
    · cases A with
      | none => simp at hq
      | some ad =>
        obtain ⟨h1', ds, hr, hc⟩ := hs.row ad rfl
        by_cases hxe : xs = []
        · subst hxe
          have : (([] : List α).take h).drop l = [] := by simp
          rw [this]
          exact ⟨fun q => absurd rfl q, [], .nil, fun j v hv => by simp at hv⟩
        have h1 := h1' hxe
        simp only [Option.map_some, Option.some.injEq] at hq
        have hq' : q = ⟨ad.block, ad.off + l * rp.sz, none⟩ := by
          rw [← hq]
          obtain ⟨b, of, sp⟩ := ad
          simp at h1
          subst h1
          exact add_off _ _ _
        subst hq'
        refine ⟨fun _ => rfl, (ds.take (h * rp.sz)).drop (l * rp.sz), (hr.take h).drop l, fun j v hv => ?_⟩
        rw [List.getElem?_drop, List.getElem?_take] at hv
        split at hv
        · have := hc _ _ hv
          simp only [Nat.add_assoc] at this ⊢
          exact this
        · cases hv

def slA (A : Option Addr) (l m sz : Nat) : Option Addr := if m = l then A else A.map (·.add (l * sz))

/-- x[lo:hi], x[lo:hi:max] of a slice. -/
theorem v_slice {l h m c n cc sz q : Nat} {T E : TypeId} {x : Operand} {lo hi mx : Option Operand} {ag : Bool} {A : Option Addr} (hop : o.op = .slice T x lo hi mx) (hT : sliceOf P T = some E) (ht : tyOf P E = some (ag, sz))
    (hx : ev s.L x = some (.slice A n c)) (hlo : bnd s lo 0 l) (hhi : bnd s hi n h) (hmx : bnd s mx c m) (hlh : l ≤ h) (hhm : h ≤ m) (hmc : m ≤ c) (hms : mx.isSome = true → hi.isSome = true)
    (hlen : h - l = q) (hcc : m - l = cc) : OpV P e o s (.slice (slA A l m sz) q cc) :=
  ⟨by rw [hop]; intro c; simp, fun γ a w hh => by
    simp only [execOp, hop, Instr.sliceAt, Sem.run_bind, run_und' (sliceOf_und hT), Result.andThen_ok, Instr.slice, hh.eval hx, run_sliceBounds hh hlo hhi hmx hlh hhm hmc hms, run_sizeOf' ht, Sem.run_pure, hlen, hcc]
    rfl⟩
theorem slF_part {α : Type} {rp : Rep α} {A : Option Addr} {c l h m cc k : Nat} {xs ys : List α} (hk : s.F[k]? = some (slF rp A c xs)) (hlh : l ≤ h) (hhl : h ≤ xs.length) (hhm : h ≤ m) (hmc : m ≤ c) (hys : (xs.take h).drop l = ys) (hcc : m - l = cc) :
    ∀ γ w, (∀ g ∈ s.F, g.p γ w) → (∀ c ∈ s.M, c.p γ w) → (slF rp (slA A l m rp.sz) cc ys).p γ w := fun γ w hF _ => by
  have hf : SlP rp γ w A c xs := hF _ (List.mem_of_getElem? hk)
  have hp := hf.part (m := m) hlh hhl hhm hmc
  rw [hys, hcc] at hp
  exact hp
/-- What a slice's fact says of its lengths. -/
theorem slF_le {α : Type} {rp : Rep α} {A : Option Addr} {c k : Nat} {xs : List α} (hk : s.F[k]? = some (slF rp A c xs)) : Pre s (xs.length ≤ c ∧ xs.length ≤ top) := fun γ w hF _ => by
  have hf : SlP rp γ w A c xs := hF _ (List.mem_of_getElem? hk)
  exact ⟨hf.le, hf.bd⟩

/-! ### Parts of values -/
theorem run_part {T : TypeId} {ag : Bool} {n : Nat} (ht : tyOf P T = some (ag, n)) (hn : ag = false → n = 1) (cs : List Value) (off : Nat) (hl : ((cs.drop off).take n).length = n) : (part T cs.toArray off).run P w = .ok (mkv ag ((cs.drop off).take n)) w := by
  unfold part
  rw [Sem.run_bind, run_isAgg' ht]
  cases ag with
  | true =>
    simp only [Result.andThen, if_true, Sem.run_bind, run_sizeOf' ht, Sem.run_pure, mkv]
    congr 2
    apply Array.ext'
    simp only [Array.toList_extract, List.extract_eq_take_drop, Nat.add_sub_cancel_left]
  | false =>
    have h1 := hn rfl
    subst h1
    simp only [Result.andThen, List.getElem?_toArray]
    have h0 : off < cs.length := by simp at hl; omega
    rw [List.getElem?_eq_getElem h0, List.drop_eq_getElem_cons h0]
    simp only [List.take_succ_cons, List.take_zero, mkv, List.headD_cons]
    rfl

theorem v_index {n m : Nat} {T E : TypeId} {x y : Operand} {ag : Bool} {cs : List Value} {k : IntKind} {i : Int} {v : Value} (hop : o.op = .index T x y) (ha : arrayOf P T = some (n, E)) (ht : tyOf P E = some (ag, m)) (hn : ag = false → m = 1)
    (hx : ev s.L x = some (.agg cs.toArray)) (hy : ev s.L y = some (.int k i)) (h0 : 0 ≤ i) (h1 : i < n) (hl : ((cs.drop (i.toNat * m)).take m).length = m) (hv : mkv ag ((cs.drop (i.toNat * m)).take m) = v) : OpV P e o s v :=
  ⟨(by rw [hop]; intro c; simp), (fun γ a w hh => by
    unfold arrayOf at ha
    split at ha
    · rename_i n' E' hfs
      simp at ha
      obtain ⟨rfl, rfl⟩ := ha
      simp only [execOp, hop, hh.eval hx, hh.eval hy, Instr.index, asIntOf, Sem.run_bind, Sem.run_pure, Result.andThen_ok, run_und' hfs, h0, h1, and_self, if_true, run_sizeOf' ht, run_part ht hn cs _ hl, hv, Sem.run_ite]
    · cases ha)⟩

theorem v_field {f off n : Nat} {S T : TypeId} {x : Operand} {ag : Bool} {cs : List Value} {v : Value} (hop : o.op = .field S x f) (hf : fieldTy P S f = some (off, T)) (ht : tyOf P T = some (ag, n)) (hn : ag = false → n = 1)
    (hx : ev s.L x = some (.agg cs.toArray)) (hl : ((cs.drop off).take n).length = n) (hv : mkv ag ((cs.drop off).take n) = v) : OpV P e o s v :=
  ⟨(by rw [hop]; intro c; simp), (fun γ a w hh => by
    unfold fieldTy at hf
    split at hf
    · rename_i fs hfs
      split at hf
      · rename_i fd hfd
        simp at hf
        obtain ⟨rfl, rfl⟩ := hf
        simp only [execOp, hop, hh.eval hx, Instr.field, asAgg, Sem.run_bind, Sem.run_pure, Result.andThen_ok, run_und' hfs, hfd, run_part ht hn cs _ hl, hv]
      · cases hf
    · cases hf)⟩

/-! ### Structs of whole numbers, compared -/
/-- The places of a struct's fields, if all are whole numbers. -/
def intFields (P : Program) (T : TypeId) : Option (List Nat) :=
  match P.underlying T with
  | some (.struct fs) => if P.stoodInHeld T then none else fs.toList.mapM fun f =>
      match P.underlying f.type, tyOf P f.type with
      | some (.int _), some (false, 1) => if f.name = "_" then none else some f.offset
      | _, _ => none
  | _ => none

def eqCells (ofs : List Nat) (xs ys : List Value) : Option Bool :=
  match ofs with
  | [] => some true
  | o :: ofs => match xs[o]?, ys[o]? with
    | some (.int k a), some (.int k' b) => if k = k' then (if a == b then eqCells ofs xs ys else some false) else none
    | _, _ => none

theorem run_equal_ints {T : TypeId} {ofs : List Nat} (hT : intFields P T = some ofs) {xs ys : List Value} {b : Bool} (hb : eqCells ofs xs ys = some b) (w : World) : (Op.equal T (.agg xs.toArray) (.agg ys.toArray)).run P w = .ok b w := by
  have : ∀ d, (Op.equalIn (d + 2) T (.agg xs.toArray) (.agg ys.toArray)).run P w = .ok b w := by
    intro d
    unfold intFields at hT
    split at hT
    · rename_i fs hfs
      split at hT
      · cases hT
      · rename_i hst
        rw [Op.equalIn, Sem.run_bind, run_und' hfs]
        simp only [Result.andThen_ok, Sem.run_bind, run_program, hst, if_false, Bool.false_eq_true]
        rw [← Array.toArray_toList (xs := fs)]
        generalize fs.toList = l at hT
        rw [List.forIn_toArray]
        induction l generalizing ofs with
        | nil =>
          simp at hT
          subst hT
          simp [eqCells] at hb
          subst hb
          rfl
        | cons f l ih =>
          rw [List.mapM_cons] at hT
          obtain ⟨q, hq, hT2⟩ := Option.bind_eq_some_iff.1 hT
          obtain ⟨qs, hqs, h3⟩ := Option.bind_eq_some_iff.1 hT2
          simp at h3
          subst h3
          split at hq
          · rename_i kk hu htt
            split at hq
            · cases hq
            · rename_i hnm
              simp at hq
              subst hq
              rw [eqCells] at hb
              split at hb
              · rename_i k x k' y hx hy
                split at hb
                · rename_i hkk
                  subst hkk
                  have hxl : f.offset < xs.length := (List.getElem?_eq_some_iff.1 hx).1
                  have hyl : f.offset < ys.length := (List.getElem?_eq_some_iff.1 hy).1
                  have px := run_part (w := w) htt (fun _ => rfl) xs f.offset (by simp; omega)
                  have py := run_part (w := w) htt (fun _ => rfl) ys f.offset (by simp; omega)
                  have ex : mkv false ((xs.drop f.offset).take 1) = .int k x := by
                    rw [List.drop_eq_getElem_cons hxl]; simp only [List.take_succ_cons, List.take_zero, mkv, List.headD_cons]; rw [List.getElem?_eq_getElem hxl] at hx; simpa using hx
                  have ey : mkv false ((ys.drop f.offset).take 1) = .int k y := by
                    rw [List.drop_eq_getElem_cons hyl]; simp only [List.take_succ_cons, List.take_zero, mkv, List.headD_cons]; rw [List.getElem?_eq_getElem hyl] at hy; simpa using hy
                  rw [ex] at px
                  rw [ey] at py
                  have hcmp : (Op.equalIn (d + 1) f.type (.int k x) (.int k y)).run P w = .ok (x == y) w := by
                    simp only [Op.equalIn, Sem.run_bind, run_und' hu, Result.andThen_ok, if_true, Sem.run_pure]
                  rw [List.forIn_cons]
                  simp only [ne_eq, hnm, not_false_eq_true, if_true, Sem.run_bind, px, py, Result.andThen_ok, hcmp, Sem.run_ite]
                  cases hxy : (x == y) with
                  | true =>
                    simp only [hxy, if_true] at hb
                    simp only [Bool.not_true, Bool.false_eq_true, if_false, Sem.run_pure, Result.andThen_ok]
                    exact ih hb hqs
                  | false =>
                    simp only [hxy, Bool.false_eq_true, if_false, Option.some.injEq] at hb
                    subst hb
                    simp
                · cases hb
              · cases hb
          · cases hq
    · cases hT
  exact this 9998
end
end Go.Proofs.Ythgeodagikmpjaa.L
