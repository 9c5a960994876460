/- Literal slices that are owned; bytes that are converted to bytes (they are marked); cap of none. -/
import Derived.Test.YthgeodagikmpjaaL18
namespace Go.Proofs.Ythgeodagikmpjaa.L
open Go Go.Proofs.Ythgeodagikmpjaa.Pu
set_option linter.unusedVariables false

section
variable {P : Program} {r : Option Nat} {e : Env} {o : Oper} {Kn : St → Prop} {s : St} {γ γ' : Gh} {w w' : World} {a : Act}
variable {α : Type} {rp : Rep α} {E : TypeId} {A : Option Addr} {n c k : Nat} {ys : List α}

theorem v_cap {x : Operand} {T : TypeId} (hop : o.op = .call { callee := .builtin .cap, args := #[x], argTypes := #[T] }) (hT : sliceOf P T = some E) (hx : ev s.L x = some (.slice A n c)) : OpV P e o s (.int .i64 c) :=
  ⟨(by rw [hop]; intro c; simp), (fun γ a w hh => by
    simp [execOp, hop, hh.eval hx, resolve, invoke, builtin, Builtin.cap_, run_und' (sliceOf_und hT), goInt])⟩

/-- A block becomes an owned slice. -/
theorem Holds.newA (hh : Holds e s γ a w) (cs : List Value) (E : TypeId) (n : Nat) (hl : cs.length = n * rp.sz) (hy : ys.length = n) (hn : n ≤ top) (hr : ∀ γ w, Row rp γ w ys cs) : Holds e (s.cm (arr rp E (some ⟨w.heap.size, 0, none⟩) n n ys)) γ a (w.alloc (.cells cs.toArray E)) := by
  have h1 := hh.new cs E
  have hc := h1.hm.all _ List.mem_cons_self
  have hsep := List.pairwise_cons.1 h1.hm.sep
  exact { size := h1.size, slots := h1.slots, defers := h1.defers, facts := h1.facts, fr := h1.fr, ok := h1.ok
          hm := HM.cons ⟨fun d hd => h1.hm.all d (List.mem_cons_of_mem _ hd), hsep.2⟩ ⟨hy, Nat.le_refl _, hn, .inr ⟨_, _, rfl, hc, hl, by rw [← hl, List.take_length]; exact hr _ _⟩⟩ (fun d hd b hb => by
            obtain ⟨off, sp, hA⟩ := hb
            cases hA
            exact hsep.1 d hd _ rfl)
          own := fun d hd b hb => by
            rcases List.mem_cons.1 hd with q | q
            · subst q
              obtain ⟨off, sp, hA⟩ := hb
              cases hA
              exact h1.own _ List.mem_cons_self _ rfl
            · exact h1.own d (List.mem_cons_of_mem _ q) b hb }

theorem op_buildSliceA {d len : Nat} {T : TypeId} {ag : Bool} {ps : List (Nat × Operand)} {vs zc out : List Value} (ho : o.dst = some d) (hN : d < e.N) (hop : o.op = .buildSlice T len ps.toArray) (hT : sliceOf P T = some E) (ht : tyOf P E = some (ag, rp.sz)) (hz : zeroOf P E = some zc)
    (hps : ps.map (fun p => ev s.L p.2) = vs.map some) (hout : fillL (fun i => some (i * rp.sz, rp.sz)) (if len * rp.sz = 0 then [] else zrow zc (len * rp.sz)) ((ps.map (·.1)).zip (vs.map fun v => v.cells.toList)) = some out) (hbig : len * rp.sz ≤ 16777216) (hbig2 : len ≤ big) (hlen : ys.length = len)
    (hrow : ∀ γ w, Row rp γ w ys out) (h : ∀ A, Kn ((s.cm (arr rp E A len len ys)).put d (.slice A len len))) : OpTr P r e o Kn s := by
  intro γ a w hh K Q hK
  refine ⟨fun f _ => fen_fn r f, ?_⟩
  obtain ⟨z, hz1, hz2⟩ := run_zeroValue' (w := w) hz
  have hfill := fill_list (fun i => some (i * rp.sz, rp.sz)) ((ps.map (·.1)).zip vs) _ out (by rw [zip_cells]; exact hout)
  have hpe : (ps.toArray.map fun p => (p.1, a.eval p.2)) = ((ps.map (·.1)).zip vs).toArray := by rw [List.map_toArray, parts_eval hh hps]
  have hlim : ¬ (len * rp.sz > 2 ^ 24) := by omega
  have hcells : ((Array.range (len * rp.sz)).map fun j => zc.toArray[j % zc.toArray.size]!) = (zrow zc (len * rp.sz)).toArray := by
    apply Array.ext'
    simp [zrow]
  have hrun : (execOp a.eval o).run P w = .ok (.value (.slice (some ⟨w.heap.size, 0, none⟩) len len)) (w.alloc (.cells out.toArray E)) := by
    simp only [execOp, hop, Instr.buildSlice, Sem.run_bind, run_und' (sliceOf_und hT), Result.andThen_ok, run_sizeOf' ht, hlim, if_false, Sem.run_ite]
    by_cases h0 : len * rp.sz = 0
    · simp only [h0, if_true, Sem.run_pure, Result.andThen_ok]
      rw [if_pos h0] at hfill
      have hf' : Instr.fill (fun i => some (i * rp.sz, rp.sz)) ((Array.range 0).map fun j => (#[] : Array Value)[j % (#[] : Array Value).size]!) ((ps.map (·.1)).zip vs) = some out.toArray := by
        have he : ((Array.range 0).map fun j => (#[] : Array Value)[j % (#[] : Array Value).size]!) = #[] := by apply Array.ext'; simp
        rw [he]; exact hfill
      simp only [hpe]
      rw [hf']
      simp [newRow]
    · simp only [h0, if_false, hz2, Result.andThen_ok, Sem.run_pure, hz1, hcells]
      rw [if_neg h0] at hfill
      simp only [hpe]
      rw [hfill]
      simp [newRow]
  rw [semAt_eq _ _ _ (by rw [hop]; intro c; simp), hrun, Oper.uponIn_value, ho]
  have hll := (hrow γ w).len
  exact hK _ γ _ _ (h (some ⟨w.heap.size, 0, none⟩)) ((hh.newA out E len (by rw [hll, hlen]) hlen (by simp only [big] at hbig2; simp only [top]; omega) hrow).put d _ hN)

/-- Bytes as bytes: what follows them is marked; they are sealed. -/
theorem op_convSame {d : Nat} {T e' : TypeId} {x : Operand} (ho : o.dst = some d) (hN : d < e.N) (hop : o.op = .convert T T x) (hT : P.underlying T = some (.slice e')) (he : P.underlying e' = some (.int .u8)) (hx : ev s.L x = some (.slice A n c)) (hk : s.M[k]? = some (arr rp E A n c ys)) (hn0 : n ≠ 0)
    (h : Kn (({ s with M := s.M.eraseIdx k, F := s.F ++ [slF rp A c ys] } : St).put d (.slice A n c))) : OpTr P r e o Kn s := by
  intro γ a w hh K Q hK
  refine ⟨fun f _ => fen_fn r f, ?_⟩
  have hp := hh.perm (perm_front hk)
  obtain ⟨h1, h2, h3, h4⟩ := hp.hm.all _ List.mem_cons_self
  have hsep := List.pairwise_cons.1 hp.hm.sep
  rcases h4 with ⟨rfl, h0, _⟩ | ⟨b, cur, rfl, hc, hl, hr⟩
  · exact absurd h0 hn0
  · have hblt : b < w.heap.size := Chunk.lt _ hc rfl
    have hsh : w.shape? b = some (E, cur.length) := by
      unfold World.shape?
      rw [hc.1]
      simp
    have hfz : w.freeze ⟨b, cur.length, none⟩ 1 = { w with heap := w.heap.modify b fun
        | .cells c elem (lo, hi) => .cells c elem (if lo == hi then (cur.length, cur.length + 1) else (min lo cur.length, max hi (cur.length + 1)))
        | o => o } := rfl
    have hrun : (execOp a.eval o).run P w = .ok (.value (.slice (some ⟨b, 0, none⟩) n c)) (w.freeze ⟨b, cur.length, none⟩ 1) := by
      simp [execOp, hop, hh.eval hx, convert, run_underlying hT, run_underlying he, markStringish, hsh]
    rw [semAt_eq _ _ _ (by rw [hop]; intro c; simp), hrun, Oper.uponIn_value, ho]
    generalize hw : w.freeze ⟨b, cur.length, none⟩ 1 = w1
    have hoth : ∀ x, x ≠ b → w1.heap[x]? = w.heap[x]? := fun x hx => by
      rw [← hw, hfz]
      show (w.heap.modify b _)[x]? = _
      rw [Array.getElem?_modify, if_neg (fun q => hx q.symm)]
    have hsame : w1.heap[b]? = some (.cells cur.toArray E (cur.length, cur.length + 1)) := by
      rw [← hw, hfz]
      show (w.heap.modify b _)[b]? = _
      rw [Array.getElem?_modify, if_pos rfl, hc.1]
      rfl
    have hsize : w1.heap.size = w.heap.size := by
      rw [← hw, hfz]
      show (w.heap.modify b _).size = _
      rw [Array.size_modify]
    have fr : Fr (· = b) γ w (upd γ b (n * rp.sz)) w1 := {
      le := ⟨by omega, fun x => by
        by_cases hx : x = b
        · subst hx; rw [hc.2]; exact Nat.zero_le _
        · rw [upd_other _ _ hx]; exact Nat.le_refl _, fun x j hj => by
        have hx : x ≠ b := fun q => by subst q; rw [hc.2] at hj; omega
        exact World.cell?_of_block (hoth x hx)⟩
      os := by rw [← hw]; rfl
      tape := by rw [← hw]; rfl
      output := by rw [← hw]; rfl
      block := fun x _ hx => hoth x hx
      gh := fun x _ hx => upd_other _ _ hx }
    have hm0 : HM γ w (s.M.eraseIdx k) := ⟨fun d hd => hp.hm.all d (List.mem_cons_of_mem _ hd), hsep.2⟩
    have hm1 := hm0.keep fr (fun d hd q hq hqb => hsep.1 d hd b ⟨_, _, rfl⟩ (hqb ▸ hq))
    have hst := hp.step fr (fun x hx => by subst hx; exact hp.own _ List.mem_cons_self x ⟨_, _, rfl⟩) hm1 (fun d hd => hp.own d (List.mem_cons_of_mem _ hd)) (fun x hx => by rw [upd_other _ _ (by omega)]; exact hp.ok x (by omega))
    refine hK _ _ _ _ h (Holds.put (s := { s with M := s.M.eraseIdx k, F := s.F ++ [slF rp (some ⟨b, 0, none⟩) c ys] }) (hst.addF (f := slF rp (some ⟨b, 0, none⟩) c ys) ⟨by omega, by omega, (fun q => by cases q), fun q hq => ?_⟩) d _ hN)
    cases hq
    refine ⟨fun _ => rfl, cur.take (n * rp.sz), hr.mono fr.le, fun j v hv => ?_⟩
    rw [List.getElem?_take] at hv
    split at hv
    · rename_i hj
      refine ⟨?_, by rw [upd_same]; simp only [Nat.zero_add]; exact hj⟩
      simp only [Nat.zero_add, World.cell?, hsame]
      simpa using hv
    · cases hv

/-- append(none, make(n)...), still owned. -/
theorem run_append_zeros {t t2 ty : TypeId} {i : TypeInfo} {z : Value} {kd kd2 : IntKind} (ht : P.underlying t = some (.slice E)) (ht2 : P.underlying t2 = some (.int kd2)) (hi : P.info? E = some i) (hz : i.zero = some z) (m : Nat) (h0 : 0 < m) (hsz : 0 < i.size) (h63 : (m : Int) ≤ 9223372036854775807) (h48 : m * i.bytes ≤ 281474976710656) :
    (Builtin.append_ #[t, t2] ty #[.slice none 0 0, .int kd (m : Int)]).run P w =
      .ok (.slice (some ⟨w.heap.size, 0, none⟩) m (grownCap w m 0 E)) (w.drew.alloc (.cells (Builtin.zeroCells z.cells m ++ Builtin.zeroCells z.cells (grownCap w m 0 E - m)) E)) := by
  have hn : m ≠ 0 := by omega
  have wl : IntKind.i64.wrap (m : Int) = m := by rw [IntKind.wrap_i64]; omega
  have h63' : ¬ (9223372036854775807 < (m : Int)) := by omega
  have h48' : ¬ (281474976710656 < Builtin.nextslicecap m 0 * i.bytes) := by rw [nextslicecap_zero h0]; omega
  have h48i : ¬ (281474976710656 < (m : Int) * (i.bytes : Int)) := by
    have h1 := Int.ofNat_le.2 h48
    rw [Int.natCast_mul] at h1
    omega
  have hneg : ¬ (m : Int) < 0 := by omega
  have hms : ¬ (m * i.size = 0) := by
    have := Nat.mul_pos h0 hsz
    omega
  have hms2 : ¬ (m = 0 ∨ i.size = 0) := by omega
  simp [Builtin.append_, run_underlying ht, run_underlying ht2, sizeOf, typeInfo, zeroValue, hi, hz, asInt, asIntOf, wl, hn, hneg, h63', h48', h48i, hms, hms2, Question.forced, run_firstCells_none, newRow, grownCap]
theorem op_appendZ {d by_ m : Nat} {T T2 : TypeId} {x y : Operand} {ag : Bool} {kd kd2 : IntKind} {l : Int} {z : α} {zc : List Value} (ho : o.dst = some d) (hN : d < e.N)
    (hop : o.op = .call { callee := .builtin .append, args := #[x, y], argTypes := #[T, T2] }) (hT : sliceOf P T = some E) (hT2 : P.underlying T2 = some (.int kd2)) (ht : tyOf P E = some (ag, rp.sz)) (hz : zeroOf P E = some zc) (hzl : zc.length = rp.sz) (hsz0 : 0 < rp.sz) (hby : bytesOf P E = some by_)
    (hx : ev s.L x = some (.slice none 0 0)) (hy : ev s.L y = some (.int kd l)) (hl : 0 < l) (hm : l.toNat = m) (hb : m * by_ ≤ 140737488355328 ∧ m ≤ 140737488355328) (hR : ∀ γ w, rp.R γ w z zc)
    (h : ∀ A' c', Kn ((s.cm (arr rp E A' m c' (List.replicate m z))).put d (.slice A' m c'))) : OpTr P r e o Kn s := by
  intro γ a w hh K Q hK
  refine ⟨fun f _ => fen_fn r f, ?_⟩
  obtain ⟨i, hi, hsz⟩ := tyOf_info ht
  obtain ⟨i', zv, hi', hz', hzc⟩ := zeroOf_info hz
  obtain ⟨i'', hi'', hby'⟩ := bytesOf_info hby
  rw [hi] at hi' hi''
  cases hi'
  cases hi''
  have hlm : l = (m : Int) := by omega
  have hr := run_append_zeros (P := P) (w := w) (kd := kd) (ty := o.type) (sliceOf_und hT) hT2 hi hz' m (by omega) (by omega) (by omega) (by rw [hby']; omega)
  have hge := grownCap_ge w m 0 E
  generalize grownCap w m 0 E = cap at hr hge
  have hzs : zv.cells.size = rp.sz := by rw [← hzl, ← hzc]; simp
  have hzc2 : ∀ q, Builtin.zeroCells zv.cells q = ((List.replicate q zc).flatten).toArray := fun q => by
    apply Array.ext'
    rw [← hzc, ← range_mul zv.cells rp.sz hzs q]
    simp [Builtin.zeroCells, hzs]
  have hcells : Builtin.zeroCells zv.cells m ++ Builtin.zeroCells zv.cells (cap - m) = ((List.replicate m zc).flatten ++ (List.replicate (cap - m) zc).flatten).toArray := by rw [hzc2, hzc2]; simp
  rw [hcells] at hr
  have hrun : (execOp a.eval o).run P w = .ok (.value (.slice (some ⟨w.heap.size, 0, none⟩) m cap)) (w.drew.alloc (.cells ((List.replicate m zc).flatten ++ (List.replicate (cap - m) zc).flatten).toArray E)) := by
    subst hlm
    simp only [execOp, hop, resolve, invoke, builtin, Sem.run_bind, Sem.run_pure, Result.andThen_ok, List.map_toArray, List.map_cons, List.map_nil, hh.eval hx, hh.eval hy, hr]
  rw [semAt_eq _ _ _ (by rw [hop]; intro c; simp), hrun, Oper.uponIn_value, ho]
  have hd : Holds e s γ a w.drew := { size := hh.size, slots := hh.slots, defers := hh.defers, facts := fun f hf => Fact.mono f (⟨Nat.le_refl _, fun _ => Nat.le_refl _, fun _ _ _ => rfl⟩ : Le γ w γ w.drew) (hh.facts f hf), fr := ⟨⟨hh.fr.le.size, hh.fr.le.up, hh.fr.le.cell⟩, hh.fr.os, hh.fr.tape, hh.fr.output, hh.fr.block, hh.fr.gh⟩, ok := hh.ok, hm := ⟨fun d hd => Chunk.stable (γ := γ) (w := w) (γ' := γ) (w' := w.drew) d (fun _ _ => ⟨rfl, rfl⟩) ⟨Nat.le_refl _, fun _ => Nat.le_refl _, fun _ _ _ => rfl⟩ (hh.hm.all d hd), hh.hm.sep⟩, own := hh.own }
  have hn := hd.new ((List.replicate m zc).flatten ++ (List.replicate (cap - m) zc).flatten) E
  have hc := hn.hm.all _ List.mem_cons_self
  have hsep := List.pairwise_cons.1 hn.hm.sep
  have hl1 : ∀ q, ((List.replicate q zc).flatten).length = q * rp.sz := fun q => (row_replicate (hR γ w) q).len.trans (by rw [List.length_replicate])
  refine hK _ γ _ _ (h (some ⟨w.heap.size, 0, none⟩) cap) (Holds.put ?_ d _ hN)
  exact { size := hn.size, slots := hn.slots, defers := hn.defers, facts := hn.facts, fr := hn.fr, ok := hn.ok
          hm := HM.cons ⟨fun d hd => hn.hm.all d (List.mem_cons_of_mem _ hd), hsep.2⟩ ⟨List.length_replicate .., hge, by simp only [top]; omega, .inr ⟨_, _, rfl, hc, by rw [List.length_append, hl1, hl1, ← Nat.add_mul]; congr 1; omega, by
            rw [← hl1 m, List.take_append_of_le_length (Nat.le_refl _), List.take_length]
            exact row_replicate (hR _ _) _⟩⟩ (fun d hd b hb => by
            obtain ⟨off, sp, hA⟩ := hb
            cases hA
            exact hsep.1 d hd _ rfl)
          own := fun d hd b hb => by
            rcases List.mem_cons.1 hd with q | q
            · subst q
              obtain ⟨off, sp, hA⟩ := hb
              cases hA
              exact hn.own _ List.mem_cons_self _ rfl
            · exact hn.own d (List.mem_cons_of_mem _ q) b hb }

/-- Is a slice nobody's? -/
theorem run_equal_slnil {T E' : TypeId} (hT : P.underlying T = some (.slice E')) (A : Option Addr) (n c : Nat) (w : World) : (Op.equal T (.slice A n c) (.slice none 0 0)).run P w = .ok A.isNone w := by
  have : ∀ d, (Op.equalIn (d + 1) T (.slice A n c) (.slice none 0 0)).run P w = .ok A.isNone w := by
    intro d
    cases A <;> simp only [Op.equalIn, Sem.run_bind, run_und' hT, Result.andThen, Sem.run_pure, Option.isNone]
  exact this 9999
theorem v_slnil {T T' E' : TypeId} {x y : Operand} (hop : o.op = .binOp .eql T x y T') (hT : P.underlying T = some (.slice E')) (hx : ev s.L x = some (.slice A n c)) (hy : ev s.L y = some (.slice none 0 0)) : OpV P e o s (.bool A.isNone) :=
  ⟨(by rw [hop]; intro c; simp), (fun γ a w hh => by
    simp only [execOp, hop, hh.eval hx, hh.eval hy]
    simp [eqGuard, binOp, run_equal_slnil hT])⟩
theorem nil_pre {k : Nat} (hk : s.F[k]? = some (slF rp A c ys)) (hA : A = none) : Pre s (ys = []) := fun γ w hF _ => (hF _ (List.mem_of_getElem? hk) : SlP rp γ w A c ys).nil hA
theorem isN {A : Option Addr} (h : A = none) : A.isNone = true := by rw [h]; rfl
theorem isS {A : Option Addr} (h : ¬ A = none) : A.isNone = false := by cases A with
  | none => exact absurd rfl h
  | some a => rfl

/-- What is promised outlives a call that leaves all chunks as they are. -/
theorem kp_cc {d : Nat} {v : Value} {M' : List Chunk} {F' : List Fact} (ks : List Nat) (hd : s.L.lookup d = none) (hn : ks.Nodup) (hM : ks.map (M'[·]?) = s.M.map some) : Imp e ((s.cc M' F').put d v) s := fun γ a w hh => by
  have h1 : Holds e (s.cc M' F') γ a w := Holds.putBack (s := s.cc M' F') (X := s.cc M' F') rfl hd (List.Sublist.refl _) (fun _ h => h) rfl γ a w hh
  exact { size := h1.size, slots := h1.slots, defers := h1.defers, hm := h1.hm.places hn hM, own := fun c hc => h1.own c (mem_of_places hM c hc), facts := fun f hf => h1.facts f (List.mem_append_left _ hf), fr := h1.fr, ok := h1.ok }
end
end Go.Proofs.Ythgeodagikmpjaa.L
