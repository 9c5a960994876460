/- Slices that grow; new structs and slices; parts of slices. -/
import Derived.Test.YthgeodagikmpjaaL4
namespace Go.Proofs.Ythgeodagikmpjaa.L
open Go Go.Proofs.Ythgeodagikmpjaa.Pu
set_option linter.unusedVariables false

def bytesOf (P : Program) (T : TypeId) : Option Nat := (P.info? T).map (·.bytes)

/-- A slice to which may be appended: its block, if it is owned; else it is full. -/
def grow (E : TypeId) (sz : Nat) (v : Value) (n : Nat) (ob : Option Nat) : Chunk where
  fp b := ob = some b
  p γ w := (ob = none ∧ ∃ A, v = .slice A n n) ∨ ∃ b cap cur, ob = some b ∧ v = .slice (some ⟨b, 0, none⟩) n cap ∧ w.heap[b]? = some (.cells cur E (0, 0)) ∧ n ≤ cap ∧ cur.size = cap * sz ∧ γ b = n * sz
  lt := fun h hb => by
    rcases h with ⟨h, _⟩ | ⟨b, cap, cur, h, _, hh, _⟩
    · rw [h] at hb; cases hb
    · rw [h] at hb; cases hb; exact (Array.getElem?_eq_some_iff.1 hh).1
  stable := fun hs _ h => by
    rcases h with h | ⟨b, cap, cur, h, hv, hh, hn, hc, hg⟩
    · exact .inl h
    · exact .inr ⟨b, cap, cur, h, hv, (hs b h).1.trans hh, hn, hc, (hs b h).2.trans hg⟩

section
variable {P : Program} {r : Option Nat} {e : Env} {o : Oper} {Kn : St → Prop} {s : St} {γ γ' : Gh} {w w' : World} {a : Act}

theorem run_append_same {t ty E : TypeId} {i : TypeInfo} (ht : P.underlying t = some (.slice E)) (hi : P.info? E = some i) (A B : Option Addr) (n cap c : Nat) (hn : n ≤ cap) :
    (Builtin.append_ #[t, t] ty #[.slice A n cap, .slice B 0 c]).run P w = .ok (.slice A n cap) w := by
  have hf : (Builtin.firstCells i.size 0 (.slice B 0 c)).run P w = .ok #[] w := by
    cases B <;> simp [Builtin.firstCells, loadCells, loadCellsFrom]
  cases A <;> simp [Builtin.append_, run_underlying ht, sizeOf, typeInfo, hi, Builtin.lenOf, hn, hf, storeCells]

/-- What an append comes to. -/
theorem append_step {α : Type} {rp : Rep α} {t ty E : TypeId} {i : TypeInfo} {z : Value} {xs ys : List α} {A B : Option Addr} {cx cy : Nat} {ob : Option Nat} (ht : P.underlying t = some (.slice E)) (hi : P.info? E = some i) (hz : i.zero = some z) (hsz : i.size = rp.sz) (hzs : z.cells.size = rp.sz)
    (hc : (grow E rp.sz (.slice A xs.length cx) xs.length ob).p γ w) (hx : SlP rp γ w A cx xs) (hy : SlP rp γ w B cy ys) (hb : (xs.length + ys.length) * i.bytes ≤ big) (hb2 : xs.length + ys.length ≤ big) (hok : GhOk γ w) :
    ∃ A' c' ob' γ' w', (Builtin.append_ #[t, t] ty #[.slice A xs.length cx, .slice B ys.length cy]).run P w = .ok (.slice A' (xs ++ ys).length c') w' ∧ (grow E rp.sz (.slice A' (xs ++ ys).length c') (xs ++ ys).length ob').p γ' w' ∧
      SlP rp γ' w' A' c' (xs ++ ys) ∧ Fr (fun b => ob = some b) γ w γ' w' ∧ (∀ b, ob' = some b → ob = some b ∨ w.heap.size ≤ b) ∧ GhOk γ' w' := by
  by_cases hm : ys.length = 0
  · have : ys = [] := List.eq_nil_of_length_eq_zero hm
    subst this
    refine ⟨A, cx, ob, γ, w, ?_, ?_, ?_, Fr.refl _ _ _, fun b hb => .inl hb, hok⟩
    · simp only [List.append_nil, List.length_nil]
      exact run_append_same ht hi A B xs.length cx cy hx.le
    · simpa using hc
    · simpa using hx
  · obtain ⟨ad, hB⟩ : ∃ ad, B = some ad := by
      cases B with
      | none => exact absurd (by rw [hy.nil rfl]; rfl) hm
      | some ad => exact ⟨ad, rfl⟩
    subst hB
    obtain ⟨hspot', dy, hry, hcy⟩ := hy.row ad rfl
    have hspot : ad.spot = none := hspot' (fun q => hm (by rw [q]; rfl))
    have hadd : ∀ (q : Addr), q.spot = none → ∀ j, q.add j = ⟨q.block, q.off + j, none⟩ := by
      intro q hq j
      obtain ⟨qb, qo, qs⟩ := q
      simp at hq
      subst hq
      exact add_off _ _ _
    have hly : dy.length = ys.length * i.size := by rw [hry.len, hsz]
    have hny : ∀ j v, dy[j]? = some v → w.cell? (ad.add j) = some v := fun j v hv => by rw [hadd ad hspot]; exact (hcy j v hv).1
    have hlen : (xs ++ ys).length = xs.length + ys.length := List.length_append
    simp only [big] at hb hb2
    have h63 : ((xs.length + ys.length : Nat) : Int) ≤ 9223372036854775807 := by omega
    -- what is common to the two ways that lay a new block
    have fresh : ∀ (dx : List Value) (old : Nat), Row rp γ w xs dx →
        (grow E rp.sz (.slice (some ⟨w.heap.size, 0, none⟩) (xs ++ ys).length (grownCap w (xs.length + ys.length) old E)) (xs ++ ys).length (some w.heap.size)).p
          (upd γ w.heap.size ((xs ++ ys).length * rp.sz)) (w.drew.alloc (.cells (dx.toArray ++ dy.toArray ++ Builtin.zeroCells z.cells (grownCap w (xs.length + ys.length) old E - (xs.length + ys.length))) E)) ∧
        SlP rp (upd γ w.heap.size ((xs ++ ys).length * rp.sz)) (w.drew.alloc (.cells (dx.toArray ++ dy.toArray ++ Builtin.zeroCells z.cells (grownCap w (xs.length + ys.length) old E - (xs.length + ys.length))) E)) (some ⟨w.heap.size, 0, none⟩) (grownCap w (xs.length + ys.length) old E) (xs ++ ys) ∧
        Fr (fun b => ob = some b) γ w (upd γ w.heap.size ((xs ++ ys).length * rp.sz)) (w.drew.alloc (.cells (dx.toArray ++ dy.toArray ++ Builtin.zeroCells z.cells (grownCap w (xs.length + ys.length) old E - (xs.length + ys.length))) E)) ∧
        GhOk (upd γ w.heap.size ((xs ++ ys).length * rp.sz)) (w.drew.alloc (.cells (dx.toArray ++ dy.toArray ++ Builtin.zeroCells z.cells (grownCap w (xs.length + ys.length) old E - (xs.length + ys.length))) E)) := by
      intro dx old hrx
      have hge := grownCap_ge w (xs.length + ys.length) old E
      have hok' : GhOk γ w.drew := hok
      have fr0 := Fr.alloc hok' (dx.toArray ++ dy.toArray ++ Builtin.zeroCells z.cells (grownCap w (xs.length + ys.length) old E - (xs.length + ys.length))) E ((xs ++ ys).length * rp.sz)
      have fr : Fr (fun b => ob = some b) γ w (upd γ w.heap.size ((xs ++ ys).length * rp.sz)) (w.drew.alloc (.cells (dx.toArray ++ dy.toArray ++ Builtin.zeroCells z.cells (grownCap w (xs.length + ys.length) old E - (xs.length + ys.length))) E)) :=
        ⟨⟨fr0.le.size, fr0.le.up, fr0.le.cell⟩, fr0.os, fr0.tape, fr0.output, fun b hb _ => fr0.block b hb (fun q => q), fun b hb _ => fr0.gh b hb (fun q => q)⟩
      refine ⟨.inr ⟨w.heap.size, _, _, rfl, rfl, heap_alloc_new w.drew _, by rw [hlen]; exact hge, ?_, upd_same _ _ _⟩, ⟨by rw [hlen]; exact hge, by rw [hlen]; simp only [top]; omega, (fun q => by cases q), fun q hq => ?_⟩, fr, hok'.alloc _ _⟩
      · simp only [Array.size_append, List.size_toArray, size_zeroCells, hzs, hrx.len, hry.len, ← Nat.add_mul]
        congr 1
        omega
      · cases hq
        refine ⟨fun _ => rfl, dx ++ dy, (hrx.append hry).mono fr.le, fun j v hv => ?_⟩
        have hj : j < (dx ++ dy).length := (List.getElem?_eq_some_iff.1 hv).1
        have hll : (dx ++ dy).length = (xs ++ ys).length * rp.sz := by rw [List.length_append, hrx.len, hry.len, hlen, Nat.add_mul]
        refine ⟨?_, by rw [upd_same]; simp only [Nat.zero_add]; omega⟩
        have := World.cell?_alloc_new w.drew (dx.toArray ++ dy.toArray ++ Builtin.zeroCells z.cells (grownCap w (xs.length + ys.length) old E - (xs.length + ys.length))) E (0 + j)
        rw [World.size_drew] at this
        rw [this, Nat.zero_add, Array.getElem?_append_left (by simpa using hj)]
        simpa using hv
    rcases hc with ⟨rfl, A0, hv⟩ | ⟨b, cap, cur, rfl, hv, hh, hn, hcs, hg⟩
    · -- a full slice (or none)
      cases hv
      cases A with
      | none =>
        have hx0 := hx.nil rfl
        subst hx0
        have hr := run_append_nil (P := P) w t ty E i z ht hi hz ad ys.length cy dy hly hny (by omega) (by simpa using h63) (by simp at hb; omega)
        obtain ⟨f1, f2, f3, f4⟩ := fresh [] 0 .nil
        simp only [List.length_nil, Nat.zero_add, List.nil_append, Array.empty_append] at f1 f2 f3 f4 hr ⊢
        exact ⟨_, _, _, _, _, hr, f1, f2, f3, fun b hb => .inr (by cases hb; exact Nat.le_refl _), f4⟩
      | some ax =>
        obtain ⟨hsx', dx, hrx, hcx⟩ := hx.row ax rfl
        have hr := run_append_grow (P := P) w t ty E i z ht hi hz ax xs.length xs.length dx (by rw [hrx.len, hsz]) (fun j v hv => by
          have hne : xs ≠ [] := fun q => by subst q; have := hrx.len; simp at this; subst this; simp at hv
          rw [hadd ax (hsx' hne)]; exact (hcx j v hv).1) ad ys.length cy dy hly hny (by omega) h63 (growslice_fits (by omega) hb)
        obtain ⟨f1, f2, f3, f4⟩ := fresh dx xs.length hrx
        rw [← hlen] at hr f1 f2 f3 f4
        exact ⟨_, _, _, _, _, hr, f1, f2, f3, fun b hb => .inr (by cases hb; exact Nat.le_refl _), f4⟩
    · cases hv
      obtain ⟨_, dx, hrx, hcx⟩ := hx.row _ rfl
      by_cases hroom : xs.length + ys.length ≤ cx
      · have hfit : xs.length * i.size + dy.length ≤ cur.size := by rw [hly, hcs, hsz, ← Nat.add_mul]; exact Nat.mul_le_mul_right _ hroom
        have hr := run_append_room (P := P) w t ty E i ht hi b xs.length cx cur hh ad ys.length cy dy hly hny hry.one hroom hfit
        have hlt : b < w.heap.size := (Array.getElem?_eq_some_iff.1 hh).1
        generalize hcur' : (cur.toList.take (xs.length * i.size) ++ dy ++ cur.toList.drop (xs.length * i.size + dy.length)).toArray = cur' at hr
        have hblk : (w.setRow b cur').heap[b]? = some (.cells cur' E (0, 0)) := setRow_heap w b cur cur' E (0, 0) hh
        have hcell : ∀ j, (w.setRow b cur').cell? ⟨b, j, none⟩ = cur'[j]? := fun j => by simp [World.cell?, hblk]
        have hsize' : cur'.size = cur.size := by rw [← hcur']; simp; omega
        have hold : ∀ j, j < xs.length * rp.sz → cur'[j]? = cur[j]? := fun j hj => by
          rw [← hcur', hsz]
          have : j < (cur.toList.take (xs.length * rp.sz)).length := by simp; rw [hsz] at hfit; omega
          rw [List.getElem?_toArray, List.append_assoc, List.getElem?_append_left this, List.getElem?_take, if_pos hj, Array.getElem?_toList]
        have fr : Fr (fun x => some b = some x) γ w (upd γ b ((xs ++ ys).length * rp.sz)) (w.setRow b cur') := {
          le := ⟨by simp, fun x => by
              by_cases hx : x = b
              · subst hx; rw [upd_same, hg, hlen]; exact Nat.mul_le_mul_right _ (Nat.le_add_right _ _)
              · rw [upd_other _ _ hx]; exact Nat.le_refl _, fun x j hj => by
              by_cases hx : x = b
              · subst hx; rw [hg] at hj; rw [hcell, hold j hj]; simp [World.cell?, hh]
              · exact World.cell?_of_block (setRow_other w b x _ hx)⟩
          os := rfl
          tape := rfl
          output := rfl
          block := fun x _ hx => setRow_other w b x _ (fun q => hx (by rw [q]))
          gh := fun x _ hx => upd_other _ _ (fun q => hx (by rw [q])) }
        rw [← hlen] at hr
        refine ⟨_, _, some b, _, _, hr, .inr ⟨b, cx, cur', rfl, rfl, hblk, by rw [hlen]; exact hroom, by rw [hsize', hcs], upd_same _ _ _⟩, ⟨by rw [hlen]; exact hroom, by rw [hlen]; simp only [top]; omega, (fun q => by cases q), fun q hq => ?_⟩, fr, fun x hx => .inl hx, fun x hx => ?_⟩
        · cases hq
          refine ⟨fun _ => rfl, dx ++ dy, (hrx.append hry).mono fr.le, fun j v hv => ?_⟩
          have hj : j < (dx ++ dy).length := (List.getElem?_eq_some_iff.1 hv).1
          have hll : (dx ++ dy).length = (xs ++ ys).length * rp.sz := by rw [List.length_append, hrx.len, hry.len, hlen, Nat.add_mul]
          refine ⟨?_, by rw [upd_same]; simp only [Nat.zero_add]; omega⟩
          show (w.setRow b cur').cell? ⟨b, 0 + j, none⟩ = some v
          rw [hcell, Nat.zero_add]
          by_cases hjx : j < dx.length
          · rw [hold j (by rw [← hrx.len]; exact hjx)]
            rw [List.getElem?_append_left hjx] at hv
            have := (hcx j v hv).1
            simpa [World.cell?, hh] using this
          · rw [List.getElem?_append_right (by omega)] at hv
            have ht : (cur.toList.take (xs.length * i.size)).length = dx.length := by simp [hrx.len, hsz]; rw [hsz] at hfit; omega
            rw [← hcur', List.getElem?_toArray, List.append_assoc, List.getElem?_append_right (by rw [ht]; omega), ht, List.getElem?_append_left (by rw [List.length_append] at hj; omega)]
            exact hv
        · rw [upd_other _ _ (by simp at hx; omega)]
          exact hok x (by simpa using hx)
      · have hr := run_append_grow (P := P) w t ty E i z ht hi hz ⟨b, 0, none⟩ xs.length cx dx (by rw [hrx.len, hsz]) (fun j v hv => by rw [add_off]; exact (hcx j v hv).1) ad ys.length cy dy hly hny (by omega) h63 (growslice_fits (by omega) hb)
        obtain ⟨f1, f2, f3, f4⟩ := fresh dx cx hrx
        rw [← hlen] at hr f1 f2 f3 f4
        exact ⟨_, _, _, _, _, hr, f1, f2, f3, fun x hx => .inr (by cases hx; exact Nat.le_refl _), f4⟩

theorem bytesOf_info {T : TypeId} {n : Nat} (h : bytesOf P T = some n) : ∃ i, P.info? T = some i ∧ i.bytes = n := by
  unfold bytesOf at h
  cases hi : P.info? T with
  | none => rw [hi] at h; cases h
  | some i => rw [hi] at h; simp at h; exact ⟨i, rfl, h⟩

theorem zeroOf_info {T : TypeId} {cs : List Value} (h : zeroOf P T = some cs) : ∃ i z, P.info? T = some i ∧ i.zero = some z ∧ z.cells.toList = cs := by
  unfold zeroOf at h
  cases hi : P.info? T with
  | none => rw [hi] at h; cases h
  | some i =>
    rw [hi] at h
    cases hz : i.zero with
    | none => simp [hz] at h
    | some z => simp [hz] at h; exact ⟨i, z, rfl, hz, h⟩

/-- append(x, y...) -/
theorem op_append {α : Type} {rp : Rep α} {d k kx ky by_ : Nat} {T E : TypeId} {x y : Operand} {ag : Bool} {xs ys : List α} {A B : Option Addr} {n m cx cy : Nat} {ob : Option Nat} {zc : List Value} (ho : o.dst = some d) (hN : d < e.N)
    (hop : o.op = .call { callee := .builtin .append, args := #[x, y], argTypes := #[T, T] }) (hT : sliceOf P T = some E) (ht : tyOf P E = some (ag, rp.sz)) (hz : zeroOf P E = some zc) (hzl : zc.length = rp.sz) (hby : bytesOf P E = some by_)
    (hx : ev s.L x = some (.slice A n cx)) (hn : n = xs.length) (hy : ev s.L y = some (.slice B m cy)) (hm : m = ys.length) (hk : s.M[k]? = some (grow E rp.sz (.slice A n cx) n ob)) (hfx : s.F[kx]? = some (slF rp A cx xs)) (hfy : s.F[ky]? = some (slF rp B cy ys))
    (hb : (xs.length + ys.length) * by_ ≤ big) (hb2 : xs.length + ys.length ≤ big)
    (h : ∀ A' c' ob', Kn (({ s with M := s.M.set k (grow E rp.sz (.slice A' (xs ++ ys).length c') (xs ++ ys).length ob'), F := s.F ++ [slF rp A' c' (xs ++ ys)] } : St).put d (.slice A' (xs ++ ys).length c'))) : OpTr P r e o Kn s := by
  intro γ a w hh K Q hK
  refine ⟨fun f _ => fen_fn r f, ?_⟩
  subst hn
  subst hm
  obtain ⟨i, hi, hsz⟩ := tyOf_info ht
  obtain ⟨i', z, hi', hz', hzc⟩ := zeroOf_info hz
  obtain ⟨i'', hi'', hby'⟩ := bytesOf_info hby
  rw [hi] at hi' hi''
  cases hi'
  cases hi''
  obtain ⟨A', c', ob', γ', w', hr, hc', hs', fr, hob, hok⟩ := append_step (ty := o.type) (sliceOf_und hT) hi hz' hsz (by rw [← hzl, ← hzc]; simp) (hh.hm.all _ (List.mem_of_getElem? hk)) (hh.facts _ (List.mem_of_getElem? hfx)) (hh.facts _ (List.mem_of_getElem? hfy)) (by rw [hby']; exact hb) hb2 hh.ok
  have hrun : (execOp a.eval o).run P w = .ok (.value (.slice A' (xs ++ ys).length c')) w' := by
    simp only [execOp, hop, resolve, invoke, builtin, Sem.run_bind, Sem.run_pure, Result.andThen_ok, List.map_toArray, List.map_cons, List.map_nil, hh.eval hx, hh.eval hy, hr]
  rw [semAt_eq _ _ _ (by rw [hop]; intro c; simp), hrun, Oper.uponIn_value, ho]
  have hlt : k < s.M.length := (List.getElem?_eq_some_iff.1 hk).1
  have hst := hh.step (M' := s.M.set k (grow E rp.sz (.slice A' (xs ++ ys).length c') (xs ++ ys).length ob')) fr (fun b hb => hh.own _ (List.mem_of_getElem? hk) b hb) (hh.hm.set hk fr hc' (fun b hb => hob b hb))
    (fun c hc b hb => by
      rcases List.mem_or_eq_of_mem_set hc with q | q
      · exact hh.own c q b hb
      · subst q
        rcases hob b hb with q | q
        · exact hh.own _ (List.mem_of_getElem? hk) b q
        · exact .inr (Nat.le_trans hh.fr.le.size q)) hok
  exact hK _ γ' _ _ (h A' c' ob') ((hst.addF (f := slF rp A' c' (xs ++ ys)) hs').put d _ hN)

/-- A slice that is full may be appended to. -/
theorem OpTr.full {E : TypeId} {sz : Nat} {A : Option Addr} {n : Nat} (h : OpTr P r e o Kn { s with M := grow E sz (.slice A n n) n none :: s.M }) : OpTr P r e o Kn s :=
  fun γ a w hh => h γ a w
    { size := hh.size, slots := hh.slots, defers := hh.defers, facts := hh.facts, fr := hh.fr, ok := hh.ok
      hm := hh.hm.cons (.inl ⟨rfl, A, rfl⟩) (fun d hd b hb => by cases hb)
      own := fun c hc b hb => by
        rcases List.mem_cons.1 hc with q | q
        · subst q; cases hb
        · exact hh.own c q b hb }
theorem TrL.full {ops : Array Oper} {l : List Oper} {E : TypeId} {sz : Nat} {A : Option Addr} {n : Nat} (h : TrL P r e ops l Kn { s with M := grow E sz (.slice A n n) n none :: s.M }) : TrL P r e ops l Kn s :=
  fun γ a w hh => h γ a w
    { size := hh.size, slots := hh.slots, defers := hh.defers, facts := hh.facts, fr := hh.fr, ok := hh.ok
      hm := hh.hm.cons (.inl ⟨rfl, A, rfl⟩) (fun d hd b hb => by cases hb)
      own := fun c hc b hb => by
        rcases List.mem_cons.1 hc with q | q
        · subst q; cases hb
        · exact hh.own c q b hb }
theorem Tr.full {c : Code} {Q : SPost} {E : TypeId} {sz : Nat} {A : Option Addr} {n : Nat} (h : Tr P r e c Q { s with M := grow E sz (.slice A n n) n none :: s.M }) : Tr P r e c Q s :=
  fun γ a w hh => h γ a w
    { size := hh.size, slots := hh.slots, defers := hh.defers, facts := hh.facts, fr := hh.fr, ok := hh.ok
      hm := hh.hm.cons (.inl ⟨rfl, A, rfl⟩) (fun d hd b hb => by cases hb)
      own := fun c hc b hb => by
        rcases List.mem_cons.1 hc with q | q
        · subst q; cases hb
        · exact hh.own c q b hb }
theorem Tr.addF {c : Code} {Q : SPost} (f : Fact) (hf : ∀ γ w, (∀ g ∈ s.F, g.p γ w) → (∀ c ∈ s.M, c.p γ w) → f.p γ w) (h : Tr P r e c Q { s with F := s.F ++ [f] }) : Tr P r e c Q s :=
  fun γ a w hh => h γ a w (hh.addF (hf γ w hh.facts hh.hm.all))
theorem TrL.addF {ops : Array Oper} {l : List Oper} (f : Fact) (hf : ∀ γ w, (∀ g ∈ s.F, g.p γ w) → (∀ c ∈ s.M, c.p γ w) → f.p γ w) (h : TrL P r e ops l Kn { s with F := s.F ++ [f] }) : TrL P r e ops l Kn s :=
  fun γ a w hh => h γ a w (hh.addF (hf γ w hh.facts hh.hm.all))
theorem OpTr.addF (f : Fact) (hf : ∀ γ w, (∀ g ∈ s.F, g.p γ w) → (∀ c ∈ s.M, c.p γ w) → f.p γ w) (h : OpTr P r e o Kn { s with F := s.F ++ [f] }) : OpTr P r e o Kn s :=
  fun γ a w hh => h γ a w (hh.addF (hf γ w hh.facts hh.hm.all))
end
end Go.Proofs.Ythgeodagikmpjaa.L
