/- From contracts to the rows: what the arguments read as in the logic, and that they read so behind the call. -/
import Derived.Test.YtbeknohemgjfbaaL14
import Derived.ChangeStays
import Derived.ChangeBook
import Derived.Deep.Slices
import Derived.OpenShut
import Derived.ProofKit
import Derived.ChangeSame
namespace Go.Proofs.Ytbeknohemgjfbaa.L
open Go Go.ChangeShapes Go.WideShapes Go.RowKit Go.Proofs.Ytbeknohemgjfbaa.Pu
set_option linter.unusedVariables false

def gam (W : World) : Gh := fun b => match W.heap[b]? with
  | some (.cells c _ _) => c.size
  | _ => 0
theorem gam_ok (W : World) : GhOk (gam W) W := fun b hb => by unfold gam; rw [Array.getElem?_eq_none hb]
theorem gam_cell {W : World} {b j : Nat} {v : Value} (h : W.cell? ⟨b, j, none⟩ = some v) : j < gam W b := by
  unfold gam
  simp only [World.cell?] at h
  split at h
  · rename_i c t fr hc
    rw [hc]
    simp at h
    exact (Array.getElem?_eq_some_iff.1 h).1
  · cases h

/-- A type's data, as the logic reads them. -/
structure Rd {α : Type} (P : Program) (t : TypeId) (rp : Rep α) (ok : α → Prop) : Prop where
  sz : P.cellsOf t = rp.sz
  go : ∀ {H : Type} {enc : TypeId × Value → H} {W : World} {base : Nat} {spare : Nat → Bool} {held : Bool} {n : Nat} {cs : List Value} {x : DataW H × List MemPlace}, DataW.trod enc P W base spare held n t cs = some x → ∃ y, rp.R (gam W) W y cs ∧ ok y

section
variable {P : Program} {t e : TypeId}
abbrev wfI (k : IntKind) (n : Int) : Prop := (Lit.int k n).wf = true
theorem rd_int {k : IntKind} (ht : P.underlying t = some (.int k)) (hc : P.cellsOf t = 1) : Rd P t (rInt k) (wfI k) :=
  ⟨hc, fun h => by obtain ⟨n, rfl, _, hw⟩ := DataW.trod_int ht h; exact ⟨n, rfl, hw⟩⟩
theorem rd_two {rp : Rep (Int × Int)} {k0 k1 : IntKind} {f0 f1 : Field} (ht : P.underlying t = some (.struct #[f0, f1])) (hc : P.cellsOf t = 2) (o0 : f0.offset = 0) (o1 : f1.offset = 1) (c0 : P.cellsOf f0.type = 1) (c1 : P.cellsOf f1.type = 1)
    (t0 : P.underlying f0.type = some (.int k0)) (t1 : P.underlying f1.type = some (.int k1)) (hs : rp.sz = 2) (hR : ∀ γ w (x : Int × Int), rp.R γ w x [.int k0 x.1, .int k1 x.2]) : Rd P t rp (fun x => wfI k0 x.1 ∧ wfI k1 x.2) :=
  ⟨hc.trans hs.symm, fun {H enc W base spare held n cs x} h => by
    obtain ⟨xs, k, _, _, hl, hxl, hf⟩ := DataW.trod_struct ht h
    rw [hc] at hl
    match cs, hl with
    | [v0, v1], _ =>
      have g0 := hf 0 f0 rfl
      have g1 := hf 1 f1 rfl
      simp [o0, o1, c0, c1] at g0 g1
      match xs, hxl with
      | [y0, y1], _ =>
        obtain ⟨a, ha, _, wa⟩ := DataW.trod_int t0 g0
        obtain ⟨b, hb, _, wb⟩ := DataW.trod_int t1 g1
        simp at ha hb
        subst ha hb
        exact ⟨(a, b), hR _ _ _, wa, wb⟩⟩
theorem row_of {α : Type} {rp : Rep α} {γ : Gh} {w : World} : ∀ (n : Nat) (y : Nat → α) (c : Nat → List Value), (∀ i, i < n → rp.R γ w (y i) (c i)) → Row rp γ w ((List.range n).map y) ((List.range n).flatMap c) := by
  intro n
  induction n with
  | zero => intro y c _; exact .nil
  | succ n ih =>
    intro y c h
    rw [List.range_succ, List.map_append, List.flatMap_append]
    refine (ih y c fun i hi => h i (by omega)).append ?_
    have := Row.single (h n (by omega))
    simpa using this
theorem flat_get {n sz : Nat} {c : Nat → List Value} (hl : ∀ i, i < n → (c i).length = sz) {j : Nat} {v : Value} (h : ((List.range n).flatMap c)[j]? = some v) : ∃ i q, i < n ∧ q < sz ∧ j = i * sz + q ∧ (c i)[q]? = some v := by
  induction n with
  | zero => simp at h
  | succ n ih =>
    rw [List.range_succ, List.flatMap_append] at h
    have hlen : ((List.range n).flatMap c).length = n * sz := by
      clear ih h
      induction n with
      | zero => simp
      | succ n ih2 =>
        rw [List.range_succ, List.flatMap_append, List.length_append, ih2 (fun i hi => hl i (by omega))]
        simp [hl n (by omega), Nat.add_mul]
    by_cases hj : j < n * sz
    · rw [List.getElem?_append_left (by omega)] at h
      obtain ⟨i, q, h1, h2, h3, h4⟩ := ih (fun i hi => hl i (by omega)) h
      exact ⟨i, q, by omega, h2, h3, h4⟩
    · rw [List.getElem?_append_right (by omega), hlen] at h
      simp at h
      have := (List.getElem?_eq_some_iff.1 h).1
      rw [hl n (by omega)] at this
      exact ⟨n, j - n * sz, by omega, this, by omega, h⟩
theorem rd_slice {α : Type} {rp : Rep α} {ok : α → Prop} [Inhabited α] (ht : P.underlying t = some (.slice e)) (hc : P.cellsOf t = 1) (hpos : 0 < rp.sz) (R : Rd P e rp ok) : Rd P t (rSl rp) (fun xs => xs.length ≤ top ∧ ∀ x ∈ xs, ok x) :=
  ⟨hc, fun {H enc W base spare held n cs x} h => by
    rcases Go.Deep.open_slice ht h with ⟨rfl, _⟩ | ⟨a, len, cap, m, n', D, Pl, rfl, hb, hl, hm, hmm, rfl, hx⟩
    · exact ⟨[], ⟨none, 0, rfl, SlP.empty _ _ _⟩, by simp, by simp⟩
    have hlm : len ≤ m := by rw [hmm]; split <;> omega
    have each : ∀ i, i < len → ∃ q : List Value × α, W.cells? base (a.add (i * P.cellsOf e)) (P.cellsOf e) = some q.1 ∧ rp.R (gam W) W q.2 q.1 ∧ ok q.2 := fun i hi => by
      obtain ⟨cs', h1, h2⟩ := hx i (by omega)
      obtain ⟨y, h3, h4⟩ := R.go h2
      exact ⟨(cs', y), h1, h3, h4⟩
    obtain ⟨q, hq⟩ := Go.Deep.choose_lt each
    have hlen : ((List.range len).map fun i => (q i).2).length = len := by simp
    have hcap : cap ≤ top := hm
    refine ⟨(List.range len).map fun i => (q i).2, ⟨some a, cap, by rw [hlen], by rw [hlen]; exact hl, by rw [hlen]; omega, (fun h => by cases h), fun a' ha' => ?_⟩, by rw [hlen]; omega, fun x hx => ?_⟩
    · cases ha'
      have hspot : 0 < len → a.spot = none := fun h0 => by
        obtain ⟨_, hl0, hc0⟩ := World.cells?_some (hq 0 h0).1
        have h1 := hc0 0 (by rw [R.sz]; exact hpos)
        have hlen0 : 0 < (q 0).1.length := by rw [hl0, R.sz]; exact hpos
        rw [List.getElem?_eq_getElem hlen0] at h1
        simp only [Nat.zero_mul, Addr.add, if_true] at h1
        simp only [World.cell?] at h1
        split at h1
        · cases hs : a.spot with
          | none => rfl
          | some _ => simp [hs] at h1
        · cases h1
      refine ⟨fun hne => hspot (by rcases Nat.eq_zero_or_pos len with z | z; (subst z; exact absurd rfl hne); exact z), (List.range len).flatMap fun i => (q i).1, row_of len _ _ fun i hi => (hq i hi).2.1, fun j v hv => ?_⟩
      obtain ⟨i, k, h1, h2, rfl, h4⟩ := flat_get (sz := rp.sz) (fun i hi => by rw [(World.cells?_some (hq i hi).1).2.1, R.sz]) hv
      have hc1 := (World.cells?_some (hq i h1).1).2.2 k (by rw [R.sz]; exact h2)
      rw [h4, R.sz] at hc1
      have ha := hspot (by omega)
      obtain ⟨b, off, sp⟩ := a
      simp at ha
      subst ha
      rw [add_off, add_off] at hc1
      have : W.cell? ⟨b, off + (i * rp.sz + k), none⟩ = some v := by rw [← Nat.add_assoc]; exact hc1
      exact ⟨this, gam_cell this⟩
    · obtain ⟨i, hi, rfl⟩ := List.mem_map.1 hx
      exact (hq i (List.mem_range.1 hi)).2.2⟩

variable {H : Type} {enc : TypeId × Value → H} {W W' : World} {base : Nat} {sp : Nat → Bool} {held : Bool}
/-- An argument that is a slice. -/
theorem arg_slice {α : Type} {rp : Rep α} {ok : List α → Prop} {r : Reach} {b0 : Nat} {v : Value} {d : DataW H} {p : List MemPlace} (ht : P.underlying t = some (.slice e)) (R : Rd P t (rSl rp) ok) (hval : Value.okWide P W r b0 t v) (h : DataW.Trod enc P W base sp held t v d p) :
    ∃ A c xs, v = .slice A xs.length c ∧ SlP rp (gam W) W A c xs ∧ ok xs := by
  obtain ⟨A, len, cap, rfl⟩ := okWide_slice ht hval
  obtain ⟨n, h⟩ := h
  obtain ⟨xs, ⟨A', c, h1, h2⟩, h3⟩ := R.go h
  simp [Value.cells] at h1
  obtain ⟨rfl, rfl, rfl⟩ := h1
  exact ⟨_, _, xs, rfl, h2, h3⟩
/-- An argument that is an array of numbers. -/
theorem arg_ints {n : Nat} {k : IntKind} {r : Reach} {b0 : Nat} {v : Value} {d : DataW H} {p : List MemPlace} (ht : P.underlying t = some (.array n e)) (he : P.underlying e = some (.int k)) (hn : P.cellsOf t = n) (c1 : P.cellsOf e = 1) (hval : Value.okWide P W r b0 t v) (h : DataW.Trod enc P W base sp held t v d p) :
    ∃ l : List Int, v = .agg (l.map (.int k)).toArray ∧ l.length = n ∧ ∀ x ∈ l, wfI k x := by
  unfold Value.okWide at hval
  rw [ht] at hval
  obtain ⟨cs, rfl, hsz, _⟩ := hval
  obtain ⟨fuel, h⟩ := h
  obtain ⟨xs, m, _, _, hl, hxl, hf⟩ := DataW.trod_array ht h
  simp only [Value.cells] at hl hf
  have each : ∀ i, i < n → ∃ z : Int, cs.toList[i]? = some (.int k z) ∧ wfI k z := fun i hi => by
    have := hf i hi
    rw [c1, List.getElem?_eq_getElem (by omega)] at this
    obtain ⟨z, hz, _, hw⟩ := DataW.trod_int he this
    rw [Nat.mul_one] at hz
    have hz0 := congrArg (·[0]?) hz
    simp only [List.getElem?_take, List.getElem?_drop] at hz0
    exact ⟨z, by simpa using hz0, hw⟩
  obtain ⟨q, hq⟩ := Go.Deep.choose_lt each
  refine ⟨(List.range n).map q, ?_, by simp, fun x hx => ?_⟩
  · congr 1
    apply Array.toList_inj.1
    apply List.ext_getElem?
    intro i
    by_cases hi : i < n
    · rw [(hq i hi).1]; simp [hi]
    · rw [List.getElem?_eq_none (by rw [hl, hn]; omega)]
      simp [hi]
  · obtain ⟨i, hi, rfl⟩ := List.mem_map.1 hx
    exact (hq i (List.mem_range.1 hi)).2

/-! ### Behind the call -/
def slOk (P : Program) : Bool := (List.range P.types.size).all fun t => match P.underlying t with
  | some (.slice e) => decide (0 < P.cellsOf e)
  | _ => true
theorem slOk_spec (h : slOk P = true) {t e : TypeId} (ht : t < P.types.size) (hu : P.underlying t = some (.slice e)) : 0 < P.cellsOf e := by
  have := List.all_eq_true.1 h t (List.mem_range.2 ht)
  simpa [hu] using this
theorem args_again (hl : laidOutB P = true) (hm : mapsRowed P = true) (hs : slOk P = true) (hb : ∀ b, b < W.heap.size → W'.heap[b]? = W.heap[b]?) :
    ∀ {ts : List TypeId} {vs : List Value} {ds : List (DataW H)} {p : List MemPlace}, (∀ t ∈ ts, t < P.types.size) → DataW.TrodAll enc P W 0 (fun _ => true) true ts vs ds p → (∀ q ∈ p, q.block < W.heap.size) → (∀ q ∈ p, sp q.block = true) → DataW.TrodAll enc P W' 0 sp true ts vs ds p := by
  intro ts
  induction ts with
  | nil => intro vs ds p _ h _ _; cases vs <;> cases ds <;> simp_all [DataW.TrodAll]
  | cons t ts ih =>
    intro vs ds p hts h hlt hsp
    obtain ⟨v, vs', d, ds', p1, p2, rfl, rfl, rfl, ⟨n, h1⟩, h2⟩ := trodAll_cons h
    refine ⟨p1, p2, ⟨n, ?_⟩, ih (fun t ht => hts t (List.mem_cons_of_mem _ ht)) h2 (fun q hq => hlt q (List.mem_append_right _ hq)) (fun q hq => hsp q (List.mem_append_right _ hq)), rfl⟩
    refine DataW.trod_stays (T := (· < P.types.size)) (kids_rows hl hm) (fun ht hu => slOk_spec hs ht hu) (fun h => by cases h) (hts t List.mem_cons_self) h1 (fun q hq => ?_) (fun q hq => hsp q (List.mem_append_left _ hq))
    have hq' := hlt q (List.mem_append_left _ hq)
    cases q with
    | cell b off => simp only [World.sameAt, World.cell?]; rw [hb b hq']
    | map b => exact hb b hq'
theorem kept_of {γ γ' : Gh} {bs : Nat → Prop} (fr : Fr bs γ W γ' W') (hn : ∀ b, ¬ bs b) (may : MemPlace → Prop) : W.keptBut W' may := by
  have h0 := World.keptBut_refl W may
  refine ⟨fr.os, fr.output, fun i hi => ?_⟩
  have := h0.2.2 i hi
  rw [fr.block i hi (hn i)]
  exact this

/-- The post of a call that turns none of what was there: what lay there is frozen as it was. -/
theorem post_of_same0 {fn : Func} {s : ChangeSpec} {apart fresh handsOn again : Bool} {args : Array Value} {v : Value} {ds gs : List (DataW H)} {before pa pv : List MemPlace}
    (hW : DataW.Whole enc P fn.params.toList s.vars apart W args.toList ds gs before)
    (hres : ∀ (b : Nat) (sp : Nat → Bool) (hd : Bool), DataW.TrodAll enc P W' b sp hd fn.resultTypes.toList (v.resultList fn.resultTypes.size) (s.fn H (ds ++ gs)).results [])
    (hargs : ∀ sp : Nat → Bool, (∀ p ∈ before, sp p.block = true) → DataW.TrodAll enc P W' 0 sp true fn.params.toList args.toList (s.fn H (ds ++ gs)).args pa)
    (hvars : ∀ sp : Nat → Bool, (∀ p ∈ before, sp p.block = true) → DataW.TrodVars enc P W' sp s.vars (s.fn H (ds ++ gs)).vars pv)
    (hps : before = pa ++ pv) (hk : W.keptBut W' (· ∈ before)) (hfz : ∀ a, a.block < W.heap.size → W'.frozen? a = W.frozen? a)
    (hok : ∀ (j : Nat) (t : TypeId) (r : Value), fn.resultTypes[j]? = some t → (v.resultList fn.resultTypes.size)[j]? = some r → Value.okWide P W' .any 0 t r) :
    s.post enc P fn apart fresh handsOn again W args v W' := by
  have hlt := hW.lt
  have hold : ∀ p ∈ before, (fun b => decide (b < W.heap.size)) p.block = true := fun p hp => by simpa using hlt p hp
  refine ⟨ds, gs, before, [], pa, pv, hW, hres _ _ _, hargs _ hold, hvars _ hold, World.keptBut_mono (fun p hp => ⟨hp, ?_⟩) hk, fun _ => ?_⟩
  · rw [hps, List.mem_append] at hp
    exact Or.inr hp
  · obtain ⟨_, _, _, _, _, hz, hn⟩ := hW
    refine ⟨hok, _, _, ([] ++ pa) ++ pv, ⟨[] ++ pa, pv, trodAll_append (hargs _ (fun _ _ => rfl)) (hres _ _ _), hvars _ (fun _ _ => rfl), rfl, ?_, ?_⟩, ?_⟩
    · intro b off hp
      have hp' : MemPlace.cell b off ∈ before := by rw [hps]; simpa using hp
      rw [hfz _ (hlt _ hp')]
      exact hz b off hp'
    · intro ha
      have := hn ha
      rw [hps] at this
      simpa using this
    · intro p hp _
      rw [hps]
      simpa using hp

/-- A law's post, out of its contract. -/
theorem law_post {fn : Func} {s : ChangeSpec} {args : Array Value} {ds gs : List (DataW H)} {before : List MemPlace} {γ γ' : Gh} {bs : Nat → Prop} {tb : TypeId} (hl : laidOutB P = true) (hm : mapsRowed P = true) (hs : slOk P = true)
    (hts : ∀ t ∈ fn.params.toList, t < P.types.size) (hW : DataW.Whole enc P fn.params.toList s.vars false W args.toList ds gs before) (hv : s.vars = []) (hfn : s.fn H (ds ++ gs) = { results := [.lit (.bool true)], args := ds })
    (hr : fn.resultTypes = #[tb]) (hb : P.underlying tb = some .bool) (fr : Fr bs γ W γ' W') (hn : ∀ b, ¬ bs b) : s.post enc P fn false true false false W args (.bool true) W' := by
  have hlt := hW.lt
  have hW' := hW
  obtain ⟨p, q, hA, hV, rfl, _, _⟩ := hW
  rw [hv] at hV
  obtain ⟨rfl, rfl⟩ := trodVars_none hV
  rw [List.append_nil] at hfn
  simp only [List.append_nil] at hW' hlt
  refine post_of_same0 (pa := p) (pv := []) hW' (fun _ _ _ => ?_) (fun sp' hsp => ?_) (fun sp' hsp => ?_) (List.append_nil _).symm (kept_of fr hn _) (fun a ha => fr.fz a ha (hn _)) ?_
  · rw [List.append_nil, hfn, hr]
    exact trodAll_cons_mk (shut_bool hb _) trodAll_mk0
  · rw [List.append_nil, hfn]
    exact args_again hl hm hs (fun b hb => fr.block b hb (hn b)) hts hA hlt hsp
  · rw [List.append_nil, hfn, hv]
    rfl
  · exact ok_one hr rfl (okWide_bool_mk hb _)
/-- The whole call, out of the contract. -/
theorem law_calls {f : FuncId} {vs : List Value} {F : List Fact} {R : Value → List Chunk → List Fact → Prop} (hc : Ctr P f vs [] F R) (hF : ∀ g ∈ F, g.p (gam W) W) (hR : ∀ ret M' F', R ret M' F' → ret = .bool true) :
    Calls P f vs.toArray W fun en W' => en = .returned (.bool true) ∧ ∃ γ', Fr (fpM []) (gam W) W γ' W' :=
  (hc (gam W) W ⟨fun c h => by simp at h, List.Pairwise.nil⟩ hF (gam_ok W)).mono fun en W' ⟨ret, M', F', γ', h1, h2, _, _, _, h3, _⟩ => ⟨by rw [h1, hR _ _ _ h2], γ', h3⟩
theorem fpM_nil (b : Nat) : ¬ fpM [] b := fun ⟨c, hc, _⟩ => by simp at hc

/-! ### The head's words -/
theorem ws_word : ∀ (w rest : List Char), w.contains (Char.ofNat 32) = false → wordsSigns (w ++ (Char.ofNat 32) :: rest) = w :: wordsSigns rest
  | [], rest, _ => rfl
  | c :: w, rest, h => by
    have h2 : w.contains (Char.ofNat 32) = false := by simp at h ⊢; exact h.2
    have hc : c ≠ (Char.ofNat 32) := by simp at h; exact fun q => h.1 q.symm
    have ih := ws_word w rest h2
    rw [List.cons_append, wordsSigns]
    · rw [ih]
    · exact fun q => hc q
theorem head3 {s : String} (w1 w2 w3 rest : List Char) (h : s = String.ofList (w1 ++ (Char.ofNat 32) :: (w2 ++ (Char.ofNat 32) :: (w3 ++ (Char.ofNat 32) :: rest)))) (h1 : w1.contains (Char.ofNat 32) = false) (h2 : w2.contains (Char.ofNat 32) = false) (h3 : w3.contains (Char.ofNat 32) = false) :
    wordsSigns s.toList = w1 :: w2 :: w3 :: wordsSigns rest := by
  subst h
  rw [String.toList_ofList, ws_word _ _ h1, ws_word _ _ h2, ws_word _ _ h3]
theorem behind_of {P : Program} {s : List Char} {r : List (List Char)} (h : wordsSigns P.initOrder.toList = [(Char.ofNat 104), (Char.ofNat 97), (Char.ofNat 114), (Char.ofNat 110), (Char.ofNat 101), (Char.ofNat 115), (Char.ofNat 115)] :: s :: [(Char.ofNat 99), (Char.ofNat 117), (Char.ofNat 116)] :: r) (hs : isSumSigns s = true) : behindMainWord (wordsSigns P.initOrder.toList) = [(Char.ofNat 99), (Char.ofNat 117), (Char.ofNat 116)] :: r := by
  rw [h]
  show (if (([(Char.ofNat 104), (Char.ofNat 97), (Char.ofNat 114), (Char.ofNat 110), (Char.ofNat 101), (Char.ofNat 115), (Char.ofNat 115)] == "harness".toList || _) && isSumSigns s) = true then _ else _) = _
  rw [hs]
  rfl
theorem make_of {P : Program} {r : List (List Char)} (h : behindMainWord (wordsSigns P.initOrder.toList) = [(Char.ofNat 99), (Char.ofNat 117), (Char.ofNat 116)] :: r) : P.make = some .cut := by
  unfold Program.make
  rw [h]
  rfl
theorem strip_of (r : List (List Char)) : stripLifts liftWords ([(Char.ofNat 99), (Char.ofNat 117), (Char.ofNat 116)] :: r) = ([], [(Char.ofNat 99), (Char.ofNat 117), (Char.ofNat 116)] :: r) := by
  simp only [liftWords, stripLifts]
  rfl
theorem enter_of {P : Program} {r : List (List Char)} (h : behindMainWord (wordsSigns P.initOrder.toList) = [(Char.ofNat 99), (Char.ofNat 117), (Char.ofNat 116)] :: r) (h1 : P.laysLater = false) (h2 : P.bearsReflect = false) (h3 : P.doorFits [] = true) : P.mayEnter = true := by
  unfold Program.mayEnter
  rw [h]
  simp only [strip_of, h1, h2, h3]
  rfl
theorem lifts_of {P : Program} {r : List (List Char)} (h : behindMainWord (wordsSigns P.initOrder.toList) = [(Char.ofNat 99), (Char.ofNat 117), (Char.ofNat 116)] :: r) : P.liftsFinal = false := by
  unfold Program.liftsFinal Program.headLifts
  rw [h]
  simp only [strip_of]
  rfl
def headB (l : List Char) : Bool := l.take 8 == [(Char.ofNat 104), (Char.ofNat 97), (Char.ofNat 114), (Char.ofNat 110), (Char.ofNat 101), (Char.ofNat 115), (Char.ofNat 115), (Char.ofNat 32)] && isSumSigns ((l.drop 8).take 64) && !((l.drop 8).take 64).contains (Char.ofNat 32) && (l.drop 72).take 5 == [(Char.ofNat 32), (Char.ofNat 99), (Char.ofNat 117), (Char.ofNat 116), (Char.ofNat 32)]
theorem words_of {P : Program} {l : List Char} (hl : P.initOrder = String.ofList l) (hc : headB l = true) : ∃ s r, wordsSigns P.initOrder.toList = [(Char.ofNat 104), (Char.ofNat 97), (Char.ofNat 114), (Char.ofNat 110), (Char.ofNat 101), (Char.ofNat 115), (Char.ofNat 115)] :: s :: [(Char.ofNat 99), (Char.ofNat 117), (Char.ofNat 116)] :: r ∧ isSumSigns s = true := by
  simp only [headB, Bool.and_eq_true, beq_iff_eq, Bool.not_eq_true'] at hc
  obtain ⟨⟨⟨h1, h2⟩, h3⟩, h4⟩ := hc
  refine ⟨(l.drop 8).take 64, wordsSigns (l.drop 77), ?_, h2⟩
  refine head3 [(Char.ofNat 104), (Char.ofNat 97), (Char.ofNat 114), (Char.ofNat 110), (Char.ofNat 101), (Char.ofNat 115), (Char.ofNat 115)] ((l.drop 8).take 64) [(Char.ofNat 99), (Char.ofNat 117), (Char.ofNat 116)] (l.drop 77) ?_ (by decide) h3 (by decide)
  rw [hl]
  congr 1
  have e1 : l = l.take 8 ++ ((l.drop 8).take 64 ++ ((l.drop 72).take 5 ++ l.drop 77)) := by
    have a := List.take_append_drop 8 l
    have b := List.take_append_drop 64 (l.drop 8)
    have c := List.take_append_drop 5 (l.drop 72)
    rw [List.drop_drop] at b c
    rw [c, b, a]
  rw [h1, h4] at e1
  exact e1
end
end Go.Proofs.Ytbeknohemgjfbaa.L
