/- The plain functions that the walked code computes. Printed by gen.py. -/
import Derived.Test.YthgeodagikmpjaaP1
namespace Go.Proofs.Ythgeodagikmpjaa.Pu
set_option linter.unusedVariables false
noncomputable section

def varint_Take_s0 (p1 : List Int) (s5 : Int × Int) : Option ((Int × Int) ⊕ ((Int × Int × Int) ⊕ Unit)) :=
  if s5.2 < (min ((p1.length : Int)) 10) then ((rdo p1 s5.2).bind fun (z6 : Int) =>
  (must (0 ≤ (wi64 (7 * s5.2)))).bind fun _ =>
  if 128 ≤ z6 then (some (.inl ((wu64 (ork 64 s5.1 (wu64 (shlk 64 (wu64 (wu8 (andk 8 z6 127))) (wi64 (7 * s5.2))))), wi64 (s5.2 + 1)))))
  else (((if z6 = 0 then (if 0 < s5.2 then (some true)
  else (if s5.2 = 9 then (some (decide (1 < z6)))
  else (some false)))
  else (if s5.2 = 9 then (some (decide (1 < z6)))
  else (some false))) : Option Bool).bind (fun (j4 : Bool) =>
  if j4 = true then (some (.inr (.inl (((0 : Int), (0 : Int), (2 : Int))))))
  else (some (.inr (.inl ((wu64 (ork 64 s5.1 (wu64 (shlk 64 (wu64 (wu8 (andk 8 z6 127))) (wi64 (7 * s5.2))))), wi64 (s5.2 + 1), (0 : Int)))))))))
  else (some (.inr (.inr (()))))
def varint_Take (p1 : List Int) : Option (Int × Int × Int) :=
  ((loopO (varint_Take_s0 p1) (((0 : Int), (0 : Int)))) : Option ((Int × Int × Int) ⊕ Unit)).bind (Sum.elim (fun (d3 : Int × Int × Int) =>
  some ((d3.1, d3.2.1, d3.2.2)))
  (fun (d4 : Unit) =>
  if 10 ≤ ((p1.length : Int)) then (some (((0 : Int), (0 : Int), (2 : Int))))
  else (some (((0 : Int), (0 : Int), (3 : Int))))))

def varint_digits (p1 : Int) : Option Unit :=
  some (())

def varint_digits_1_s0 {σ : Type} (y : (Int × Bool) → σ → Option (Bool × σ)) (s5 : Int × σ) : Option ((Int × σ) ⊕ ((Int × σ))) :=
  (y ((wu8 (wu64 (andk 64 s5.1 127)), decide (127 < s5.1))) s5.2).bind fun (r12 : Bool × σ) =>
  if ¬ (r12.1 = true) then (some (.inr ((s5.1, r12.2))))
  else (if ¬ (127 < s5.1) then (some (.inr ((s5.1, r12.2))))
  else (some (.inl ((shrk 64 s5.1 7, r12.2)))))
def varint_digits_1 {σ : Type} (y : (Int × Bool) → σ → Option (Bool × σ)) (p1 : Int) (s0 : σ) : Option (Int × σ) :=
  ((loopO (varint_digits_1_s0 y) ((p1, s0))) : Option ((Int × σ))).bind (fun (x2 : (Int × σ)) =>
  some ((x2.1, x2.2)))

def varint_Put_r0 (x2 : Int × Bool) (d5 : List Int) : Option (List Int ⊕ Empty) :=
  if x2.2 = true then ((room (d5.length + ([wu8 (ork 8 x2.1 128)]).length) 1).bind fun _ =>
  some (.inl (d5 ++ ([wu8 (ork 8 x2.1 128)]))))
  else ((room (d5.length + ([x2.1]).length) 1).bind fun _ =>
  some (.inl (d5 ++ ([x2.1]))))
def varint_Put (p1 : Int) : Option (List Int) :=
  (varint_digits p1).bind fun (r2 : Unit) =>
  (varint_digits_1 (yl (varint_Put_r0)) p1 (.inl (([] : List Int)))).bind fun (j2 : Int × (List Int ⊕ Empty)) =>
  (Sum.elim (fun (d5 : List Int) =>
  some d5)
  (fun (q : Empty) => none) j2.2)

def law01_awake : Option Bool :=
  (varint_Take ([(172 : Int), (2 : Int), (9 : Int)])).bind fun (r6 : Int × Int × Int) =>
  (varint_Take ([(128 : Int), (0 : Int)])).bind fun (r7 : Int × Int × Int) =>
  (varint_Take ([(128 : Int)])).bind fun (r8 : Int × Int × Int) =>
  (varint_Put ((300 : Int))).bind fun (r10 : List Int) =>
  if (bstr r10) = (bstr ([(172 : Int), (2 : Int)])) then (if r6.1 = 300 then (if r6.2.1 = 2 then (if r6.2.2 = 0 then (if r7.2.2 = 2 then (some (decide (r8.2.2 = 3)))
  else (some false))
  else (some false))
  else (some false))
  else (some false))
  else (some false)

def ref01_end_s0 (p1 : List Int) (s5 : Int) : Option (Int ⊕ (Int ⊕ Unit)) :=
  if s5 < ((p1.length : Int)) then (if s5 < 10 then ((rdo p1 s5).bind fun (z6 : Int) =>
  if z6 < 128 then (some (.inr (.inl s5)))
  else (some (.inl (wi64 (s5 + 1)))))
  else (some (.inr (.inr (())))))
  else (some (.inr (.inr (()))))
def ref01_end (p1 : List Int) : Option Int :=
  ((loopO (ref01_end_s0 p1) ((0 : Int))) : Option (Int ⊕ Unit)).bind (Sum.elim (fun (d3 : Int) =>
  some d3)
  (fun (d4 : Unit) =>
  some ((-1 : Int))))

def ref01_Take_s0 (p1 : List Int) (s5 : Int × Int) : Option ((Int × Int) ⊕ Int) :=
  if 0 ≤ s5.2 then ((rdo p1 s5.2).bind fun (z12 : Int) =>
  some (.inl ((wu64 ((wu64 (128 * s5.1)) + (wu64 (z12.tmod 128))), wi64 (s5.2 - 1)))))
  else (some (.inr s5.1))
def ref01_Take (p1 : List Int) : Option (Int × Int × Int) :=
  (ref01_end p1).bind fun (r2 : Int) =>
  ((if r2 < 0 then (some (decide (10 ≤ ((p1.length : Int)))))
  else (some false)) : Option Bool).bind (fun (j3 : Bool) =>
  if j3 = true then (some (((0 : Int), (0 : Int), (2 : Int))))
  else (if r2 < 0 then (some (((0 : Int), (0 : Int), (3 : Int))))
  else ((((rdo p1 r2).bind fun (z9 : Int) =>
  if z9 = 0 then (if 0 < r2 then (some true)
  else (if r2 = 9 then (some (decide (1 < z9)))
  else (some false)))
  else (if r2 = 9 then (some (decide (1 < z9)))
  else (some false))) : Option Bool).bind (fun (j4 : Bool) =>
  if j4 = true then (some (((0 : Int), (0 : Int), (2 : Int))))
  else (((loopO (ref01_Take_s0 p1) (((0 : Int), r2))) : Option Int).bind (fun (x2 : Int) =>
  some ((x2, wi64 (r2 + 1), (0 : Int)))))))))

def ref01_Put_F (rec : Int → Option (List Int)) (p1 : Int) : Option (List Int) :=
  if p1 < 128 then (some ([wu8 p1]))
  else ((rec (wu64 (p1.tdiv 128))).bind fun (r2 : List Int) =>
  (room (([wu8 (wu64 (128 + (p1.tmod 128)))]).length + r2.length) 1).bind fun _ =>
  some (([wu8 (wu64 (128 + (p1.tmod 128)))]) ++ r2))
def ref01_Put (p1 : Int) : Option (List Int) := itR ref01_Put_F 1000 p1

def law01_VarintTells (p1 : Int) (p2 : List Int) : Option Bool :=
  (law01_awake).bind fun (r12 : Bool) =>
  if 100 < ((p2.length : Int)) then (some r12)
  else ((varint_Take p2).bind fun (r13 : Int × Int × Int) =>
  (ref01_Take p2).bind fun (r14 : Int × Int × Int) =>
  if r12 = true then ((varint_Put p1).bind fun (r21 : List Int) =>
  (ref01_Put p1).bind fun (r22 : List Int) =>
  if (bstr r21) = (bstr r22) then (if r13.1 = r14.1 then (if r13.2.1 = r14.2.1 then (some (decide (r13.2.2 = r14.2.2)))
  else (some false))
  else (some false))
  else (some false))
  else (some false))

def law01_VarintBack (p1 : Int) (p2 : List Int) (p3 : Int) : Option Bool :=
  (law01_awake).bind fun (r5 : Bool) =>
  if 100 < ((p2.length : Int)) then (some r5)
  else ((varint_Put p1).bind fun (r6 : List Int) =>
  if ((r6.length : Int)) = 0 then (some false)
  else ((room ((([] : List Int)).length + r6.length) 1).bind fun _ =>
  (room (r6.length + p2.length) 1).bind fun _ =>
  (varint_Take (r6 ++ p2)).bind fun (r7 : Int × Int × Int) =>
  (must (((r6.length : Int)) ≠ 0)).bind fun _ =>
  (must (0 ≤ ((wi64 p3).tmod ((r6.length : Int))) ∧ ((wi64 p3).tmod ((r6.length : Int))) ≤ r6.length)).bind fun _ =>
  (varint_Take (r6.take ((wi64 p3).tmod ((r6.length : Int))).toNat)).bind fun (r8 : Int × Int × Int) =>
  if r5 = true then (if r7.1 = p1 then (if r7.2.1 = ((r6.length : Int)) then (if r7.2.2 = 0 then (if r8.2.2 = 3 then (some (decide (((r6.length : Int)) ≤ 10)))
  else (some false))
  else (some false))
  else (some false))
  else (some false))
  else (some false)))

def law01_VarintOne (p1 : List Int) (p2 : Int) (p3 : Int) : Option Bool :=
  (law01_awake).bind fun (r19 : Bool) =>
  if 100 < ((p1.length : Int)) then (some r19)
  else ((varint_Take p1).bind fun (r20 : Int × Int × Int) =>
  (varint_Put p2).bind fun (r23 : List Int) =>
  (varint_Put p3).bind fun (r24 : List Int) =>
  if r19 = true then (if (decide ((bstr r23) = (bstr r24))) = (decide (p2 = p3)) then (if ¬ r20.2.2 = 0 then (if r20.2.1 = 0 then (if r20.1 = 0 then (some true)
  else (if r20.2.2 = 0 then ((must (0 ≤ r20.2.1 ∧ r20.2.1 ≤ p1.length)).bind fun _ =>
  (varint_Put r20.1).bind fun (r34 : List Int) =>
  some (decide ((bstr r34) = (bstr (p1.take r20.2.1.toNat)))))
  else (some false)))
  else (if r20.2.2 = 0 then ((must (0 ≤ r20.2.1 ∧ r20.2.1 ≤ p1.length)).bind fun _ =>
  (varint_Put r20.1).bind fun (r35 : List Int) =>
  some (decide ((bstr r35) = (bstr (p1.take r20.2.1.toNat)))))
  else (some false)))
  else (if r20.2.2 = 0 then ((must (0 ≤ r20.2.1 ∧ r20.2.1 ≤ p1.length)).bind fun _ =>
  (varint_Put r20.1).bind fun (r36 : List Int) =>
  some (decide ((bstr r36) = (bstr (p1.take r20.2.1.toNat)))))
  else (some false)))
  else (some false))
  else (some false))

def law01_VarintLess (p1 : Int) (p2 : Int) : Option Bool :=
  (law01_awake).bind fun (r4 : Bool) =>
  (varint_Put p1).bind fun (r5 : List Int) =>
  (varint_Put p2).bind fun (r6 : List Int) =>
  if r4 = true then (if p2 < p1 then (if (decide (((r5.length : Int)) = 1)) = (decide (p1 < 128)) then (if (decide (((r5.length : Int)) ≤ 2)) = (decide (p1 < 16384)) then (some (decide ((decide (((r5.length : Int)) = 10)) = (decide (9223372036854775808 ≤ p1)))))
  else (some false))
  else (some false))
  else (if ((r5.length : Int)) ≤ ((r6.length : Int)) then (if (decide (((r5.length : Int)) = 1)) = (decide (p1 < 128)) then (if (decide (((r5.length : Int)) ≤ 2)) = (decide (p1 < 16384)) then (some (decide ((decide (((r5.length : Int)) = 10)) = (decide (9223372036854775808 ≤ p1)))))
  else (some false))
  else (some false))
  else (some false)))
  else (some false)

def law01_VarintBytes_s0 (r4 : List Int) (s5 : Int × Int) : Option ((Int × Int) ⊕ (Unit ⊕ Int)) :=
  if s5.2 < ((r4.length : Int)) then ((rdo r4 s5.2).bind fun (z12 : Int) =>
  if ¬ (wu64 (z12.tmod 128)) = (s5.1.tmod 128) then (some (.inr (.inl (()))))
  else (if ¬ (decide (z12 < 128)) = (decide (s5.2 = (wi64 (((r4.length : Int)) - 1)))) then (some (.inr (.inl (()))))
  else (some (.inl ((wu64 (s5.1.tdiv 128), wi64 (s5.2 + 1)))))))
  else (some (.inr (.inr s5.1)))
def law01_VarintBytes (p1 : Int) : Option Bool :=
  (law01_awake).bind fun (r3 : Bool) =>
  (varint_Put p1).bind fun (r4 : List Int) =>
  ((loopO (law01_VarintBytes_s0 r4) ((p1, (0 : Int)))) : Option (Unit ⊕ Int)).bind (Sum.elim (fun (d3 : Unit) =>
  some false)
  (fun (d4 : Int) =>
  if r3 = true then (if d4 = 0 then (some (decide (0 < ((r4.length : Int)))))
  else (some false))
  else (some false)))

end
end Go.Proofs.Ythgeodagikmpjaa.Pu
