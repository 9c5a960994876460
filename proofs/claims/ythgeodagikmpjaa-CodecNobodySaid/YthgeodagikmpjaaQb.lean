/- The plain functions that the walked code computes. Printed by gen.py. -/
import Derived.Test.YthgeodagikmpjaaP1
namespace Go.Proofs.Ythgeodagikmpjaa.Pu
set_option linter.unusedVariables false
noncomputable section

def bs0 : ByteArray := ⟨#[2, 97, 98]⟩

def bs1 : ByteArray := ⟨#[97, 98]⟩

def bs2 : ByteArray := ⟨#[0, 0, 0, 0, 0, 0, 1, 2]⟩

def bs3 : ByteArray := ⟨#[172, 2]⟩

def bs4 : ByteArray := ⟨#[]⟩

def varint_Take_s0 (p1 : List Int) (s5 : Int × Int) : Option ((Int × Int) ⊕ ((Int × Int × Int) ⊕ Unit)) :=
  if s5.2 < (min ((p1.length : Int)) 10) then ((rdo p1 s5.2).bind fun (z6 : Int) =>
  (must (0 ≤ (wi64 (7 * s5.2)))).bind fun _ =>
  if 128 ≤ z6 then (some (.inl ((wu64 (ork 64 s5.1 (wu64 (shlk 64 (wu64 (wu8 (andk 8 z6 127))) (wi64 (7 * s5.2))))), wi64 (s5.2 + 1)))))
  else (((if z6 = 0 then (if 0 < s5.2 then (some true)
  else (if s5.2 = 9 then (some (decide (1 < z6)))
  else (some false)))
  else (if s5.2 = 9 then (some (decide (1 < z6)))
  else (some false))) : Option Bool).bind (fun (j4 : Bool) =>
  if j4 = true then (some (.inr (.inl (((0 : Int), (0 : Int), (2 : Int))))))
  else (some (.inr (.inl ((wu64 (ork 64 s5.1 (wu64 (shlk 64 (wu64 (wu8 (andk 8 z6 127))) (wi64 (7 * s5.2))))), wi64 (s5.2 + 1), (0 : Int)))))))))
  else (some (.inr (.inr (()))))
def varint_Take (p1 : List Int) : Option (Int × Int × Int) :=
  ((loopO (varint_Take_s0 p1) (((0 : Int), (0 : Int)))) : Option ((Int × Int × Int) ⊕ Unit)).bind (Sum.elim (fun (d3 : Int × Int × Int) =>
  some ((d3.1, d3.2.1, d3.2.2)))
  (fun (d4 : Unit) =>
  if 10 ≤ ((p1.length : Int)) then (some (((0 : Int), (0 : Int), (2 : Int))))
  else (some (((0 : Int), (0 : Int), (3 : Int))))))

def varint_digits (p1 : Int) : Option Unit :=
  some (())

def varint_digits_1_s0 {σ : Type} (y : (Int × Bool) → σ → Option (Bool × σ)) (s5 : Int × σ) : Option ((Int × σ) ⊕ ((Int × σ))) :=
  (y ((wu8 (wu64 (andk 64 s5.1 127)), decide (127 < s5.1))) s5.2).bind fun (r12 : Bool × σ) =>
  if ¬ (r12.1 = true) then (some (.inr ((s5.1, r12.2))))
  else (if ¬ (127 < s5.1) then (some (.inr ((s5.1, r12.2))))
  else (some (.inl ((shrk 64 s5.1 7, r12.2)))))
def varint_digits_1 {σ : Type} (y : (Int × Bool) → σ → Option (Bool × σ)) (p1 : Int) (s0 : σ) : Option (Int × σ) :=
  ((loopO (varint_digits_1_s0 y) ((p1, s0))) : Option ((Int × σ))).bind (fun (x2 : (Int × σ)) =>
  some ((x2.1, x2.2)))

def varint_Put_r0 (x2 : Int × Bool) (d5 : List Int) : Option (List Int ⊕ Empty) :=
  if x2.2 = true then ((room (d5.length + ([wu8 (ork 8 x2.1 128)]).length) 1).bind fun _ =>
  some (.inl (d5 ++ ([wu8 (ork 8 x2.1 128)]))))
  else ((room (d5.length + ([x2.1]).length) 1).bind fun _ =>
  some (.inl (d5 ++ ([x2.1]))))
def varint_Put (p1 : Int) : Option (List Int) :=
  (varint_digits p1).bind fun (r2 : Unit) =>
  (varint_digits_1 (yl (varint_Put_r0)) p1 (.inl (([] : List Int)))).bind fun (j2 : Int × (List Int ⊕ Empty)) =>
  (Sum.elim (fun (d5 : List Int) =>
  some d5)
  (fun (q : Empty) => none) j2.2)

def law01_awake : Option Bool :=
  (varint_Take ([(172 : Int), (2 : Int), (9 : Int)])).bind fun (r6 : Int × Int × Int) =>
  (varint_Take ([(128 : Int), (0 : Int)])).bind fun (r7 : Int × Int × Int) =>
  (varint_Take ([(128 : Int)])).bind fun (r8 : Int × Int × Int) =>
  (varint_Put ((300 : Int))).bind fun (r10 : List Int) =>
  if (bstr r10) = (bstr ([(172 : Int), (2 : Int)])) then (if r6.1 = 300 then (if r6.2.1 = 2 then (if r6.2.2 = 0 then (if r7.2.2 = 2 then (some (decide (r8.2.2 = 3)))
  else (some false))
  else (some false))
  else (some false))
  else (some false))
  else (some false)

def ref01_end_s0 (p1 : List Int) (s5 : Int) : Option (Int ⊕ (Int ⊕ Unit)) :=
  if s5 < ((p1.length : Int)) then (if s5 < 10 then ((rdo p1 s5).bind fun (z6 : Int) =>
  if z6 < 128 then (some (.inr (.inl s5)))
  else (some (.inl (wi64 (s5 + 1)))))
  else (some (.inr (.inr (())))))
  else (some (.inr (.inr (()))))
def ref01_end (p1 : List Int) : Option Int :=
  ((loopO (ref01_end_s0 p1) ((0 : Int))) : Option (Int ⊕ Unit)).bind (Sum.elim (fun (d3 : Int) =>
  some d3)
  (fun (d4 : Unit) =>
  some ((-1 : Int))))

def ref01_Take_s0 (p1 : List Int) (s5 : Int × Int) : Option ((Int × Int) ⊕ Int) :=
  if 0 ≤ s5.2 then ((rdo p1 s5.2).bind fun (z12 : Int) =>
  some (.inl ((wu64 ((wu64 (128 * s5.1)) + (wu64 (z12.tmod 128))), wi64 (s5.2 - 1)))))
  else (some (.inr s5.1))
def ref01_Take (p1 : List Int) : Option (Int × Int × Int) :=
  (ref01_end p1).bind fun (r2 : Int) =>
  ((if r2 < 0 then (some (decide (10 ≤ ((p1.length : Int)))))
  else (some false)) : Option Bool).bind (fun (j3 : Bool) =>
  if j3 = true then (some (((0 : Int), (0 : Int), (2 : Int))))
  else (if r2 < 0 then (some (((0 : Int), (0 : Int), (3 : Int))))
  else ((((rdo p1 r2).bind fun (z9 : Int) =>
  if z9 = 0 then (if 0 < r2 then (some true)
  else (if r2 = 9 then (some (decide (1 < z9)))
  else (some false)))
  else (if r2 = 9 then (some (decide (1 < z9)))
  else (some false))) : Option Bool).bind (fun (j4 : Bool) =>
  if j4 = true then (some (((0 : Int), (0 : Int), (2 : Int))))
  else (((loopO (ref01_Take_s0 p1) (((0 : Int), r2))) : Option Int).bind (fun (x2 : Int) =>
  some ((x2, wi64 (r2 + 1), (0 : Int)))))))))

def ref01_Put_F (rec : Int → Option (List Int)) (p1 : Int) : Option (List Int) :=
  if p1 < 128 then (some ([wu8 p1]))
  else ((rec (wu64 (p1.tdiv 128))).bind fun (r2 : List Int) =>
  (room (([wu8 (wu64 (128 + (p1.tmod 128)))]).length + r2.length) 1).bind fun _ =>
  some (([wu8 (wu64 (128 + (p1.tmod 128)))]) ++ r2))
def ref01_Put (p1 : Int) : Option (List Int) := itR ref01_Put_F 1000 p1

def law01_VarintTells (p1 : Int) (p2 : List Int) : Option Bool :=
  (law01_awake).bind fun (r12 : Bool) =>
  if 100 < ((p2.length : Int)) then (some r12)
  else ((varint_Take p2).bind fun (r13 : Int × Int × Int) =>
  (ref01_Take p2).bind fun (r14 : Int × Int × Int) =>
  if r12 = true then ((varint_Put p1).bind fun (r21 : List Int) =>
  (ref01_Put p1).bind fun (r22 : List Int) =>
  if (bstr r21) = (bstr r22) then (if r13.1 = r14.1 then (if r13.2.1 = r14.2.1 then (some (decide (r13.2.2 = r14.2.2)))
  else (some false))
  else (some false))
  else (some false))
  else (some false))

def law01_VarintBack (p1 : Int) (p2 : List Int) (p3 : Int) : Option Bool :=
  (law01_awake).bind fun (r5 : Bool) =>
  if 100 < ((p2.length : Int)) then (some r5)
  else ((varint_Put p1).bind fun (r6 : List Int) =>
  if ((r6.length : Int)) = 0 then (some false)
  else ((room ((([] : List Int)).length + r6.length) 1).bind fun _ =>
  (room (r6.length + p2.length) 1).bind fun _ =>
  (varint_Take (r6 ++ p2)).bind fun (r7 : Int × Int × Int) =>
  (must (((r6.length : Int)) ≠ 0)).bind fun _ =>
  (must (0 ≤ ((wi64 p3).tmod ((r6.length : Int))) ∧ ((wi64 p3).tmod ((r6.length : Int))) ≤ r6.length)).bind fun _ =>
  (varint_Take (r6.take ((wi64 p3).tmod ((r6.length : Int))).toNat)).bind fun (r8 : Int × Int × Int) =>
  if r5 = true then (if r7.1 = p1 then (if r7.2.1 = ((r6.length : Int)) then (if r7.2.2 = 0 then (if r8.2.2 = 3 then (some (decide (((r6.length : Int)) ≤ 10)))
  else (some false))
  else (some false))
  else (some false))
  else (some false))
  else (some false)))

def law01_VarintOne (p1 : List Int) (p2 : Int) (p3 : Int) : Option Bool :=
  (law01_awake).bind fun (r19 : Bool) =>
  if 100 < ((p1.length : Int)) then (some r19)
  else ((varint_Take p1).bind fun (r20 : Int × Int × Int) =>
  (varint_Put p2).bind fun (r23 : List Int) =>
  (varint_Put p3).bind fun (r24 : List Int) =>
  if r19 = true then (if (decide ((bstr r23) = (bstr r24))) = (decide (p2 = p3)) then (if ¬ r20.2.2 = 0 then (if r20.2.1 = 0 then (if r20.1 = 0 then (some true)
  else (if r20.2.2 = 0 then ((must (0 ≤ r20.2.1 ∧ r20.2.1 ≤ p1.length)).bind fun _ =>
  (varint_Put r20.1).bind fun (r34 : List Int) =>
  some (decide ((bstr r34) = (bstr (p1.take r20.2.1.toNat)))))
  else (some false)))
  else (if r20.2.2 = 0 then ((must (0 ≤ r20.2.1 ∧ r20.2.1 ≤ p1.length)).bind fun _ =>
  (varint_Put r20.1).bind fun (r35 : List Int) =>
  some (decide ((bstr r35) = (bstr (p1.take r20.2.1.toNat)))))
  else (some false)))
  else (if r20.2.2 = 0 then ((must (0 ≤ r20.2.1 ∧ r20.2.1 ≤ p1.length)).bind fun _ =>
  (varint_Put r20.1).bind fun (r36 : List Int) =>
  some (decide ((bstr r36) = (bstr (p1.take r20.2.1.toNat)))))
  else (some false)))
  else (some false))
  else (some false))

def law01_VarintLess (p1 : Int) (p2 : Int) : Option Bool :=
  (law01_awake).bind fun (r4 : Bool) =>
  (varint_Put p1).bind fun (r5 : List Int) =>
  (varint_Put p2).bind fun (r6 : List Int) =>
  if r4 = true then (if p2 < p1 then (if (decide (((r5.length : Int)) = 1)) = (decide (p1 < 128)) then (if (decide (((r5.length : Int)) ≤ 2)) = (decide (p1 < 16384)) then (some (decide ((decide (((r5.length : Int)) = 10)) = (decide (9223372036854775808 ≤ p1)))))
  else (some false))
  else (some false))
  else (if ((r5.length : Int)) ≤ ((r6.length : Int)) then (if (decide (((r5.length : Int)) = 1)) = (decide (p1 < 128)) then (if (decide (((r5.length : Int)) ≤ 2)) = (decide (p1 < 16384)) then (some (decide ((decide (((r5.length : Int)) = 10)) = (decide (9223372036854775808 ≤ p1)))))
  else (some false))
  else (some false))
  else (some false)))
  else (some false)

def law01_VarintBytes_s0 (r4 : List Int) (s5 : Int × Int) : Option ((Int × Int) ⊕ (Unit ⊕ Int)) :=
  if s5.2 < ((r4.length : Int)) then ((rdo r4 s5.2).bind fun (z12 : Int) =>
  if ¬ (wu64 (z12.tmod 128)) = (s5.1.tmod 128) then (some (.inr (.inl (()))))
  else (if ¬ (decide (z12 < 128)) = (decide (s5.2 = (wi64 (((r4.length : Int)) - 1)))) then (some (.inr (.inl (()))))
  else (some (.inl ((wu64 (s5.1.tdiv 128), wi64 (s5.2 + 1)))))))
  else (some (.inr (.inr s5.1)))
def law01_VarintBytes (p1 : Int) : Option Bool :=
  (law01_awake).bind fun (r3 : Bool) =>
  (varint_Put p1).bind fun (r4 : List Int) =>
  ((loopO (law01_VarintBytes_s0 r4) ((p1, (0 : Int)))) : Option (Unit ⊕ Int)).bind (Sum.elim (fun (d3 : Unit) =>
  some false)
  (fun (d4 : Int) =>
  if r3 = true then (if d4 = 0 then (some (decide (0 < ((r4.length : Int)))))
  else (some false))
  else (some false)))

def codec_Num (p1 : Int) : Option (List Int) :=
  (varint_Put p1).bind fun (r2 : List Int) =>
  some r2

def codec_Text (p1 : List Int) : Option (List Int) :=
  (codec_Num (wu64 ((p1.length : Int)))).bind fun (r2 : List Int) =>
  (room (r2.length + p1.length) 1).bind fun _ =>
  some (r2 ++ p1)

def codec_New (p1 : List Int) : Option Unit :=
  (must (0 ≤ ((p1.length : Int)) ∧ ((p1.length : Int)) ≤ ((p1.length : Int)) ∧ ((p1.length : Int)) ≤ p1.length)).bind fun _ =>
  some (())

def codec_Reader_on (p1 : List Int × Int) : Option Unit :=
  some (())

def codec_Reader_number (p1 : List Int × Int) (p2 : Int) : Option (Int × Int × Int) :=
  (varint_Take p1.1).bind fun (r2 : Int × Int × Int) =>
  ((if r2.2.2 = 0 then (some (decide (p2 < r2.1)))
  else (some false)) : Option Bool).bind (fun (j2 : Bool) =>
  if j2 = true then (some (((0 : Int), (0 : Int), (2 : Int))))
  else (if ¬ r2.2.2 = 0 then (some (((0 : Int), (0 : Int), r2.2.2)))
  else (some ((r2.1, r2.2.1, p1.2)))))

def codec_Reader_Text (p1 : List Int × Int) (p2 : Int) : Option (List Int × List Int × Int) :=
  (codec_Reader_on p1).bind fun (r3 : Unit) =>
  if ¬ (p1.2 = 0) then (some ((([] : List Int), p1.1, p1.2)))
  else ((codec_Reader_number p1 (wu64 (max p2 0))).bind fun (r4 : Int × Int × Int) =>
  if ¬ r4.2.2 = 0 then (some ((([] : List Int), p1.1, r4.2.2)))
  else (if (wu64 (wi64 (((p1.1.length : Int)) - r4.2.1))) < r4.1 then (some ((([] : List Int), p1.1, (3 : Int))))
  else ((must (0 ≤ r4.1)).bind fun _ =>
  (room (r4.1.toNat) 1).bind fun _ =>
  (must (0 ≤ r4.2.1 ∧ r4.2.1 ≤ p1.1.length)).bind fun _ =>
  (must (0 ≤ (wi64 (r4.2.1 + (wi64 r4.1))) ∧ (wi64 (r4.2.1 + (wi64 r4.1))) ≤ p1.1.length)).bind fun _ =>
  some (((p1.1.drop r4.2.1.toNat).take (List.replicate r4.1.toNat ((0 : Int) : Int)).length ++ (List.replicate r4.1.toNat ((0 : Int) : Int)).drop (p1.1.drop r4.2.1.toNat).length, p1.1.drop (wi64 (r4.2.1 + (wi64 r4.1))).toNat, r4.2.2)))))

def codec_Reader_Err (p1 : List Int × Int) : Option Unit :=
  some (())

def codec_Reader_Left (p1 : List Int × Int) : Option Unit :=
  some (())

def codec_Reader_End (p1 : List Int × Int) : Option Int :=
  (codec_Reader_Err p1).bind fun (r3 : Unit) =>
  if ¬ p1.2 = 0 then (some p1.2)
  else ((codec_Reader_Left p1).bind fun (r4 : Unit) =>
  if 0 < ((p1.1.length : Int)) then (some ((2 : Int)))
  else (some ((0 : Int))))

def codec_Fixed_s0 (p1 : Int) (s5 : List Int × Int) : Option ((List Int × Int) ⊕ (List Int)) :=
  if s5.2 < 8 then ((must (0 ≤ (wi64 (8 * s5.2)))).bind fun _ =>
  (rdo s5.1 (wi64 (7 - s5.2))).bind fun (z6 : Int) =>
  some (.inl ((s5.1.set (wi64 (7 - s5.2)).toNat (wu8 (shrk 64 p1 (wi64 (8 * s5.2)))), wi64 (s5.2 + 1)))))
  else (some (.inr s5.1))
def codec_Fixed (p1 : Int) : Option (List Int) :=
  ((loopO (codec_Fixed_s0 p1) ((List.replicate 8 ((0 : Int) : Int), (0 : Int)))) : Option (List Int)).bind (fun (x2 : List Int) =>
  some x2)

def law02_awake : Option Bool :=
  (codec_Text ([(97 : Int), (98 : Int)])).bind fun (r10 : List Int) =>
  (codec_New r10).bind fun (r11 : Unit) =>
  (codec_Reader_Text ((r10.take ((r10.length : Int)).toNat, (0 : Int))) ((2 : Int))).bind fun (r12 : List Int × List Int × Int) =>
  if (bstr r10) = bs0 then (if (bstr r12.1) = bs1 then ((codec_Reader_End r12.2).bind fun (r16 : Int) =>
  if r16 = 0 then ((codec_Fixed ((258 : Int))).bind fun (r17 : List Int) =>
  if (bstr r17) = bs2 then ((codec_Num ((300 : Int))).bind fun (r18 : List Int) =>
  some (decide ((bstr r18) = bs3)))
  else (some false))
  else (some false))
  else (some false))
  else (some false)

def ref02_Num (p1 : Int) : Option (List Int) :=
  (ref01_Put p1).bind fun (r2 : List Int) =>
  some r2

def ref02_Fixed_s0 (p1 : Int) (s5 : List Int × Int) : Option ((List Int × Int) ⊕ (List Int)) :=
  if s5.2 < 8 then ((must (0 ≤ (wi64 (56 - (wi64 (8 * s5.2)))))).bind fun _ =>
  (room (s5.1.length + ([wu8 (shrk 64 p1 (wi64 (56 - (wi64 (8 * s5.2)))))]).length) 1).bind fun _ =>
  some (.inl ((s5.1 ++ ([wu8 (shrk 64 p1 (wi64 (56 - (wi64 (8 * s5.2)))))]), wi64 (s5.2 + 1)))))
  else (some (.inr s5.1))
def ref02_Fixed (p1 : Int) : Option (List Int) :=
  ((loopO (ref02_Fixed_s0 p1) ((([] : List Int), (0 : Int)))) : Option (List Int)).bind (fun (x2 : List Int) =>
  some x2)

def ref02_Text (p1 : List Int) : Option (List Int) :=
  (ref02_Num (wu64 ((p1.length : Int)))).bind fun (r2 : List Int) =>
  (room ((([] : List Int)).length + r2.length) 1).bind fun _ =>
  (room (r2.length + p1.length) 1).bind fun _ =>
  some (r2 ++ p1)

def law02_CodecWrites (p1 : Int) (p2 : List Int) : Option Bool :=
  (law02_awake).bind fun (r26 : Bool) =>
  if 300 < ((p2.length : Int)) then (some r26)
  else (if r26 = true then ((codec_Num p1).bind fun (r45 : List Int) =>
  (ref02_Num p1).bind fun (r46 : List Int) =>
  if (bstr r45) = (bstr r46) then ((codec_Fixed p1).bind fun (r47 : List Int) =>
  (ref02_Fixed p1).bind fun (r48 : List Int) =>
  if (bstr r47) = (bstr r48) then ((codec_Text p2).bind fun (r49 : List Int) =>
  (ref02_Text p2).bind fun (r50 : List Int) =>
  some (decide ((bstr r49) = (bstr r50))))
  else (some false))
  else (some false))
  else (some false))

def codec_Reader_Num (p1 : List Int × Int) (p2 : Int) : Option (Int × List Int × Int) :=
  (codec_Reader_on p1).bind fun (r3 : Unit) =>
  if ¬ (p1.2 = 0) then (some (((0 : Int), p1.1, p1.2)))
  else ((codec_Reader_number p1 p2).bind fun (r4 : Int × Int × Int) =>
  (must (0 ≤ r4.2.1 ∧ r4.2.1 ≤ p1.1.length)).bind fun _ =>
  some ((r4.1, p1.1.drop r4.2.1.toNat, r4.2.2)))

def law02_CodecLimits (p1 : Int) (p2 : List Int) : Option Bool :=
  (law02_awake).bind fun (r15 : Bool) =>
  if 300 < ((p2.length : Int)) then (some r15)
  else (if ((p2.length : Int)) = 0 then (some r15)
  else (if p1 = 0 then (some r15)
  else ((codec_Num p1).bind fun (r16 : List Int) =>
  (room ((([] : List Int)).length + r16.length) 1).bind fun _ =>
  (codec_Text p2).bind fun (r17 : List Int) =>
  (room (r16.length + r17.length) 1).bind fun _ =>
  (codec_New (r16 ++ r17)).bind fun (r18 : Unit) =>
  (codec_Reader_Num (((r16 ++ r17).take (((r16 ++ r17).length : Int)).toNat, (0 : Int))) (wu64 (p1 - 1))).bind fun (r19 : Int × List Int × Int) =>
  (codec_Reader_Err r19.2).bind fun (r20 : Unit) =>
  (codec_Reader_Num r19.2 p1).bind fun (r21 : Int × List Int × Int) =>
  (codec_Reader_Left r21.2).bind fun (r22 : Unit) =>
  (codec_Reader_Num (((r16 ++ r17).take (((r16 ++ r17).length : Int)).toNat, (0 : Int))) p1).bind fun (r23 : Int × List Int × Int) =>
  (codec_Reader_Text r23.2 (wi64 (((p2.length : Int)) - 1))).bind fun (r24 : List Int × List Int × Int) =>
  if r15 = true then (if r19.1 = 0 then (if r19.2.2 = 2 then (if r21.1 = 0 then (if ((r21.2.1.length : Int)) = (((r16 ++ r17).length : Int)) then (if ((r24.1.length : Int)) = 0 then ((codec_Reader_Err r24.2).bind fun (r27 : Unit) =>
  if r24.2.2 = 2 then ((codec_Reader_Left r24.2).bind fun (r28 : Unit) =>
  some (decide (((r24.2.1.length : Int)) = ((r17.length : Int)))))
  else (some false))
  else (some false))
  else (some false))
  else (some false))
  else (some false))
  else (some false))
  else (some false))))

def codec_Reader_Fixed_s0 (p1 : List Int × Int) (s5 : Int × Int) : Option ((Int × Int) ⊕ Int) :=
  if s5.2 < (((p1.1.take (8 : Int).toNat).length : Int)) then ((rdo (p1.1.take (8 : Int).toNat) s5.2).bind fun (z6 : Int) =>
  some (.inl ((wu64 (ork 64 (wu64 (shlk 64 s5.1 8)) (wu64 z6)), wi64 (s5.2 + 1)))))
  else (some (.inr s5.1))
def codec_Reader_Fixed (p1 : List Int × Int) : Option (Int × List Int × Int) :=
  (codec_Reader_on p1).bind fun (r2 : Unit) =>
  if ¬ (p1.2 = 0) then (some (((0 : Int), p1.1, p1.2)))
  else (if ((p1.1.length : Int)) < 8 then (some (((0 : Int), p1.1, (3 : Int))))
  else ((must (0 ≤ (8 : Int) ∧ (8 : Int) ≤ p1.1.length)).bind fun _ =>
  ((loopO (codec_Reader_Fixed_s0 p1) (((0 : Int), (0 : Int)))) : Option Int).bind (fun (x2 : Int) =>
  some ((x2, p1.1.drop (8 : Int).toNat, p1.2)))))

def law02_CodecBack (p1 : Int) (p2 : Int) (p3 : List Int) : Option Bool :=
  (law02_awake).bind fun (r13 : Bool) =>
  if 300 < ((p3.length : Int)) then (some r13)
  else ((codec_Num p1).bind fun (r14 : List Int) =>
  (room ((([] : List Int)).length + r14.length) 1).bind fun _ =>
  (codec_Fixed p2).bind fun (r15 : List Int) =>
  (room (r14.length + r15.length) 1).bind fun _ =>
  (codec_Text p3).bind fun (r16 : List Int) =>
  (room ((r14 ++ r15).length + r16.length) 1).bind fun _ =>
  (codec_New ((r14 ++ r15) ++ r16)).bind fun (r17 : Unit) =>
  (codec_Reader_Num ((((r14 ++ r15) ++ r16).take ((((r14 ++ r15) ++ r16).length : Int)).toNat, (0 : Int))) p1).bind fun (r18 : Int × List Int × Int) =>
  (codec_Reader_Fixed r18.2).bind fun (r19 : Int × List Int × Int) =>
  (codec_Reader_Text r19.2 ((p3.length : Int))).bind fun (r20 : List Int × List Int × Int) =>
  if r13 = true then (if r18.1 = p1 then (if r19.1 = p2 then (if (bstr r20.1) = (bstr p3) then ((codec_Reader_End r20.2).bind fun (r23 : Int) =>
  if r23 = 0 then ((codec_Reader_Left r20.2).bind fun (r24 : Unit) =>
  some (decide (((r20.2.1.length : Int)) = 0)))
  else (some false))
  else (some false))
  else (some false))
  else (some false))
  else (some false))

def ref02_fail (p1 : List Int × Int) (p2 : Int) : Option Int :=
  if p1.2 = 0 then (some p2)
  else (some p1.2)

def ref02_Read (p1 : List Int × Int) (p2 : Int) : Option (List Int × Int × Int) :=
  if ¬ p1.2 = 0 then (some ((p1.1, p1.2, (0 : Int))))
  else ((ref01_Take p1.1).bind fun (r4 : Int × Int × Int) =>
  if ¬ r4.2.2 = 0 then ((ref02_fail p1 r4.2.2).bind fun (r5 : Int) =>
  some ((p1.1, r5, (0 : Int))))
  else (if p2 < r4.1 then ((ref02_fail p1 ((2 : Int))).bind fun (r6 : Int) =>
  some ((p1.1, r6, (0 : Int))))
  else ((must (0 ≤ r4.2.1 ∧ r4.2.1 ≤ p1.1.length)).bind fun _ =>
  some ((p1.1.drop r4.2.1.toNat, p1.2, r4.1)))))

def ref02_ReadFixed_s0 (p1 : List Int × Int) (s5 : Int × Int) : Option ((Int × Int) ⊕ Int) :=
  if s5.2 < 8 then ((rdo p1.1 s5.2).bind fun (z6 : Int) =>
  some (.inl ((wu64 ((wu64 (256 * s5.1)) + (wu64 z6)), wi64 (s5.2 + 1)))))
  else (some (.inr s5.1))
def ref02_ReadFixed (p1 : List Int × Int) : Option (List Int × Int × Int) :=
  if ¬ p1.2 = 0 then (some ((p1.1, p1.2, (0 : Int))))
  else (if ((p1.1.length : Int)) < 8 then ((ref02_fail p1 ((3 : Int))).bind fun (r2 : Int) =>
  some ((p1.1, r2, (0 : Int))))
  else (((loopO (ref02_ReadFixed_s0 p1) (((0 : Int), (0 : Int)))) : Option Int).bind (fun (x2 : Int) =>
  (must (0 ≤ (8 : Int) ∧ (8 : Int) ≤ p1.1.length)).bind fun _ =>
  some ((p1.1.drop (8 : Int).toNat, p1.2, x2)))))

def ref02_ReadText (p1 : List Int × Int) (p2 : Int) : Option (List Int × Int × List Int) :=
  (ref02_Read p1 (wu64 (max p2 0))).bind fun (r3 : List Int × Int × Int) =>
  if ¬ r3.2.1 = 0 then (some ((p1.1, r3.2.1, ([] : List Int))))
  else (if (wu64 ((r3.1.length : Int))) < r3.2.2 then ((ref02_fail p1 ((3 : Int))).bind fun (r4 : Int) =>
  some ((p1.1, r4, ([] : List Int))))
  else ((must (0 ≤ r3.2.2 ∧ r3.2.2 ≤ r3.1.length)).bind fun _ =>
  some ((r3.1.drop r3.2.2.toNat, r3.2.1, r3.1.take r3.2.2.toNat))))

def codec_Reader_Fail (p1 : List Int × Int) (p2 : Int) : Option Int :=
  (codec_Reader_on p1).bind fun (r2 : Unit) =>
  if p1.2 = 0 then (some p2)
  else (some p1.2)

def ref02_End (p1 : List Int × Int) : Option Int :=
  if p1.2 = 0 then (if 0 < ((p1.1.length : Int)) then (some ((2 : Int)))
  else (some p1.2))
  else (some p1.2)

def law02_CodecReads_s0 (p2 : List (Int × Int)) (s5 : Int × List Int × Int × List Int × Int) : Option ((Int × List Int × Int × List Int × Int) ⊕ (Unit ⊕ (List Int × Int × List Int × Int))) :=
  if s5.1 < ((p2.length : Int)) then ((rdo p2 s5.1).bind fun (z6 : Int × Int) =>
  ((if (z6.1.tmod 4) = 0 then ((codec_Reader_Num ((s5.2.1, s5.2.2.1)) (wu64 (max z6.2 0))).bind fun (r214 : Int × List Int × Int) =>
  (ref02_Read s5.2.2.2 (wu64 (max z6.2 0))).bind fun (r215 : List Int × Int × Int) =>
  some ((r214.1, r215.2.2, bs4, bs4, r214.2.1, r214.2.2, r215.1, r215.2.1)))
  else (if (z6.1.tmod 4) = 1 then ((codec_Reader_Fixed ((s5.2.1, s5.2.2.1))).bind fun (r216 : Int × List Int × Int) =>
  (ref02_ReadFixed s5.2.2.2).bind fun (r217 : List Int × Int × Int) =>
  some ((r216.1, r217.2.2, bs4, bs4, r216.2.1, r216.2.2, r217.1, r217.2.1)))
  else (if (z6.1.tmod 4) = 2 then ((codec_Reader_Text ((s5.2.1, s5.2.2.1)) z6.2).bind fun (r218 : List Int × List Int × Int) =>
  (ref02_ReadText s5.2.2.2 z6.2).bind fun (r219 : List Int × Int × List Int) =>
  some (((0 : Int), (0 : Int), bstr r218.1, bstr r219.2.2, r218.2.1, r218.2.2, r219.1, r219.2.1)))
  else ((codec_Reader_Fail ((s5.2.1, s5.2.2.1)) ((9 : Int))).bind fun (r220 : Int) =>
  if s5.2.2.2.2 = 0 then (some (((0 : Int), (0 : Int), bs4, bs4, ((s5.2.1, s5.2.2.1)).1, r220, s5.2.2.2.1, (9 : Int))))
  else (some (((0 : Int), (0 : Int), bs4, bs4, ((s5.2.1, s5.2.2.1)).1, r220, s5.2.2.2.1, s5.2.2.2.2))))))) : Option ((Int × Int × ByteArray × ByteArray × List Int × Int × List Int × Int))).bind (fun (j22 : (Int × Int × ByteArray × ByteArray × List Int × Int × List Int × Int)) =>
  if ¬ j22.1 = j22.2.1 then (some (.inr (.inl (()))))
  else (if ¬ j22.2.2.1 = j22.2.2.2.1 then (some (.inr (.inl (()))))
  else ((codec_Reader_Left ((j22.2.2.2.2.1, j22.2.2.2.2.2.1))).bind fun (r233 : Unit) =>
  if ¬ ((((j22.2.2.2.2.1, j22.2.2.2.2.2.1)).1.length : Int)) = ((j22.2.2.2.2.2.2.1.length : Int)) then (some (.inr (.inl (()))))
  else ((codec_Reader_Err (((j22.2.2.2.2.1, j22.2.2.2.2.2.1)))).bind fun (r234 : Unit) =>
  if ¬ ((((j22.2.2.2.2.1, j22.2.2.2.2.2.1))).2) = j22.2.2.2.2.2.2.2 then (some (.inr (.inl (()))))
  else ((codec_Reader_End ((((j22.2.2.2.2.1, j22.2.2.2.2.2.1))))).bind fun (r235 : Int) =>
  (ref02_End j22.2.2.2.2.2.2).bind fun (r236 : Int) =>
  if ¬ r235 = r236 then (some (.inr (.inl (()))))
  else (some (.inl ((wi64 (s5.1 + 1), ((((j22.2.2.2.2.1, j22.2.2.2.2.2.1)))).1, ((((j22.2.2.2.2.1, j22.2.2.2.2.2.1)))).2, j22.2.2.2.2.2.2.1, j22.2.2.2.2.2.2.2))))))))))
  else (some (.inr (.inr ((s5.2.1, s5.2.2.1, s5.2.2.2.1, s5.2.2.2.2)))))
def law02_CodecReads (p1 : List Int) (p2 : List (Int × Int)) : Option Bool :=
  (law02_awake).bind fun (r121 : Bool) =>
  if 300 < ((p1.length : Int)) then (some r121)
  else (if 20 < ((p2.length : Int)) then (some r121)
  else ((codec_New p1).bind fun (r122 : Unit) =>
  ((loopO (law02_CodecReads_s0 p2) (((0 : Int), p1.take ((p1.length : Int)).toNat, (0 : Int), p1, (0 : Int)))) : Option (Unit ⊕ (List Int × Int × List Int × Int))).bind (Sum.elim (fun (d3 : Unit) =>
  some false)
  (fun (d4 : List Int × Int × List Int × Int) =>
  if r121 = true then ((codec_Reader_Left ((d4.1, d4.2.1))).bind fun (r240 : Unit) =>
  some (decide (((((d4.1, d4.2.1)).1.length : Int)) = ((d4.2.2.1.length : Int)))))
  else (some false)))))

def codec_Reader_on_v1 : Option Unit :=
  some (())

def codec_Reader_Fail_v1 (p1 : Int) : Option Unit :=
  (codec_Reader_on_v1).bind fun (r2 : Unit) =>
  some (())

def codec_Reader_Num_v1 (p1 : Int) : Option Unit :=
  (codec_Reader_on_v1).bind fun (r2 : Unit) =>
  some (())

def codec_Reader_Fixed_v1 : Option Unit :=
  (codec_Reader_on_v1).bind fun (r2 : Unit) =>
  some (())

def codec_Reader_Text_v1 (p1 : Int) : Option Unit :=
  (codec_Reader_on_v1).bind fun (r2 : Unit) =>
  some (())

def codec_Reader_Left_v1 : Option Unit :=
  some (())

def codec_Reader_Err_v1 : Option Unit :=
  some (())

def codec_Reader_End_v1 : Option Unit :=
  (codec_Reader_Err_v1).bind fun (r2 : Unit) =>
  some (())

def law02_CodecNobody_s0 (r48 : List Int × List Int × Int) (s5 : List Int × Int) : Option ((List Int × Int) ⊕ Unit) :=
  if s5.2 < ((r48.1.length : Int)) then ((rdo s5.1 s5.2).bind fun (z6 : Int) =>
  some (.inl ((s5.1.set (s5.2).toNat (wu8 (z6 + 1)), wi64 (s5.2 + 1)))))
  else (some (.inr (())))
def law02_CodecNobody (p1 : List Int) (p2 : Int) (p3 : Int × Int) : Option Bool :=
  (law02_awake).bind fun (r39 : Bool) =>
  if 300 < ((p1.length : Int)) then (some r39)
  else ((codec_Reader_Fail_v1 ((9 : Int))).bind fun (r40 : Unit) =>
  (codec_New p1).bind fun (r41 : Unit) =>
  (codec_Reader_Fail ((p1.take ((p1.length : Int)).toNat, (0 : Int))) ((0 : Int))).bind fun (r42 : Int) =>
  (codec_Reader_Err ((((p1.take ((p1.length : Int)).toNat, (0 : Int))).1, r42))).bind fun (r43 : Unit) =>
  (codec_Reader_Fail (((((p1.take ((p1.length : Int)).toNat, (0 : Int))).1, r42))) (wi64 (wu8 (1 + (p3.1.tmod 15))))).bind fun (r44 : Int) =>
  (codec_Reader_Fail (((((((p1.take ((p1.length : Int)).toNat, (0 : Int))).1, r42))).1, r44)) (wi64 (wu8 (1 + (p3.2.tmod 15))))).bind fun (r45 : Int) =>
  (codec_Text p1).bind fun (r46 : List Int) =>
  (room ((([] : List Int)).length + r46.length) 1).bind fun _ =>
  (codec_New r46).bind fun (r47 : Unit) =>
  (codec_Reader_Text ((r46.take ((r46.length : Int)).toNat, (0 : Int))) ((p1.length : Int))).bind fun (r48 : List Int × List Int × Int) =>
  ((loopO (law02_CodecNobody_s0 r48) ((r48.1, (0 : Int)))) : Option Unit).bind (fun (x2 : Unit) =>
  if r39 = true then (if (bstr r46) = (bstr r46) then (if (((((p1.take ((p1.length : Int)).toNat, (0 : Int))).1, r42)).2) = 0 then ((codec_Reader_Err (((((((((p1.take ((p1.length : Int)).toNat, (0 : Int))).1, r42))).1, r44)).1, r45))).bind fun (r70 : Unit) =>
  if ((((((((((p1.take ((p1.length : Int)).toNat, (0 : Int))).1, r42))).1, r44)).1, r45)).2) = (wi64 (wu8 (1 + (p3.1.tmod 15)))) then ((codec_Reader_Num_v1 ((9 : Int))).bind fun (r71 : Unit) =>
  (codec_Reader_Fixed_v1).bind fun (r72 : Unit) =>
  (codec_Reader_Text_v1 p2).bind fun (r73 : Unit) =>
  (codec_Reader_Left_v1).bind fun (r74 : Unit) =>
  (codec_Reader_Err_v1).bind fun (r75 : Unit) =>
  (codec_Reader_End_v1).bind fun (r76 : Unit) =>
  some true)
  else (some false))
  else (some false))
  else (some false))
  else (some false)))

def buffer_New (p1 : Int) (p2 : Int) : Option (Int × Int × Int) :=
  if 4611686018427387904 < p1 then (some (((0 : Int), (0 : Int), (9 : Int))))
  else (if p2 < 1 then (some (((0 : Int), (0 : Int), (9 : Int))))
  else (if 1024 < p2 then (some (((0 : Int), (0 : Int), (9 : Int))))
  else (some ((p1, p2, (0 : Int))))))

def buffer_Buf_below_1 (p1 : Int × Int × Int) (p2 : Int) : Option Unit :=
  some (())

def slices_IndexFunc_Event_s0 (p1 : List (Int × Int × Int)) (p2 : Int) (s5 : Int) : Option (Int ⊕ (Int ⊕ Unit)) :=
  if s5 < ((p1.length : Int)) then ((rdo p1 s5).bind fun (z6 : Int × Int × Int) =>
  (buffer_Buf_below_1 z6 p2).bind fun (r6 : Unit) =>
  if p2 < z6.1 then (some (.inr (.inl s5)))
  else (some (.inl (wi64 (s5 + 1)))))
  else (some (.inr (.inr (()))))
def slices_IndexFunc_Event (p1 : List (Int × Int × Int)) (p2 : Int) : Option Int :=
  ((loopO (slices_IndexFunc_Event_s0 p1 p2) ((0 : Int))) : Option (Int ⊕ Unit)).bind (Sum.elim (fun (d3 : Int) =>
  some d3)
  (fun (d4 : Unit) =>
  some ((-1 : Int))))

def buffer_Buf_below (p1 : Int × Int × Int × Int × List (Int × Int × Int)) (p2 : Int) : Option Int :=
  (slices_IndexFunc_Event p1.2.2.2.2 p2).bind fun (r2 : Int) =>
  if r2 < 0 then (some ((p1.2.2.2.2.length : Int)))
  else (some r2)

def slices_Max_uint64_s0 (p1 : List Int) (s5 : Int × Int) : Option ((Int × Int) ⊕ Int) :=
  if s5.2 < ((p1.length : Int)) then ((rdo p1 s5.2).bind fun (z8 : Int) =>
  some (.inl ((max s5.1 z8, wi64 (s5.2 + 1)))))
  else (some (.inr s5.1))
def slices_Max_uint64 (p1 : List Int) : Option Int :=
  ((if ((p1.length : Int)) < 1 then (none)
  else (some (()))) : Option Unit).bind (fun (j2 : Unit) =>
  (rdo p1 0).bind fun (z5 : Int) =>
  ((loopO (slices_Max_uint64_s0 p1) ((z5, (1 : Int)))) : Option Int).bind (fun (x2 : Int) =>
  some x2))

def buffer_latest (p1 : List Int) : Option Int :=
  (slices_Max_uint64 p1).bind fun (r2 : Int) =>
  some r2

def slices_Grow_Event (p1 : Int) : Option (List (Int × Int × Int)) :=
  ((if p1 < 0 then (none)
  else (some (()))) : Option Unit).bind (fun (j2 : Unit) =>
  if 0 < (wi64 (p1 - 0)) then ((must (0 ≤ (0 : Int) ∧ (0 : Int) ≤ (([] : List (Int × Int × Int))).length)).bind fun _ =>
  (room ((wi64 (p1 - 0)).toNat) 24).bind fun _ =>
  (must (0 ≤ (0 : Int) ∧ (0 : Int) ≤ (List.replicate ((wi64 (p1 - 0)).toNat) (((0 : Int), (0 : Int), (0 : Int)) : Int × Int × Int)).length)).bind fun _ =>
  some ((List.replicate ((wi64 (p1 - 0)).toNat) (((0 : Int), (0 : Int), (0 : Int)) : Int × Int × Int)).take 0))
  else (some (([] : List (Int × Int × Int)))))

def slices_Concat_Event_s0 (p1 : List (List (Int × Int × Int))) (s8 : Int × Int) : Option ((Int × Int) ⊕ Int) :=
  if s8.2 < ((p1.length : Int)) then ((rdo p1 s8.2).bind fun (z9 : List (Int × Int × Int)) =>
  if (wi64 (s8.1 + ((z9.length : Int)))) < 0 then (none)
  else (some (.inl ((wi64 (s8.1 + ((z9.length : Int))), wi64 (s8.2 + 1))))))
  else (some (.inr s8.1))
def slices_Concat_Event_s1 (p1 : List (List (Int × Int × Int))) (s11 : (List (Int × Int × Int)) × Int) : Option (((List (Int × Int × Int)) × Int) ⊕ ((List (Int × Int × Int)))) :=
  if s11.2 < ((p1.length : Int)) then ((rdo p1 s11.2).bind fun (z12 : List (Int × Int × Int)) =>
  (room (s11.1.length + z12.length) 24).bind fun _ =>
  some (.inl ((s11.1 ++ z12, wi64 (s11.2 + 1)))))
  else (some (.inr s11.1))
def slices_Concat_Event (p1 : List (List (Int × Int × Int))) : Option (List (Int × Int × Int)) :=
  ((loopO (slices_Concat_Event_s0 p1) (((0 : Int), (0 : Int)))) : Option Int).bind (fun (x3 : Int) =>
  (slices_Grow_Event x3).bind fun (r2 : List (Int × Int × Int)) =>
  ((loopO (slices_Concat_Event_s1 p1) ((r2, (0 : Int)))) : Option ((List (Int × Int × Int)))).bind (fun (x4 : (List (Int × Int × Int))) =>
  some x4))

def slices_Clone_Event (p1 : List (Int × Int × Int)) : Option (List (Int × Int × Int)) :=
  (room ((([] : List (Int × Int × Int))).length + p1.length) 24).bind fun _ =>
  some p1

def buffer_Buf_settle_s0 (p1 : Int × Int × Int × Int × List (Int × Int × Int)) (s5 : Int × Int) : Option ((Int × Int) ⊕ ((Int × Int))) :=
  if p1.2.1 < (wi64 (((p1.2.2.2.2.length : Int)) - s5.1)) then ((rdo p1.2.2.2.2 s5.1).bind fun (z6 : Int × Int × Int) =>
  (buffer_Buf_below ((p1.1, p1.2.1, p1.2.2.1, z6.1, p1.2.2.2.2)) z6.1).bind fun (r14 : Int) =>
  some (.inl ((r14, z6.1))))
  else (some (.inr ((s5.1, s5.2))))
def buffer_Buf_settle (p1 : Int × Int × Int × Int × List (Int × Int × Int)) : Option (Int × (List (Int × Int × Int)) × List (Int × Int × Int)) :=
  ((if p1.1 < p1.2.2.1 then ((buffer_latest ([p1.2.2.2.1, wu64 (p1.2.2.1 - p1.1)])).bind fun (r10 : Int) =>
  some r10)
  else (some p1.2.2.2.1)) : Option Int).bind (fun (j2 : Int) =>
  (buffer_Buf_below ((p1.1, p1.2.1, p1.2.2.1, j2, p1.2.2.2.2)) j2).bind fun (r11 : Int) =>
  ((loopO (buffer_Buf_settle_s0 p1) ((r11, j2))) : Option ((Int × Int))).bind (fun (x2 : (Int × Int)) =>
  (must (0 ≤ x2.1 ∧ x2.1 ≤ x2.1 ∧ x2.1 ≤ p1.2.2.2.2.length)).bind fun _ =>
  (must (0 ≤ x2.1 ∧ x2.1 ≤ p1.2.2.2.2.length)).bind fun _ =>
  (slices_Clone_Event (p1.2.2.2.2.take x2.1.toNat)).bind fun (r16 : List (Int × Int × Int)) =>
  some ((x2.2, p1.2.2.2.2.drop x2.1.toNat, r16))))

def buffer_Push (p1 : Int × Int × Int × Int × List (Int × Int × Int)) (p2 : Int × Int × Int) : Option (Int × Int × Int × Int × (List (Int × Int × Int)) × (List (Int × Int × Int)) × Int) :=
  if p2.2.2 = 0 then (some (((0 : Int), (0 : Int), (0 : Int), (0 : Int), ([] : List (Int × Int × Int)), ([] : List (Int × Int × Int)), (1 : Int))))
  else (if 9223372036854775807 < p2.1 then (some (((0 : Int), (0 : Int), (0 : Int), (0 : Int), ([] : List (Int × Int × Int)), ([] : List (Int × Int × Int)), (6 : Int))))
  else (if p2.1 < p1.2.2.2.1 then (some (((0 : Int), (0 : Int), (0 : Int), (0 : Int), ([] : List (Int × Int × Int)), ([] : List (Int × Int × Int)), (4 : Int))))
  else ((buffer_Buf_below p1 p2.1).bind fun (r6 : Int) =>
  (buffer_latest ([p1.2.2.1, p2.1])).bind fun (r7 : Int) =>
  (must (0 ≤ r6 ∧ r6 ≤ r6 ∧ r6 ≤ p1.2.2.2.2.length)).bind fun _ =>
  (must (0 ≤ r6 ∧ r6 ≤ p1.2.2.2.2.length)).bind fun _ =>
  (slices_Concat_Event ([p1.2.2.2.2.take r6.toNat, [p2], p1.2.2.2.2.drop r6.toNat])).bind fun (r9 : List (Int × Int × Int)) =>
  (buffer_Buf_settle ((p1.1, p1.2.1, r7, p1.2.2.2.1, r9))).bind fun (r10 : Int × (List (Int × Int × Int)) × List (Int × Int × Int)) =>
  some ((((p1.1, p1.2.1, r7, p1.2.2.2.1, r9)).1, ((p1.1, p1.2.1, r7, p1.2.2.2.1, r9)).2.1, ((p1.1, p1.2.1, r7, p1.2.2.2.1, r9)).2.2.1, r10.1, r10.2.1, r10.2.2, (0 : Int))))))

def buffer_Weight_s0 (p1 : Int × Int × Int × Int × List (Int × Int × Int)) (s5 : Int × Int) : Option ((Int × Int) ⊕ Int) :=
  if s5.2 < ((p1.2.2.2.2.length : Int)) then ((rdo p1.2.2.2.2 s5.2).bind fun (z6 : Int × Int × Int) =>
  some (.inl ((wu64 (s5.1 + z6.2.2), wi64 (s5.2 + 1)))))
  else (some (.inr s5.1))
def buffer_Weight (p1 : Int × Int × Int × Int × List (Int × Int × Int)) : Option Int :=
  ((loopO (buffer_Weight_s0 p1) (((0 : Int), (0 : Int)))) : Option Int).bind (fun (x2 : Int) =>
  some x2)

def buffer_May_1 (p1 : Int × Int × Int) (p2 : Int × Int × Int × Int × List (Int × Int × Int)) (p3 : Int) : Option Bool :=
  if p1.2.2 = 0 then (some true)
  else (if p1.1 ≤ p2.2.2.2.1 then (some true)
  else (if p1.1 < p3 then (some true)
  else (some (decide (p2.2.2.1 < p1.1)))))

def slices_IndexFunc_Event_v1_s0 (p1 : List (Int × Int × Int)) (s5 : Int × Int × Int × Int × Int × (List (Int × Int × Int)) × Int) : Option ((Int × Int × Int × Int × Int × (List (Int × Int × Int)) × Int) ⊕ ((Int × Int × Int × Int × Int × (List (Int × Int × Int)) × Int) ⊕ (Int × Int × Int × Int × (List (Int × Int × Int)) × Int))) :=
  if s5.1 < ((p1.length : Int)) then ((rdo p1 s5.1).bind fun (z6 : Int × Int × Int) =>
  (buffer_May_1 z6 ((s5.2.1, s5.2.2.1, s5.2.2.2.1, s5.2.2.2.2.1, s5.2.2.2.2.2.1)) s5.2.2.2.2.2.2).bind fun (r6 : Bool) =>
  if r6 = true then (some (.inr (.inl ((s5.1, ((s5.2.1, s5.2.2.1, s5.2.2.2.1, s5.2.2.2.2.1, s5.2.2.2.2.2.1)).1, ((s5.2.1, s5.2.2.1, s5.2.2.2.1, s5.2.2.2.2.1, s5.2.2.2.2.2.1)).2.1, ((s5.2.1, s5.2.2.1, s5.2.2.2.1, s5.2.2.2.2.1, s5.2.2.2.2.2.1)).2.2.1, ((s5.2.1, s5.2.2.1, s5.2.2.2.1, s5.2.2.2.2.1, s5.2.2.2.2.2.1)).2.2.2.1, ((s5.2.1, s5.2.2.1, s5.2.2.2.1, s5.2.2.2.2.1, s5.2.2.2.2.2.1)).2.2.2.2, z6.1)))))
  else (some (.inl ((wi64 (s5.1 + 1), ((s5.2.1, s5.2.2.1, s5.2.2.2.1, s5.2.2.2.2.1, s5.2.2.2.2.2.1)).1, ((s5.2.1, s5.2.2.1, s5.2.2.2.1, s5.2.2.2.2.1, s5.2.2.2.2.2.1)).2.1, ((s5.2.1, s5.2.2.1, s5.2.2.2.1, s5.2.2.2.2.1, s5.2.2.2.2.2.1)).2.2.1, ((s5.2.1, s5.2.2.1, s5.2.2.2.1, s5.2.2.2.2.1, s5.2.2.2.2.2.1)).2.2.2.1, ((s5.2.1, s5.2.2.1, s5.2.2.2.1, s5.2.2.2.2.1, s5.2.2.2.2.2.1)).2.2.2.2, z6.1)))))
  else (some (.inr (.inr ((s5.2.1, s5.2.2.1, s5.2.2.2.1, s5.2.2.2.2.1, s5.2.2.2.2.2.1, s5.2.2.2.2.2.2)))))
def slices_IndexFunc_Event_v1 (p1 : List (Int × Int × Int)) (p2 : Int × Int × Int × Int × (List (Int × Int × Int)) × Int) : Option (Int × Int × Int × Int × Int × (List (Int × Int × Int)) × Int) :=
  ((loopO (slices_IndexFunc_Event_v1_s0 p1) (((0 : Int), p2.1, p2.2.1, p2.2.2.1, p2.2.2.2.1, p2.2.2.2.2.1, p2.2.2.2.2.2))) : Option ((Int × Int × Int × Int × Int × (List (Int × Int × Int)) × Int) ⊕ (Int × Int × Int × Int × (List (Int × Int × Int)) × Int))).bind (Sum.elim (fun (d3 : Int × Int × Int × Int × Int × (List (Int × Int × Int)) × Int) =>
  some ((d3.1, d3.2.1, d3.2.2.1, d3.2.2.2.1, d3.2.2.2.2.1, d3.2.2.2.2.2.1, d3.2.2.2.2.2.2)))
  (fun (d4 : Int × Int × Int × Int × (List (Int × Int × Int)) × Int) =>
  some (((-1 : Int), d4.1, d4.2.1, d4.2.2.1, d4.2.2.2.1, d4.2.2.2.2.1, d4.2.2.2.2.2))))

def slices_ContainsFunc_Event (p1 : List (Int × Int × Int)) (p2 : Int × Int × Int × Int × (List (Int × Int × Int)) × Int) : Option (Bool × Int × Int × Int × Int × (List (Int × Int × Int)) × Int) :=
  (slices_IndexFunc_Event_v1 p1 p2).bind fun (r2 : Int × Int × Int × Int × Int × (List (Int × Int × Int)) × Int) =>
  some ((decide (0 ≤ r2.1), r2.2.1, r2.2.2.1, r2.2.2.2.1, r2.2.2.2.2.1, r2.2.2.2.2.2.1, r2.2.2.2.2.2.2))

def buffer_May (p1 : Int × Int × Int × Int × List (Int × Int × Int)) : Option Int :=
  (buffer_New p1.1 p1.2.1).bind fun (r3 : Int × Int × Int) =>
  if ¬ r3.2.2 = 0 then (some r3.2.2)
  else ((slices_ContainsFunc_Event p1.2.2.2.2 ((p1.1, p1.2.1, p1.2.2.1, p1.2.2.2.1, p1.2.2.2.2, p1.2.2.2.1))).bind fun (r4 : Bool × Int × Int × Int × Int × (List (Int × Int × Int)) × Int) =>
  if r4.1 = true then (some ((2 : Int)))
  else (if r4.2.2.1 < ((r4.2.2.2.2.2.1.length : Int)) then (some ((2 : Int)))
  else (if r4.2.2.2.1 < r4.2.2.2.2.1 then (some ((2 : Int)))
  else (if 9223372036854775807 < r4.2.2.2.1 then (some ((2 : Int)))
  else (if r4.2.1 < (wu64 (r4.2.2.2.1 - r4.2.2.2.2.1)) then (some ((2 : Int)))
  else (some ((0 : Int))))))))

def law12_awake : Option Bool :=
  (buffer_New ((2 : Int)) ((9 : Int))).bind fun (r10 : Int × Int × Int) =>
  (buffer_Push ((r10.1, r10.2.1, (0 : Int), (0 : Int), ([] : List (Int × Int × Int)))) (((5 : Int), (0 : Int), (1 : Int)))).bind fun (r11 : Int × Int × Int × Int × (List (Int × Int × Int)) × (List (Int × Int × Int)) × Int) =>
  (buffer_Push ((r11.1, r11.2.1, r11.2.2.1, r11.2.2.2.1, r11.2.2.2.2.1)) (((4 : Int), (0 : Int), (2 : Int)))).bind fun (r12 : Int × Int × Int × Int × (List (Int × Int × Int)) × (List (Int × Int × Int)) × Int) =>
  (buffer_Push ((r12.1, r12.2.1, r12.2.2.1, r12.2.2.2.1, r12.2.2.2.2.1)) (((8 : Int), (0 : Int), (3 : Int)))).bind fun (r13 : Int × Int × Int × Int × (List (Int × Int × Int)) × (List (Int × Int × Int)) × Int) =>
  (buffer_Push ((r13.1, r13.2.1, r13.2.2.1, r13.2.2.2.1, r13.2.2.2.2.1)) (((5 : Int), (0 : Int), (1 : Int)))).bind fun (r14 : Int × Int × Int × Int × (List (Int × Int × Int)) × (List (Int × Int × Int)) × Int) =>
  if r10.2.2 = 0 then (if r12.2.2.2.2.2.2 = 0 then (if r13.2.2.2.2.2.2 = 0 then (if ((r12.2.2.2.2.2.1.length : Int)) = 0 then (if ((r13.2.2.2.2.2.1.length : Int)) = 2 then ((rdo r13.2.2.2.2.2.1 0).bind fun (z4 : Int × Int × Int) =>
  if z4.1 = 4 then (if r13.2.2.2.1 = 6 then (if r14.2.2.2.2.2.2 = 4 then ((buffer_Weight ((r13.1, r13.2.1, r13.2.2.1, r13.2.2.2.1, r13.2.2.2.2.1))).bind fun (r17 : Int) =>
  if r17 = 3 then ((buffer_May ((r13.1, r13.2.1, r13.2.2.1, r13.2.2.2.1, r13.2.2.2.2.1))).bind fun (r18 : Int) =>
  some (decide (r18 = 0)))
  else (some false))
  else (some false))
  else (some false))
  else (some false))
  else (some false))
  else (some false))
  else (some false))
  else (some false))
  else (some false)

def ref12_Conf (p1 : Int) (p2 : Int) : Option Bool :=
  if p1 ≤ 4611686018427387904 then (if 1 ≤ p2 then (some (decide (p2 ≤ 1024)))
  else (some false))
  else (some false)

def ref12_Events_s0 (p1 : List (Int × Int × Int)) (p2 : List (Int × Int × Int)) (s5 : Int) : Option (Int ⊕ (Unit ⊕ Unit)) :=
  if s5 < ((p1.length : Int)) then ((rdo p1 s5).bind fun (z23 : Int × Int × Int) =>
  (rdo p2 s5).bind fun (z24 : Int × Int × Int) =>
  if ¬ (z23.1 = z24.1 ∧ z23.2.1 = z24.2.1 ∧ z23.2.2 = z24.2.2 ∧ True) then (some (.inr (.inl (()))))
  else (some (.inl (wi64 (s5 + 1)))))
  else (some (.inr (.inr (()))))
def ref12_Events (p1 : List (Int × Int × Int)) (p2 : List (Int × Int × Int)) : Option Bool :=
  if ¬ ((p1.length : Int)) = ((p2.length : Int)) then (some false)
  else (((loopO (ref12_Events_s0 p1 p2) ((0 : Int))) : Option (Unit ⊕ Unit)).bind (Sum.elim (fun (d3 : Unit) =>
  some false)
  (fun (d4 : Unit) =>
  some true)))

def ref12_Same (p1 : Int × Int × Int × Int × List (Int × Int × Int)) (p2 : Int × Int × Int × Int × List (Int × Int × Int)) : Option Bool :=
  if p1.1 = p2.1 then (if p1.2.1 = p2.2.1 then (if p1.2.2.1 = p2.2.2.1 then (if p1.2.2.2.1 = p2.2.2.2.1 then ((ref12_Events p1.2.2.2.2 p2.2.2.2.2).bind fun (r4 : Bool) =>
  some r4)
  else (some false))
  else (some false))
  else (some false))
  else (some false)

def law12_same (p1 : Int × Int × Int × Int × List (Int × Int × Int)) (p2 : Int × Int × Int × Int × List (Int × Int × Int)) : Option Bool :=
  (ref12_Same p1 p2).bind fun (r2 : Bool) =>
  some r2

def law12_made (p1 : Int × Int × Int × Int × List (Int × Int × Int)) : Option Unit :=
  some (())

def ref12_May_s0 (p1 : Int × Int × Int × Int × List (Int × Int × Int)) (s5 : Int) : Option (Int ⊕ (Unit ⊕ Unit)) :=
  if s5 < ((p1.2.2.2.2.length : Int)) then ((rdo p1.2.2.2.2 s5).bind fun (z18 : Int × Int × Int) =>
  if z18.2.2 = 0 then (some (.inr (.inl (()))))
  else (if z18.1 ≤ p1.2.2.2.1 then (some (.inr (.inl (()))))
  else (if p1.2.2.1 < z18.1 then (some (.inr (.inl (()))))
  else (if 0 < s5 then ((rdo p1.2.2.2.2 (wi64 (s5 - 1))).bind fun (z22 : Int × Int × Int) =>
  if z18.1 < z22.1 then (some (.inr (.inl (()))))
  else (some (.inl (wi64 (s5 + 1)))))
  else (some (.inl (wi64 (s5 + 1))))))))
  else (some (.inr (.inr (()))))
def ref12_May (p1 : Int × Int × Int × Int × List (Int × Int × Int)) : Option Int :=
  (ref12_Conf p1.1 p1.2.1).bind fun (r2 : Bool) =>
  if ¬ (r2 = true) then (some ((9 : Int)))
  else (if p1.2.1 < ((p1.2.2.2.2.length : Int)) then (some ((2 : Int)))
  else (if p1.2.2.1 < p1.2.2.2.1 then (some ((2 : Int)))
  else (if 9223372036854775807 < p1.2.2.1 then (some ((2 : Int)))
  else (if p1.1 < (wu64 (p1.2.2.1 - p1.2.2.2.1)) then (some ((2 : Int)))
  else (((loopO (ref12_May_s0 p1) ((0 : Int))) : Option (Unit ⊕ Unit)).bind (Sum.elim (fun (d3 : Unit) =>
  some ((2 : Int)))
  (fun (d4 : Unit) =>
  some ((0 : Int)))))))))

def slices_Equal_Event_s0 (p1 : List (Int × Int × Int)) (p2 : List (Int × Int × Int)) (s5 : Int) : Option (Int ⊕ (Unit ⊕ Unit)) :=
  if s5 < ((p1.length : Int)) then ((rdo p1 s5).bind fun (z23 : Int × Int × Int) =>
  (rdo p2 s5).bind fun (z24 : Int × Int × Int) =>
  if ¬ (z23.1 = z24.1 ∧ z23.2.1 = z24.2.1 ∧ z23.2.2 = z24.2.2 ∧ True) then (some (.inr (.inl (()))))
  else (some (.inl (wi64 (s5 + 1)))))
  else (some (.inr (.inr (()))))
def slices_Equal_Event (p1 : List (Int × Int × Int)) (p2 : List (Int × Int × Int)) : Option Bool :=
  if ¬ ((p1.length : Int)) = ((p2.length : Int)) then (some false)
  else (((loopO (slices_Equal_Event_s0 p1 p2) ((0 : Int))) : Option (Unit ⊕ Unit)).bind (Sum.elim (fun (d3 : Unit) =>
  some false)
  (fun (d4 : Unit) =>
  some true)))

def buffer_Same (p1 : Int × Int × Int × Int × List (Int × Int × Int)) (p2 : Int × Int × Int × Int × List (Int × Int × Int)) : Option Bool :=
  ((if p1.1 = p2.1 then (if p1.2.2.1 = p2.2.2.1 then (some (decide (p1.2.2.2.1 = p2.2.2.2.1)))
  else (some false))
  else (some false)) : Option Bool).bind (fun (j2 : Bool) =>
  if j2 = true then (if p1.2.1 = p2.2.1 then ((slices_Equal_Event p1.2.2.2.2 p2.2.2.2.2).bind fun (r4 : Bool) =>
  some r4)
  else (some false))
  else (some false))

def law12_BufferMay (p1 : Int × Int × Int × Int × List (Int × Int × Int)) (p2 : Int × Int × Int × Int × List (Int × Int × Int)) : Option Bool :=
  (law12_awake).bind fun (r53 : Bool) =>
  if 60 < ((p1.2.2.2.2.length : Int)) then (some r53)
  else (if 60 < ((p2.2.2.2.2.length : Int)) then (some r53)
  else ((buffer_New p1.1 p1.2.1).bind fun (r54 : Int × Int × Int) =>
  (ref12_Conf p1.1 p1.2.1).bind fun (r55 : Bool) =>
  (law12_same ((r54.1, r54.2.1, (0 : Int), (0 : Int), ([] : List (Int × Int × Int)))) ((p1.1, p1.2.1, (0 : Int), (0 : Int), ([] : List (Int × Int × Int))))).bind fun (r56 : Bool) =>
  if r53 = true then ((law12_made p1).bind fun (r93 : Unit) =>
  (buffer_May p1).bind fun (r94 : Int) =>
  (ref12_May p1).bind fun (r95 : Int) =>
  if r94 = r95 then (if (decide (r54.2.2 = 0)) = r55 then (if ¬ (r55 = true) then (if r54.2.2 = 9 then ((law12_made p2).bind fun (r96 : Unit) =>
  (buffer_Same p1 p2).bind fun (r97 : Bool) =>
  (ref12_Same p1 p2).bind fun (r98 : Bool) =>
  some (decide (r97 = r98)))
  else (if r55 = true then (if r56 = true then ((law12_made p2).bind fun (r99 : Unit) =>
  (buffer_Same p1 p2).bind fun (r100 : Bool) =>
  (ref12_Same p1 p2).bind fun (r101 : Bool) =>
  some (decide (r100 = r101)))
  else (some false))
  else (some false)))
  else (if r55 = true then (if r56 = true then ((law12_made p2).bind fun (r102 : Unit) =>
  (buffer_Same p1 p2).bind fun (r103 : Bool) =>
  (ref12_Same p1 p2).bind fun (r104 : Bool) =>
  some (decide (r103 = r104)))
  else (some false))
  else (some false)))
  else (some false))
  else (some false))
  else (some false)))

def law12_BufferTurn_s0 (p3 : List Int) (s8 : (List (Int × Int × Int)) × Int × Int × Int × Int × Int × Int × List (Int × Int × Int)) : Option (((List (Int × Int × Int)) × Int × Int × Int × Int × Int × Int × List (Int × Int × Int)) ⊕ (((List (Int × Int × Int)) × Int × Int × Int × Int × Int × List (Int × Int × Int)))) :=
  if s8.2.2.1 < ((p3.length : Int)) then ((rdo p3 s8.2.2.1).bind fun (z23 : Int) =>
  (buffer_Push s8.2.2.2 ((wu64 z23, wu64 s8.2.2.1, wu64 ((wu64 s8.2.2.1) + 1)))).bind fun (r10 : Int × Int × Int × Int × (List (Int × Int × Int)) × (List (Int × Int × Int)) × Int) =>
  if r10.2.2.2.2.2.2 = 0 then ((room (s8.1.length + r10.2.2.2.2.2.1.length) 24).bind fun _ =>
  some (.inl ((s8.1 ++ r10.2.2.2.2.2.1, wu64 ((wu64 (s8.2.1 + (wu64 s8.2.2.1))) + 1), wi64 (s8.2.2.1 + 1), r10.1, r10.2.1, r10.2.2.1, r10.2.2.2.1, r10.2.2.2.2.1))))
  else (some (.inl ((s8.1, s8.2.1, wi64 (s8.2.2.1 + 1), s8.2.2.2.1, s8.2.2.2.2.1, s8.2.2.2.2.2.1, s8.2.2.2.2.2.2.1, s8.2.2.2.2.2.2.2)))))
  else (some (.inr ((s8.1, s8.2.1, s8.2.2.2.1, s8.2.2.2.2.1, s8.2.2.2.2.2.1, s8.2.2.2.2.2.2.1, s8.2.2.2.2.2.2.2))))
def law12_BufferTurn_s1 (x3 : (List (Int × Int × Int)) × Int × Int × Int × Int × Int × List (Int × Int × Int)) (s11 : Int × Int) : Option ((Int × Int) ⊕ (Unit ⊕ Int)) :=
  if s11.2 < (((x3.1 ++ x3.2.2.2.2.2.2).length : Int)) then ((rdo (x3.1 ++ x3.2.2.2.2.2.2) s11.2).bind fun (z30 : Int × Int × Int) =>
  if 0 < s11.2 then ((rdo (x3.1 ++ x3.2.2.2.2.2.2) (wi64 (s11.2 - 1))).bind fun (z34 : Int × Int × Int) =>
  if z30.1 < z34.1 then (some (.inr (.inl (()))))
  else (if z30.1 = z34.1 then (if z30.2.1 < z34.2.1 then (some (.inr (.inl (()))))
  else (some (.inl ((wu64 (s11.1 + z30.2.2), wi64 (s11.2 + 1))))))
  else (some (.inl ((wu64 (s11.1 + z30.2.2), wi64 (s11.2 + 1)))))))
  else (some (.inl ((wu64 (s11.1 + z30.2.2), wi64 (s11.2 + 1))))))
  else (some (.inr (.inr s11.1)))
def law12_BufferTurn (p1 : Int) (p2 : Int) (p3 : List Int) : Option Bool :=
  (law12_awake).bind fun (r6 : Bool) =>
  if 40 < ((p3.length : Int)) then (some r6)
  else ((buffer_New (p1.tmod 1000) (wi64 (1 + ((max p2 0).tmod 50)))).bind fun (r7 : Int × Int × Int) =>
  ((loopO (law12_BufferTurn_s0 p3) ((([] : List (Int × Int × Int)), (0 : Int), (0 : Int), r7.1, r7.2.1, (0 : Int), (0 : Int), ([] : List (Int × Int × Int))))) : Option (((List (Int × Int × Int)) × Int × Int × Int × Int × Int × List (Int × Int × Int)))).bind (fun (x3 : ((List (Int × Int × Int)) × Int × Int × Int × Int × Int × List (Int × Int × Int))) =>
  (room (x3.1.length + x3.2.2.2.2.2.2.length) 24).bind fun _ =>
  ((loopO (law12_BufferTurn_s1 x3) (((0 : Int), (0 : Int)))) : Option (Unit ⊕ Int)).bind (Sum.elim (fun (d3 : Unit) =>
  some false)
  (fun (d4 : Int) =>
  if r6 = true then (some (decide (d4 = x3.2.1)))
  else (some false)))))

def ref12_split_s0 (p1 : List (Int × Int × Int)) (p2 : Int) (s5 : (List (Int × Int × Int)) × (List (Int × Int × Int)) × Int) : Option (((List (Int × Int × Int)) × (List (Int × Int × Int)) × Int) ⊕ (((List (Int × Int × Int)) × List (Int × Int × Int)))) :=
  if s5.2.2 < ((p1.length : Int)) then ((rdo p1 s5.2.2).bind fun (z6 : Int × Int × Int) =>
  if z6.1 ≤ p2 then ((room (s5.1.length + ([z6]).length) 24).bind fun _ =>
  some (.inl ((s5.1 ++ ([z6]), s5.2.1, wi64 (s5.2.2 + 1)))))
  else ((room (s5.2.1.length + ([z6]).length) 24).bind fun _ =>
  some (.inl ((s5.1, s5.2.1 ++ ([z6]), wi64 (s5.2.2 + 1))))))
  else (some (.inr ((s5.1, s5.2.1))))
def ref12_split (p1 : List (Int × Int × Int)) (p2 : Int) : Option ((List (Int × Int × Int)) × List (Int × Int × Int)) :=
  ((loopO (ref12_split_s0 p1 p2) ((([] : List (Int × Int × Int)), ([] : List (Int × Int × Int)), (0 : Int)))) : Option (((List (Int × Int × Int)) × List (Int × Int × Int)))).bind (fun (x2 : ((List (Int × Int × Int)) × List (Int × Int × Int))) =>
  some ((x2.1, x2.2)))

def ref12_settle_s0 (p1 : Int × Int × Int × Int × List (Int × Int × Int)) (s5 : (List (Int × Int × Int)) × (List (Int × Int × Int)) × Int) : Option (((List (Int × Int × Int)) × (List (Int × Int × Int)) × Int) ⊕ (((List (Int × Int × Int)) × (List (Int × Int × Int)) × Int))) :=
  if p1.2.1 < ((s5.2.1.length : Int)) then ((rdo s5.2.1 0).bind fun (z6 : Int × Int × Int) =>
  (ref12_split s5.2.1 z6.1).bind fun (r8 : (List (Int × Int × Int)) × List (Int × Int × Int)) =>
  (room (s5.1.length + r8.1.length) 24).bind fun _ =>
  some (.inl ((s5.1 ++ r8.1, r8.2, z6.1))))
  else (some (.inr ((s5.1, s5.2.1, s5.2.2))))
def ref12_settle (p1 : Int × Int × Int × Int × List (Int × Int × Int)) : Option (Int × (List (Int × Int × Int)) × List (Int × Int × Int)) :=
  ((if p1.1 ≤ p1.2.2.1 then (some (decide (p1.2.2.2.1 < (wu64 (p1.2.2.1 - p1.1)))))
  else (some false)) : Option Bool).bind (fun (j3 : Bool) =>
  ((if j3 = true then (some (wu64 (p1.2.2.1 - p1.1)))
  else (some p1.2.2.2.1)) : Option Int).bind (fun (j4 : Int) =>
  (ref12_split p1.2.2.2.2 j4).bind fun (r5 : (List (Int × Int × Int)) × List (Int × Int × Int)) =>
  ((loopO (ref12_settle_s0 p1) ((r5.1, r5.2, j4))) : Option (((List (Int × Int × Int)) × (List (Int × Int × Int)) × Int))).bind (fun (x2 : ((List (Int × Int × Int)) × (List (Int × Int × Int)) × Int)) =>
  some ((x2.2.2, x2.2.1, x2.1)))))

def ref12_Move (p1 : Int × Int × Int × Int × List (Int × Int × Int)) (p2 : Int) : Option (Int × Int × Int × Int × (List (Int × Int × Int)) × (List (Int × Int × Int)) × Int) :=
  if 9223372036854775807 < p2 then (some (((0 : Int), (0 : Int), (0 : Int), (0 : Int), ([] : List (Int × Int × Int)), ([] : List (Int × Int × Int)), (6 : Int))))
  else ((ref12_settle ((p1.1, p1.2.1, max p1.2.2.1 p2, p1.2.2.2.1, p1.2.2.2.2))).bind fun (r2 : Int × (List (Int × Int × Int)) × List (Int × Int × Int)) =>
  some ((((p1.1, p1.2.1, max p1.2.2.1 p2, p1.2.2.2.1, p1.2.2.2.2)).1, ((p1.1, p1.2.1, max p1.2.2.1 p2, p1.2.2.2.1, p1.2.2.2.2)).2.1, ((p1.1, p1.2.1, max p1.2.2.1 p2, p1.2.2.2.1, p1.2.2.2.2)).2.2.1, r2.1, r2.2.1, r2.2.2, (0 : Int))))

def ref12_Push (p1 : Int × Int × Int × Int × List (Int × Int × Int)) (p2 : Int × Int × Int) : Option (Int × Int × Int × Int × (List (Int × Int × Int)) × (List (Int × Int × Int)) × Int) :=
  if p2.2.2 = 0 then (some (((0 : Int), (0 : Int), (0 : Int), (0 : Int), ([] : List (Int × Int × Int)), ([] : List (Int × Int × Int)), (1 : Int))))
  else (if 9223372036854775807 < p2.1 then (some (((0 : Int), (0 : Int), (0 : Int), (0 : Int), ([] : List (Int × Int × Int)), ([] : List (Int × Int × Int)), (6 : Int))))
  else (if p2.1 < p1.2.2.2.1 then (some (((0 : Int), (0 : Int), (0 : Int), (0 : Int), ([] : List (Int × Int × Int)), ([] : List (Int × Int × Int)), (4 : Int))))
  else ((ref12_split p1.2.2.2.2 p2.1).bind fun (r3 : (List (Int × Int × Int)) × List (Int × Int × Int)) =>
  (room ((([] : List (Int × Int × Int))).length + r3.1.length) 24).bind fun _ =>
  (room (r3.1.length + ([p2]).length) 24).bind fun _ =>
  (room ((r3.1 ++ ([p2])).length + r3.2.length) 24).bind fun _ =>
  (ref12_settle ((p1.1, p1.2.1, max p1.2.2.1 p2.1, p1.2.2.2.1, (r3.1 ++ ([p2])) ++ r3.2))).bind fun (r4 : Int × (List (Int × Int × Int)) × List (Int × Int × Int)) =>
  some ((((p1.1, p1.2.1, max p1.2.2.1 p2.1, p1.2.2.2.1, (r3.1 ++ ([p2])) ++ r3.2)).1, ((p1.1, p1.2.1, max p1.2.2.1 p2.1, p1.2.2.2.1, (r3.1 ++ ([p2])) ++ r3.2)).2.1, ((p1.1, p1.2.1, max p1.2.2.1 p2.1, p1.2.2.2.1, (r3.1 ++ ([p2])) ++ r3.2)).2.2.1, r4.1, r4.2.1, r4.2.2, (0 : Int))))))

def ref12_one (p1 : Int × Int × Int × Int × List (Int × Int × Int)) (p2 : Int × Int × Int) : Option (Int × Int × Int × Int × (List (Int × Int × Int)) × (List (Int × Int × Int)) × Int) :=
  if p2.2.2 = 0 then ((ref12_Move p1 p2.1).bind fun (r3 : Int × Int × Int × Int × (List (Int × Int × Int)) × (List (Int × Int × Int)) × Int) =>
  some ((r3.1, r3.2.1, r3.2.2.1, r3.2.2.2.1, r3.2.2.2.2.1, r3.2.2.2.2.2.1, r3.2.2.2.2.2.2)))
  else ((ref12_Push p1 p2).bind fun (r4 : Int × Int × Int × Int × (List (Int × Int × Int)) × (List (Int × Int × Int)) × Int) =>
  some ((r4.1, r4.2.1, r4.2.2.1, r4.2.2.2.1, r4.2.2.2.2.1, r4.2.2.2.2.2.1, r4.2.2.2.2.2.2)))

def ref12_Made_s0 (p3 : List (Int × Int × Int)) (s5 : (List (Int × Int × Int)) × Int × Int × Int × Int × Int × List (Int × Int × Int)) : Option (((List (Int × Int × Int)) × Int × Int × Int × Int × Int × List (Int × Int × Int)) ⊕ (((List (Int × Int × Int)) × Int × Int × Int × Int × List (Int × Int × Int)))) :=
  if s5.2.1 < ((p3.length : Int)) then (if s5.2.1 < 40 then ((rdo p3 s5.2.1).bind fun (z12 : Int × Int × Int) =>
  (ref12_one s5.2.2 z12).bind fun (r6 : Int × Int × Int × Int × (List (Int × Int × Int)) × (List (Int × Int × Int)) × Int) =>
  if r6.2.2.2.2.2.2 = 0 then ((room (s5.1.length + r6.2.2.2.2.2.1.length) 24).bind fun _ =>
  some (.inl ((s5.1 ++ r6.2.2.2.2.2.1, wi64 (s5.2.1 + 1), r6.1, r6.2.1, r6.2.2.1, r6.2.2.2.1, r6.2.2.2.2.1))))
  else (some (.inl ((s5.1, wi64 (s5.2.1 + 1), s5.2.2.1, s5.2.2.2.1, s5.2.2.2.2.1, s5.2.2.2.2.2.1, s5.2.2.2.2.2.2)))))
  else (some (.inr ((s5.1, s5.2.2.1, s5.2.2.2.1, s5.2.2.2.2.1, s5.2.2.2.2.2.1, s5.2.2.2.2.2.2)))))
  else (some (.inr ((s5.1, s5.2.2.1, s5.2.2.2.1, s5.2.2.2.2.1, s5.2.2.2.2.2.1, s5.2.2.2.2.2.2))))
def ref12_Made (p1 : Int) (p2 : Int) (p3 : List (Int × Int × Int)) : Option (Int × Int × Int × Int × (List (Int × Int × Int)) × List (Int × Int × Int)) :=
  ((loopO (ref12_Made_s0 p3) ((([] : List (Int × Int × Int)), (0 : Int), p1.tmod 1000, wi64 (1 + ((max p2 0).tmod 50)), (0 : Int), (0 : Int), ([] : List (Int × Int × Int))))) : Option (((List (Int × Int × Int)) × Int × Int × Int × Int × List (Int × Int × Int)))).bind (fun (x2 : ((List (Int × Int × Int)) × Int × Int × Int × Int × List (Int × Int × Int))) =>
  some ((x2.2.1, x2.2.2.1, x2.2.2.2.1, x2.2.2.2.2.1, x2.2.2.2.2.2, x2.1)))

def law12_BufferLate (p1 : Int) (p2 : List (Int × Int × Int)) (p3 : Int) : Option Bool :=
  (law12_awake).bind fun (r9 : Bool) =>
  (ref12_Made p1 ((30 : Int)) p2).bind fun (r10 : Int × Int × Int × Int × (List (Int × Int × Int)) × List (Int × Int × Int)) =>
  (law12_made ((r10.1, r10.2.1, r10.2.2.1, r10.2.2.2.1, r10.2.2.2.2.1))).bind fun (r11 : Unit) =>
  (buffer_Push (((r10.1, r10.2.1, r10.2.2.1, r10.2.2.2.1, r10.2.2.2.2.1))) ((p3, (0 : Int), (1 : Int)))).bind fun (r12 : Int × Int × Int × Int × (List (Int × Int × Int)) × (List (Int × Int × Int)) × Int) =>
  if 9223372036854775807 < p3 then (if r9 = true then (some (decide (r12.2.2.2.2.2.2 = 6)))
  else (some false))
  else (if p3 < r10.2.2.2.1 then (if r9 = true then (if r12.2.2.2.2.2.2 = 4 then ((law12_same (((r10.1, r10.2.1, r10.2.2.1, r10.2.2.2.1, r10.2.2.2.2.1))) ((r10.1, r10.2.1, r10.2.2.1, r10.2.2.2.1, r10.2.2.2.2.1))).bind fun (r14 : Bool) =>
  some r14)
  else (some false))
  else (some false))
  else (if r9 = true then (if r12.2.2.2.2.2.2 = 0 then ((buffer_May ((r12.1, r12.2.1, r12.2.2.1, r12.2.2.2.1, r12.2.2.2.2.1))).bind fun (r16 : Int) =>
  if r16 = 0 then (if r10.2.2.2.1 ≤ r12.2.2.2.1 then (if r12.2.2.1 = (max r10.2.2.1 p3) then (some (decide ((wu64 (r12.2.2.1 - r12.2.2.2.1)) ≤ r10.1)))
  else (some false))
  else (some false))
  else (some false))
  else (some false))
  else (some false)))

def buffer_Move (p1 : Int × Int × Int × Int × List (Int × Int × Int)) (p2 : Int) : Option (Int × Int × Int × Int × (List (Int × Int × Int)) × (List (Int × Int × Int)) × Int) :=
  if 9223372036854775807 < p2 then (some (((0 : Int), (0 : Int), (0 : Int), (0 : Int), ([] : List (Int × Int × Int)), ([] : List (Int × Int × Int)), (6 : Int))))
  else ((buffer_latest ([p1.2.2.1, p2])).bind fun (r4 : Int) =>
  (slices_Clone_Event p1.2.2.2.2).bind fun (r5 : List (Int × Int × Int)) =>
  (buffer_Buf_settle ((p1.1, p1.2.1, r4, p1.2.2.2.1, r5))).bind fun (r6 : Int × (List (Int × Int × Int)) × List (Int × Int × Int)) =>
  some ((((p1.1, p1.2.1, r4, p1.2.2.2.1, r5)).1, ((p1.1, p1.2.1, r4, p1.2.2.2.1, r5)).2.1, ((p1.1, p1.2.1, r4, p1.2.2.2.1, r5)).2.2.1, r6.1, r6.2.1, r6.2.2, (0 : Int))))

def ref12_Weight_s0 (p1 : Int × Int × Int × Int × List (Int × Int × Int)) (s5 : Int × Int) : Option ((Int × Int) ⊕ Int) :=
  if s5.2 < ((p1.2.2.2.2.length : Int)) then ((rdo p1.2.2.2.2 s5.2).bind fun (z6 : Int × Int × Int) =>
  some (.inl ((wu64 (s5.1 + z6.2.2), wi64 (s5.2 + 1)))))
  else (some (.inr s5.1))
def ref12_Weight (p1 : Int × Int × Int × Int × List (Int × Int × Int)) : Option Int :=
  ((loopO (ref12_Weight_s0 p1) (((0 : Int), (0 : Int)))) : Option Int).bind (fun (x2 : Int) =>
  some x2)

def law12_BufferPlays_s0 (p3 : List (Int × Int × Int)) (s5 : Int × Int × Int × Int × Int × (List (Int × Int × Int)) × Int × Int × Int × Int × List (Int × Int × Int)) : Option ((Int × Int × Int × Int × Int × (List (Int × Int × Int)) × Int × Int × Int × Int × List (Int × Int × Int)) ⊕ (Unit ⊕ (Int × Int × Int × Int × (List (Int × Int × Int)) × Int × Int × Int × Int × List (Int × Int × Int)))) :=
  if s5.1 < ((p3.length : Int)) then (if s5.1 < 40 then ((rdo p3 s5.1).bind fun (z6 : Int × Int × Int) =>
  if z6.2.2 = 0 then ((buffer_Move ((s5.2.1, s5.2.2.1, s5.2.2.2.1, s5.2.2.2.2.1, s5.2.2.2.2.2.1)) z6.1).bind fun (r77 : Int × Int × Int × Int × (List (Int × Int × Int)) × (List (Int × Int × Int)) × Int) =>
  (ref12_Move s5.2.2.2.2.2.2 z6.1).bind fun (r78 : Int × Int × Int × Int × (List (Int × Int × Int)) × (List (Int × Int × Int)) × Int) =>
  if ¬ r77.2.2.2.2.2.2 = r78.2.2.2.2.2.2 then (some (.inr (.inl (()))))
  else ((law12_same ((r77.1, r77.2.1, r77.2.2.1, r77.2.2.2.1, r77.2.2.2.2.1)) ((r78.1, r78.2.1, r78.2.2.1, r78.2.2.2.1, r78.2.2.2.2.1))).bind fun (r81 : Bool) =>
  if ¬ (r81 = true) then (some (.inr (.inl (()))))
  else ((ref12_Events r77.2.2.2.2.2.1 r78.2.2.2.2.2.1).bind fun (r82 : Bool) =>
  if ¬ (r82 = true) then (some (.inr (.inl (()))))
  else (if r78.2.2.2.2.2.2 = 0 then (some (.inl ((wi64 (s5.1 + 1), r77.1, r77.2.1, r77.2.2.1, r77.2.2.2.1, r77.2.2.2.2.1, r78.1, r78.2.1, r78.2.2.1, r78.2.2.2.1, r78.2.2.2.2.1))))
  else (some (.inl ((wi64 (s5.1 + 1), s5.2.1, s5.2.2.1, s5.2.2.2.1, s5.2.2.2.2.1, s5.2.2.2.2.2.1, s5.2.2.2.2.2.2.1, s5.2.2.2.2.2.2.2.1, s5.2.2.2.2.2.2.2.2.1, s5.2.2.2.2.2.2.2.2.2.1, s5.2.2.2.2.2.2.2.2.2.2))))))))
  else ((buffer_Push ((s5.2.1, s5.2.2.1, s5.2.2.2.1, s5.2.2.2.2.1, s5.2.2.2.2.2.1)) z6).bind fun (r83 : Int × Int × Int × Int × (List (Int × Int × Int)) × (List (Int × Int × Int)) × Int) =>
  (ref12_Push s5.2.2.2.2.2.2 z6).bind fun (r84 : Int × Int × Int × Int × (List (Int × Int × Int)) × (List (Int × Int × Int)) × Int) =>
  if ¬ r83.2.2.2.2.2.2 = r84.2.2.2.2.2.2 then (some (.inr (.inl (()))))
  else ((law12_same ((r83.1, r83.2.1, r83.2.2.1, r83.2.2.2.1, r83.2.2.2.2.1)) ((r84.1, r84.2.1, r84.2.2.1, r84.2.2.2.1, r84.2.2.2.2.1))).bind fun (r87 : Bool) =>
  if ¬ (r87 = true) then (some (.inr (.inl (()))))
  else ((ref12_Events r83.2.2.2.2.2.1 r84.2.2.2.2.2.1).bind fun (r88 : Bool) =>
  if ¬ (r88 = true) then (some (.inr (.inl (()))))
  else (if r84.2.2.2.2.2.2 = 0 then (some (.inl ((wi64 (s5.1 + 1), r83.1, r83.2.1, r83.2.2.1, r83.2.2.2.1, r83.2.2.2.2.1, r84.1, r84.2.1, r84.2.2.1, r84.2.2.2.1, r84.2.2.2.2.1))))
  else (some (.inl ((wi64 (s5.1 + 1), s5.2.1, s5.2.2.1, s5.2.2.2.1, s5.2.2.2.2.1, s5.2.2.2.2.2.1, s5.2.2.2.2.2.2.1, s5.2.2.2.2.2.2.2.1, s5.2.2.2.2.2.2.2.2.1, s5.2.2.2.2.2.2.2.2.2.1, s5.2.2.2.2.2.2.2.2.2.2)))))))))
  else (some (.inr (.inr ((s5.2.1, s5.2.2.1, s5.2.2.2.1, s5.2.2.2.2.1, s5.2.2.2.2.2.1, s5.2.2.2.2.2.2.1, s5.2.2.2.2.2.2.2.1, s5.2.2.2.2.2.2.2.2.1, s5.2.2.2.2.2.2.2.2.2.1, s5.2.2.2.2.2.2.2.2.2.2))))))
  else (some (.inr (.inr ((s5.2.1, s5.2.2.1, s5.2.2.2.1, s5.2.2.2.2.1, s5.2.2.2.2.2.1, s5.2.2.2.2.2.2.1, s5.2.2.2.2.2.2.2.1, s5.2.2.2.2.2.2.2.2.1, s5.2.2.2.2.2.2.2.2.2.1, s5.2.2.2.2.2.2.2.2.2.2)))))
def law12_BufferPlays (p1 : Int) (p2 : Int) (p3 : List (Int × Int × Int)) : Option Bool :=
  (law12_awake).bind fun (r51 : Bool) =>
  (buffer_New (p1.tmod 1000) (wi64 (1 + ((max p2 0).tmod 50)))).bind fun (r52 : Int × Int × Int) =>
  if ¬ r52.2.2 = 0 then (some false)
  else (((loopO (law12_BufferPlays_s0 p3) (((0 : Int), r52.1, r52.2.1, (0 : Int), (0 : Int), ([] : List (Int × Int × Int)), p1.tmod 1000, wi64 (1 + ((max p2 0).tmod 50)), (0 : Int), (0 : Int), ([] : List (Int × Int × Int))))) : Option (Unit ⊕ (Int × Int × Int × Int × (List (Int × Int × Int)) × Int × Int × Int × Int × List (Int × Int × Int)))).bind (Sum.elim (fun (d3 : Unit) =>
  some false)
  (fun (d4 : Int × Int × Int × Int × (List (Int × Int × Int)) × Int × Int × Int × Int × List (Int × Int × Int)) =>
  if r51 = true then ((law12_same ((d4.1, d4.2.1, d4.2.2.1, d4.2.2.2.1, d4.2.2.2.2.1)) d4.2.2.2.2.2).bind fun (r98 : Bool) =>
  if r98 = true then ((buffer_Weight ((d4.1, d4.2.1, d4.2.2.1, d4.2.2.2.1, d4.2.2.2.2.1))).bind fun (r99 : Int) =>
  (ref12_Weight d4.2.2.2.2.2).bind fun (r100 : Int) =>
  some (decide (r99 = r100)))
  else (some false))
  else (some false))))

def law12_BufferMoves (p1 : Int) (p2 : List (Int × Int × Int)) (p3 : Int × Int) : Option Bool :=
  (law12_awake).bind fun (r11 : Bool) =>
  (ref12_Made p1 ((40 : Int)) p2).bind fun (r12 : Int × Int × Int × Int × (List (Int × Int × Int)) × List (Int × Int × Int)) =>
  (law12_made ((r12.1, r12.2.1, r12.2.2.1, r12.2.2.2.1, r12.2.2.2.2.1))).bind fun (r13 : Unit) =>
  (buffer_Move (((r12.1, r12.2.1, r12.2.2.1, r12.2.2.2.1, r12.2.2.2.2.1))) (p3.1.tmod 4611686018427387904)).bind fun (r14 : Int × Int × Int × Int × (List (Int × Int × Int)) × (List (Int × Int × Int)) × Int) =>
  (buffer_Move ((r14.1, r14.2.1, r14.2.2.1, r14.2.2.2.1, r14.2.2.2.2.1)) (p3.2.tmod 4611686018427387904)).bind fun (r15 : Int × Int × Int × Int × (List (Int × Int × Int)) × (List (Int × Int × Int)) × Int) =>
  (buffer_Move (((r12.1, r12.2.1, r12.2.2.1, r12.2.2.2.1, r12.2.2.2.2.1))) (max (p3.1.tmod 4611686018427387904) (p3.2.tmod 4611686018427387904))).bind fun (r16 : Int × Int × Int × Int × (List (Int × Int × Int)) × (List (Int × Int × Int)) × Int) =>
  (room ((([] : List (Int × Int × Int))).length + r14.2.2.2.2.2.1.length) 24).bind fun _ =>
  (room (r14.2.2.2.2.2.1.length + r15.2.2.2.2.2.1.length) 24).bind fun _ =>
  if r11 = true then (if r14.2.2.2.2.2.2 = 0 then (if r15.2.2.2.2.2.2 = 0 then (if r16.2.2.2.2.2.2 = 0 then ((buffer_Same ((r15.1, r15.2.1, r15.2.2.1, r15.2.2.2.1, r15.2.2.2.2.1)) ((r16.1, r16.2.1, r16.2.2.1, r16.2.2.2.1, r16.2.2.2.2.1))).bind fun (r19 : Bool) =>
  if r19 = true then ((ref12_Events (r14.2.2.2.2.2.1 ++ r15.2.2.2.2.2.1) r16.2.2.2.2.2.1).bind fun (r20 : Bool) =>
  some r20)
  else (some false))
  else (some false))
  else (some false))
  else (some false))
  else (some false)

end
end Go.Proofs.Ythgeodagikmpjaa.Pu
