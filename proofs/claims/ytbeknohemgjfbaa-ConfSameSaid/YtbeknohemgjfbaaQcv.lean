import Derived.Test.YtbeknohemgjfbaaP1v
namespace Go.Proofs.Ytbeknohemgjfbaa.Pu
set_option linter.unusedVariables false
noncomputable section

def varint_digits (p1 : Int) : Option Unit :=
  some (())

def varint_digits_1_s0 {σ : Type} (y : (Int × Bool) → σ → Option (Bool × σ)) (s5 : Int × σ) : Option ((Int × σ) ⊕ ((Int × σ))) :=
  (y ((wu8 (wu64 (andk 64 s5.1 127)), decide (127 < s5.1))) s5.2).bind fun (r12 : Bool × σ) =>
  if ¬ (r12.1 = true) then (some (.inr ((s5.1, r12.2))))
  else (if ¬ (127 < s5.1) then (some (.inr ((s5.1, r12.2))))
  else (some (.inl ((shrk 64 s5.1 7, r12.2)))))
def varint_digits_1 {σ : Type} (y : (Int × Bool) → σ → Option (Bool × σ)) (p1 : Int) (s0 : σ) : Option (Int × σ) :=
  ((loopO (varint_digits_1_s0 y) ((p1, s0))) : Option ((Int × σ))).bind (fun (x2 : (Int × σ)) =>
  some ((x2.1, x2.2)))

def varint_Put_r0 (x2 : Int × Bool) (d5 : List Int) : Option (List Int ⊕ Empty) :=
  if x2.2 = true then ((room (d5.length + ([wu8 (ork 8 x2.1 128)]).length) 1).bind fun _ =>
  some (.inl (d5 ++ ([wu8 (ork 8 x2.1 128)]))))
  else ((room (d5.length + ([x2.1]).length) 1).bind fun _ =>
  some (.inl (d5 ++ ([x2.1]))))
def varint_Put (p1 : Int) : Option (List Int) :=
  (varint_digits p1).bind fun (r2 : Unit) =>
  (varint_digits_1 (yl (varint_Put_r0)) p1 (.inl (([] : List Int)))).bind fun (j2 : Int × (List Int ⊕ Empty)) =>
  (Sum.elim (fun (d5 : List Int) =>
  some d5)
  (fun (q : Empty) => none) j2.2)

def codec_Num (p1 : Int) : Option (List Int) :=
  (varint_Put p1).bind fun (r2 : List Int) =>
  some r2

def slices_Grow_byte (p1 : Int) : Option (List Int) :=
  ((if p1 < 0 then (none)
  else (some (()))) : Option Unit).bind (fun (j2 : Unit) =>
  if 0 < (wi64 (p1 - 0)) then ((must (0 ≤ (0 : Int) ∧ (0 : Int) ≤ (([] : List Int)).length)).bind fun _ =>
  (room ((wi64 (p1 - 0)).toNat) 1).bind fun _ =>
  (must (0 ≤ (0 : Int) ∧ (0 : Int) ≤ (List.replicate ((wi64 (p1 - 0)).toNat) ((0 : Int) : Int)).length)).bind fun _ =>
  some ((List.replicate ((wi64 (p1 - 0)).toNat) ((0 : Int) : Int)).take 0))
  else (some (([] : List Int))))

def slices_Concat_byte_s0 (p1 : List (List Int)) (s8 : Int × Int) : Option ((Int × Int) ⊕ Int) :=
  if s8.2 < ((p1.length : Int)) then ((rdo p1 s8.2).bind fun (z9 : List Int) =>
  if (wi64 (s8.1 + ((z9.length : Int)))) < 0 then (none)
  else (some (.inl ((wi64 (s8.1 + ((z9.length : Int))), wi64 (s8.2 + 1))))))
  else (some (.inr s8.1))
def slices_Concat_byte_s1 (p1 : List (List Int)) (s11 : List Int × Int) : Option ((List Int × Int) ⊕ (List Int)) :=
  if s11.2 < ((p1.length : Int)) then ((rdo p1 s11.2).bind fun (z12 : List Int) =>
  (room (s11.1.length + z12.length) 1).bind fun _ =>
  some (.inl ((s11.1 ++ z12, wi64 (s11.2 + 1)))))
  else (some (.inr s11.1))
def slices_Concat_byte (p1 : List (List Int)) : Option (List Int) :=
  ((loopO (slices_Concat_byte_s0 p1) (((0 : Int), (0 : Int)))) : Option Int).bind (fun (x3 : Int) =>
  (slices_Grow_byte x3).bind fun (r2 : List Int) =>
  ((loopO (slices_Concat_byte_s1 p1) ((r2, (0 : Int)))) : Option (List Int)).bind (fun (x4 : List Int) =>
  some x4))

def codec_New (p1 : List Int) : Option Unit :=
  (must (0 ≤ ((p1.length : Int)) ∧ ((p1.length : Int)) ≤ ((p1.length : Int)) ∧ ((p1.length : Int)) ≤ p1.length)).bind fun _ =>
  some (())

def codec_Reader_on (p1 : List Int × Int) : Option Unit :=
  some (())

def varint_Take_s0 (p1 : List Int) (s5 : Int × Int) : Option ((Int × Int) ⊕ ((Int × Int × Int) ⊕ Unit)) :=
  if s5.2 < (min ((p1.length : Int)) 10) then ((rdo p1 s5.2).bind fun (z6 : Int) =>
  (must (0 ≤ (wi64 (7 * s5.2)))).bind fun _ =>
  if 128 ≤ z6 then (some (.inl ((wu64 (ork 64 s5.1 (wu64 (shlk 64 (wu64 (wu8 (andk 8 z6 127))) (wi64 (7 * s5.2))))), wi64 (s5.2 + 1)))))
  else (((if z6 = 0 then (if 0 < s5.2 then (some true)
  else (if s5.2 = 9 then (some (decide (1 < z6)))
  else (some false)))
  else (if s5.2 = 9 then (some (decide (1 < z6)))
  else (some false))) : Option Bool).bind (fun (j4 : Bool) =>
  if j4 = true then (some (.inr (.inl (((0 : Int), (0 : Int), (2 : Int))))))
  else (some (.inr (.inl ((wu64 (ork 64 s5.1 (wu64 (shlk 64 (wu64 (wu8 (andk 8 z6 127))) (wi64 (7 * s5.2))))), wi64 (s5.2 + 1), (0 : Int)))))))))
  else (some (.inr (.inr (()))))
def varint_Take (p1 : List Int) : Option (Int × Int × Int) :=
  ((loopO (varint_Take_s0 p1) (((0 : Int), (0 : Int)))) : Option ((Int × Int × Int) ⊕ Unit)).bind (Sum.elim (fun (d3 : Int × Int × Int) =>
  some ((d3.1, d3.2.1, d3.2.2)))
  (fun (d4 : Unit) =>
  if 10 ≤ ((p1.length : Int)) then (some (((0 : Int), (0 : Int), (2 : Int))))
  else (some (((0 : Int), (0 : Int), (3 : Int))))))

def codec_Reader_number (p1 : List Int × Int) (p2 : Int) : Option (Int × Int × Int) :=
  (varint_Take p1.1).bind fun (r2 : Int × Int × Int) =>
  ((if r2.2.2 = 0 then (some (decide (p2 < r2.1)))
  else (some false)) : Option Bool).bind (fun (j2 : Bool) =>
  if j2 = true then (some (((0 : Int), (0 : Int), (2 : Int))))
  else (if ¬ r2.2.2 = 0 then (some (((0 : Int), (0 : Int), r2.2.2)))
  else (some ((r2.1, r2.2.1, p1.2)))))

def codec_Reader_Num (p1 : List Int × Int) (p2 : Int) : Option (Int × List Int × Int) :=
  (codec_Reader_on p1).bind fun (r3 : Unit) =>
  if ¬ (p1.2 = 0) then (some (((0 : Int), p1.1, p1.2)))
  else ((codec_Reader_number p1 p2).bind fun (r4 : Int × Int × Int) =>
  (must (0 ≤ r4.2.1 ∧ r4.2.1 ≤ p1.1.length)).bind fun _ =>
  some ((r4.1, p1.1.drop r4.2.1.toNat, r4.2.2)))

def codec_Reader_Err (p1 : List Int × Int) : Option Unit :=
  some (())

def codec_Reader_Fail (p1 : List Int × Int) (p2 : Int) : Option Int :=
  (codec_Reader_on p1).bind fun (r2 : Unit) =>
  if p1.2 = 0 then (some p2)
  else (some p1.2)

def codec_Reader_Left (p1 : List Int × Int) : Option Unit :=
  some (())

def codec_Reader_End (p1 : List Int × Int) : Option Int :=
  (codec_Reader_Err p1).bind fun (r3 : Unit) =>
  if ¬ p1.2 = 0 then (some p1.2)
  else ((codec_Reader_Left p1).bind fun (r4 : Unit) =>
  if 0 < ((p1.1.length : Int)) then (some ((2 : Int)))
  else (some ((0 : Int))))

def ref06_May (p1 : Int) : Option Bool :=
  if 2 ≤ p1 then (some (decide (p1 ≤ 1024)))
  else (some false)

def ref01_Put_F (rec : Int → Option (List Int)) (p1 : Int) : Option (List Int) :=
  if p1 < 128 then (some ([wu8 p1]))
  else ((rec (wu64 (p1.tdiv 128))).bind fun (r2 : List Int) =>
  (room (([wu8 (wu64 (128 + (p1.tmod 128)))]).length + r2.length) 1).bind fun _ =>
  some (([wu8 (wu64 (128 + (p1.tmod 128)))]) ++ r2))
def ref01_Put (p1 : Int) : Option (List Int) := itR ref01_Put_F 1000 p1

def ref02_Num (p1 : Int) : Option (List Int) :=
  (ref01_Put p1).bind fun (r2 : List Int) =>
  some r2

def ref01_end_s0 (p1 : List Int) (s5 : Int) : Option (Int ⊕ (Int ⊕ Unit)) :=
  if s5 < ((p1.length : Int)) then (if s5 < 10 then ((rdo p1 s5).bind fun (z6 : Int) =>
  if z6 < 128 then (some (.inr (.inl s5)))
  else (some (.inl (wi64 (s5 + 1)))))
  else (some (.inr (.inr (())))))
  else (some (.inr (.inr (()))))
def ref01_end (p1 : List Int) : Option Int :=
  ((loopO (ref01_end_s0 p1) ((0 : Int))) : Option (Int ⊕ Unit)).bind (Sum.elim (fun (d3 : Int) =>
  some d3)
  (fun (d4 : Unit) =>
  some ((-1 : Int))))

def ref01_Take_s0 (p1 : List Int) (s5 : Int × Int) : Option ((Int × Int) ⊕ Int) :=
  if 0 ≤ s5.2 then ((rdo p1 s5.2).bind fun (z12 : Int) =>
  some (.inl ((wu64 ((wu64 (128 * s5.1)) + (wu64 (z12.tmod 128))), wi64 (s5.2 - 1)))))
  else (some (.inr s5.1))
def ref01_Take (p1 : List Int) : Option (Int × Int × Int) :=
  (ref01_end p1).bind fun (r2 : Int) =>
  ((if r2 < 0 then (some (decide (10 ≤ ((p1.length : Int)))))
  else (some false)) : Option Bool).bind (fun (j3 : Bool) =>
  if j3 = true then (some (((0 : Int), (0 : Int), (2 : Int))))
  else (if r2 < 0 then (some (((0 : Int), (0 : Int), (3 : Int))))
  else ((((rdo p1 r2).bind fun (z9 : Int) =>
  if z9 = 0 then (if 0 < r2 then (some true)
  else (if r2 = 9 then (some (decide (1 < z9)))
  else (some false)))
  else (if r2 = 9 then (some (decide (1 < z9)))
  else (some false))) : Option Bool).bind (fun (j4 : Bool) =>
  if j4 = true then (some (((0 : Int), (0 : Int), (2 : Int))))
  else (((loopO (ref01_Take_s0 p1) (((0 : Int), r2))) : Option Int).bind (fun (x2 : Int) =>
  some ((x2, wi64 (r2 + 1), (0 : Int)))))))))

def ref02_fail (p1 : List Int × Int) (p2 : Int) : Option Int :=
  if p1.2 = 0 then (some p2)
  else (some p1.2)

def ref02_Read (p1 : List Int × Int) (p2 : Int) : Option (List Int × Int × Int) :=
  if ¬ p1.2 = 0 then (some ((p1.1, p1.2, (0 : Int))))
  else ((ref01_Take p1.1).bind fun (r4 : Int × Int × Int) =>
  if ¬ r4.2.2 = 0 then ((ref02_fail p1 r4.2.2).bind fun (r5 : Int) =>
  some ((p1.1, r5, (0 : Int))))
  else (if p2 < r4.1 then ((ref02_fail p1 ((2 : Int))).bind fun (r6 : Int) =>
  some ((p1.1, r6, (0 : Int))))
  else ((must (0 ≤ r4.2.1 ∧ r4.2.1 ≤ p1.1.length)).bind fun _ =>
  some ((p1.1.drop r4.2.1.toNat, p1.2, r4.1)))))

def buffer_New (p1 : Int) (p2 : Int) : Option (Int × Int × Int) :=
  if 4611686018427387904 < p1 then (some (((0 : Int), (0 : Int), (9 : Int))))
  else (if p2 < 1 then (some (((0 : Int), (0 : Int), (9 : Int))))
  else (if 1024 < p2 then (some (((0 : Int), (0 : Int), (9 : Int))))
  else (some ((p1, p2, (0 : Int))))))

def conf_bare_1 (p1 : Int) : Option Unit :=
  some (())

def slices_IndexFunc_int_s0 (p1 : List Int) (s5 : Int) : Option (Int ⊕ (Int ⊕ Unit)) :=
  if s5 < ((p1.length : Int)) then ((rdo p1 s5).bind fun (z6 : Int) =>
  (conf_bare_1 z6).bind fun (r6 : Unit) =>
  if ¬ z6 = 0 then (some (.inr (.inl s5)))
  else (some (.inl (wi64 (s5 + 1)))))
  else (some (.inr (.inr (()))))
def slices_IndexFunc_int (p1 : List Int) : Option Int :=
  ((loopO (slices_IndexFunc_int_s0 p1) ((0 : Int))) : Option (Int ⊕ Unit)).bind (Sum.elim (fun (d3 : Int) =>
  some d3)
  (fun (d4 : Unit) =>
  some ((-1 : Int))))

def slices_ContainsFunc_int (p1 : List Int) : Option Bool :=
  (slices_IndexFunc_int p1).bind fun (r2 : Int) =>
  some (decide (0 ≤ r2))

def conf_bare (p1 : List Int) : Option Bool :=
  (slices_ContainsFunc_int p1).bind fun (r2 : Bool) =>
  some (decide (¬ (r2 = true)))

def hist_New (p1 : Int) : Option (Int × Int) :=
  if p1 < 2 then (some (((0 : Int), (9 : Int))))
  else (if 1024 < p1 then (some (((0 : Int), (9 : Int))))
  else (some ((p1, (0 : Int)))))

def count_New (p1 : Int) (p2 : Int) (p3 : Int) (p4 : Int) : Option (Int × Int × Int × Int × Int) :=
  (hist_New p1).bind fun (r3 : Int × Int) =>
  (buffer_New p3 p4).bind fun (r4 : Int × Int × Int) =>
  if ¬ r3.2 = 0 then (some (((0 : Int), (0 : Int), (0 : Int), (0 : Int), (9 : Int))))
  else (if ¬ r4.2.2 = 0 then (some (((0 : Int), (0 : Int), (0 : Int), (0 : Int), (9 : Int))))
  else (if p2 < 1 then (some (((0 : Int), (0 : Int), (0 : Int), (0 : Int), (9 : Int))))
  else (if 4611686018427387904 < p2 then (some (((0 : Int), (0 : Int), (0 : Int), (0 : Int), (9 : Int))))
  else (some ((p2, r4.1, r4.2.1, r3.1, (0 : Int)))))))

def conf_Check_1 (p1 : Int × Int × Int × Int × Int × Int × (List (Int × Int)) × Int × Int) : Option Int :=
  (conf_bare ([p1.2.2.2.2.2.1, (p1.2.2.2.2.2.2.1.length : Int), p1.2.2.2.2.2.2.2.1, p1.2.2.2.2.2.2.2.2])).bind fun (r3 : Bool) =>
  if ¬ (r3 = true) then (some ((9 : Int)))
  else ((count_New p1.2.1 p1.2.2.1 p1.2.2.2.1 p1.2.2.2.2.1).bind fun (r4 : Int × Int × Int × Int × Int) =>
  some r4.2.2.2.2)

def hash_May (p1 : Int × Int) : Option Bool :=
  if p1.1 = (p1.1.tmod 2305843009213693951) ∧ p1.2 = (p1.2.tmod 2305843009213693951) ∧ True then (some (decide (0 < p1.1)))
  else (some false)

def grid_New_1 (p1 : Int × Int) : Option Bool :=
  (hash_May p1).bind fun (r2 : Bool) =>
  some (decide (¬ (r2 = true)))

def slices_IndexFunc_Seed_s0 (p1 : List (Int × Int)) (s5 : Int) : Option (Int ⊕ (Int ⊕ Unit)) :=
  if s5 < ((p1.length : Int)) then ((rdo p1 s5).bind fun (z6 : Int × Int) =>
  (grid_New_1 z6).bind fun (r6 : Bool) =>
  if r6 = true then (some (.inr (.inl s5)))
  else (some (.inl (wi64 (s5 + 1)))))
  else (some (.inr (.inr (()))))
def slices_IndexFunc_Seed (p1 : List (Int × Int)) : Option Int :=
  ((loopO (slices_IndexFunc_Seed_s0 p1) ((0 : Int))) : Option (Int ⊕ Unit)).bind (Sum.elim (fun (d3 : Int) =>
  some d3)
  (fun (d4 : Unit) =>
  some ((-1 : Int))))

def slices_ContainsFunc_Seed (p1 : List (Int × Int)) : Option Bool :=
  (slices_IndexFunc_Seed p1).bind fun (r2 : Int) =>
  some (decide (0 ≤ r2))

def slices_Clone_Seed (p1 : List (Int × Int)) : Option (List (Int × Int)) :=
  (room ((([] : List (Int × Int))).length + p1.length) 16).bind fun _ =>
  some p1

def bits_Mul64 (p1 : Int) (p2 : Int) : Option Unit :=
  some (())

def bits_Mul (p1 : Int) (p2 : Int) : Option Unit :=
  (bits_Mul64 p1 p2).bind fun (r2 : Unit) =>
  some (())

def slices_Repeat_Hist_s0 (p1 : List (Int × Int × List (List (Int × Int)))) (p2 : Int) (s5 : (List (Int × Int × List (List (Int × Int)))) × Int) : Option (((List (Int × Int × List (List (Int × Int)))) × Int) ⊕ ((List (Int × Int × List (List (Int × Int)))))) :=
  if s5.2 < ((s5.1.length : Int)) then ((must (0 ≤ s5.2 ∧ s5.2 ≤ s5.1.length)).bind fun _ =>
  some (.inl ((s5.1.take s5.2.toNat ++ (s5.1.take s5.2.toNat).take (((wi64 (wu64 ((wu64 ((p1.length : Int))) * (wu64 p2)))).toNat) - s5.2.toNat) ++ s5.1.drop (s5.2.toNat + ((s5.1.take s5.2.toNat).take (((wi64 (wu64 ((wu64 ((p1.length : Int))) * (wu64 p2)))).toNat) - s5.2.toNat)).length), wi64 (s5.2 + ((((s5.1.take s5.2.toNat).take (((wi64 (wu64 ((wu64 ((p1.length : Int))) * (wu64 p2)))).toNat) - s5.2.toNat)).length : Int)))))))
  else (some (.inr s5.1))
def slices_Repeat_Hist (p1 : List (Int × Int × List (List (Int × Int)))) (p2 : Int) : Option (List (Int × Int × List (List (Int × Int)))) :=
  ((if p2 < 0 then (none)
  else (some (()))) : Option Unit).bind (fun (j4 : Unit) =>
  (bits_Mul (wu64 ((p1.length : Int))) (wu64 p2)).bind fun (r2 : Unit) =>
  ((if 0 < (wu64 ((wu64 ((wu64 ((shrk 64 (wu64 ((p1.length : Int))) 32) * (shrk 64 (wu64 p2) 32))) + (shrk 64 (wu64 ((wu64 ((shrk 64 (wu64 ((p1.length : Int))) 32) * (wu64 (andk 64 (wu64 p2) 4294967295)))) + (shrk 64 (wu64 ((wu64 (andk 64 (wu64 ((p1.length : Int))) 4294967295)) * (wu64 (andk 64 (wu64 p2) 4294967295)))) 32))) 32))) + (shrk 64 (wu64 ((wu64 (andk 64 (wu64 ((wu64 ((shrk 64 (wu64 ((p1.length : Int))) 32) * (wu64 (andk 64 (wu64 p2) 4294967295)))) + (shrk 64 (wu64 ((wu64 (andk 64 (wu64 ((p1.length : Int))) 4294967295)) * (wu64 (andk 64 (wu64 p2) 4294967295)))) 32))) 4294967295)) + (wu64 ((wu64 (andk 64 (wu64 ((p1.length : Int))) 4294967295)) * (shrk 64 (wu64 p2) 32))))) 32))) then (some true)
  else (some (decide (9223372036854775807 < (wu64 ((wu64 ((p1.length : Int))) * (wu64 p2))))))) : Option Bool).bind (fun (j5 : Bool) =>
  ((if j5 = true then (none)
  else (some (()))) : Option Unit).bind (fun (j6 : Unit) =>
  (must (0 ≤ (wi64 (wu64 ((wu64 ((p1.length : Int))) * (wu64 p2)))))).bind fun _ =>
  (room ((wi64 (wu64 ((wu64 ((p1.length : Int))) * (wu64 p2)))).toNat) 40).bind fun _ =>
  ((loopO (slices_Repeat_Hist_s0 p1 p2) (((List.replicate ((wi64 (wu64 ((wu64 ((p1.length : Int))) * (wu64 p2)))).toNat) (((0 : Int), (0 : Int), ([] : List (List (Int × Int)))) : Int × Int × List (List (Int × Int)))).take 0 ++ p1.take ((wi64 (wu64 ((wu64 ((p1.length : Int))) * (wu64 p2)))).toNat) ++ (List.replicate ((wi64 (wu64 ((wu64 ((p1.length : Int))) * (wu64 p2)))).toNat) (((0 : Int), (0 : Int), ([] : List (List (Int × Int)))) : Int × Int × List (List (Int × Int)))).drop (0 + (p1.take ((wi64 (wu64 ((wu64 ((p1.length : Int))) * (wu64 p2)))).toNat)).length), ((p1.take ((wi64 (wu64 ((wu64 ((p1.length : Int))) * (wu64 p2)))).toNat)).length : Int)))) : Option ((List (Int × Int × List (List (Int × Int)))))).bind (fun (x2 : (List (Int × Int × List (List (Int × Int))))) =>
  some x2))))

def grid_New_s0 (p2 : Int) (p3 : List (Int × Int)) (r10 : Int × Int) (s5 : Int × List (List (Int × Int × List (List (Int × Int))))) : Option ((Int × List (List (Int × Int × List (List (Int × Int))))) ⊕ ((List (List (Int × Int × List (List (Int × Int))))))) :=
  if s5.1 < ((p3.length : Int)) then ((slices_Repeat_Hist ([(r10.1, (0 : Int), ([] : List (List (Int × Int))))]) p2).bind fun (r18 : List (Int × Int × List (List (Int × Int)))) =>
  (room (s5.2.length + ([r18]).length) 24).bind fun _ =>
  some (.inl ((wi64 (s5.1 + 1), s5.2 ++ ([r18])))))
  else (some (.inr s5.2))
def grid_New (p1 : Int) (p2 : Int) (p3 : List (Int × Int)) : Option (Int × (List (Int × Int)) × (List (List (Int × Int × List (List (Int × Int))))) × Int × Int) :=
  (hist_New p1).bind fun (r10 : Int × Int) =>
  ((if 1 ≤ p2 then (if p2 ≤ 256 then (if 1 ≤ ((p3.length : Int)) then (some (decide (((p3.length : Int)) ≤ 8)))
  else (some false))
  else (some false))
  else (some false)) : Option Bool).bind (fun (j2 : Bool) =>
  if ¬ r10.2 = 0 then (some (((0 : Int), ([] : List (Int × Int)), ([] : List (List (Int × Int × List (List (Int × Int))))), (0 : Int), (9 : Int))))
  else (if ¬ (j2 = true) then (some (((0 : Int), ([] : List (Int × Int)), ([] : List (List (Int × Int × List (List (Int × Int))))), (0 : Int), (9 : Int))))
  else ((slices_ContainsFunc_Seed p3).bind fun (r11 : Bool) =>
  if r11 = true then (some (((0 : Int), ([] : List (Int × Int)), ([] : List (List (Int × Int × List (List (Int × Int))))), (0 : Int), (1 : Int))))
  else ((slices_Clone_Seed p3).bind fun (r12 : List (Int × Int)) =>
  ((loopO (grid_New_s0 p2 p3 r10) (((0 : Int), ([] : List (List (Int × Int × List (List (Int × Int)))))))) : Option ((List (List (Int × Int × List (List (Int × Int))))))).bind (fun (x2 : (List (List (Int × Int × List (List (Int × Int)))))) =>
  some ((p2, r12, x2, r10.1, (0 : Int))))))))

def ecm_New (p1 : Int × Int × Int × Int × Int × Int × (List (Int × Int)) × Int × Int) : Option (Int × Int × Int × Int × (List (Int × Int)) × (List (List (Int × Int × List (List (Int × Int))))) × Int × Int) :=
  (buffer_New p1.2.2.2.1 p1.2.2.2.2.1).bind fun (r3 : Int × Int × Int) =>
  if ¬ r3.2.2 = 0 then (some (((0 : Int), (0 : Int), (0 : Int), (0 : Int), ([] : List (Int × Int)), ([] : List (List (Int × Int × List (List (Int × Int))))), (0 : Int), (9 : Int))))
  else (if p1.2.2.1 < 1 then (some (((0 : Int), (0 : Int), (0 : Int), (0 : Int), ([] : List (Int × Int)), ([] : List (List (Int × Int × List (List (Int × Int))))), (0 : Int), (9 : Int))))
  else (if 4611686018427387904 < p1.2.2.1 then (some (((0 : Int), (0 : Int), (0 : Int), (0 : Int), ([] : List (Int × Int)), ([] : List (List (Int × Int × List (List (Int × Int))))), (0 : Int), (9 : Int))))
  else ((grid_New p1.2.1 p1.2.2.2.2.2.1 p1.2.2.2.2.2.2.1).bind fun (r4 : Int × (List (Int × Int)) × (List (List (Int × Int × List (List (Int × Int))))) × Int × Int) =>
  if ¬ r4.2.2.2.2 = 0 then (some (((0 : Int), (0 : Int), (0 : Int), (0 : Int), ([] : List (Int × Int)), ([] : List (List (Int × Int × List (List (Int × Int))))), (0 : Int), r4.2.2.2.2)))
  else (some ((p1.2.2.1, r3.1, r3.2.1, r4.1, r4.2.1, r4.2.2.1, r4.2.2.2.1, (0 : Int)))))))

def conf_Check_2 (p1 : Int × Int × Int × Int × Int × Int × (List (Int × Int)) × Int × Int) : Option Int :=
  (conf_bare ([p1.2.2.2.2.2.2.2.1, p1.2.2.2.2.2.2.2.2])).bind fun (r3 : Bool) =>
  if ¬ (r3 = true) then (some ((9 : Int)))
  else ((ecm_New p1).bind fun (r4 : Int × Int × Int × Int × (List (Int × Int)) × (List (List (Int × Int × List (List (Int × Int))))) × Int × Int) =>
  some r4.2.2.2.2.2.2.2)

def heavy_New (p1 : Int) : Option (Int × Int) :=
  if p1 < 1 then (some (((0 : Int), (9 : Int))))
  else (if 256 < p1 then (some (((0 : Int), (9 : Int))))
  else (some ((p1, (0 : Int)))))

def ring_New (p1 : Int) (p2 : Int) (p3 : Int) : Option (Int × Int × Int × Int) :=
  (heavy_New p1).bind fun (r2 : Int × Int) =>
  if ¬ r2.2 = 0 then (some (((0 : Int), (0 : Int), (0 : Int), r2.2)))
  else (if p2 < 1 then (some (((0 : Int), (0 : Int), (0 : Int), (9 : Int))))
  else (if 64 < p2 then (some (((0 : Int), (0 : Int), (0 : Int), (9 : Int))))
  else (if p3 < 1 then (some (((0 : Int), (0 : Int), (0 : Int), (9 : Int))))
  else (if 4611686018427387904 < p3 then (some (((0 : Int), (0 : Int), (0 : Int), (9 : Int))))
  else ((must ((wu64 p2) ≠ 0)).bind fun _ =>
  if ¬ (p3.tmod (wu64 p2)) = 0 then (some (((0 : Int), (0 : Int), (0 : Int), (9 : Int))))
  else (some ((p1, p2, p3, (0 : Int)))))))))

def top_New (p1 : Int × Int × Int × Int × Int × Int × (List (Int × Int)) × Int × Int) : Option (Int × Int × Int × Int × Int × Int) :=
  (buffer_New p1.2.2.2.1 p1.2.2.2.2.1).bind fun (r3 : Int × Int × Int) =>
  if ¬ r3.2.2 = 0 then (some (((0 : Int), (0 : Int), (0 : Int), (0 : Int), (0 : Int), r3.2.2)))
  else ((ring_New p1.2.2.2.2.2.2.2.1 p1.2.2.2.2.2.2.2.2 p1.2.2.1).bind fun (r4 : Int × Int × Int × Int) =>
  if ¬ r4.2.2.2 = 0 then (some (((0 : Int), (0 : Int), (0 : Int), (0 : Int), (0 : Int), r4.2.2.2)))
  else (some ((r3.1, r3.2.1, r4.1, r4.2.1, r4.2.2.1, (0 : Int)))))

def conf_Check_3 (p1 : Int × Int × Int × Int × Int × Int × (List (Int × Int)) × Int × Int) : Option Int :=
  (conf_bare ([p1.2.1, p1.2.2.2.2.2.1, (p1.2.2.2.2.2.2.1.length : Int)])).bind fun (r3 : Bool) =>
  if ¬ (r3 = true) then (some ((9 : Int)))
  else ((top_New p1).bind fun (r4 : Int × Int × Int × Int × Int × Int) =>
  some r4.2.2.2.2.2)

def conf_Check (p1 : Int × Int × Int × Int × Int × Int × (List (Int × Int)) × Int × Int) : Option Int :=
  if p1.1 = 1 then ((conf_Check_1 p1).bind fun (r4 : Int) =>
  some r4)
  else (if p1.1 = 2 then ((conf_Check_2 p1).bind fun (r5 : Int) =>
  some r5)
  else (if p1.1 = 3 then ((conf_Check_3 p1).bind fun (r6 : Int) =>
  some r6)
  else (some ((14 : Int)))))

def conf_nums_s0 (p1 : List Int) (s5 : List Int × Int) : Option ((List Int × Int) ⊕ (List Int)) :=
  if s5.2 < ((p1.length : Int)) then ((rdo p1 s5.2).bind fun (z6 : Int) =>
  (codec_Num (wu64 z6)).bind fun (r6 : List Int) =>
  (room (s5.1.length + r6.length) 1).bind fun _ =>
  some (.inl ((s5.1 ++ r6, wi64 (s5.2 + 1)))))
  else (some (.inr s5.1))
def conf_nums (p1 : List Int) : Option (List Int) :=
  ((loopO (conf_nums_s0 p1) ((([] : List Int), (0 : Int)))) : Option (List Int)).bind (fun (x2 : List Int) =>
  some x2)

def conf_seeds (p1 : List (Int × Int)) : Option Unit :=
  some (())

def codec_Fixed_s0 (p1 : Int) (s5 : List Int × Int) : Option ((List Int × Int) ⊕ (List Int)) :=
  if s5.2 < 8 then ((must (0 ≤ (wi64 (8 * s5.2)))).bind fun _ =>
  (rdo s5.1 (wi64 (7 - s5.2))).bind fun (z6 : Int) =>
  some (.inl ((s5.1.set (wi64 (7 - s5.2)).toNat (wu8 (shrk 64 p1 (wi64 (8 * s5.2)))), wi64 (s5.2 + 1)))))
  else (some (.inr s5.1))
def codec_Fixed (p1 : Int) : Option (List Int) :=
  ((loopO (codec_Fixed_s0 p1) ((List.replicate 8 ((0 : Int) : Int), (0 : Int)))) : Option (List Int)).bind (fun (x2 : List Int) =>
  some x2)

def conf_seeds_1_s0 {σ : Type} (y : List Int → σ → Option (Bool × σ)) (p1 : List (Int × Int)) (s5 : Int × σ) : Option ((Int × σ) ⊕ (σ ⊕ σ)) :=
  if s5.1 < ((p1.length : Int)) then ((rdo p1 s5.1).bind fun (z6 : Int × Int) =>
  (codec_Fixed z6.1).bind fun (r45 : List Int) =>
  (y r45 s5.2).bind fun (r46 : Bool × σ) =>
  if ¬ (r46.1 = true) then (some (.inr (.inl r46.2)))
  else ((codec_Fixed z6.2).bind fun (r47 : List Int) =>
  (y r47 r46.2).bind fun (r48 : Bool × σ) =>
  if ¬ (r48.1 = true) then (some (.inr (.inl r48.2)))
  else (some (.inl ((wi64 (s5.1 + 1), r48.2))))))
  else (some (.inr (.inr s5.2)))
def conf_seeds_1 {σ : Type} (y : List Int → σ → Option (Bool × σ)) (p1 : List (Int × Int)) (s0 : σ) : Option σ :=
  ((loopO (conf_seeds_1_s0 y p1) (((0 : Int), s0))) : Option (σ ⊕ σ)).bind (Sum.elim (fun (d3 : σ) =>
  some d3)
  (fun (d4 : σ) =>
  some d4))

def conf_Put_r0 (x2 : List Int) (d5 : List Int) : Option (List Int ⊕ Empty) :=
  (room (d5.length + x2.length) 1).bind fun _ =>
  some (.inl (d5 ++ x2))
def conf_Put (p1 : Int × Int × Int × Int × Int × Int × (List (Int × Int)) × Int × Int) : Option (List Int) :=
  (conf_Check p1).bind fun (r14 : Int) =>
  if ¬ r14 = 0 then (some (([] : List Int)))
  else ((conf_nums ([p1.1])).bind fun (r15 : List Int) =>
  (codec_Num p1.2.2.1).bind fun (r16 : List Int) =>
  (codec_Num p1.2.2.2.1).bind fun (r17 : List Int) =>
  (conf_nums ([p1.2.2.2.2.1])).bind fun (r18 : List Int) =>
  (slices_Concat_byte ([r15, r16, r17, r18])).bind fun (r19 : List Int) =>
  if p1.1 = 1 then ((conf_nums ([p1.2.1])).bind fun (r21 : List Int) =>
  (room (r19.length + r21.length) 1).bind fun _ =>
  some (r19 ++ r21))
  else (if p1.1 = 2 then ((conf_nums ([p1.2.1, p1.2.2.2.2.2.1, (p1.2.2.2.2.2.2.1.length : Int)])).bind fun (r23 : List Int) =>
  (room (r19.length + r23.length) 1).bind fun _ =>
  (conf_seeds p1.2.2.2.2.2.2.1).bind fun (r24 : Unit) =>
  (conf_seeds_1 (yl (conf_Put_r0)) p1.2.2.2.2.2.2.1 (.inl (r19 ++ r23))).bind fun (j2 : (List Int ⊕ Empty)) =>
  (Sum.elim (fun (d5 : List Int) =>
  some d5)
  (fun (q : Empty) => none) j2))
  else ((conf_nums ([p1.2.2.2.2.2.2.2.1, p1.2.2.2.2.2.2.2.2])).bind fun (r26 : List Int) =>
  (room (r19.length + r26.length) 1).bind fun _ =>
  some (r19 ++ r26))))

def codec_Reader_Fixed_s0 (p1 : List Int × Int) (s5 : Int × Int) : Option ((Int × Int) ⊕ Int) :=
  if s5.2 < (((p1.1.take (8 : Int).toNat).length : Int)) then ((rdo (p1.1.take (8 : Int).toNat) s5.2).bind fun (z6 : Int) =>
  some (.inl ((wu64 (ork 64 (wu64 (shlk 64 s5.1 8)) (wu64 z6)), wi64 (s5.2 + 1)))))
  else (some (.inr s5.1))
def codec_Reader_Fixed (p1 : List Int × Int) : Option (Int × List Int × Int) :=
  (codec_Reader_on p1).bind fun (r2 : Unit) =>
  if ¬ (p1.2 = 0) then (some (((0 : Int), p1.1, p1.2)))
  else (if ((p1.1.length : Int)) < 8 then (some (((0 : Int), p1.1, (3 : Int))))
  else ((must (0 ≤ (8 : Int) ∧ (8 : Int) ≤ p1.1.length)).bind fun _ =>
  ((loopO (codec_Reader_Fixed_s0 p1) (((0 : Int), (0 : Int)))) : Option Int).bind (fun (x2 : Int) =>
  some ((x2, p1.1.drop (8 : Int).toNat, p1.2)))))

def conf_Take_s0 (r112 : Int × List Int × Int) (s17 : Int × List Int × Int × List (Int × Int)) : Option ((Int × List Int × Int × List (Int × Int)) ⊕ ((List Int × Int × List (Int × Int)))) :=
  if s17.1 < r112.1 then ((codec_Reader_Fixed ((s17.2.1, s17.2.2.1))).bind fun (r123 : Int × List Int × Int) =>
  (codec_Reader_Fixed r123.2).bind fun (r124 : Int × List Int × Int) =>
  (room (s17.2.2.2.length + ([(r123.1, r124.1)]).length) 16).bind fun _ =>
  some (.inl ((wu64 (s17.1 + 1), r124.2.1, r124.2.2, s17.2.2.2 ++ ([(r123.1, r124.1)])))))
  else (some (.inr ((s17.2.1, s17.2.2.1, s17.2.2.2))))
def conf_Take (p1 : List Int × Int) : Option (Int × Int × Int × Int × Int × Int × (List (Int × Int)) × Int × Int × List Int × Int) :=
  (codec_Reader_Num p1 ((3 : Int))).bind fun (r68 : Int × List Int × Int) =>
  (codec_Reader_Num r68.2 ((4611686018427387904 : Int))).bind fun (r69 : Int × List Int × Int) =>
  (codec_Reader_Num r69.2 ((4611686018427387904 : Int))).bind fun (r70 : Int × List Int × Int) =>
  (codec_Reader_Num r70.2 ((1024 : Int))).bind fun (r71 : Int × List Int × Int) =>
  ((if (wi64 r68.1) = 1 then ((codec_Reader_Num r71.2 ((1024 : Int))).bind fun (r109 : Int × List Int × Int) =>
  some ((r109.2.1, r109.2.2, wi64 r109.1, (0 : Int), ([] : List (Int × Int)), (0 : Int), (0 : Int))))
  else (if (wi64 r68.1) = 2 then ((codec_Reader_Num r71.2 ((1024 : Int))).bind fun (r110 : Int × List Int × Int) =>
  (codec_Reader_Num r110.2 ((256 : Int))).bind fun (r111 : Int × List Int × Int) =>
  (codec_Reader_Num r111.2 ((8 : Int))).bind fun (r112 : Int × List Int × Int) =>
  ((loopO (conf_Take_s0 r112) (((0 : Int), r112.2.1, r112.2.2, ([] : List (Int × Int))))) : Option ((List Int × Int × List (Int × Int)))).bind (fun (x6 : (List Int × Int × List (Int × Int))) =>
  some ((x6.1, x6.2.1, wi64 r110.1, wi64 r111.1, x6.2.2, (0 : Int), (0 : Int)))))
  else (if (wi64 r68.1) = 3 then ((codec_Reader_Num r71.2 ((256 : Int))).bind fun (r125 : Int × List Int × Int) =>
  (codec_Reader_Num r125.2 ((64 : Int))).bind fun (r126 : Int × List Int × Int) =>
  some ((r126.2.1, r126.2.2, (0 : Int), (0 : Int), ([] : List (Int × Int)), wi64 r125.1, wi64 r126.1)))
  else (some ((r71.2.1, r71.2.2, (0 : Int), (0 : Int), ([] : List (Int × Int)), (0 : Int), (0 : Int))))))) : Option ((List Int × Int × Int × Int × (List (Int × Int)) × Int × Int))).bind (fun (j6 : (List Int × Int × Int × Int × (List (Int × Int)) × Int × Int)) =>
  (codec_Reader_Err ((j6.1, j6.2.1))).bind fun (r129 : Unit) =>
  if (((j6.1, j6.2.1)).2) = 0 then ((conf_Check ((wi64 r68.1, j6.2.2.1, r69.1, r70.1, wi64 r71.1, j6.2.2.2.1, j6.2.2.2.2.1, j6.2.2.2.2.2.1, j6.2.2.2.2.2.2))).bind fun (r130 : Int) =>
  if ¬ r130 = 0 then ((codec_Reader_Fail (((j6.1, j6.2.1))) ((2 : Int))).bind fun (r131 : Int) =>
  (codec_Reader_Err (((((j6.1, j6.2.1))).1, r131))).bind fun (r132 : Unit) =>
  if ¬ ((((((j6.1, j6.2.1))).1, r131)).2) = 0 then (some (((0 : Int), (0 : Int), (0 : Int), (0 : Int), (0 : Int), (0 : Int), ([] : List (Int × Int)), (0 : Int), (0 : Int), (((((j6.1, j6.2.1))).1, r131)).1, (((((j6.1, j6.2.1))).1, r131)).2)))
  else (some ((wi64 r68.1, j6.2.2.1, r69.1, r70.1, wi64 r71.1, j6.2.2.2.1, j6.2.2.2.2.1, j6.2.2.2.2.2.1, j6.2.2.2.2.2.2, (((((j6.1, j6.2.1))).1, r131)).1, (((((j6.1, j6.2.1))).1, r131)).2))))
  else ((codec_Reader_Err (((j6.1, j6.2.1)))).bind fun (r133 : Unit) =>
  if ¬ ((((j6.1, j6.2.1))).2) = 0 then (some (((0 : Int), (0 : Int), (0 : Int), (0 : Int), (0 : Int), (0 : Int), ([] : List (Int × Int)), (0 : Int), (0 : Int), (((j6.1, j6.2.1))).1, (((j6.1, j6.2.1))).2)))
  else (some ((wi64 r68.1, j6.2.2.1, r69.1, r70.1, wi64 r71.1, j6.2.2.2.1, j6.2.2.2.2.1, j6.2.2.2.2.2.1, j6.2.2.2.2.2.2, (((j6.1, j6.2.1))).1, (((j6.1, j6.2.1))).2)))))
  else ((codec_Reader_Err (((j6.1, j6.2.1)))).bind fun (r134 : Unit) =>
  if ¬ ((((j6.1, j6.2.1))).2) = 0 then (some (((0 : Int), (0 : Int), (0 : Int), (0 : Int), (0 : Int), (0 : Int), ([] : List (Int × Int)), (0 : Int), (0 : Int), (((j6.1, j6.2.1))).1, (((j6.1, j6.2.1))).2)))
  else (some ((wi64 r68.1, j6.2.2.1, r69.1, r70.1, wi64 r71.1, j6.2.2.2.1, j6.2.2.2.2.1, j6.2.2.2.2.2.1, j6.2.2.2.2.2.2, (((j6.1, j6.2.1))).1, (((j6.1, j6.2.1))).2)))))

def slices_Equal_Seed_s0 (p1 : List (Int × Int)) (p2 : List (Int × Int)) (s5 : Int) : Option (Int ⊕ (Unit ⊕ Unit)) :=
  if s5 < ((p1.length : Int)) then ((rdo p1 s5).bind fun (z23 : Int × Int) =>
  (rdo p2 s5).bind fun (z24 : Int × Int) =>
  if ¬ (z23.1 = z24.1 ∧ z23.2 = z24.2 ∧ True) then (some (.inr (.inl (()))))
  else (some (.inl (wi64 (s5 + 1)))))
  else (some (.inr (.inr (()))))
def slices_Equal_Seed (p1 : List (Int × Int)) (p2 : List (Int × Int)) : Option Bool :=
  if ¬ ((p1.length : Int)) = ((p2.length : Int)) then (some false)
  else (((loopO (slices_Equal_Seed_s0 p1 p2) ((0 : Int))) : Option (Unit ⊕ Unit)).bind (Sum.elim (fun (d3 : Unit) =>
  some false)
  (fun (d4 : Unit) =>
  some true)))

def conf_Same (p1 : Int × Int × Int × Int × Int × Int × (List (Int × Int)) × Int × Int) (p2 : Int × Int × Int × Int × Int × Int × (List (Int × Int)) × Int × Int) : Option Bool :=
  ((if p1.2.2.1 = p2.2.2.1 then (if p1.2.2.2.1 = p2.2.2.2.1 then (some (decide (p1.2.2.2.2.1 = p2.2.2.2.2.1)))
  else (some false))
  else (some false)) : Option Bool).bind (fun (j3 : Bool) =>
  ((if p1.1 = p2.1 then (if p1.2.1 = p2.2.1 then (if p1.2.2.2.2.2.2.2.1 = p2.2.2.2.2.2.2.2.1 then (some (decide (p1.2.2.2.2.2.2.2.2 = p2.2.2.2.2.2.2.2.2)))
  else (some false))
  else (some false))
  else (some false)) : Option Bool).bind (fun (j4 : Bool) =>
  if j3 = true then (if j4 = true then (if p1.2.2.2.2.2.1 = p2.2.2.2.2.2.1 then ((slices_Equal_Seed p1.2.2.2.2.2.2.1 p2.2.2.2.2.2.2.1).bind fun (r4 : Bool) =>
  some r4)
  else (some false))
  else (some false))
  else (some false)))

def law21_awake : Option Bool :=
  (conf_Put (((1 : Int), (2 : Int), (10 : Int), (0 : Int), (1 : Int), (0 : Int), ([] : List (Int × Int)), (0 : Int), (0 : Int)))).bind fun (r14 : List Int) =>
  (codec_New r14).bind fun (r15 : Unit) =>
  (conf_Take ((r14.take ((r14.length : Int)).toNat, (0 : Int)))).bind fun (r16 : Int × Int × Int × Int × Int × Int × (List (Int × Int)) × Int × Int × List Int × Int) =>
  if (bstr r14) = (bstr ([(1 : Int), (10 : Int), (0 : Int), (1 : Int), (2 : Int)])) then (if r16.2.1 = 2 then (if r16.2.2.1 = 10 then ((codec_Reader_End r16.2.2.2.2.2.2.2.2.2).bind fun (r22 : Int) =>
  if r22 = 0 then ((conf_Same ((r16.1, r16.2.1, r16.2.2.1, r16.2.2.2.1, r16.2.2.2.2.1, r16.2.2.2.2.2.1, r16.2.2.2.2.2.2.1, r16.2.2.2.2.2.2.2.1, r16.2.2.2.2.2.2.2.2.1)) ((r16.1, r16.2.1, r16.2.2.1, r16.2.2.2.1, r16.2.2.2.2.1, r16.2.2.2.2.2.1, r16.2.2.2.2.2.2.1, r16.2.2.2.2.2.2.2.1, r16.2.2.2.2.2.2.2.2.1))).bind fun (r23 : Bool) =>
  if r23 = true then ((conf_Same (((4 : Int), (2 : Int), (10 : Int), (0 : Int), (1 : Int), (0 : Int), ([] : List (Int × Int)), (0 : Int), (0 : Int))) ((r16.1, r16.2.1, r16.2.2.1, r16.2.2.2.1, r16.2.2.2.2.1, r16.2.2.2.2.2.1, r16.2.2.2.2.2.2.1, r16.2.2.2.2.2.2.2.1, r16.2.2.2.2.2.2.2.2.1))).bind fun (r24 : Bool) =>
  if ¬ (r24 = true) then ((conf_Check (((4 : Int), (2 : Int), (10 : Int), (0 : Int), (1 : Int), (0 : Int), ([] : List (Int × Int)), (0 : Int), (0 : Int)))).bind fun (r25 : Int) =>
  if r25 = 14 then ((conf_Check ((r16.1, r16.2.1, r16.2.2.1, r16.2.2.2.1, r16.2.2.2.2.1, r16.2.2.2.2.2.1, r16.2.2.2.2.2.2.1, r16.2.2.2.2.2.2.2.1, r16.2.2.2.2.2.2.2.2.1))).bind fun (r26 : Int) =>
  some (decide (r26 = 0)))
  else (some false))
  else (some false))
  else (some false))
  else (some false))
  else (some false))
  else (some false))
  else (some false)

def ref12_Conf (p1 : Int) (p2 : Int) : Option Bool :=
  if p1 ≤ 4611686018427387904 then (if 1 ≤ p2 then (some (decide (p2 ≤ 1024)))
  else (some false))
  else (some false)

def ref14_Conf (p1 : Int) (p2 : Int) (p3 : Int) (p4 : Int) : Option Bool :=
  if 1 ≤ p2 then (if p2 ≤ 4611686018427387904 then ((ref06_May p1).bind fun (r7 : Bool) =>
  if r7 = true then ((ref12_Conf p3 p4).bind fun (r8 : Bool) =>
  some r8)
  else (some false))
  else (some false))
  else (some false)

def ref04_May (p1 : Int × Int) : Option Bool :=
  if 1 ≤ p1.1 then (if p1.1 < 2305843009213693951 then (some (decide (p1.2 < 2305843009213693951)))
  else (some false))
  else (some false)

def ref15_Conf_s0 (p3 : List (Int × Int)) (s5 : Int) : Option (Int ⊕ (Unit ⊕ Unit)) :=
  if s5 < ((p3.length : Int)) then ((rdo p3 s5).bind fun (z6 : Int × Int) =>
  (ref04_May z6).bind fun (r10 : Bool) =>
  if ¬ (r10 = true) then (some (.inr (.inl (()))))
  else (some (.inl (wi64 (s5 + 1)))))
  else (some (.inr (.inr (()))))
def ref15_Conf (p1 : Int) (p2 : Int) (p3 : List (Int × Int)) : Option Int :=
  (ref06_May p1).bind fun (r7 : Bool) =>
  if ¬ (r7 = true) then (some ((9 : Int)))
  else (if p2 < 1 then (some ((9 : Int)))
  else (if 256 < p2 then (some ((9 : Int)))
  else (if ((p3.length : Int)) < 1 then (some ((9 : Int)))
  else (if 8 < ((p3.length : Int)) then (some ((9 : Int)))
  else (((loopO (ref15_Conf_s0 p3) ((0 : Int))) : Option (Unit ⊕ Unit)).bind (Sum.elim (fun (d3 : Unit) =>
  some ((1 : Int)))
  (fun (d4 : Unit) =>
  some ((0 : Int)))))))))

def ref16_Conf (p1 : Int × Int × Int × Int × Int × Int × (List (Int × Int)) × Int × Int) : Option Int :=
  if p1.2.2.1 = 0 then (some ((9 : Int)))
  else (if 4611686018427387904 < p1.2.2.1 then (some ((9 : Int)))
  else ((ref12_Conf p1.2.2.2.1 p1.2.2.2.2.1).bind fun (r5 : Bool) =>
  if ¬ (r5 = true) then (some ((9 : Int)))
  else ((ref15_Conf p1.2.1 p1.2.2.2.2.2.1 p1.2.2.2.2.2.2.1).bind fun (r6 : Int) =>
  some r6)))

def ref17_Conf (p1 : Int) : Option Bool :=
  if 1 ≤ p1 then (some (decide (p1 ≤ 256)))
  else (some false)

def ref19_Conf (p1 : Int) (p2 : Int) (p3 : Int) : Option Bool :=
  (ref17_Conf p1).bind fun (r4 : Bool) =>
  if r4 = true then (if 1 ≤ p2 then (if p2 ≤ 64 then (if 1 ≤ p3 then (if p3 ≤ 4611686018427387904 then ((must ((wu64 p2) ≠ 0)).bind fun _ =>
  some (decide ((p3.tmod (wu64 p2)) = 0)))
  else (some false))
  else (some false))
  else (some false))
  else (some false))
  else (some false)

def ref20_Conf (p1 : Int × Int × Int × Int × Int × Int × (List (Int × Int)) × Int × Int) : Option Bool :=
  (ref12_Conf p1.2.2.2.1 p1.2.2.2.2.1).bind fun (r7 : Bool) =>
  if r7 = true then ((ref19_Conf p1.2.2.2.2.2.2.2.1 p1.2.2.2.2.2.2.2.2 p1.2.2.1).bind fun (r8 : Bool) =>
  some r8)
  else (some false)

def ref21_Check (p1 : Int × Int × Int × Int × Int × Int × (List (Int × Int)) × Int × Int) : Option Int :=
  if p1.1 = 1 then (if ¬ p1.2.2.2.2.2.1 = 0 then (some ((9 : Int)))
  else (if ¬ p1.2.2.2.2.2.2.2.1 = 0 then (some ((9 : Int)))
  else (if ¬ p1.2.2.2.2.2.2.2.2 = 0 then (some ((9 : Int)))
  else (if 0 < ((p1.2.2.2.2.2.2.1.length : Int)) then (some ((9 : Int)))
  else ((ref14_Conf p1.2.1 p1.2.2.1 p1.2.2.2.1 p1.2.2.2.2.1).bind fun (r7 : Bool) =>
  if ¬ (r7 = true) then (some ((9 : Int)))
  else (some ((0 : Int))))))))
  else (if p1.1 = 2 then (if ¬ p1.2.2.2.2.2.2.2.1 = 0 then (some ((9 : Int)))
  else (if ¬ p1.2.2.2.2.2.2.2.2 = 0 then (some ((9 : Int)))
  else ((ref16_Conf p1).bind fun (r8 : Int) =>
  some r8)))
  else (if p1.1 = 3 then (if ¬ p1.2.1 = 0 then (some ((9 : Int)))
  else (if ¬ p1.2.2.2.2.2.1 = 0 then (some ((9 : Int)))
  else (if 0 < ((p1.2.2.2.2.2.2.1.length : Int)) then (some ((9 : Int)))
  else ((ref20_Conf p1).bind fun (r10 : Bool) =>
  if ¬ (r10 = true) then (some ((9 : Int)))
  else (some ((0 : Int)))))))
  else (some ((14 : Int)))))

def ref21_nums_s0 (p1 : List Int) (s5 : List Int × Int) : Option ((List Int × Int) ⊕ (List Int)) :=
  if s5.2 < ((p1.length : Int)) then ((rdo p1 s5.2).bind fun (z6 : Int) =>
  (ref02_Num z6).bind fun (r6 : List Int) =>
  (room (s5.1.length + r6.length) 1).bind fun _ =>
  some (.inl ((s5.1 ++ r6, wi64 (s5.2 + 1)))))
  else (some (.inr s5.1))
def ref21_nums (p1 : List Int) : Option (List Int) :=
  ((loopO (ref21_nums_s0 p1) ((([] : List Int), (0 : Int)))) : Option (List Int)).bind (fun (x2 : List Int) =>
  some x2)

def ref02_Fixed_s0 (p1 : Int) (s5 : List Int × Int) : Option ((List Int × Int) ⊕ (List Int)) :=
  if s5.2 < 8 then ((must (0 ≤ (wi64 (56 - (wi64 (8 * s5.2)))))).bind fun _ =>
  (room (s5.1.length + ([wu8 (shrk 64 p1 (wi64 (56 - (wi64 (8 * s5.2)))))]).length) 1).bind fun _ =>
  some (.inl ((s5.1 ++ ([wu8 (shrk 64 p1 (wi64 (56 - (wi64 (8 * s5.2)))))]), wi64 (s5.2 + 1)))))
  else (some (.inr s5.1))
def ref02_Fixed (p1 : Int) : Option (List Int) :=
  ((loopO (ref02_Fixed_s0 p1) ((([] : List Int), (0 : Int)))) : Option (List Int)).bind (fun (x2 : List Int) =>
  some x2)

def ref21_Put_s0 (p1 : Int × Int × Int × Int × Int × Int × (List (Int × Int)) × Int × Int) (s5 : List Int × Int) : Option ((List Int × Int) ⊕ (List Int)) :=
  if s5.2 < ((p1.2.2.2.2.2.2.1.length : Int)) then ((rdo p1.2.2.2.2.2.2.1 s5.2).bind fun (z6 : Int × Int) =>
  (ref02_Fixed z6.1).bind fun (r20 : List Int) =>
  (room (s5.1.length + r20.length) 1).bind fun _ =>
  (ref02_Fixed z6.2).bind fun (r21 : List Int) =>
  (room ((s5.1 ++ r20).length + r21.length) 1).bind fun _ =>
  some (.inl (((s5.1 ++ r20) ++ r21, wi64 (s5.2 + 1)))))
  else (some (.inr s5.1))
def ref21_Put (p1 : Int × Int × Int × Int × Int × Int × (List (Int × Int)) × Int × Int) : Option (List Int) :=
  (ref21_Check p1).bind fun (r12 : Int) =>
  if ¬ r12 = 0 then (some (([] : List Int)))
  else ((ref21_nums ([wu64 p1.1, p1.2.2.1, p1.2.2.2.1, wu64 p1.2.2.2.2.1])).bind fun (r13 : List Int) =>
  if p1.1 = 1 then ((ref21_nums ([wu64 p1.2.1])).bind fun (r14 : List Int) =>
  (room (r13.length + r14.length) 1).bind fun _ =>
  some (r13 ++ r14))
  else (if p1.1 = 2 then ((ref21_nums ([wu64 p1.2.1, wu64 p1.2.2.2.2.2.1, wu64 ((p1.2.2.2.2.2.2.1.length : Int))])).bind fun (r15 : List Int) =>
  (room (r13.length + r15.length) 1).bind fun _ =>
  ((loopO (ref21_Put_s0 p1) ((r13 ++ r15, (0 : Int)))) : Option (List Int)).bind (fun (x2 : List Int) =>
  some x2))
  else ((ref21_nums ([wu64 p1.2.2.2.2.2.2.2.1, wu64 p1.2.2.2.2.2.2.2.2])).bind fun (r22 : List Int) =>
  (room (r13.length + r22.length) 1).bind fun _ =>
  some (r13 ++ r22))))

def law21_ConfChecks (p1 : Int × Int × Int × Int × Int × Int × (List (Int × Int)) × Int × Int) : Option Bool :=
  (law21_awake).bind fun (r18 : Bool) =>
  if 20 < ((p1.2.2.2.2.2.2.1.length : Int)) then (some r18)
  else (if r18 = true then ((conf_Check p1).bind fun (r31 : Int) =>
  (ref21_Check p1).bind fun (r32 : Int) =>
  if r31 = r32 then ((conf_Put p1).bind fun (r33 : List Int) =>
  (ref21_Put p1).bind fun (r34 : List Int) =>
  some (decide ((bstr r33) = (bstr r34))))
  else (some false))
  else (some false))

def ref21_read_s0 (p2 : List Int) (s5 : List Int × Int × List Int × Int) : Option ((List Int × Int × List Int × Int) ⊕ ((List Int × List Int × Int))) :=
  if s5.2.1 < ((p2.length : Int)) then ((rdo p2 s5.2.1).bind fun (z12 : Int) =>
  (ref02_Read s5.2.2 z12).bind fun (r6 : List Int × Int × Int) =>
  (room (s5.1.length + ([r6.2.2]).length) 8).bind fun _ =>
  some (.inl ((s5.1 ++ ([r6.2.2]), wi64 (s5.2.1 + 1), r6.1, r6.2.1))))
  else (some (.inr ((s5.1, s5.2.2.1, s5.2.2.2))))
def ref21_read (p1 : List Int × Int) (p2 : List Int) : Option (List Int × Int × List Int) :=
  ((loopO (ref21_read_s0 p2) ((([] : List Int), (0 : Int), p1.1, p1.2))) : Option ((List Int × List Int × Int))).bind (fun (x2 : (List Int × List Int × Int)) =>
  some ((x2.2.1, x2.2.2, x2.1)))

def ref02_ReadFixed_s0 (p1 : List Int × Int) (s5 : Int × Int) : Option ((Int × Int) ⊕ Int) :=
  if s5.2 < 8 then ((rdo p1.1 s5.2).bind fun (z6 : Int) =>
  some (.inl ((wu64 ((wu64 (256 * s5.1)) + (wu64 z6)), wi64 (s5.2 + 1)))))
  else (some (.inr s5.1))
def ref02_ReadFixed (p1 : List Int × Int) : Option (List Int × Int × Int) :=
  if ¬ p1.2 = 0 then (some ((p1.1, p1.2, (0 : Int))))
  else (if ((p1.1.length : Int)) < 8 then ((ref02_fail p1 ((3 : Int))).bind fun (r2 : Int) =>
  some ((p1.1, r2, (0 : Int))))
  else (((loopO (ref02_ReadFixed_s0 p1) (((0 : Int), (0 : Int)))) : Option Int).bind (fun (x2 : Int) =>
  (must (0 ≤ (8 : Int) ∧ (8 : Int) ≤ p1.1.length)).bind fun _ =>
  some ((p1.1.drop (8 : Int).toNat, p1.2, x2)))))

def ref21_rest_s0 (r11 : List Int × Int × List Int) (s5 : Int × (List (Int × Int)) × List Int × Int) : Option ((Int × (List (Int × Int)) × List Int × Int) ⊕ (((List (Int × Int)) × List Int × Int))) :=
  (rdo r11.2.2 2).bind fun (z14 : Int) =>
  if s5.1 < z14 then ((ref02_ReadFixed s5.2.2).bind fun (r16 : List Int × Int × Int) =>
  (ref02_ReadFixed ((r16.1, r16.2.1))).bind fun (r17 : List Int × Int × Int) =>
  (room (s5.2.1.length + ([(r16.2.2, r17.2.2)]).length) 16).bind fun _ =>
  some (.inl ((wu64 (s5.1 + 1), s5.2.1 ++ ([(r16.2.2, r17.2.2)]), r17.1, r17.2.1))))
  else (some (.inr ((s5.2.1, s5.2.2.1, s5.2.2.2))))
def ref21_rest (p1 : List Int × Int) (p2 : Int × Int × Int × Int × Int × Int × Int × Int) : Option (List Int × Int × Int × Int × (List (Int × Int)) × Int × Int) :=
  if p2.1 = 1 then ((ref21_read p1 ([(1024 : Int)])).bind fun (r10 : List Int × Int × List Int) =>
  (rdo r10.2.2 0).bind fun (z9 : Int) =>
  some ((r10.1, r10.2.1, wi64 z9, p2.2.2.2.2.2.1, ([] : List (Int × Int)), p2.2.2.2.2.2.2.1, p2.2.2.2.2.2.2.2)))
  else (if p2.1 = 2 then ((ref21_read p1 ([(1024 : Int), (256 : Int), (8 : Int)])).bind fun (r11 : List Int × Int × List Int) =>
  (rdo r11.2.2 0).bind fun (z10 : Int) =>
  (rdo r11.2.2 1).bind fun (z11 : Int) =>
  ((loopO (ref21_rest_s0 r11) (((0 : Int), ([] : List (Int × Int)), r11.1, r11.2.1))) : Option (((List (Int × Int)) × List Int × Int))).bind (fun (x2 : ((List (Int × Int)) × List Int × Int)) =>
  some ((x2.2.1, x2.2.2, wi64 z10, wi64 z11, x2.1, p2.2.2.2.2.2.2.1, p2.2.2.2.2.2.2.2))))
  else (if p2.1 = 3 then ((ref21_read p1 ([(256 : Int), (64 : Int)])).bind fun (r18 : List Int × Int × List Int) =>
  (rdo r18.2.2 0).bind fun (z15 : Int) =>
  (rdo r18.2.2 1).bind fun (z16 : Int) =>
  some ((r18.1, r18.2.1, p2.2.1, p2.2.2.2.2.2.1, ([] : List (Int × Int)), wi64 z15, wi64 z16)))
  else (some ((p1.1, p1.2, p2.2.1, p2.2.2.2.2.2.1, ([] : List (Int × Int)), p2.2.2.2.2.2.2.1, p2.2.2.2.2.2.2.2)))))

def ref21_Take (p1 : List Int × Int) : Option (List Int × Int × Int × Int × Int × Int × Int × Int × (List (Int × Int)) × Int × Int) :=
  (ref21_read p1 ([(3 : Int), (4611686018427387904 : Int), (4611686018427387904 : Int), (1024 : Int)])).bind fun (r7 : List Int × Int × List Int) =>
  (rdo r7.2.2 0).bind fun (z13 : Int) =>
  (rdo r7.2.2 1).bind fun (z14 : Int) =>
  (rdo r7.2.2 2).bind fun (z15 : Int) =>
  (rdo r7.2.2 3).bind fun (z16 : Int) =>
  ((if r7.2.1 = 0 then ((ref21_rest ((r7.1, r7.2.1)) ((wi64 z13, (0 : Int), z14, z15, wi64 z16, (0 : Int), (0 : Int), (0 : Int)))).bind fun (r9 : List Int × Int × Int × Int × (List (Int × Int)) × Int × Int) =>
  some ((r9.1, r9.2.1, ((wi64 z13, (0 : Int), z14, z15, wi64 z16, (0 : Int), (0 : Int), (0 : Int))).1, r9.2.2.1, ((wi64 z13, (0 : Int), z14, z15, wi64 z16, (0 : Int), (0 : Int), (0 : Int))).2.2.1, ((wi64 z13, (0 : Int), z14, z15, wi64 z16, (0 : Int), (0 : Int), (0 : Int))).2.2.2.1, ((wi64 z13, (0 : Int), z14, z15, wi64 z16, (0 : Int), (0 : Int), (0 : Int))).2.2.2.2.1, r9.2.2.2.1, r9.2.2.2.2.1, r9.2.2.2.2.2.1, r9.2.2.2.2.2.2)))
  else (some ((r7.1, r7.2.1, wi64 z13, (0 : Int), z14, z15, wi64 z16, (0 : Int), ([] : List (Int × Int)), (0 : Int), (0 : Int))))) : Option ((List Int × Int × Int × Int × Int × Int × Int × Int × (List (Int × Int)) × Int × Int))).bind (fun (j3 : (List Int × Int × Int × Int × Int × Int × Int × Int × (List (Int × Int)) × Int × Int)) =>
  ((if j3.2.1 = 0 then ((ref21_Check j3.2.2).bind fun (r12 : Int) =>
  some (decide (¬ r12 = 0)))
  else (some false)) : Option Bool).bind (fun (j4 : Bool) =>
  if j4 = true then (some ((j3.1, (2 : Int), (0 : Int), (0 : Int), (0 : Int), (0 : Int), (0 : Int), (0 : Int), ([] : List (Int × Int)), (0 : Int), (0 : Int))))
  else (if ¬ j3.2.1 = 0 then (some ((j3.1, j3.2.1, (0 : Int), (0 : Int), (0 : Int), (0 : Int), (0 : Int), (0 : Int), ([] : List (Int × Int)), (0 : Int), (0 : Int))))
  else (some ((j3.1, j3.2.1, j3.2.2.1, j3.2.2.2.1, j3.2.2.2.2.1, j3.2.2.2.2.2.1, j3.2.2.2.2.2.2.1, j3.2.2.2.2.2.2.2.1, j3.2.2.2.2.2.2.2.2.1, j3.2.2.2.2.2.2.2.2.2.1, j3.2.2.2.2.2.2.2.2.2.2))))))

def ref21_Same_s0 (p1 : Int × Int × Int × Int × Int × Int × (List (Int × Int)) × Int × Int) (p2 : Int × Int × Int × Int × Int × Int × (List (Int × Int)) × Int × Int) (s5 : Int) : Option (Int ⊕ (Unit ⊕ Unit)) :=
  if s5 < ((p1.2.2.2.2.2.2.1.length : Int)) then ((rdo p1.2.2.2.2.2.2.1 s5).bind fun (z23 : Int × Int) =>
  (rdo p2.2.2.2.2.2.2.1 s5).bind fun (z24 : Int × Int) =>
  if ¬ (z23.1 = z24.1 ∧ z23.2 = z24.2 ∧ True) then (some (.inr (.inl (()))))
  else (some (.inl (wi64 (s5 + 1)))))
  else (some (.inr (.inr (()))))
def ref21_Same (p1 : Int × Int × Int × Int × Int × Int × (List (Int × Int)) × Int × Int) (p2 : Int × Int × Int × Int × Int × Int × (List (Int × Int)) × Int × Int) : Option Bool :=
  if ¬ p1.1 = p2.1 then (some false)
  else (if ¬ p1.2.1 = p2.2.1 then (some false)
  else (if ¬ p1.2.2.1 = p2.2.2.1 then (some false)
  else (if ¬ p1.2.2.2.1 = p2.2.2.2.1 then (some false)
  else (if ¬ p1.2.2.2.2.1 = p2.2.2.2.2.1 then (some false)
  else (if ¬ p1.2.2.2.2.2.1 = p2.2.2.2.2.2.1 then (some false)
  else (if ¬ p1.2.2.2.2.2.2.2.1 = p2.2.2.2.2.2.2.2.1 then (some false)
  else (if ¬ p1.2.2.2.2.2.2.2.2 = p2.2.2.2.2.2.2.2.2 then (some false)
  else (if ¬ ((p1.2.2.2.2.2.2.1.length : Int)) = ((p2.2.2.2.2.2.2.1.length : Int)) then (some false)
  else (((loopO (ref21_Same_s0 p1 p2) ((0 : Int))) : Option (Unit ⊕ Unit)).bind (Sum.elim (fun (d3 : Unit) =>
  some false)
  (fun (d4 : Unit) =>
  some true)))))))))))

def law21_ConfTakes (p1 : List Int) : Option Bool :=
  (law21_awake).bind fun (r17 : Bool) =>
  if 200 < ((p1.length : Int)) then (some r17)
  else ((codec_New p1).bind fun (r18 : Unit) =>
  (conf_Take ((p1.take ((p1.length : Int)).toNat, (0 : Int)))).bind fun (r19 : Int × Int × Int × Int × Int × Int × (List (Int × Int)) × Int × Int × List Int × Int) =>
  (ref21_Take ((p1, (0 : Int)))).bind fun (r20 : List Int × Int × Int × Int × Int × Int × Int × Int × (List (Int × Int)) × Int × Int) =>
  if r17 = true then ((ref21_Same ((r19.1, r19.2.1, r19.2.2.1, r19.2.2.2.1, r19.2.2.2.2.1, r19.2.2.2.2.2.1, r19.2.2.2.2.2.2.1, r19.2.2.2.2.2.2.2.1, r19.2.2.2.2.2.2.2.2.1)) r20.2.2).bind fun (r30 : Bool) =>
  if r30 = true then ((codec_Reader_Left r19.2.2.2.2.2.2.2.2.2).bind fun (r31 : Unit) =>
  if ((r19.2.2.2.2.2.2.2.2.2.1.length : Int)) = ((r20.1.length : Int)) then ((codec_Reader_Err r19.2.2.2.2.2.2.2.2.2).bind fun (r32 : Unit) =>
  some (decide (r19.2.2.2.2.2.2.2.2.2.2 = r20.2.1)))
  else (some false))
  else (some false))
  else (some false))

def ref15_New_s1 (p1 : Int) (p2 : Int) (s23 : (List (Int × Int × List (List (Int × Int)))) × Int) : Option (((List (Int × Int × List (List (Int × Int)))) × Int) ⊕ ((List (Int × Int × List (List (Int × Int)))))) :=
  if s23.2 < p2 then ((room (s23.1.length + ([(p1, (0 : Int), ([] : List (List (Int × Int))))]).length) 40).bind fun _ =>
  some (.inl ((s23.1 ++ ([(p1, (0 : Int), ([] : List (List (Int × Int))))]), wi64 (s23.2 + 1)))))
  else (some (.inr s23.1))
def ref15_New_s0 (p1 : Int) (p2 : Int) (p3 : List (Int × Int)) (s17 : Int × List (List (Int × Int × List (List (Int × Int))))) : Option ((Int × List (List (Int × Int × List (List (Int × Int))))) ⊕ ((List (List (Int × Int × List (List (Int × Int))))))) :=
  if s17.1 < ((p3.length : Int)) then (((loopO (ref15_New_s1 p1 p2) ((([] : List (Int × Int × List (List (Int × Int)))), (0 : Int)))) : Option ((List (Int × Int × List (List (Int × Int)))))).bind (fun (x8 : (List (Int × Int × List (List (Int × Int))))) =>
  (room (s17.2.length + ([x8]).length) 24).bind fun _ =>
  some (.inl ((wi64 (s17.1 + 1), s17.2 ++ ([x8]))))))
  else (some (.inr s17.2))
def ref15_New (p1 : Int) (p2 : Int) (p3 : List (Int × Int)) : Option (List (List (Int × Int × List (List (Int × Int))))) :=
  ((loopO (ref15_New_s0 p1 p2 p3) (((0 : Int), ([] : List (List (Int × Int × List (List (Int × Int)))))))) : Option ((List (List (Int × Int × List (List (Int × Int))))))).bind (fun (x7 : (List (List (Int × Int × List (List (Int × Int)))))) =>
  some x7)

def ref15_Tame_s0 (p1 : Int × Int × List (Int × Int)) (s5 : (List (Int × Int)) × Int) : Option (((List (Int × Int)) × Int) ⊕ ((List (Int × Int)))) :=
  if s5.2 < ((p1.2.2.length : Int)) then (if s5.2 < 4 then ((rdo p1.2.2 s5.2).bind fun (z12 : Int × Int) =>
  (room (s5.1.length + ([(wu64 (1 + (z12.1.tmod 2305843009213693950)), z12.2.tmod 2305843009213693951)]).length) 16).bind fun _ =>
  some (.inl ((s5.1 ++ ([(wu64 (1 + (z12.1.tmod 2305843009213693950)), z12.2.tmod 2305843009213693951)]), wi64 (s5.2 + 1)))))
  else (some (.inr s5.1)))
  else (some (.inr s5.1))
def ref15_Tame (p1 : Int × Int × List (Int × Int)) : Option ((List (Int × Int)) × List (List (Int × Int × List (List (Int × Int))))) :=
  ((loopO (ref15_Tame_s0 p1) ((([] : List (Int × Int)), (0 : Int)))) : Option ((List (Int × Int)))).bind (fun (x2 : (List (Int × Int))) =>
  if ((x2.length : Int)) = 0 then ((room (x2.length + ([((3 : Int), (1 : Int))]).length) 16).bind fun _ =>
  (ref15_New (wi64 (2 + ((max p1.1 0).tmod 10))) (wi64 (1 + ((max p1.2.1 0).tmod 7))) (x2 ++ ([((3 : Int), (1 : Int))]))).bind fun (r3 : List (List (Int × Int × List (List (Int × Int))))) =>
  some (((x2 ++ ([((3 : Int), (1 : Int))])), r3)))
  else ((ref15_New (wi64 (2 + ((max p1.1 0).tmod 10))) (wi64 (1 + ((max p1.2.1 0).tmod 7))) x2).bind fun (r4 : List (List (Int × Int × List (List (Int × Int))))) =>
  some ((x2, r4))))

def ref16_Tame (p1 : Int × Int × Int × Int × Int × Int × (List (Int × Int)) × Int × Int) : Option (List (Int × Int)) :=
  (ref15_Tame ((p1.2.1, p1.2.2.2.2.2.1, p1.2.2.2.2.2.2.1))).bind fun (r2 : (List (Int × Int)) × List (List (Int × Int × List (List (Int × Int))))) =>
  some r2.1

def ref19_Tame (p1 : Int) (p2 : Int) (p3 : Int) : Option Unit :=
  some (())

def ref20_Tame (p1 : Int × Int × Int × Int × Int × Int × (List (Int × Int)) × Int × Int) : Option Unit :=
  (ref19_Tame p1.2.2.2.2.2.2.2.1 p1.2.2.2.2.2.2.2.2 p1.2.2.1).bind fun (r2 : Unit) =>
  some (())

def ref21_Tame (p1 : Int) (p2 : Int × Int × Int × Int × Int × Int × (List (Int × Int)) × Int × Int) : Option (Int × Int × Int × Int × (List (Int × Int)) × Int × Int) :=
  if (wi64 (1 + ((max p1 0).tmod 3))) = 1 then ((ref16_Tame p2).bind fun (r4 : List (Int × Int)) =>
  some (((1 : Int), (wi64 (2 + ((max ((p2.2.1, p2.2.2.2.2.2.1, p2.2.2.2.2.2.2.1)).1 0).tmod 10))), wu64 (1 + (p2.2.2.1.tmod 1000)), (0 : Int), ([] : List (Int × Int)), (0 : Int), (0 : Int))))
  else (if (wi64 (1 + ((max p1 0).tmod 3))) = 2 then ((ref16_Tame p2).bind fun (r5 : List (Int × Int)) =>
  some (((2 : Int), (wi64 (2 + ((max ((p2.2.1, p2.2.2.2.2.2.1, p2.2.2.2.2.2.2.1)).1 0).tmod 10))), wu64 (1 + (p2.2.2.1.tmod 1000)), (wi64 (1 + ((max ((p2.2.1, p2.2.2.2.2.2.1, p2.2.2.2.2.2.2.1)).2.1 0).tmod 7))), r5, (0 : Int), (0 : Int))))
  else ((ref20_Tame p2).bind fun (r6 : Unit) =>
  some (((3 : Int), (0 : Int), wu64 ((wu64 (wi64 (1 + ((max p2.2.2.2.2.2.2.2.2 0).tmod 6)))) * (wu64 (1 + (p2.2.2.1.tmod 40)))), (0 : Int), ([] : List (Int × Int)), wi64 (1 + ((max p2.2.2.2.2.2.2.2.1 0).tmod 8)), wi64 (1 + ((max p2.2.2.2.2.2.2.2.2 0).tmod 6))))))

def law21_ConfBack (p1 : Int) (p2 : Int × Int × Int × Int × Int × Int × (List (Int × Int)) × Int × Int) (p3 : Int) : Option Bool :=
  (law21_awake).bind fun (r14 : Bool) =>
  (ref21_Tame p1 p2).bind fun (r15 : Int × Int × Int × Int × (List (Int × Int)) × Int × Int) =>
  (conf_Put ((r15.1, r15.2.1, r15.2.2.1, p2.2.2.2.1.tmod 100, wi64 (1 + ((max p2.2.2.2.2.1 0).tmod 7)), r15.2.2.2.1, r15.2.2.2.2.1, r15.2.2.2.2.2.1, r15.2.2.2.2.2.2))).bind fun (r16 : List Int) =>
  if ((r16.length : Int)) = 0 then (some false)
  else ((codec_New r16).bind fun (r17 : Unit) =>
  (conf_Take ((r16.take ((r16.length : Int)).toNat, (0 : Int)))).bind fun (r18 : Int × Int × Int × Int × Int × Int × (List (Int × Int)) × Int × Int × List Int × Int) =>
  (must (((r16.length : Int)) ≠ 0)).bind fun _ =>
  (must (0 ≤ ((wi64 p3).tmod ((r16.length : Int))) ∧ ((wi64 p3).tmod ((r16.length : Int))) ≤ r16.length)).bind fun _ =>
  (codec_New (r16.take ((wi64 p3).tmod ((r16.length : Int))).toNat)).bind fun (r19 : Unit) =>
  (conf_Take (((r16.take ((wi64 p3).tmod ((r16.length : Int))).toNat).take (((r16.take ((wi64 p3).tmod ((r16.length : Int))).toNat).length : Int)).toNat, (0 : Int)))).bind fun (r20 : Int × Int × Int × Int × Int × Int × (List (Int × Int)) × Int × Int × List Int × Int) =>
  if r14 = true then ((ref21_Same ((r18.1, r18.2.1, r18.2.2.1, r18.2.2.2.1, r18.2.2.2.2.1, r18.2.2.2.2.2.1, r18.2.2.2.2.2.2.1, r18.2.2.2.2.2.2.2.1, r18.2.2.2.2.2.2.2.2.1)) ((r15.1, r15.2.1, r15.2.2.1, p2.2.2.2.1.tmod 100, wi64 (1 + ((max p2.2.2.2.2.1 0).tmod 7)), r15.2.2.2.1, r15.2.2.2.2.1, r15.2.2.2.2.2.1, r15.2.2.2.2.2.2))).bind fun (r24 : Bool) =>
  if r24 = true then ((codec_Reader_End r18.2.2.2.2.2.2.2.2.2).bind fun (r25 : Int) =>
  if r25 = 0 then ((codec_Reader_Err r20.2.2.2.2.2.2.2.2.2).bind fun (r26 : Unit) =>
  some (decide (r20.2.2.2.2.2.2.2.2.2.2 = 3)))
  else (some false))
  else (some false))
  else (some false))

def law21_ConfOne (p1 : List Int) : Option Bool :=
  (law21_awake).bind fun (r19 : Bool) =>
  if 200 < ((p1.length : Int)) then (some r19)
  else ((codec_New p1).bind fun (r20 : Unit) =>
  (conf_Take ((p1.take ((p1.length : Int)).toNat, (0 : Int)))).bind fun (r21 : Int × Int × Int × Int × Int × Int × (List (Int × Int)) × Int × Int × List Int × Int) =>
  (codec_Reader_Err r21.2.2.2.2.2.2.2.2.2).bind fun (r22 : Unit) =>
  if ¬ r21.2.2.2.2.2.2.2.2.2.2 = 0 then (if r19 = true then ((ref21_Same ((r21.1, r21.2.1, r21.2.2.1, r21.2.2.2.1, r21.2.2.2.2.1, r21.2.2.2.2.2.1, r21.2.2.2.2.2.2.1, r21.2.2.2.2.2.2.2.1, r21.2.2.2.2.2.2.2.2.1)) (((0 : Int), (0 : Int), (0 : Int), (0 : Int), (0 : Int), (0 : Int), ([] : List (Int × Int)), (0 : Int), (0 : Int)))).bind fun (r24 : Bool) =>
  some r24)
  else (some false))
  else (if r19 = true then ((ref21_Check ((r21.1, r21.2.1, r21.2.2.1, r21.2.2.2.1, r21.2.2.2.2.1, r21.2.2.2.2.2.1, r21.2.2.2.2.2.2.1, r21.2.2.2.2.2.2.2.1, r21.2.2.2.2.2.2.2.2.1))).bind fun (r34 : Int) =>
  if r34 = 0 then ((conf_Put ((r21.1, r21.2.1, r21.2.2.1, r21.2.2.2.1, r21.2.2.2.2.1, r21.2.2.2.2.2.1, r21.2.2.2.2.2.2.1, r21.2.2.2.2.2.2.2.1, r21.2.2.2.2.2.2.2.2.1))).bind fun (r35 : List Int) =>
  (codec_Reader_Left r21.2.2.2.2.2.2.2.2.2).bind fun (r36 : Unit) =>
  (must (0 ≤ (wi64 (((p1.length : Int)) - ((r21.2.2.2.2.2.2.2.2.2.1.length : Int)))) ∧ (wi64 (((p1.length : Int)) - ((r21.2.2.2.2.2.2.2.2.2.1.length : Int)))) ≤ p1.length)).bind fun _ =>
  some (decide ((bstr r35) = (bstr (p1.take (wi64 (((p1.length : Int)) - ((r21.2.2.2.2.2.2.2.2.2.1.length : Int)))).toNat)))))
  else (some false))
  else (some false)))

def law21_ConfSame (p1 : Int × Int × Int × Int × Int × Int × (List (Int × Int)) × Int × Int) (p2 : Int × Int × Int × Int × Int × Int × (List (Int × Int)) × Int × Int) : Option Bool :=
  (law21_awake).bind fun (r9 : Bool) =>
  if 20 < ((p1.2.2.2.2.2.2.1.length : Int)) then (some r9)
  else (if 20 < ((p2.2.2.2.2.2.2.1.length : Int)) then (some r9)
  else ((ref21_Same p1 p2).bind fun (r10 : Bool) =>
  (conf_Put p1).bind fun (r11 : List Int) =>
  (conf_Put p2).bind fun (r12 : List Int) =>
  if r9 = true then ((conf_Same p1 p2).bind fun (r15 : Bool) =>
  if r15 = r10 then ((conf_Same p1 p1).bind fun (r16 : Bool) =>
  if r16 = true then (if ((r11.length : Int)) = 0 then (some true)
  else (if ((r12.length : Int)) = 0 then (some true)
  else (some (decide ((decide ((bstr r11) = (bstr r12))) = r10)))))
  else (some false))
  else (some false))
  else (some false)))

end
end Go.Proofs.Ytbeknohemgjfbaa.Pu
