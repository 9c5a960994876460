/- The plain functions that the walked code computes. Printed by gen.py. -/
import Derived.Test.YtbnjjpmlaknaoaaP1
namespace Go.Proofs.Ytbnjjpmlaknaoaa.Pu
set_option linter.unusedVariables false
noncomputable section

def bs0 : ByteArray := ⟨#[0, 1, 2, 2, 3, 3, 3, 3, 4, 4, 4, 4, 4, 4, 4, 4, 5, 5, 5, 5, 5, 5, 5, 5, 5, 5, 5, 5, 5, 5, 5, 5, 6, 6, 6, 6, 6, 6, 6, 6, 6, 6, 6, 6, 6, 6, 6, 6, 6, 6, 6, 6, 6, 6, 6, 6, 6, 6, 6, 6, 6, 6, 6, 6, 7, 7, 7, 7, 7, 7, 7, 7, 7, 7, 7, 7, 7, 7, 7, 7, 7, 7, 7, 7, 7, 7, 7, 7, 7, 7, 7, 7, 7, 7, 7, 7, 7, 7, 7, 7, 7, 7, 7, 7, 7, 7, 7, 7, 7, 7, 7, 7, 7, 7, 7, 7, 7, 7, 7, 7, 7, 7, 7, 7, 7, 7, 7, 7, 8, 8, 8, 8, 8, 8, 8, 8, 8, 8, 8, 8, 8, 8, 8, 8, 8, 8, 8, 8, 8, 8, 8, 8, 8, 8, 8, 8, 8, 8, 8, 8, 8, 8, 8, 8, 8, 8, 8, 8, 8, 8, 8, 8, 8, 8, 8, 8, 8, 8, 8, 8, 8, 8, 8, 8, 8, 8, 8, 8, 8, 8, 8, 8, 8, 8, 8, 8, 8, 8, 8, 8, 8, 8, 8, 8, 8, 8, 8, 8, 8, 8, 8, 8, 8, 8, 8, 8, 8, 8, 8, 8, 8, 8, 8, 8, 8, 8, 8, 8, 8, 8, 8, 8, 8, 8, 8, 8, 8, 8, 8, 8, 8, 8, 8, 8, 8, 8, 8, 8, 8, 8, 8, 8, 8, 8, 8, 8]⟩

def ref06_Last (p1 : Int × Int × List (List (Int × Int))) : Option (Int × Bool) :=
  if ((p1.2.2.length : Int)) = 0 then (some (((0 : Int), false)))
  else ((rdo p1.2.2 0).bind fun (z5 : List (Int × Int)) =>
  if ((z5.length : Int)) = 0 then (some (((0 : Int), false)))
  else ((rdo z5 (wi64 (((z5.length : Int)) - 1))).bind fun (z6 : Int × Int) =>
  some ((z6.2, true))))

def ref06_Total_s0 (p1 : Int × Int × List (List (Int × Int))) (s5 : Int × Int) : Option ((Int × Int) ⊕ Int) :=
  if s5.2 < ((p1.2.2.length : Int)) then ((rdo p1.2.2 s5.2).bind fun (z6 : List (Int × Int)) =>
  (must (0 ≤ s5.2)).bind fun _ =>
  some (.inl ((wu64 (s5.1 + (wu64 (shlk 64 (wu64 ((z6.length : Int))) s5.2))), wi64 (s5.2 + 1)))))
  else (some (.inr s5.1))
def ref06_Total (p1 : Int × Int × List (List (Int × Int))) : Option Int :=
  ((loopO (ref06_Total_s0 p1) (((0 : Int), (0 : Int)))) : Option Int).bind (fun (x2 : Int) =>
  some x2)

def ref06_at (p1 : Int × Int × List (List (Int × Int))) (p2 : Int) : Option (List (Int × Int)) :=
  if ((p1.2.2.length : Int)) ≤ p2 then (some (([] : List (Int × Int))))
  else ((rdo p1.2.2 p2).bind fun (z2 : List (Int × Int)) =>
  some z2)

def ref05_Most (p1 : Int) (p2 : Int) : Option Int :=
  if p2 = 0 then (some (wi64 ((max p1 0) + 1)))
  else (some (wi64 ((wi64 ((wi64 ((max p1 0).tdiv 2)) + ((max p1 0).tmod 2))) + 1)))

def ref05_Push_s0 (p1 : List (Int × Int)) (p3 : List (Int × Int)) (p5 : Int) (j2 : Int) (s8 : (List (Int × Int)) × Int) : Option (((List (Int × Int)) × Int) ⊕ (((List (Int × Int)) × Int))) :=
  if s8.2 < j2 then (if (wu64 (2 * s8.2)) < (wu64 (((p1 ++ p3).length : Int))) then ((rdo (p1 ++ p3) (wu64 (2 * s8.2))).bind fun (z14 : Int × Int) =>
  if (wu64 ((wu64 (2 * s8.2)) + 1)) < (wu64 (((p1 ++ p3).length : Int))) then ((rdo (p1 ++ p3) (wu64 ((wu64 (2 * s8.2)) + 1))).bind fun (z15 : Int × Int) =>
  (room (s8.1.length + ([(z14.1, z15.2)]).length) 16).bind fun _ =>
  some (.inl ((s8.1 ++ ([(z14.1, z15.2)]), wu64 (s8.2 + 1)))))
  else ((room (s8.1.length + ([(z14.1, p5)]).length) 16).bind fun _ =>
  some (.inl ((s8.1 ++ ([(z14.1, p5)]), wu64 (s8.2 + 1))))))
  else (some (.inr ((s8.1, s8.2)))))
  else (some (.inr ((s8.1, s8.2))))
def ref05_Push_s1 (p1 : List (Int × Int)) (p3 : List (Int × Int)) (p4 : Int) (p5 : Int) (s11 : (List (Int × Int)) × Int) : Option (((List (Int × Int)) × Int) ⊕ ((List (Int × Int)))) :=
  if s11.2 < (wu64 ((wu64 (((p1 ++ p3).length : Int))) + p4)) then (if s11.2 < (wu64 (((p1 ++ p3).length : Int))) then ((rdo (p1 ++ p3) s11.2).bind fun (z18 : Int × Int) =>
  (room (s11.1.length + ([z18]).length) 16).bind fun _ =>
  some (.inl ((s11.1 ++ ([z18]), wu64 (s11.2 + 1)))))
  else ((room (s11.1.length + ([(p5, p5)]).length) 16).bind fun _ =>
  some (.inl ((s11.1 ++ ([(p5, p5)]), wu64 (s11.2 + 1))))))
  else (some (.inr s11.1))
def ref05_Push (p1 : List (Int × Int)) (p2 : Int) (p3 : List (Int × Int)) (p4 : Int) (p5 : Int) : Option ((List (Int × Int)) × (List (Int × Int)) × Int) :=
  (room ((([] : List (Int × Int))).length + p1.length) 16).bind fun _ =>
  (room (p1.length + p3.length) 16).bind fun _ =>
  ((if (wu64 (max p2 1)) < (wu64 ((wu64 (((p1 ++ p3).length : Int))) + p4)) then (some (wu64 ((wu64 ((wu64 ((wu64 ((wu64 (((p1 ++ p3).length : Int))) + p4)) - (wu64 (max p2 1)))) + 1)).tdiv 2)))
  else (some ((0 : Int)))) : Option Int).bind (fun (j2 : Int) =>
  ((loopO (ref05_Push_s0 p1 p3 p5 j2) ((([] : List (Int × Int)), (0 : Int)))) : Option (((List (Int × Int)) × Int))).bind (fun (x3 : ((List (Int × Int)) × Int)) =>
  ((loopO (ref05_Push_s1 p1 p3 p4 p5) ((([] : List (Int × Int)), wu64 (2 * j2)))) : Option ((List (Int × Int)))).bind (fun (x4 : (List (Int × Int))) =>
  some ((x4, x3.1, wu64 (j2 - x3.2))))))

def ref06_Add_s0 (p1 : Int × Int × List (List (Int × Int))) (p2 : Int) (s5 : (List (Int × Int)) × Int × Int × List (List (Int × Int))) : Option (((List (Int × Int)) × Int × Int × List (List (Int × Int))) ⊕ ((List (List (Int × Int))))) :=
  ((if 0 < ((s5.1.length : Int)) then (some true)
  else (if 0 < s5.2.1 then (some true)
  else (some (decide (s5.2.2.1 < ((p1.2.2.length : Int))))))) : Option Bool).bind (fun (j8 : Bool) =>
  if j8 = true then ((ref06_at p1 s5.2.2.1).bind fun (r40 : List (Int × Int)) =>
  (ref05_Most p1.1 s5.2.2.1).bind fun (r41 : Int) =>
  (ref05_Push r40 r41 s5.1 s5.2.1 p2).bind fun (r42 : (List (Int × Int)) × (List (Int × Int)) × Int) =>
  (room (s5.2.2.2.length + ([r42.1]).length) 24).bind fun _ =>
  some (.inl ((r42.2.1, r42.2.2, wi64 (s5.2.2.1 + 1), s5.2.2.2 ++ ([r42.1])))))
  else (some (.inr s5.2.2.2)))
def ref06_Add (p1 : Int × Int × List (List (Int × Int))) (p2 : Int) (p3 : Int) : Option (Int × Int × (List (List (Int × Int))) × Int) :=
  if p3 = 0 then (some (((0 : Int), (0 : Int), ([] : List (List (Int × Int))), (1 : Int))))
  else ((ref06_Last p1).bind fun (r22 : Int × Bool) =>
  ((if 9223372036854775807 < p2 then (some true)
  else (if r22.2 = true then (some (decide (p2 < r22.1)))
  else (some false))) : Option Bool).bind (fun (j5 : Bool) =>
  if j5 = true then (some (((0 : Int), (0 : Int), ([] : List (List (Int × Int))), (6 : Int))))
  else (if 4503599627370496 < p3 then (some (((0 : Int), (0 : Int), ([] : List (List (Int × Int))), (5 : Int))))
  else ((ref06_Total p1).bind fun (r24 : Int) =>
  if 4503599627370496 < (wu64 (p3 + r24)) then (some (((0 : Int), (0 : Int), ([] : List (List (Int × Int))), (5 : Int))))
  else (((loopO (ref06_Add_s0 p1 p2) ((([] : List (Int × Int)), p3, (0 : Int), ([] : List (List (Int × Int)))))) : Option ((List (List (Int × Int))))).bind (fun (x2 : (List (List (Int × Int)))) =>
  some ((p1.1, p1.2.1, x2, (0 : Int)))))))))

def ref06_Made_s0 (p2 : List (Int × Int)) (s5 : Int × Int × Int × Int × List (List (Int × Int))) : Option ((Int × Int × Int × Int × List (List (Int × Int))) ⊕ ((Int × Int × List (List (Int × Int))))) :=
  if s5.2.1 < ((p2.length : Int)) then (if s5.2.1 < 30 then ((rdo p2 s5.2.1).bind fun (z6 : Int × Int) =>
  (ref06_Add s5.2.2 (wu64 (s5.1 + (z6.1.tmod 1000))) z6.2).bind fun (r6 : Int × Int × (List (List (Int × Int))) × Int) =>
  if r6.2.2.2 = 0 then (some (.inl ((wu64 (s5.1 + (z6.1.tmod 1000)), wi64 (s5.2.1 + 1), r6.1, r6.2.1, r6.2.2.1))))
  else (some (.inl ((wu64 (s5.1 + (z6.1.tmod 1000)), wi64 (s5.2.1 + 1), s5.2.2.1, s5.2.2.2.1, s5.2.2.2.2)))))
  else (some (.inr ((s5.2.2.1, s5.2.2.2.1, s5.2.2.2.2)))))
  else (some (.inr ((s5.2.2.1, s5.2.2.2.1, s5.2.2.2.2))))
def ref06_Made (p1 : Int) (p2 : List (Int × Int)) : Option (Int × Int × List (List (Int × Int))) :=
  ((loopO (ref06_Made_s0 p2) (((0 : Int), (0 : Int), wi64 (2 + ((max p1 0).tmod 30)), (0 : Int), ([] : List (List (Int × Int)))))) : Option ((Int × Int × List (List (Int × Int))))).bind (fun (x2 : (Int × Int × List (List (Int × Int)))) =>
  some ((x2.1, x2.2.1, x2.2.2)))

def law07_made (p1 : Int × Int × List (List (Int × Int))) : Option Unit :=
  some (())

def expiry_Old (p1 : Int) (p2 : Int) (p3 : Int) : Option Bool :=
  if p3 ≤ p2 then (some (decide (p1 ≤ (wu64 (p2 - p3)))))
  else (some false)

def expiry_Drop_1 (p1 : Int × Int) (p2 : Int) (p3 : Int) : Option Bool :=
  (expiry_Old p1.2 p2 p3).bind fun (r2 : Bool) =>
  some r2

def expiry_Drop_s1 (p2 : Int) (p3 : Int) (s17 : Int × List (List (Int × Int))) (z21 : List (Int × Int)) (s23 : Int) : Option (Int ⊕ ((List (List (Int × Int))) ⊕ Unit)) :=
  if s23 < ((z21.length : Int)) then ((rdo z21 s23).bind fun (z24 : Int × Int) =>
  (expiry_Drop_1 z24 p2 p3).bind fun (r18 : Bool) =>
  if ¬ (r18 = true) then ((must (0 ≤ s23 ∧ s23 ≤ ((z21.length : Int)) ∧ ((z21.length : Int)) ≤ ((z21.length : Int)) ∧ ((z21.length : Int)) ≤ z21.length)).bind fun _ =>
  (room (s17.2.length + ([(z21.take ((z21.length : Int)).toNat).drop s23.toNat]).length) 24).bind fun _ =>
  some (.inr (.inl (s17.2 ++ ([(z21.take ((z21.length : Int)).toNat).drop s23.toNat])))))
  else (some (.inl (wi64 (s23 + 1)))))
  else (some (.inr (.inr (()))))
def expiry_Drop_s0 (p1 : Int × Int × List (List (Int × Int))) (p2 : Int) (p3 : Int) (s17 : Int × List (List (Int × Int))) : Option ((Int × List (List (Int × Int))) ⊕ ((List (List (Int × Int))))) :=
  if s17.1 < ((p1.2.2.length : Int)) then ((rdo p1.2.2 s17.1).bind fun (z21 : List (Int × Int)) =>
  ((loopO (expiry_Drop_s1 p2 p3 s17 z21) ((0 : Int))) : Option ((List (List (Int × Int))) ⊕ Unit)).bind (Sum.elim (fun (d11 : List (List (Int × Int))) =>
  some (.inl ((wi64 (s17.1 + 1), d11))))
  (fun (d12 : Unit) =>
  some (.inr s17.2))))
  else (some (.inr s17.2))
def expiry_Drop (p1 : Int × Int × List (List (Int × Int))) (p2 : Int) (p3 : Int) : Option (List (List (Int × Int))) :=
  ((loopO (expiry_Drop_s0 p1 p2 p3) (((0 : Int), ([] : List (List (Int × Int)))))) : Option ((List (List (Int × Int))))).bind (fun (x7 : (List (List (Int × Int)))) =>
  some x7)

def hist_Total_s0 (p1 : Int × Int × List (List (Int × Int))) (s5 : Int × Int) : Option ((Int × Int) ⊕ Int) :=
  if s5.2 < ((p1.2.2.length : Int)) then ((rdo p1.2.2 s5.2).bind fun (z6 : List (Int × Int)) =>
  (must (0 ≤ s5.2)).bind fun _ =>
  some (.inl ((wu64 (s5.1 + (wu64 (shlk 64 (wu64 ((z6.length : Int))) s5.2))), wi64 (s5.2 + 1)))))
  else (some (.inr s5.1))
def hist_Total (p1 : Int × Int × List (List (Int × Int))) : Option Int :=
  ((loopO (hist_Total_s0 p1) (((0 : Int), (0 : Int)))) : Option Int).bind (fun (x2 : Int) =>
  some x2)

def law07_awake : Option Bool :=
  (ref06_Made ((0 : Int)) ([((5 : Int), (1 : Int)), ((5 : Int), (1 : Int))])).bind fun (r14 : Int × Int × List (List (Int × Int))) =>
  (law07_made r14).bind fun (r15 : Unit) =>
  (expiry_Drop r14 ((15 : Int)) ((10 : Int))).bind fun (r16 : List (List (Int × Int))) =>
  (expiry_Old ((5 : Int)) ((15 : Int)) ((10 : Int))).bind fun (r22 : Bool) =>
  if r22 = true then ((expiry_Old ((5 : Int)) ((14 : Int)) ((10 : Int))).bind fun (r23 : Bool) =>
  if ¬ (r23 = true) then ((hist_Total r14).bind fun (r24 : Int) =>
  if r24 = 2 then ((hist_Total ((r14.1, r14.2.1, r16))).bind fun (r25 : Int) =>
  if r25 = 1 then ((expiry_Drop r14 ((20 : Int)) ((10 : Int))).bind fun (r26 : List (List (Int × Int))) =>
  some (decide (((r26.length : Int)) = 0)))
  else (some false))
  else (some false))
  else (some false))
  else (some false)

def ref07_Old (p1 : Int) (p2 : Int) (p3 : Int) : Option Bool :=
  if p3 ≤ p2 then (some (decide (p1 ≤ (wu64 (p2 - p3)))))
  else (some false)

def ref07_Drop_s1 (p1 : Int × Int × List (List (Int × Int))) (p2 : Int) (p3 : Int) (s17 : Int × Int × List (List (Int × Int))) (s23 : (List (Int × Int)) × Int) : Option (((List (Int × Int)) × Int) ⊕ ((List (Int × Int)))) :=
  (rdo p1.2.2 s17.2.1).bind fun (z35 : List (Int × Int)) =>
  if s23.2 < ((z35.length : Int)) then ((rdo z35 s23.2).bind fun (z36 : Int × Int) =>
  (ref07_Old z36.2 p2 p3).bind fun (r18 : Bool) =>
  if ¬ (r18 = true) then ((room (s23.1.length + ([z36]).length) 16).bind fun _ =>
  some (.inl ((s23.1 ++ ([z36]), wi64 (s23.2 + 1)))))
  else (some (.inl ((s23.1, wi64 (s23.2 + 1))))))
  else (some (.inr s23.1))
def ref07_Drop_s0 (p1 : Int × Int × List (List (Int × Int))) (p2 : Int) (p3 : Int) (s17 : Int × Int × List (List (Int × Int))) : Option ((Int × Int × List (List (Int × Int))) ⊕ ((Int × List (List (Int × Int))))) :=
  if s17.2.1 < ((p1.2.2.length : Int)) then (((loopO (ref07_Drop_s1 p1 p2 p3 s17) ((([] : List (Int × Int)), (0 : Int)))) : Option ((List (Int × Int)))).bind (fun (x8 : (List (Int × Int))) =>
  (room (s17.2.2.length + ([x8]).length) 24).bind fun _ =>
  if 0 < ((x8.length : Int)) then (some (.inl ((wi64 (s17.2.1 + 1), wi64 (s17.2.1 + 1), s17.2.2 ++ ([x8])))))
  else (some (.inl ((s17.1, wi64 (s17.2.1 + 1), s17.2.2 ++ ([x8])))))))
  else (some (.inr ((s17.1, s17.2.2))))
def ref07_Drop (p1 : Int × Int × List (List (Int × Int))) (p2 : Int) (p3 : Int) : Option (List (List (Int × Int))) :=
  ((loopO (ref07_Drop_s0 p1 p2 p3) (((0 : Int), (0 : Int), ([] : List (List (Int × Int)))))) : Option ((Int × List (List (Int × Int))))).bind (fun (x7 : (Int × List (List (Int × Int)))) =>
  (must (0 ≤ x7.1 ∧ x7.1 ≤ x7.2.length)).bind fun _ =>
  some (x7.2.take x7.1.toNat))

def ref05_Same_s0 (p1 : List (Int × Int)) (p2 : List (Int × Int)) (s5 : Int) : Option (Int ⊕ (Unit ⊕ Unit)) :=
  if s5 < ((p1.length : Int)) then ((rdo p1 s5).bind fun (z23 : Int × Int) =>
  (rdo p2 s5).bind fun (z24 : Int × Int) =>
  if ¬ (z23.1 = z24.1 ∧ z23.2 = z24.2 ∧ True) then (some (.inr (.inl (()))))
  else (some (.inl (wi64 (s5 + 1)))))
  else (some (.inr (.inr (()))))
def ref05_Same (p1 : List (Int × Int)) (p2 : List (Int × Int)) : Option Bool :=
  if ¬ ((p1.length : Int)) = ((p2.length : Int)) then (some false)
  else (((loopO (ref05_Same_s0 p1 p2) ((0 : Int))) : Option (Unit ⊕ Unit)).bind (Sum.elim (fun (d3 : Unit) =>
  some false)
  (fun (d4 : Unit) =>
  some true)))

def ref06_Same_s0 (p1 : Int × Int × List (List (Int × Int))) (p2 : Int × Int × List (List (Int × Int))) (s5 : Int) : Option (Int ⊕ (Unit ⊕ Unit)) :=
  if s5 < ((p1.2.2.length : Int)) then ((rdo p1.2.2 s5).bind fun (z23 : List (Int × Int)) =>
  (rdo p2.2.2 s5).bind fun (z24 : List (Int × Int)) =>
  (ref05_Same z23 z24).bind fun (r12 : Bool) =>
  if ¬ (r12 = true) then (some (.inr (.inl (()))))
  else (some (.inl (wi64 (s5 + 1)))))
  else (some (.inr (.inr (()))))
def ref06_Same (p1 : Int × Int × List (List (Int × Int))) (p2 : Int × Int × List (List (Int × Int))) : Option Bool :=
  if ¬ p1.1 = p2.1 then (some false)
  else (if ¬ p1.2.1 = p2.2.1 then (some false)
  else (if ¬ ((p1.2.2.length : Int)) = ((p2.2.2.length : Int)) then (some false)
  else (((loopO (ref06_Same_s0 p1 p2) ((0 : Int))) : Option (Unit ⊕ Unit)).bind (Sum.elim (fun (d3 : Unit) =>
  some false)
  (fun (d4 : Unit) =>
  some true)))))

def law07_same (p1 : Int × Int × List (List (Int × Int))) (p2 : Int × Int × List (List (Int × Int))) : Option Bool :=
  (ref06_Same p1 p2).bind fun (r2 : Bool) =>
  some r2

def law07_ExpiryTells (p1 : Int) (p2 : List (Int × Int)) (p3 : Int × Int × Int) : Option Bool :=
  (law07_awake).bind fun (r27 : Bool) =>
  (ref06_Made p1 p2).bind fun (r28 : Int × Int × List (List (Int × Int))) =>
  if r27 = true then ((law07_made r28).bind fun (r47 : Unit) =>
  (expiry_Drop r28 p3.1 p3.2.1).bind fun (r48 : List (List (Int × Int))) =>
  (ref07_Drop r28 p3.1 p3.2.1).bind fun (r49 : List (List (Int × Int))) =>
  (law07_same ((r28.1, r28.2.1, r48)) ((r28.1, r28.2.1, r49))).bind fun (r50 : Bool) =>
  if r50 = true then ((expiry_Old p3.2.2 p3.1 p3.2.1).bind fun (r51 : Bool) =>
  (ref07_Old p3.2.2 p3.1 p3.2.1).bind fun (r52 : Bool) =>
  some (decide (r51 = r52)))
  else (some false))
  else (some false)

def law07_ExpiryStays_s1 (p3 : Int × Int) (j6 : List (Int × Int)) (z48 : List (Int × Int)) (s23 : Int) : Option (Int ⊕ (Unit ⊕ Unit)) :=
  if s23 < ((z48.length : Int)) then ((rdo z48 s23).bind fun (z54 : Int × Int) =>
  (ref07_Old z54.2 p3.1 p3.2).bind fun (r56 : Bool) =>
  if ¬ r56 = (decide (s23 < (wi64 (((z48.length : Int)) - ((j6.length : Int)))))) then (some (.inr (.inl (()))))
  else (some (.inl (wi64 (s23 + 1)))))
  else (some (.inr (.inr (()))))
def law07_ExpiryStays_s0 (p3 : Int × Int) (r30 : Int × Int × List (List (Int × Int))) (r32 : List (List (Int × Int))) (s17 : Int) : Option (Int ⊕ (Unit ⊕ Unit)) :=
  if s17 < ((r30.2.2.length : Int)) then (((if s17 < ((r32.length : Int)) then ((rdo r32 s17).bind fun (z47 : List (Int × Int)) =>
  some z47)
  else (some (([] : List (Int × Int))))) : Option ((List (Int × Int)))).bind (fun (j6 : (List (Int × Int))) =>
  (rdo r30.2.2 s17).bind fun (z48 : List (Int × Int)) =>
  if (wi64 (((z48.length : Int)) - ((j6.length : Int)))) < 0 then (some (.inr (.inl (()))))
  else ((must (0 ≤ (wi64 (((z48.length : Int)) - ((j6.length : Int)))) ∧ (wi64 (((z48.length : Int)) - ((j6.length : Int)))) ≤ z48.length)).bind fun _ =>
  (ref05_Same j6 (z48.drop (wi64 (((z48.length : Int)) - ((j6.length : Int)))).toNat)).bind fun (r50 : Bool) =>
  if ¬ (r50 = true) then (some (.inr (.inl (()))))
  else (((loopO (law07_ExpiryStays_s1 p3 j6 z48) ((0 : Int))) : Option (Unit ⊕ Unit)).bind (Sum.elim (fun (d15 : Unit) =>
  some (.inr (.inl (()))))
  (fun (d16 : Unit) =>
  some (.inl (wi64 (s17 + 1)))))))))
  else (some (.inr (.inr (()))))
def law07_ExpiryStays (p1 : Int) (p2 : List (Int × Int)) (p3 : Int × Int) : Option Bool :=
  (law07_awake).bind fun (r29 : Bool) =>
  (ref06_Made p1 p2).bind fun (r30 : Int × Int × List (List (Int × Int))) =>
  (law07_made r30).bind fun (r31 : Unit) =>
  (expiry_Drop r30 p3.1 p3.2).bind fun (r32 : List (List (Int × Int))) =>
  ((loopO (law07_ExpiryStays_s0 p3 r30 r32) ((0 : Int))) : Option (Unit ⊕ Unit)).bind (Sum.elim (fun (d13 : Unit) =>
  some false)
  (fun (d14 : Unit) =>
  if r29 = true then (if ((r32.length : Int)) ≤ ((r30.2.2.length : Int)) then (if r30.1 = r30.1 then (some (decide (r30.2.1 = r30.2.1)))
  else (some false))
  else (some false))
  else (some false)))

def law08_made (p1 : Int × Int × List (List (Int × Int))) : Option Unit :=
  some (())

def estimate_buckets (p1 : Int × Int × List (List (Int × Int))) : Option Unit :=
  some (())

def estimate_buckets_1_s1 {σ : Type} (y : (Int × Int × Int) → σ → Option (Bool × σ)) (s17 : Int × σ) (z21 : List (Int × Int)) (s23 : Int × σ) : Option ((Int × σ) ⊕ (σ ⊕ σ)) :=
  if s23.1 < ((z21.length : Int)) then ((rdo z21 s23.1).bind fun (z24 : Int × Int) =>
  (must (0 ≤ s17.1)).bind fun _ =>
  (y ((z24.1, z24.2, wu64 (shlk 64 1 s17.1))) s23.2).bind fun (r36 : Bool × σ) =>
  if ¬ (r36.1 = true) then (some (.inr (.inl r36.2)))
  else (some (.inl ((wi64 (s23.1 + 1), r36.2)))))
  else (some (.inr (.inr s23.2)))
def estimate_buckets_1_s0 {σ : Type} (y : (Int × Int × Int) → σ → Option (Bool × σ)) (p1 : Int × Int × List (List (Int × Int))) (s17 : Int × σ) : Option ((Int × σ) ⊕ (σ ⊕ σ)) :=
  if s17.1 < ((p1.2.2.length : Int)) then ((rdo p1.2.2 s17.1).bind fun (z21 : List (Int × Int)) =>
  ((loopO (estimate_buckets_1_s1 y s17 z21) (((0 : Int), s17.2))) : Option (σ ⊕ σ)).bind (Sum.elim (fun (d15 : σ) =>
  some (.inr (.inl d15)))
  (fun (d16 : σ) =>
  some (.inl ((wi64 (s17.1 + 1), d16))))))
  else (some (.inr (.inr s17.2)))
def estimate_buckets_1 {σ : Type} (y : (Int × Int × Int) → σ → Option (Bool × σ)) (p1 : Int × Int × List (List (Int × Int))) (s0 : σ) : Option σ :=
  ((loopO (estimate_buckets_1_s0 y p1) (((0 : Int), s0))) : Option (σ ⊕ σ)).bind (Sum.elim (fun (d13 : σ) =>
  some d13)
  (fun (d14 : σ) =>
  some d14))

def estimate_Parts_1 (p1 : Int) (p2 : Int) (p3 : Int) : Option Bool :=
  if p3 < p2 then (some true)
  else (some (decide ((wu64 (p3 - p2)) < p1)))

def estimate_Parts_r0 (p2 : Int) (p3 : Int) (x2 : Int × Int × Int) (d5 : Int × Int) : Option ((Int × Int) ⊕ Empty) :=
  (estimate_Parts_1 x2.1 p3 p2).bind fun (r13 : Bool) =>
  if r13 = true then (some (.inl ((wu64 (d5.1 + x2.2.2), d5.2))))
  else ((estimate_Parts_1 x2.2.1 p3 p2).bind fun (r14 : Bool) =>
  if r14 = true then (some (.inl ((d5.1, wu64 (d5.2 + x2.2.2)))))
  else (some (.inl ((d5.1, d5.2)))))
def estimate_Parts (p1 : Int × Int × List (List (Int × Int))) (p2 : Int) (p3 : Int) : Option (Int × Int) :=
  (estimate_buckets p1).bind fun (r8 : Unit) =>
  (estimate_buckets_1 (yl (estimate_Parts_r0 p2 p3)) p1 (.inl (((0 : Int), (0 : Int))))).bind fun (j2 : ((Int × Int) ⊕ Empty)) =>
  (Sum.elim (fun (d5 : Int × Int) =>
  some ((d5.1, d5.2)))
  (fun (q : Empty) => none) j2)

def estimate_Of (p1 : Int × Int × List (List (Int × Int))) (p2 : Int) (p3 : Int) : Option Int :=
  (estimate_Parts p1 p2 p3).bind fun (r2 : Int × Int) =>
  some (wu64 (r2.1 + (shrk 64 r2.2 1)))

def law08_awake : Option Bool :=
  (ref06_Made ((0 : Int)) ([((1 : Int), (1 : Int)), ((1 : Int), (1 : Int)), ((1 : Int), (1 : Int)), ((1 : Int), (1 : Int))])).bind fun (r12 : Int × Int × List (List (Int × Int))) =>
  (law08_made r12).bind fun (r13 : Unit) =>
  (estimate_Parts r12 ((4 : Int)) ((3 : Int))).bind fun (r14 : Int × Int) =>
  (hist_Total r12).bind fun (r19 : Int) =>
  if r19 = 4 then ((estimate_Of r12 ((4 : Int)) ((2 : Int))).bind fun (r20 : Int) =>
  if r20 = 2 then (if r14.1 = 2 then (if r14.2 = 2 then ((estimate_Of r12 ((4 : Int)) ((3 : Int))).bind fun (r21 : Int) =>
  if r21 = 3 then ((estimate_Of r12 ((4 : Int)) ((9 : Int))).bind fun (r22 : Int) =>
  some (decide (r22 = 4)))
  else (some false))
  else (some false))
  else (some false))
  else (some false))
  else (some false)

def ref08_Within (p1 : Int) (p2 : Int) (p3 : Int) : Option Bool :=
  if p2 < p3 then (some true)
  else (some (decide ((wu64 (p2 - p3)) < p1)))

def ref08_Parts_s1 (p1 : Int × Int × List (List (Int × Int))) (p2 : Int) (p3 : Int) (s17 : Int × Int × Int) (s23 : Int × Int × Int) : Option ((Int × Int × Int) ⊕ ((Int × Int))) :=
  (rdo p1.2.2 s17.2.2).bind fun (z35 : List (Int × Int)) =>
  if s23.2.2 < ((z35.length : Int)) then ((rdo z35 s23.2.2).bind fun (z36 : Int × Int) =>
  (ref08_Within z36.1 p2 p3).bind fun (r35 : Bool) =>
  if r35 = true then ((must (0 ≤ s17.2.2)).bind fun _ =>
  some (.inl ((wu64 (s23.1 + (wu64 (shlk 64 1 s17.2.2))), s23.2.1, wi64 (s23.2.2 + 1)))))
  else ((ref08_Within z36.2 p2 p3).bind fun (r36 : Bool) =>
  if r36 = true then ((must (0 ≤ s17.2.2)).bind fun _ =>
  some (.inl ((s23.1, wu64 (s23.2.1 + (wu64 (shlk 64 1 s17.2.2))), wi64 (s23.2.2 + 1)))))
  else (some (.inl ((s23.1, s23.2.1, wi64 (s23.2.2 + 1)))))))
  else (some (.inr ((s23.1, s23.2.1))))
def ref08_Parts_s0 (p1 : Int × Int × List (List (Int × Int))) (p2 : Int) (p3 : Int) (s17 : Int × Int × Int) : Option ((Int × Int × Int) ⊕ ((Int × Int))) :=
  if s17.2.2 < ((p1.2.2.length : Int)) then (((loopO (ref08_Parts_s1 p1 p2 p3 s17) ((s17.1, s17.2.1, (0 : Int)))) : Option ((Int × Int))).bind (fun (x8 : (Int × Int)) =>
  some (.inl ((x8.1, x8.2, wi64 (s17.2.2 + 1))))))
  else (some (.inr ((s17.1, s17.2.1))))
def ref08_Parts (p1 : Int × Int × List (List (Int × Int))) (p2 : Int) (p3 : Int) : Option (Int × Int) :=
  ((loopO (ref08_Parts_s0 p1 p2 p3) (((0 : Int), (0 : Int), (0 : Int)))) : Option ((Int × Int))).bind (fun (x7 : (Int × Int)) =>
  some ((x7.1, x7.2)))

def ref08_Of (p1 : Int × Int × List (List (Int × Int))) (p2 : Int) (p3 : Int) : Option Int :=
  (ref08_Parts p1 p2 p3).bind fun (r2 : Int × Int) =>
  some (wu64 (r2.1 + (wu64 (r2.2.tdiv 2))))

def law08_EstimateTells (p1 : Int) (p2 : List (Int × Int)) (p3 : Int × Int) : Option Bool :=
  (law08_awake).bind fun (r16 : Bool) =>
  (ref06_Made p1 p2).bind fun (r17 : Int × Int × List (List (Int × Int))) =>
  (law08_made r17).bind fun (r20 : Unit) =>
  (estimate_Parts r17 p3.1 p3.2).bind fun (r21 : Int × Int) =>
  (ref08_Parts r17 p3.1 p3.2).bind fun (r22 : Int × Int) =>
  if r16 = true then (if r21.1 = r22.1 then (if r21.2 = r22.2 then ((estimate_Of r17 p3.1 p3.2).bind fun (r29 : Int) =>
  (ref08_Of r17 p3.1 p3.2).bind fun (r30 : Int) =>
  some (decide (r29 = r30)))
  else (some false))
  else (some false))
  else (some false)

def ref08_Exact_s0 (p2 : List (Int × Int)) (p3 : Int) (p4 : Int) (s5 : Int × Int × Int × Int × Int × List (List (Int × Int))) : Option ((Int × Int × Int × Int × Int × List (List (Int × Int))) ⊕ Int) :=
  if s5.2.2.1 < ((p2.length : Int)) then (if s5.2.2.1 < 30 then ((rdo p2 s5.2.2.1).bind fun (z6 : Int × Int) =>
  (ref06_Add s5.2.2.2 (wu64 (s5.1 + (z6.1.tmod 1000))) z6.2).bind fun (r11 : Int × Int × (List (List (Int × Int))) × Int) =>
  if r11.2.2.2 = 0 then ((ref08_Within (wu64 (s5.1 + (z6.1.tmod 1000))) p3 p4).bind fun (r12 : Bool) =>
  if r12 = true then (some (.inl ((wu64 (s5.1 + (z6.1.tmod 1000)), wu64 (s5.2.1 + z6.2), wi64 (s5.2.2.1 + 1), r11.1, r11.2.1, r11.2.2.1))))
  else (some (.inl ((wu64 (s5.1 + (z6.1.tmod 1000)), s5.2.1, wi64 (s5.2.2.1 + 1), r11.1, r11.2.1, r11.2.2.1)))))
  else (some (.inl ((wu64 (s5.1 + (z6.1.tmod 1000)), s5.2.1, wi64 (s5.2.2.1 + 1), s5.2.2.2.1, s5.2.2.2.2.1, s5.2.2.2.2.2)))))
  else (some (.inr s5.2.1)))
  else (some (.inr s5.2.1))
def ref08_Exact (p1 : Int) (p2 : List (Int × Int)) (p3 : Int) (p4 : Int) : Option Int :=
  ((loopO (ref08_Exact_s0 p2 p3 p4) (((0 : Int), (0 : Int), (0 : Int), wi64 (2 + ((max p1 0).tmod 30)), (0 : Int), ([] : List (List (Int × Int)))))) : Option Int).bind (fun (x2 : Int) =>
  some x2)

def law08_EstimateBound (p1 : Int) (p2 : List (Int × Int)) (p3 : Int × Int) : Option Bool :=
  (law08_awake).bind fun (r8 : Bool) =>
  (ref06_Made p1 p2).bind fun (r9 : Int × Int × List (List (Int × Int))) =>
  (law08_made r9).bind fun (r12 : Unit) =>
  (estimate_Of r9 p3.1 p3.2).bind fun (r13 : Int) =>
  (ref08_Exact p1 p2 p3.1 p3.2).bind fun (r14 : Int) =>
  if r8 = true then (if (wu64 ((wu64 ((wu64 r9.1) - 1)) * r14)) ≤ (wu64 ((wu64 r9.1) * r13)) then (some (decide ((wu64 ((wu64 r9.1) * r13)) ≤ (wu64 ((wu64 ((wu64 r9.1) + 1)) * r14)))))
  else (some false))
  else (some false)

def law08_EstimateParts (p1 : Int) (p2 : List (Int × Int)) (p3 : Int × Int) : Option Bool :=
  (law08_awake).bind fun (r8 : Bool) =>
  (ref06_Made p1 p2).bind fun (r9 : Int × Int × List (List (Int × Int))) =>
  (law08_made r9).bind fun (r12 : Unit) =>
  (estimate_Parts r9 p3.1 p3.2).bind fun (r13 : Int × Int) =>
  (ref08_Exact p1 p2 p3.1 p3.2).bind fun (r14 : Int) =>
  if r8 = true then (if r13.1 ≤ r14 then (if r14 ≤ (wu64 (r13.1 + r13.2)) then (if 0 < r13.2 then (some true)
  else (some (decide (r13.1 = r14))))
  else (some false))
  else (some false))
  else (some false)

def law08_EstimateGrows (p1 : Int) (p2 : List (Int × Int)) (p3 : Int × Int × Int × Int) : Option Bool :=
  (law08_awake).bind fun (r16 : Bool) =>
  (ref06_Made p1 p2).bind fun (r17 : Int × Int × List (List (Int × Int))) =>
  (law08_made r17).bind fun (r18 : Unit) =>
  (estimate_Of r17 p3.1 (min p3.2.1 p3.2.2.1)).bind fun (r19 : Int) =>
  (estimate_Of r17 p3.1 (max p3.2.1 p3.2.2.1)).bind fun (r20 : Int) =>
  (estimate_Of r17 (max p3.1 p3.2.2.2) p3.2.1).bind fun (r21 : Int) =>
  (estimate_Of r17 (min p3.1 p3.2.2.2) p3.2.1).bind fun (r22 : Int) =>
  if r16 = true then (if r19 ≤ r20 then (if r21 ≤ r22 then ((estimate_Of r17 (wu64 (p3.1.tdiv 2)) (wu64 ((wu64 (p3.1.tdiv 2)) + 1))).bind fun (r29 : Int) =>
  (hist_Total r17).bind fun (r30 : Int) =>
  some (decide (r29 = r30)))
  else (some false))
  else (some false))
  else (some false)

def level_bounded_int (p1 : Int) (p2 : Int) : Option Int :=
  if p1 < p2 then (some p2)
  else (some p1)

def level_line_long (p1 : (List (Int × Int)) × Int × Int) : Option Unit :=
  some (())

def level_bounded_uint64 (p1 : Int) (p2 : Int) : Option Int :=
  if p1 < p2 then (some p2)
  else (some p1)

def level_Push_1 (p1 : (List (Int × Int)) × Int × Int) (p2 : Int) : Option Int :=
  (level_line_long p1).bind fun (r7 : Unit) =>
  (level_bounded_uint64 (wu64 ((wu64 ((p1.1.length : Int))) + p1.2.1)) p2).bind fun (r8 : Int) =>
  some (wu64 (r8 - p2))

def level_line_next (p1 : (List (Int × Int)) × Int × Int) : Option (Int × Int × (List (Int × Int)) × Int) :=
  if 0 < ((p1.1.length : Int)) then ((rdo p1.1 0).bind fun (z2 : Int × Int) =>
  (must (0 ≤ (1 : Int) ∧ (1 : Int) ≤ p1.1.length)).bind fun _ =>
  some ((z2.1, z2.2, p1.1.drop (1 : Int).toNat, p1.2.1)))
  else (some ((p1.2.2, p1.2.2, p1.1, wu64 (p1.2.1 - 1))))

def level_both (p1 : Int × Int) (p2 : Int × Int) : Option Unit :=
  some (())

def level_Push_s0 (s8 : (List (Int × Int)) × Int × (List (Int × Int)) × Int × Int) : Option (((List (Int × Int)) × Int × (List (Int × Int)) × Int × Int) ⊕ (((List (Int × Int)) × Int × (List (Int × Int)) × Int × Int))) :=
  (level_Push_1 s8.2.2 s8.2.1).bind fun (r46 : Int) =>
  if 0 < r46 then (if 0 < ((s8.2.2.1.length : Int)) then ((level_line_next s8.2.2).bind fun (r47 : Int × Int × (List (Int × Int)) × Int) =>
  (level_line_next ((r47.2.2.1, r47.2.2.2, s8.2.2.2.2))).bind fun (r50 : Int × Int × (List (Int × Int)) × Int) =>
  (level_both ((r47.1, r47.2.1)) ((r50.1, r50.2.1))).bind fun (r51 : Unit) =>
  (room (s8.1.length + ([(((r47.1, r47.2.1)).1, ((r50.1, r50.2.1)).2)]).length) 16).bind fun _ =>
  some (.inl ((s8.1 ++ ([(((r47.1, r47.2.1)).1, ((r50.1, r50.2.1)).2)]), s8.2.1, r50.2.2.1, r50.2.2.2, ((r47.2.2.1, r47.2.2.2, s8.2.2.2.2)).2.2))))
  else (some (.inr ((s8.1, s8.2.1, s8.2.2.1, s8.2.2.2.1, s8.2.2.2.2)))))
  else (some (.inr ((s8.1, s8.2.1, s8.2.2.1, s8.2.2.2.1, s8.2.2.2.2))))
def level_Push_s1 (s11 : (List (Int × Int)) × (List (Int × Int)) × Int × Int) : Option (((List (Int × Int)) × (List (Int × Int)) × Int × Int) ⊕ ((List (Int × Int)))) :=
  (level_line_long s11.2).bind fun (r57 : Unit) =>
  if 0 < (wu64 ((wu64 ((s11.2.1.length : Int))) + s11.2.2.1)) then ((level_line_next s11.2).bind fun (r58 : Int × Int × (List (Int × Int)) × Int) =>
  (room (s11.1.length + ([(r58.1, r58.2.1)]).length) 16).bind fun _ =>
  some (.inl ((s11.1 ++ ([(r58.1, r58.2.1)]), r58.2.2.1, r58.2.2.2, s11.2.2.2))))
  else (some (.inr s11.1))
def level_Push (p1 : List (Int × Int)) (p2 : Int) (p3 : List (Int × Int)) (p4 : Int) (p5 : Int) : Option ((List (Int × Int)) × (List (Int × Int)) × Int) :=
  (room ((([] : List (Int × Int))).length + p1.length) 16).bind fun _ =>
  (room (p1.length + p3.length) 16).bind fun _ =>
  (level_bounded_int p2 ((1 : Int))).bind fun (r30 : Int) =>
  ((loopO (level_Push_s0) ((([] : List (Int × Int)), wu64 r30, p1 ++ p3, p4, p5))) : Option (((List (Int × Int)) × Int × (List (Int × Int)) × Int × Int))).bind (fun (x3 : ((List (Int × Int)) × Int × (List (Int × Int)) × Int × Int)) =>
  (level_Push_1 x3.2.2 x3.2.1).bind fun (r52 : Int) =>
  ((loopO (level_Push_s1) ((([] : List (Int × Int)), x3.2.2.1, wu64 (x3.2.2.2.1 - (wu64 (2 * (wu64 ((wu64 (r52 + 1)).tdiv 2))))), x3.2.2.2.2))) : Option ((List (Int × Int)))).bind (fun (x4 : (List (Int × Int))) =>
  some ((x4, x3.1, wu64 ((wu64 (r52 + 1)).tdiv 2)))))

def level_Most (p1 : Int) (p2 : Int) : Option Int :=
  if p2 = 0 then (some (wi64 ((max p1 0) + 1)))
  else (some (wi64 ((wi64 ((wi64 ((max p1 0) + 1)).tdiv 2)) + 1)))

def level_Least (p1 : Int) (p2 : Int) : Option Int :=
  (level_Most p1 p2).bind fun (r2 : Int) =>
  some (wi64 (r2 - 1))

def law05_awake : Option Bool :=
  (level_Push ([((1 : Int), (2 : Int))]) ((2 : Int)) (([] : List (Int × Int))) ((3 : Int)) ((9 : Int))).bind fun (r8 : (List (Int × Int)) × (List (Int × Int)) × Int) =>
  (level_Most ((4 : Int)) ((0 : Int))).bind fun (r12 : Int) =>
  if r12 = 5 then ((level_Most ((5 : Int)) ((1 : Int))).bind fun (r13 : Int) =>
  if r13 = 4 then ((level_Least ((5 : Int)) ((1 : Int))).bind fun (r14 : Int) =>
  if r14 = 3 then (if ((r8.1.length : Int)) = 2 then (if ((r8.2.1.length : Int)) = 1 then ((rdo r8.2.1 0).bind fun (z7 : Int × Int) =>
  if z7.1 = 1 ∧ z7.2 = 9 ∧ True then (if r8.2.2 = 0 then ((rdo r8.1 1).bind fun (z8 : Int × Int) =>
  some (decide (z8.1 = 9 ∧ z8.2 = 9 ∧ True)))
  else (some false))
  else (some false))
  else (some false))
  else (some false))
  else (some false))
  else (some false))
  else (some false)

def law05_come (p1 : List (Int × Int)) (p2 : List (Int × Int)) : Option Bool :=
  if ((p1.length : Int)) ≤ 20 then (some (decide (((p2.length : Int)) ≤ 20)))
  else (some false)

def ref05_Least (p1 : Int) (p2 : Int) : Option Int :=
  (ref05_Most p1 p2).bind fun (r2 : Int) =>
  some (wi64 (r2 - 1))

def law05_LevelTells (p1 : List (Int × Int)) (p2 : List (Int × Int)) (p3 : Int × Int × Int × Int × Int) : Option Bool :=
  (law05_awake).bind fun (r17 : Bool) =>
  (law05_come p1 p2).bind fun (r18 : Bool) =>
  if ¬ (r18 = true) then (some r17)
  else ((level_Push p1 (wi64 (p3.1.tmod 100)) p2 (p3.2.1.tmod 9007199254740992) p3.2.2.1).bind fun (r19 : (List (Int × Int)) × (List (Int × Int)) × Int) =>
  (ref05_Push p1 (wi64 (p3.1.tmod 100)) p2 (p3.2.1.tmod 9007199254740992) p3.2.2.1).bind fun (r20 : (List (Int × Int)) × (List (Int × Int)) × Int) =>
  if r17 = true then ((ref05_Same r19.1 r20.1).bind fun (r27 : Bool) =>
  if r27 = true then ((ref05_Same r19.2.1 r20.2.1).bind fun (r28 : Bool) =>
  if r28 = true then (if r19.2.2 = r20.2.2 then ((level_Most (wi64 ((wi64 (p3.2.2.2.1.tmod 3000)) - 50)) (wi64 (p3.2.2.2.2.tmod 4))).bind fun (r29 : Int) =>
  (ref05_Most (wi64 ((wi64 (p3.2.2.2.1.tmod 3000)) - 50)) (wi64 (p3.2.2.2.2.tmod 4))).bind fun (r30 : Int) =>
  if r29 = r30 then ((level_Least (wi64 ((wi64 (p3.2.2.2.1.tmod 3000)) - 50)) (wi64 (p3.2.2.2.2.tmod 4))).bind fun (r31 : Int) =>
  (ref05_Least (wi64 ((wi64 (p3.2.2.2.1.tmod 3000)) - 50)) (wi64 (p3.2.2.2.2.tmod 4))).bind fun (r32 : Int) =>
  some (decide (r31 = r32)))
  else (some false))
  else (some false))
  else (some false))
  else (some false))
  else (some false))

def ref05_One (p1 : List (Int × Int)) (p2 : Int) (p3 : Int × Int) : Option ((List (Int × Int)) × List (Int × Int)) :=
  (room ((([] : List (Int × Int))).length + p1.length) 16).bind fun _ =>
  (room (p1.length + ([p3]).length) 16).bind fun _ =>
  if (((p1 ++ ([p3])).length : Int)) ≤ p2 then (some ((p1 ++ ([p3]), ([] : List (Int × Int)))))
  else ((must (0 ≤ (2 : Int) ∧ (2 : Int) ≤ (p1 ++ ([p3])).length)).bind fun _ =>
  (rdo (p1 ++ ([p3])) 0).bind fun (z7 : Int × Int) =>
  (rdo (p1 ++ ([p3])) 1).bind fun (z8 : Int × Int) =>
  some (((p1 ++ ([p3])).drop (2 : Int).toNat, [(z7.1, z8.2)])))

def law05_LevelOnes_s0 (p2 : List (Int × Int)) (p3 : Int × Int × Int) (s8 : (List (Int × Int)) × (List (Int × Int)) × Int) : Option (((List (Int × Int)) × (List (Int × Int)) × Int) ⊕ (((List (Int × Int)) × List (Int × Int)))) :=
  if s8.2.2 < (wi64 (((p2.length : Int)) + (wi64 (p3.2.1.tmod 50)))) then (((if s8.2.2 < ((p2.length : Int)) then ((rdo p2 s8.2.2).bind fun (z12 : Int × Int) =>
  some ((z12.1, z12.2)))
  else (some ((wu64 p3.2.2, wu64 p3.2.2)))) : Option ((Int × Int))).bind (fun (j6 : (Int × Int)) =>
  (ref05_One s8.1 (wi64 (1 + (wi64 (p3.1.tmod 20)))) j6).bind fun (r17 : (List (Int × Int)) × List (Int × Int)) =>
  (room (s8.2.1.length + r17.2.length) 16).bind fun _ =>
  some (.inl ((r17.1, s8.2.1 ++ r17.2, wi64 (s8.2.2 + 1))))))
  else (some (.inr ((s8.1, s8.2.1))))
def law05_LevelOnes_s1 (p3 : Int × Int × Int) (r18 : (List (Int × Int)) × (List (Int × Int)) × Int) (s11 : (List (Int × Int)) × Int) : Option (((List (Int × Int)) × Int) ⊕ ((List (Int × Int)))) :=
  if s11.2 < r18.2.2 then (if s11.2 < 60 then ((room (s11.1.length + ([(wu64 p3.2.2, wu64 p3.2.2)]).length) 16).bind fun _ =>
  some (.inl ((s11.1 ++ ([(wu64 p3.2.2, wu64 p3.2.2)]), wu64 (s11.2 + 1)))))
  else (some (.inr s11.1)))
  else (some (.inr s11.1))
def law05_LevelOnes (p1 : List (Int × Int)) (p2 : List (Int × Int)) (p3 : Int × Int × Int) : Option Bool :=
  (law05_awake).bind fun (r12 : Bool) =>
  (law05_come p1 p2).bind fun (r14 : Bool) =>
  if ¬ (r14 = true) then (some r12)
  else (if (wi64 (1 + (wi64 (p3.1.tmod 20)))) < ((p1.length : Int)) then (some r12)
  else (((loopO (law05_LevelOnes_s0 p2 p3) ((p1, ([] : List (Int × Int)), (0 : Int)))) : Option (((List (Int × Int)) × List (Int × Int)))).bind (fun (x3 : ((List (Int × Int)) × List (Int × Int))) =>
  (level_Push p1 (wi64 (1 + (wi64 (p3.1.tmod 20)))) p2 (wu64 (wi64 (p3.2.1.tmod 50))) (wu64 p3.2.2)).bind fun (r18 : (List (Int × Int)) × (List (Int × Int)) × Int) =>
  ((loopO (law05_LevelOnes_s1 p3 r18) ((r18.2.1, (0 : Int)))) : Option ((List (Int × Int)))).bind (fun (x4 : (List (Int × Int))) =>
  if r12 = true then ((ref05_Same r18.1 x3.1).bind fun (r21 : Bool) =>
  if r21 = true then ((ref05_Same x4 x3.2).bind fun (r22 : Bool) =>
  some r22)
  else (some false))
  else (some false)))))

def law05_LevelSums (p1 : List (Int × Int)) (p2 : List (Int × Int)) (p3 : Int × Int × Int) : Option Bool :=
  (law05_awake).bind fun (r5 : Bool) =>
  (law05_come p1 p2).bind fun (r7 : Bool) =>
  if ¬ (r7 = true) then (some r5)
  else (if (wi64 (1 + (wi64 (p3.1.tmod 100)))) < ((p1.length : Int)) then (some r5)
  else ((level_Push p1 (wi64 (1 + (wi64 (p3.1.tmod 100)))) p2 (p3.2.1.tmod 9007199254740992) p3.2.2).bind fun (r8 : (List (Int × Int)) × (List (Int × Int)) × Int) =>
  if r5 = true then (if (wu64 ((wu64 (2 * (wu64 ((wu64 ((r8.2.1.length : Int))) + r8.2.2)))) + (wu64 ((r8.1.length : Int))))) = (wu64 ((wu64 (wi64 (((p1.length : Int)) + ((p2.length : Int))))) + (p3.2.1.tmod 9007199254740992))) then (if ((r8.1.length : Int)) ≤ (wi64 (1 + (wi64 (p3.1.tmod 100)))) then (if (wu64 ((wu64 ((r8.2.1.length : Int))) + r8.2.2)) = 0 then (some true)
  else (some (decide ((wi64 ((wi64 (1 + (wi64 (p3.1.tmod 100)))) - 1)) ≤ ((r8.1.length : Int))))))
  else (some false))
  else (some false))
  else (some false)))

def law05_ones_s0 (p2 : Int) (p3 : Int) (s5 : (List (Int × Int)) × Int) : Option (((List (Int × Int)) × Int) ⊕ ((List (Int × Int)))) :=
  if s5.2 < p2 then (if s5.2 < 100 then ((room (s5.1.length + ([(p3, p3)]).length) 16).bind fun _ =>
  some (.inl ((s5.1 ++ ([(p3, p3)]), wu64 (s5.2 + 1)))))
  else (some (.inr s5.1)))
  else (some (.inr s5.1))
def law05_ones (p1 : List (Int × Int)) (p2 : Int) (p3 : Int) : Option (List (Int × Int)) :=
  (room ((([] : List (Int × Int))).length + p1.length) 16).bind fun _ =>
  ((loopO (law05_ones_s0 p2 p3) ((p1, (0 : Int)))) : Option ((List (Int × Int)))).bind (fun (x2 : (List (Int × Int))) =>
  some x2)

def law05_LevelTwice (p1 : List (Int × Int)) (p2 : List (Int × Int)) (p3 : Int × Int × Int × Int) : Option Bool :=
  (law05_awake).bind fun (r16 : Bool) =>
  (law05_come p1 p2).bind fun (r18 : Bool) =>
  if ¬ (r18 = true) then (some r16)
  else (if (wi64 (1 + (wi64 (p3.1.tmod 20)))) < ((p1.length : Int)) then (some r16)
  else ((level_Push p1 (wi64 (1 + (wi64 (p3.1.tmod 20)))) p2 (wu64 ((p3.2.1.tmod 40) + (p3.2.2.1.tmod 40))) p3.2.2.2).bind fun (r19 : (List (Int × Int)) × (List (Int × Int)) × Int) =>
  (level_Push p1 (wi64 (1 + (wi64 (p3.1.tmod 20)))) p2 (p3.2.1.tmod 40) p3.2.2.2).bind fun (r20 : (List (Int × Int)) × (List (Int × Int)) × Int) =>
  (level_Push r20.1 (wi64 (1 + (wi64 (p3.1.tmod 20)))) (([] : List (Int × Int))) (p3.2.2.1.tmod 40) p3.2.2.2).bind fun (r21 : (List (Int × Int)) × (List (Int × Int)) × Int) =>
  (law05_ones r19.2.1 r19.2.2 p3.2.2.2).bind fun (r22 : List (Int × Int)) =>
  (law05_ones r20.2.1 r20.2.2 p3.2.2.2).bind fun (r25 : List (Int × Int)) =>
  (law05_ones r21.2.1 r21.2.2 p3.2.2.2).bind fun (r26 : List (Int × Int)) =>
  (room (r25.length + r26.length) 16).bind fun _ =>
  if r16 = true then ((ref05_Same r19.1 r21.1).bind fun (r29 : Bool) =>
  if r29 = true then ((ref05_Same r22 (r25 ++ r26)).bind fun (r30 : Bool) =>
  some r30)
  else (some false))
  else (some false)))

def law05_LevelOrder_s0 (p1 : List Int) (s8 : (List (Int × Int)) × Int × Int) : Option (((List (Int × Int)) × Int × Int) ⊕ (((List (Int × Int)) × Int))) :=
  if (wi64 (s8.2.2 + 1)) < ((p1.length : Int)) then ((rdo p1 s8.2.2).bind fun (z31 : Int) =>
  (rdo p1 (wi64 (s8.2.2 + 1))).bind fun (z32 : Int) =>
  (room (s8.1.length + ([(wu64 (s8.2.1 + (wu64 z31)), wu64 ((wu64 (s8.2.1 + (wu64 z31))) + (wu64 z32)))]).length) 16).bind fun _ =>
  some (.inl ((s8.1 ++ ([(wu64 (s8.2.1 + (wu64 z31)), wu64 ((wu64 (s8.2.1 + (wu64 z31))) + (wu64 z32)))]), wu64 ((wu64 (s8.2.1 + (wu64 z31))) + (wu64 z32)), wi64 (s8.2.2 + 2)))))
  else (some (.inr ((s8.1, s8.2.1))))
def law05_LevelOrder_s1 (r7 : (List (Int × Int)) × (List (Int × Int)) × Int) (r8 : List (Int × Int)) (s11 : Int) : Option (Int ⊕ (Unit ⊕ Unit)) :=
  if s11 < (((r8 ++ r7.1).length : Int)) then ((rdo (r8 ++ r7.1) s11).bind fun (z51 : Int × Int) =>
  if z51.2 < z51.1 then (some (.inr (.inl (()))))
  else (if 0 < s11 then ((rdo (r8 ++ r7.1) (wi64 (s11 - 1))).bind fun (z52 : Int × Int) =>
  if z51.1 < z52.2 then (some (.inr (.inl (()))))
  else (some (.inl (wi64 (s11 + 1)))))
  else (some (.inl (wi64 (s11 + 1))))))
  else (some (.inr (.inr (()))))
def law05_LevelOrder (p1 : List Int) (p2 : Int) (p3 : Int × Int × Int) : Option Bool :=
  (law05_awake).bind fun (r5 : Bool) =>
  if 40 < ((p1.length : Int)) then (some r5)
  else (((loopO (law05_LevelOrder_s0 p1) ((([] : List (Int × Int)), (0 : Int), (0 : Int)))) : Option (((List (Int × Int)) × Int))).bind (fun (x3 : ((List (Int × Int)) × Int)) =>
  (must ((wi64 (((x3.1.length : Int)) + 1)) ≠ 0)).bind fun _ =>
  (must (0 ≤ (min ((wi64 p2).tmod (wi64 (((x3.1.length : Int)) + 1))) (wi64 (1 + (wi64 (p3.1.tmod 20))))) ∧ (min ((wi64 p2).tmod (wi64 (((x3.1.length : Int)) + 1))) (wi64 (1 + (wi64 (p3.1.tmod 20))))) ≤ x3.1.length)).bind fun _ =>
  (level_Push (x3.1.take (min ((wi64 p2).tmod (wi64 (((x3.1.length : Int)) + 1))) (wi64 (1 + (wi64 (p3.1.tmod 20))))).toNat) (wi64 (1 + (wi64 (p3.1.tmod 20)))) (x3.1.drop (min ((wi64 p2).tmod (wi64 (((x3.1.length : Int)) + 1))) (wi64 (1 + (wi64 (p3.1.tmod 20))))).toNat) (wu64 p3.2.1) x3.2).bind fun (r7 : (List (Int × Int)) × (List (Int × Int)) × Int) =>
  (law05_ones r7.2.1 r7.2.2 x3.2).bind fun (r8 : List (Int × Int)) =>
  (room (r8.length + r7.1.length) 16).bind fun _ =>
  ((loopO (law05_LevelOrder_s1 r7 r8) ((0 : Int))) : Option (Unit ⊕ Unit)).bind (Sum.elim (fun (d3 : Unit) =>
  some false)
  (fun (d4 : Unit) =>
  some r5))))

def law08_EstimateDrops (p1 : Int) (p2 : List (Int × Int)) (p3 : Int × Int × Int × Int) : Option Bool :=
  (law08_awake).bind fun (r16 : Bool) =>
  (ref06_Made p1 p2).bind fun (r17 : Int × Int × List (List (Int × Int))) =>
  (law08_made r17).bind fun (r18 : Unit) =>
  (must ((wu64 (1 + (p3.2.1.tmod 100000))) ≠ 0)).bind fun _ =>
  if r16 = true then ((expiry_Drop r17 (p3.1.tmod 100000) (wu64 (1 + (p3.2.1.tmod 100000)))).bind fun (r28 : List (List (Int × Int))) =>
  (estimate_Of ((r17.1, r17.2.1, r28)) (wu64 ((p3.1.tmod 100000) + (p3.2.2.1.tmod 100000))) (wu64 (1 + (p3.2.2.2.tmod (wu64 (1 + (p3.2.1.tmod 100000))))))).bind fun (r29 : Int) =>
  (estimate_Of r17 (wu64 ((p3.1.tmod 100000) + (p3.2.2.1.tmod 100000))) (wu64 (1 + (p3.2.2.2.tmod (wu64 (1 + (p3.2.1.tmod 100000))))))).bind fun (r30 : Int) =>
  some (decide (r29 = r30)))
  else (some false)

def slices_Equal_Span_s0 (p1 : List (Int × Int)) (p2 : List (Int × Int)) (s5 : Int) : Option (Int ⊕ (Unit ⊕ Unit)) :=
  if s5 < ((p1.length : Int)) then ((rdo p1 s5).bind fun (z23 : Int × Int) =>
  (rdo p2 s5).bind fun (z24 : Int × Int) =>
  if ¬ (z23.1 = z24.1 ∧ z23.2 = z24.2 ∧ True) then (some (.inr (.inl (()))))
  else (some (.inl (wi64 (s5 + 1)))))
  else (some (.inr (.inr (()))))
def slices_Equal_Span (p1 : List (Int × Int)) (p2 : List (Int × Int)) : Option Bool :=
  if ¬ ((p1.length : Int)) = ((p2.length : Int)) then (some false)
  else (((loopO (slices_Equal_Span_s0 p1 p2) ((0 : Int))) : Option (Unit ⊕ Unit)).bind (Sum.elim (fun (d3 : Unit) =>
  some false)
  (fun (d4 : Unit) =>
  some true)))

def slices_EqualFunc_Spans_s0 (p1 : List (List (Int × Int))) (p2 : List (List (Int × Int))) (s5 : Int) : Option (Int ⊕ (Unit ⊕ Unit)) :=
  if s5 < ((p1.length : Int)) then ((rdo p1 s5).bind fun (z11 : List (Int × Int)) =>
  (rdo p2 s5).bind fun (z12 : List (Int × Int)) =>
  (slices_Equal_Span z11 z12).bind fun (r6 : Bool) =>
  if ¬ (r6 = true) then (some (.inr (.inl (()))))
  else (some (.inl (wi64 (s5 + 1)))))
  else (some (.inr (.inr (()))))
def slices_EqualFunc_Spans (p1 : List (List (Int × Int))) (p2 : List (List (Int × Int))) : Option Bool :=
  if ¬ ((p1.length : Int)) = ((p2.length : Int)) then (some false)
  else (((loopO (slices_EqualFunc_Spans_s0 p1 p2) ((0 : Int))) : Option (Unit ⊕ Unit)).bind (Sum.elim (fun (d3 : Unit) =>
  some false)
  (fun (d4 : Unit) =>
  some true)))

def hist_Hist_equal (p1 : Int × Int × List (List (Int × Int))) (p2 : List (List (Int × Int))) : Option Bool :=
  (slices_EqualFunc_Spans p1.2.2 p2).bind fun (r2 : Bool) =>
  some r2

def hist_Same (p1 : Int × Int × List (List (Int × Int))) (p2 : Int × Int × List (List (Int × Int))) : Option Bool :=
  if p1.1 = p2.1 then (if p1.2.1 = p2.2.1 then ((hist_Hist_equal p1 p2.2.2).bind fun (r4 : Bool) =>
  some r4)
  else (some false))
  else (some false)

def law07_ExpiryTwice (p1 : Int) (p2 : List (Int × Int)) (p3 : Int × Int × Int) : Option Bool :=
  (law07_awake).bind fun (r9 : Bool) =>
  (ref06_Made p1 p2).bind fun (r10 : Int × Int × List (List (Int × Int))) =>
  (law07_made r10).bind fun (r11 : Unit) =>
  (expiry_Drop r10 p3.1 p3.2.2).bind fun (r12 : List (List (Int × Int))) =>
  (expiry_Drop ((r10.1, r10.2.1, r12)) p3.2.1 p3.2.2).bind fun (r13 : List (List (Int × Int))) =>
  (expiry_Drop r10 (max p3.1 p3.2.1) p3.2.2).bind fun (r14 : List (List (Int × Int))) =>
  if r9 = true then ((hist_Same ((((r10.1, r10.2.1, r12)).1, ((r10.1, r10.2.1, r12)).2.1, r13)) ((r10.1, r10.2.1, r14))).bind fun (r16 : Bool) =>
  some r16)
  else (some false)

def law07_ExpiryLater (p1 : Int) (p2 : List (Int × Int)) (p3 : Int × Int × Int × Int) : Option Bool :=
  (law07_awake).bind fun (r19 : Bool) =>
  (ref06_Made p1 p2).bind fun (r20 : Int × Int × List (List (Int × Int))) =>
  (law07_made r20).bind fun (r21 : Unit) =>
  (expiry_Drop r20 (max p3.1 p3.2.1) (min p3.2.2.1 p3.2.2.2)).bind fun (r22 : List (List (Int × Int))) =>
  (expiry_Drop r20 (min p3.1 p3.2.1) (max p3.2.2.1 p3.2.2.2)).bind fun (r23 : List (List (Int × Int))) =>
  (expiry_Drop r20 (wu64 (p3.1.tdiv 2)) (wu64 ((wu64 (p3.1.tdiv 2)) + 1))).bind fun (r24 : List (List (Int × Int))) =>
  if r19 = true then ((hist_Total ((r20.1, r20.2.1, r22))).bind fun (r34 : Int) =>
  (hist_Total ((r20.1, r20.2.1, r23))).bind fun (r35 : Int) =>
  if r34 ≤ r35 then ((hist_Same ((r20.1, r20.2.1, r24)) r20).bind fun (r36 : Bool) =>
  some r36)
  else (some false))
  else (some false)

def law09_made (p1 : Int × Int × List (List (Int × Int))) : Option Unit :=
  some (())

def check_conf (p1 : Int) (p2 : Int) : Option Bool :=
  if 2 ≤ p1 then (if p1 ≤ 1024 then (if 0 ≤ p2 then (some (decide (p2 ≤ 4)))
  else (some false))
  else (some false))
  else (some false)

def check_shaped_s0 (p1 : Int × Int × List (List (Int × Int))) (s5 : Int) : Option (Int ⊕ (Unit ⊕ Unit)) :=
  if s5 < ((p1.2.2.length : Int)) then ((rdo p1.2.2 s5).bind fun (z6 : List (Int × Int)) =>
  (level_Least p1.1 s5).bind fun (r16 : Int) =>
  ((if s5 = (wi64 (((p1.2.2.length : Int)) - 1)) then (some ((1 : Int)))
  else (some r16)) : Option Int).bind (fun (j6 : Int) =>
  if ((z6.length : Int)) < (max j6 1) then (some (.inr (.inl (()))))
  else ((level_Most p1.1 s5).bind fun (r18 : Int) =>
  if r18 < ((z6.length : Int)) then (some (.inr (.inl (()))))
  else (some (.inl (wi64 (s5 + 1)))))))
  else (some (.inr (.inr (()))))
def check_shaped (p1 : Int × Int × List (List (Int × Int))) : Option Bool :=
  ((loopO (check_shaped_s0 p1) ((0 : Int))) : Option (Unit ⊕ Unit)).bind (Sum.elim (fun (d3 : Unit) =>
  some false)
  (fun (d4 : Unit) =>
  some (decide (((p1.2.2.length : Int)) ≤ 52))))

def check_walk_step (p1 : Int × Bool) (p2 : Int × Int) (p3 : Bool) : Option Bool :=
  ((if p2.2 < p2.1 then (some true)
  else (if p2.1 < p1.1 then (some true)
  else (if 9223372036854775807 < p2.2 then (some true)
  else (if p3 = true then (some (decide (¬ p2.1 = p2.2)))
  else (some false))))) : Option Bool).bind (fun (j2 : Bool) =>
  if p1.2 = true then (some (decide (¬ (j2 = true))))
  else (some false))

def check_turned_s1 (s17 : Int × Int × Bool) (z21 : List (Int × Int)) (s23 : Int × Int × Bool) : Option ((Int × Int × Bool) ⊕ ((Int × Bool))) :=
  if s23.1 < ((z21.length : Int)) then ((rdo z21 s23.1).bind fun (z24 : Int × Int) =>
  (check_walk_step s23.2 z24 (decide (s17.1 = 0))).bind fun (r18 : Bool) =>
  some (.inl ((wi64 (s23.1 + 1), z24.2, r18))))
  else (some (.inr ((s23.2.1, s23.2.2))))
def check_turned_s0 (p1 : Int × Int × List (List (Int × Int))) (s17 : Int × Int × Bool) : Option ((Int × Int × Bool) ⊕ ((Int × Bool))) :=
  if 0 ≤ s17.1 then ((rdo p1.2.2 s17.1).bind fun (z21 : List (Int × Int)) =>
  ((loopO (check_turned_s1 s17 z21) (((0 : Int), s17.2.1, s17.2.2))) : Option ((Int × Bool))).bind (fun (x8 : (Int × Bool)) =>
  some (.inl ((wi64 (s17.1 - 1), x8.1, x8.2)))))
  else (some (.inr ((s17.2.1, s17.2.2))))
def check_turned (p1 : Int × Int × List (List (Int × Int))) : Option Bool :=
  ((loopO (check_turned_s0 p1) ((wi64 (((p1.2.2.length : Int)) - 1), (0 : Int), true))) : Option ((Int × Bool))).bind (fun (x7 : (Int × Bool)) =>
  some x7.2)

def check_light (p1 : Int × Int × List (List (Int × Int))) : Option Bool :=
  (hist_Total p1).bind fun (r2 : Int) =>
  some (decide (r2 ≤ 4503599627370496))

def check_Hist (p1 : Int × Int × List (List (Int × Int))) : Option Int :=
  (check_conf p1.1 p1.2.1).bind fun (r5 : Bool) =>
  if ¬ (r5 = true) then (some ((9 : Int)))
  else ((check_shaped p1).bind fun (r6 : Bool) =>
  if ¬ (r6 = true) then (some ((2 : Int)))
  else ((check_turned p1).bind fun (r7 : Bool) =>
  if ¬ (r7 = true) then (some ((2 : Int)))
  else ((check_light p1).bind fun (r8 : Bool) =>
  if ¬ (r8 = true) then (some ((2 : Int)))
  else (some ((0 : Int))))))

def check_Buckets_s0 (p1 : Int × Int × List (List (Int × Int))) (s5 : Int × Int) : Option ((Int × Int) ⊕ Int) :=
  if s5.2 < ((p1.2.2.length : Int)) then ((rdo p1.2.2 s5.2).bind fun (z6 : List (Int × Int)) =>
  some (.inl ((wi64 (s5.1 + ((z6.length : Int))), wi64 (s5.2 + 1)))))
  else (some (.inr s5.1))
def check_Buckets (p1 : Int × Int × List (List (Int × Int))) : Option Int :=
  ((loopO (check_Buckets_s0 p1) (((0 : Int), (0 : Int)))) : Option Int).bind (fun (x2 : Int) =>
  some x2)

def bits_Len64 (p1 : Int) : Option Int :=
  ((if 4294967296 ≤ p1 then (some ((shrk 64 p1 32, (32 : Int))))
  else (some ((p1, (0 : Int))))) : Option ((Int × Int))).bind (fun (j3 : (Int × Int)) =>
  ((if 65536 ≤ j3.1 then (some ((shrk 64 j3.1 16, wi64 (j3.2 + 16))))
  else (some ((j3.1, j3.2)))) : Option ((Int × Int))).bind (fun (j4 : (Int × Int)) =>
  if 256 ≤ j4.1 then ((rdb bs0 (wu8 (shrk 64 j4.1 8))).bind fun (z3 : Int) =>
  some (wi64 ((wi64 (j4.2 + 8)) + (wi64 z3))))
  else ((rdb bs0 (wu8 j4.1)).bind fun (z4 : Int) =>
  some (wi64 (j4.2 + (wi64 z4))))))

def check_Bound (p1 : Int) (p2 : Int) (p3 : Int) : Option Int :=
  if p3 = 0 then (some ((0 : Int)))
  else ((check_conf p1 p2).bind fun (r5 : Bool) =>
  if ¬ (r5 = true) then (some ((0 : Int)))
  else ((bits_Len64 p3).bind fun (r6 : Int) =>
  some (wi64 ((wi64 (p1 + 1)) * (wi64 (r6 + p2))))))

def law09_awake : Option Bool :=
  (ref06_Made ((0 : Int)) ([((1 : Int), (4 : Int))])).bind fun (r13 : Int × Int × List (List (Int × Int))) =>
  (law09_made r13).bind fun (r14 : Unit) =>
  (check_Hist r13).bind fun (r20 : Int) =>
  if r20 = 0 then ((check_Hist ((r13.1, (5 : Int), r13.2.2))).bind fun (r21 : Int) =>
  if r21 = 9 then ((check_Buckets r13).bind fun (r22 : Int) =>
  if r22 = 3 then ((check_Bound ((2 : Int)) ((0 : Int)) ((4 : Int))).bind fun (r23 : Int) =>
  if r23 = 9 then ((check_Hist (((2 : Int), (0 : Int), [[((1 : Int), (2 : Int))]]))).bind fun (r24 : Int) =>
  some (decide (r24 = 2)))
  else (some false))
  else (some false))
  else (some false))
  else (some false)

def ref09_Few_s0 (p1 : Int × Int × List (List (Int × Int))) (s5 : Int) : Option (Int ⊕ (Unit ⊕ Unit)) :=
  if s5 < ((p1.2.2.length : Int)) then (if s5 < 61 then ((rdo p1.2.2 s5).bind fun (z6 : List (Int × Int)) =>
  if 40 < ((z6.length : Int)) then (some (.inr (.inl (()))))
  else (some (.inl (wi64 (s5 + 1)))))
  else (some (.inr (.inr (())))))
  else (some (.inr (.inr (()))))
def ref09_Few (p1 : Int × Int × List (List (Int × Int))) : Option Bool :=
  ((loopO (ref09_Few_s0 p1) ((0 : Int))) : Option (Unit ⊕ Unit)).bind (Sum.elim (fun (d3 : Unit) =>
  some false)
  (fun (d4 : Unit) =>
  some (decide (((p1.2.2.length : Int)) ≤ 60))))

def ref06_May (p1 : Int) : Option Bool :=
  if 2 ≤ p1 then (some (decide (p1 ≤ 1024)))
  else (some false)

def ref09_shaped_s0 (p1 : Int × Int × List (List (Int × Int))) (s5 : Int) : Option (Int ⊕ (Unit ⊕ Unit)) :=
  if s5 < ((p1.2.2.length : Int)) then ((rdo p1.2.2 s5).bind fun (z6 : List (Int × Int)) =>
  if ((z6.length : Int)) < 1 then (some (.inr (.inl (()))))
  else ((ref05_Most p1.1 s5).bind fun (r23 : Int) =>
  if r23 < ((z6.length : Int)) then (some (.inr (.inl (()))))
  else (if ¬ (s5 = (wi64 (((p1.2.2.length : Int)) - 1))) then ((ref05_Least p1.1 s5).bind fun (r24 : Int) =>
  if ((z6.length : Int)) < r24 then (some (.inr (.inl (()))))
  else (some (.inl (wi64 (s5 + 1)))))
  else (some (.inl (wi64 (s5 + 1)))))))
  else (some (.inr (.inr (()))))
def ref09_shaped (p1 : Int × Int × List (List (Int × Int))) : Option Bool :=
  ((loopO (ref09_shaped_s0 p1) ((0 : Int))) : Option (Unit ⊕ Unit)).bind (Sum.elim (fun (d3 : Unit) =>
  some false)
  (fun (d4 : Unit) =>
  some (decide (((p1.2.2.length : Int)) ≤ 52))))

def ref09_turned_s1 (p1 : Int × Int × List (List (Int × Int))) (s17 : Int × Int) (s23 : Int × Int) : Option ((Int × Int) ⊕ (Unit ⊕ Int)) :=
  (rdo p1.2.2 s17.2).bind fun (z35 : List (Int × Int)) =>
  if s23.2 < ((z35.length : Int)) then ((rdo z35 s23.2).bind fun (z36 : Int × Int) =>
  if z36.2 < z36.1 then (some (.inr (.inl (()))))
  else (if z36.1 < s23.1 then (some (.inr (.inl (()))))
  else (if 9223372036854775807 < z36.2 then (some (.inr (.inl (()))))
  else (if s17.2 = 0 then (if ¬ z36.1 = z36.2 then (some (.inr (.inl (()))))
  else (some (.inl ((z36.2, wi64 (s23.2 + 1))))))
  else (some (.inl ((z36.2, wi64 (s23.2 + 1)))))))))
  else (some (.inr (.inr s23.1)))
def ref09_turned_s0 (p1 : Int × Int × List (List (Int × Int))) (s17 : Int × Int) : Option ((Int × Int) ⊕ (Unit ⊕ Unit)) :=
  if 0 ≤ s17.2 then (((loopO (ref09_turned_s1 p1 s17) ((s17.1, (0 : Int)))) : Option (Unit ⊕ Int)).bind (Sum.elim (fun (d15 : Unit) =>
  some (.inr (.inl (()))))
  (fun (d16 : Int) =>
  some (.inl ((d16, wi64 (s17.2 - 1)))))))
  else (some (.inr (.inr (()))))
def ref09_turned (p1 : Int × Int × List (List (Int × Int))) : Option Bool :=
  ((loopO (ref09_turned_s0 p1) (((0 : Int), wi64 (((p1.2.2.length : Int)) - 1)))) : Option (Unit ⊕ Unit)).bind (Sum.elim (fun (d13 : Unit) =>
  some false)
  (fun (d14 : Unit) =>
  some true))

def ref09_Hist (p1 : Int × Int × List (List (Int × Int))) : Option Int :=
  (ref06_May p1.1).bind fun (r10 : Bool) =>
  if ¬ (r10 = true) then (some ((9 : Int)))
  else (if p1.2.1 < 0 then (some ((9 : Int)))
  else (if 4 < p1.2.1 then (some ((9 : Int)))
  else ((ref09_shaped p1).bind fun (r14 : Bool) =>
  if ¬ (r14 = true) then (some ((2 : Int)))
  else ((ref09_turned p1).bind fun (r15 : Bool) =>
  if ¬ (r15 = true) then (some ((2 : Int)))
  else ((ref06_Total p1).bind fun (r16 : Int) =>
  if 4503599627370496 < r16 then (some ((2 : Int)))
  else (some ((0 : Int))))))))

def ref09_Buckets_s0 (p1 : Int × Int × List (List (Int × Int))) (s5 : Int × Int) : Option ((Int × Int) ⊕ Int) :=
  if s5.2 < ((p1.2.2.length : Int)) then ((rdo p1.2.2 s5.2).bind fun (z6 : List (Int × Int)) =>
  some (.inl ((wi64 (s5.1 + ((z6.length : Int))), wi64 (s5.2 + 1)))))
  else (some (.inr s5.1))
def ref09_Buckets (p1 : Int × Int × List (List (Int × Int))) : Option Int :=
  ((loopO (ref09_Buckets_s0 p1) (((0 : Int), (0 : Int)))) : Option Int).bind (fun (x2 : Int) =>
  some x2)

def ref09_digits_F (rec : Int → Option Int) (p1 : Int) : Option Int :=
  if p1 = 0 then (some ((0 : Int)))
  else ((rec (wu64 (p1.tdiv 2))).bind fun (r2 : Int) =>
  some (wi64 (1 + r2)))
def ref09_digits (p1 : Int) : Option Int := itR ref09_digits_F 1000 p1

def ref09_Bound (p1 : Int) (p2 : Int) (p3 : Int) : Option Int :=
  if p3 = 0 then (some ((0 : Int)))
  else ((ref06_May p1).bind fun (r5 : Bool) =>
  if ¬ (r5 = true) then (some ((0 : Int)))
  else (if p2 < 0 then (some ((0 : Int)))
  else (if 4 < p2 then (some ((0 : Int)))
  else ((ref09_digits p3).bind fun (r6 : Int) =>
  some (wi64 ((wi64 (p1 + 1)) * (wi64 (r6 + p2))))))))

def law09_CheckTells (p1 : Int × Int × List (List (Int × Int))) (p2 : Int × Int) (p3 : Int) : Option Bool :=
  (law09_awake).bind fun (r31 : Bool) =>
  (ref09_Few p1).bind fun (r32 : Bool) =>
  if ¬ (r32 = true) then (some r31)
  else (if r31 = true then ((law09_made p1).bind fun (r54 : Unit) =>
  (check_Hist p1).bind fun (r55 : Int) =>
  (ref09_Hist p1).bind fun (r56 : Int) =>
  if r55 = r56 then ((check_Buckets p1).bind fun (r57 : Int) =>
  (ref09_Buckets p1).bind fun (r58 : Int) =>
  if r57 = r58 then ((check_Bound p2.1 p2.2 p3).bind fun (r59 : Int) =>
  (ref09_Bound p2.1 p2.2 p3).bind fun (r60 : Int) =>
  some (decide (r59 = r60)))
  else (some false))
  else (some false))
  else (some false))

def law09_CheckGrows (p1 : Int) (p2 : Int) (p3 : Int × Int) : Option Bool :=
  (law09_awake).bind fun (r11 : Bool) =>
  (check_Bound (wi64 (2 + ((max p1 0).tmod 1023))) ((max p2 0).tmod 4) (min p3.1 p3.2)).bind fun (r12 : Int) =>
  (check_Bound (wi64 (2 + ((max p1 0).tmod 1023))) ((max p2 0).tmod 4) (max p3.1 p3.2)).bind fun (r13 : Int) =>
  (check_Bound (wi64 (2 + ((max p1 0).tmod 1023))) ((max p2 0).tmod 4) (wu64 (1 + (p3.1.tmod 4611686018427387904)))).bind fun (r14 : Int) =>
  if r11 = true then (if r12 ≤ r13 then ((check_Bound (wi64 (2 + ((max p1 0).tmod 1023))) ((max p2 0).tmod 4) (wu64 (2 * (wu64 (1 + (p3.1.tmod 4611686018427387904)))))).bind fun (r18 : Int) =>
  if r18 = (wi64 ((wi64 (r14 + (wi64 (2 + ((max p1 0).tmod 1023))))) + 1)) then ((check_Bound (wi64 (2 + ((max p1 0).tmod 1023))) (wi64 (((max p2 0).tmod 4) + 1)) (wu64 (1 + (p3.1.tmod 4611686018427387904)))).bind fun (r19 : Int) =>
  if r19 = (wi64 ((wi64 (r14 + (wi64 (2 + ((max p1 0).tmod 1023))))) + 1)) then ((check_Bound (wi64 (2 + ((max p1 0).tmod 1023))) ((max p2 0).tmod 4) ((0 : Int))).bind fun (r20 : Int) =>
  some (decide (r20 = 0)))
  else (some false))
  else (some false))
  else (some false))
  else (some false)

def law09_CheckMade (p1 : Int) (p2 : List (Int × Int)) (p3 : Int × Int) : Option Bool :=
  (law09_awake).bind fun (r10 : Bool) =>
  (ref06_Made p1 p2).bind fun (r11 : Int × Int × List (List (Int × Int))) =>
  (law09_made r11).bind fun (r12 : Unit) =>
  if r10 = true then ((check_Hist r11).bind fun (r16 : Int) =>
  if r16 = 0 then ((expiry_Drop r11 p3.1 p3.2).bind fun (r17 : List (List (Int × Int))) =>
  (check_Hist ((r11.1, r11.2.1, r17))).bind fun (r18 : Int) =>
  some (decide (r18 = 0)))
  else (some false))
  else (some false)

def law09_CheckBound_s0 (p2 : List (Int × Int)) (p3 : Int × Int) (s5 : Int × Int × Int × Int × Int × List (List (Int × Int))) : Option ((Int × Int × Int × Int × Int × List (List (Int × Int))) ⊕ ((Int × Int × Int × List (List (Int × Int))))) :=
  if s5.2.2.1 < ((p2.length : Int)) then (if s5.2.2.1 < 30 then ((rdo p2 s5.2.2.1).bind fun (z6 : Int × Int) =>
  (ref06_Add s5.2.2.2 (wu64 (s5.1 + (z6.1.tmod 1000))) z6.2).bind fun (r23 : Int × Int × (List (List (Int × Int))) × Int) =>
  if r23.2.2.2 = 0 then ((ref07_Old (wu64 (s5.1 + (z6.1.tmod 1000))) p3.1 p3.2).bind fun (r24 : Bool) =>
  if ¬ (r24 = true) then (some (.inl ((wu64 (s5.1 + (z6.1.tmod 1000)), wu64 (s5.2.1 + z6.2), wi64 (s5.2.2.1 + 1), r23.1, r23.2.1, r23.2.2.1))))
  else (some (.inl ((wu64 (s5.1 + (z6.1.tmod 1000)), s5.2.1, wi64 (s5.2.2.1 + 1), r23.1, r23.2.1, r23.2.2.1)))))
  else (some (.inl ((wu64 (s5.1 + (z6.1.tmod 1000)), s5.2.1, wi64 (s5.2.2.1 + 1), s5.2.2.2.1, s5.2.2.2.2.1, s5.2.2.2.2.2)))))
  else (some (.inr ((s5.2.1, s5.2.2.2.1, s5.2.2.2.2.1, s5.2.2.2.2.2)))))
  else (some (.inr ((s5.2.1, s5.2.2.2.1, s5.2.2.2.2.1, s5.2.2.2.2.2))))
def law09_CheckBound (p1 : Int) (p2 : List (Int × Int)) (p3 : Int × Int) : Option Bool :=
  (law09_awake).bind fun (r18 : Bool) =>
  ((loopO (law09_CheckBound_s0 p2 p3) (((0 : Int), (0 : Int), (0 : Int), wi64 (2 + ((max p1 0).tmod 30)), (0 : Int), ([] : List (List (Int × Int)))))) : Option ((Int × Int × Int × List (List (Int × Int))))).bind (fun (x2 : (Int × Int × Int × List (List (Int × Int)))) =>
  (law09_made x2.2).bind fun (r25 : Unit) =>
  (expiry_Drop x2.2 p3.1 p3.2).bind fun (r26 : List (List (Int × Int))) =>
  if r18 = true then ((check_Buckets ((x2.2.1, x2.2.2.1, r26))).bind fun (r33 : Int) =>
  (check_Bound x2.2.1 ((0 : Int)) x2.1).bind fun (r34 : Int) =>
  if r33 ≤ r34 then (if 0 < x2.1 then (some true)
  else (some (decide (r33 = 0))))
  else (some false))
  else (some false))

def hist_Last (p1 : Int × Int × List (List (Int × Int))) : Option (Int × Bool) :=
  if ((p1.2.2.length : Int)) = 0 then (some (((0 : Int), false)))
  else ((rdo p1.2.2 0).bind fun (z5 : List (Int × Int)) =>
  if ((z5.length : Int)) = 0 then (some (((0 : Int), false)))
  else ((rdo z5 (wi64 (((z5.length : Int)) - 1))).bind fun (z6 : Int × Int) =>
  some ((z6.2, true))))

def hist_Hist_flow (p1 : Int × Int × List (List (Int × Int))) (p2 : Int) (p3 : Int) : Option Unit :=
  some (())

def hist_Hist_flow_1_s0 {σ : Type} (y : (List (Int × Int)) → σ → Option (Bool × σ)) (p2 : Int × Int × List (List (Int × Int))) (p3 : Int) (s5 : (List (Int × Int)) × Int × Int × σ) : Option (((List (Int × Int)) × Int × Int × σ) ⊕ (σ ⊕ σ)) :=
  ((if 0 < ((s5.1.length : Int)) then (some true)
  else (if 0 < s5.2.1 then (some true)
  else (some (decide (s5.2.2.1 < ((p2.2.2.length : Int))))))) : Option Bool).bind (fun (j11 : Bool) =>
  if j11 = true then (((if s5.2.2.1 < ((p2.2.2.length : Int)) then ((rdo p2.2.2 s5.2.2.1).bind fun (z12 : List (Int × Int)) =>
  some z12)
  else (some (([] : List (Int × Int))))) : Option ((List (Int × Int)))).bind (fun (j12 : (List (Int × Int))) =>
  (level_Most p2.1 s5.2.2.1).bind fun (r28 : Int) =>
  (level_Push j12 r28 s5.1 s5.2.1 p3).bind fun (r29 : (List (Int × Int)) × (List (Int × Int)) × Int) =>
  (y r29.1 s5.2.2.2).bind fun (r30 : Bool × σ) =>
  if ¬ (r30.1 = true) then (some (.inr (.inl r30.2)))
  else (some (.inl ((r29.2.1, r29.2.2, wi64 (s5.2.2.1 + 1), r30.2))))))
  else (some (.inr (.inr s5.2.2.2))))
def hist_Hist_flow_1 {σ : Type} (y : (List (Int × Int)) → σ → Option (Bool × σ)) (p1 : Int) (p2 : Int × Int × List (List (Int × Int))) (p3 : Int) (s0 : σ) : Option σ :=
  ((loopO (hist_Hist_flow_1_s0 y p2 p3) ((([] : List (Int × Int)), p1, (0 : Int), s0))) : Option (σ ⊕ σ)).bind (Sum.elim (fun (d3 : σ) =>
  some d3)
  (fun (d4 : σ) =>
  some d4))

def hist_Add_r0 (x2 : List (Int × Int)) (d5 : List (List (Int × Int))) : Option ((List (List (Int × Int))) ⊕ Empty) :=
  (room (d5.length + ([x2]).length) 24).bind fun _ =>
  some (.inl (d5 ++ ([x2])))
def hist_Add (p1 : Int × Int × List (List (Int × Int))) (p2 : Int) (p3 : Int) : Option (Int × Int × (List (List (Int × Int))) × Int) :=
  (hist_Last p1).bind fun (r4 : Int × Bool) =>
  if p3 = 0 then (some (((0 : Int), (0 : Int), ([] : List (List (Int × Int))), (1 : Int))))
  else (((if 9223372036854775807 < p2 then (some true)
  else (if r4.2 = true then (some (decide (p2 < r4.1)))
  else (some false))) : Option Bool).bind (fun (j3 : Bool) =>
  if j3 = true then (some (((0 : Int), (0 : Int), ([] : List (List (Int × Int))), (6 : Int))))
  else ((hist_Total p1).bind fun (r5 : Int) =>
  if (wu64 (4503599627370496 - r5)) < p3 then (some (((0 : Int), (0 : Int), ([] : List (List (Int × Int))), (5 : Int))))
  else ((hist_Hist_flow p1 p2 p3).bind fun (r6 : Unit) =>
  (hist_Hist_flow_1 (yl (hist_Add_r0)) p3 p1 p2 (.inl (([] : List (List (Int × Int)))))).bind fun (j4 : ((List (List (Int × Int))) ⊕ Empty)) =>
  (Sum.elim (fun (d5 : List (List (Int × Int))) =>
  some ((p1.1, p1.2.1, d5, (0 : Int))))
  (fun (q : Empty) => none) j4)))))

def law07_ExpiryShape_s0 (j2 : Int × Int × List (List (Int × Int))) (s5 : Int) : Option (Int ⊕ (Unit ⊕ Unit)) :=
  if s5 < ((j2.2.2.length : Int)) then ((rdo j2.2.2 s5).bind fun (z6 : List (Int × Int)) =>
  if ((z6.length : Int)) < 1 then (some (.inr (.inl (()))))
  else ((ref05_Most j2.1 s5).bind fun (r37 : Int) =>
  if r37 < ((z6.length : Int)) then (some (.inr (.inl (()))))
  else (if ¬ (s5 = (wi64 (((j2.2.2.length : Int)) - 1))) then ((ref05_Least j2.1 s5).bind fun (r38 : Int) =>
  if ((z6.length : Int)) < r38 then (some (.inr (.inl (()))))
  else (some (.inl (wi64 (s5 + 1)))))
  else (some (.inl (wi64 (s5 + 1)))))))
  else (some (.inr (.inr (()))))
def law07_ExpiryShape (p1 : Int) (p2 : List (Int × Int)) (p3 : Int × Int × Int) : Option Bool :=
  (law07_awake).bind fun (r21 : Bool) =>
  (ref06_Made p1 p2).bind fun (r22 : Int × Int × List (List (Int × Int))) =>
  (ref06_Last r22).bind fun (r23 : Int × Bool) =>
  (law07_made r22).bind fun (r24 : Unit) =>
  (expiry_Drop r22 p3.1 p3.2.1).bind fun (r25 : List (List (Int × Int))) =>
  (hist_Add ((r22.1, r22.2.1, r25)) r23.1 p3.2.2).bind fun (r26 : Int × Int × (List (List (Int × Int))) × Int) =>
  ((if r26.2.2.2 = 0 then (some ((r26.1, r26.2.1, r26.2.2.1)))
  else (some ((r22.1, r22.2.1, r25)))) : Option ((Int × Int × List (List (Int × Int))))).bind (fun (j2 : (Int × Int × List (List (Int × Int)))) =>
  ((loopO (law07_ExpiryShape_s0 j2) ((0 : Int))) : Option (Unit ⊕ Unit)).bind (Sum.elim (fun (d3 : Unit) =>
  some false)
  (fun (d4 : Unit) =>
  if r21 = true then ((hist_Total j2).bind fun (r40 : Int) =>
  some (decide (r40 ≤ 4503599627370496)))
  else (some false))))

def hist_New (p1 : Int) : Option (Int × Int) :=
  if p1 < 2 then (some (((0 : Int), (9 : Int))))
  else (if 1024 < p1 then (some (((0 : Int), (9 : Int))))
  else (some ((p1, (0 : Int)))))

def law06_awake : Option Bool :=
  (hist_New ((2 : Int))).bind fun (r10 : Int × Int) =>
  (hist_Add ((r10.1, (0 : Int), ([] : List (List (Int × Int))))) ((5 : Int)) ((4 : Int))).bind fun (r11 : Int × Int × (List (List (Int × Int))) × Int) =>
  (hist_Last ((r11.1, r11.2.1, r11.2.2.1))).bind fun (r12 : Int × Bool) =>
  if r10.2 = 0 then (if r11.2.2.2 = 0 then (if ((r11.2.2.1.length : Int)) = 2 then ((rdo r11.2.2.1 0).bind fun (z7 : List (Int × Int)) =>
  if ((z7.length : Int)) = 2 then ((rdo r11.2.2.1 1).bind fun (z8 : List (Int × Int)) =>
  if ((z8.length : Int)) = 1 then ((hist_Total ((r11.1, r11.2.1, r11.2.2.1))).bind fun (r16 : Int) =>
  if r16 = 4 then (if r12.1 = 5 then (if r12.2 = true then ((hist_Same ((r11.1, r11.2.1, r11.2.2.1)) ((r11.1, r11.2.1, r11.2.2.1))).bind fun (r17 : Bool) =>
  if r17 = true then ((hist_Same ((r11.1, r11.2.1, r11.2.2.1)) ((r10.1, (0 : Int), ([] : List (List (Int × Int)))))).bind fun (r18 : Bool) =>
  some (decide (¬ (r18 = true))))
  else (some false))
  else (some false))
  else (some false))
  else (some false))
  else (some false))
  else (some false))
  else (some false))
  else (some false))
  else (some false)

def law06_same (p1 : Int × Int × List (List (Int × Int))) (p2 : Int × Int × List (List (Int × Int))) : Option Bool :=
  (ref06_Same p1 p2).bind fun (r2 : Bool) =>
  some r2

def law06_played_s0 (p2 : List (Int × Int)) (s5 : Bool × Int × Int × Int × Int × (List (List (Int × Int))) × Int × Int × List (List (Int × Int))) : Option ((Bool × Int × Int × Int × Int × (List (List (Int × Int))) × Int × Int × List (List (Int × Int))) ⊕ ((Bool × Int × Int × (List (List (Int × Int))) × Int × Int × List (List (Int × Int))))) :=
  if s5.2.2.1 < ((p2.length : Int)) then (if s5.2.2.1 < 30 then ((rdo p2 s5.2.2.1).bind fun (z6 : Int × Int) =>
  (hist_Add ((s5.2.2.2.1, s5.2.2.2.2.1, s5.2.2.2.2.2.1)) (wu64 (s5.2.1 + (z6.1.tmod 1000))) z6.2).bind fun (r23 : Int × Int × (List (List (Int × Int))) × Int) =>
  (ref06_Add s5.2.2.2.2.2.2 (wu64 (s5.2.1 + (z6.1.tmod 1000))) z6.2).bind fun (r24 : Int × Int × (List (List (Int × Int))) × Int) =>
  ((if s5.1 = true then (some (decide (r23.2.2.2 = r24.2.2.2)))
  else (some false)) : Option Bool).bind (fun (j6 : Bool) =>
  if r24.2.2.2 = 0 then (if j6 = true then ((law06_same ((r23.1, r23.2.1, r23.2.2.1)) ((r24.1, r24.2.1, r24.2.2.1))).bind fun (r26 : Bool) =>
  some (.inl ((r26, wu64 (s5.2.1 + (z6.1.tmod 1000)), wi64 (s5.2.2.1 + 1), r23.1, r23.2.1, r23.2.2.1, r24.1, r24.2.1, r24.2.2.1))))
  else (some (.inl ((false, wu64 (s5.2.1 + (z6.1.tmod 1000)), wi64 (s5.2.2.1 + 1), r23.1, r23.2.1, r23.2.2.1, r24.1, r24.2.1, r24.2.2.1)))))
  else (some (.inl ((j6, wu64 (s5.2.1 + (z6.1.tmod 1000)), wi64 (s5.2.2.1 + 1), s5.2.2.2.1, s5.2.2.2.2.1, s5.2.2.2.2.2.1, s5.2.2.2.2.2.2.1, s5.2.2.2.2.2.2.2.1, s5.2.2.2.2.2.2.2.2))))))
  else (some (.inr ((s5.1, s5.2.2.2.1, s5.2.2.2.2.1, s5.2.2.2.2.2.1, s5.2.2.2.2.2.2.1, s5.2.2.2.2.2.2.2.1, s5.2.2.2.2.2.2.2.2)))))
  else (some (.inr ((s5.1, s5.2.2.2.1, s5.2.2.2.2.1, s5.2.2.2.2.2.1, s5.2.2.2.2.2.2.1, s5.2.2.2.2.2.2.2.1, s5.2.2.2.2.2.2.2.2))))
def law06_played (p1 : Int) (p2 : List (Int × Int)) : Option (Int × Int × (List (List (Int × Int))) × Int × Int × (List (List (Int × Int))) × Bool) :=
  (hist_New (wi64 (2 + ((max p1 0).tmod 30)))).bind fun (r14 : Int × Int) =>
  ((loopO (law06_played_s0 p2) ((decide (r14.2 = 0), (0 : Int), (0 : Int), r14.1, (0 : Int), ([] : List (List (Int × Int))), wi64 (2 + ((max p1 0).tmod 30)), (0 : Int), ([] : List (List (Int × Int)))))) : Option ((Bool × Int × Int × (List (List (Int × Int))) × Int × Int × List (List (Int × Int))))).bind (fun (x2 : (Bool × Int × Int × (List (List (Int × Int))) × Int × Int × List (List (Int × Int)))) =>
  some ((x2.2.1, x2.2.2.1, x2.2.2.2.1, x2.2.2.2.2.1, x2.2.2.2.2.2.1, x2.2.2.2.2.2.2, x2.1)))

def law06_HistPlays (p1 : Int) (p2 : List (Int × Int)) : Option Bool :=
  (law06_awake).bind fun (r17 : Bool) =>
  (law06_played p1 p2).bind fun (r18 : Int × Int × (List (List (Int × Int))) × Int × Int × (List (List (Int × Int))) × Bool) =>
  (hist_Last ((r18.1, r18.2.1, r18.2.2.1))).bind fun (r19 : Int × Bool) =>
  (ref06_Last ((r18.2.2.2.1, r18.2.2.2.2.1, r18.2.2.2.2.2.1))).bind fun (r20 : Int × Bool) =>
  if r17 = true then (if r18.2.2.2.2.2.2 = true then ((law06_same ((r18.1, r18.2.1, r18.2.2.1)) ((r18.2.2.2.1, r18.2.2.2.2.1, r18.2.2.2.2.2.1))).bind fun (r30 : Bool) =>
  if r30 = true then ((hist_Total ((r18.1, r18.2.1, r18.2.2.1))).bind fun (r31 : Int) =>
  (ref06_Total ((r18.2.2.2.1, r18.2.2.2.2.1, r18.2.2.2.2.2.1))).bind fun (r32 : Int) =>
  if r31 = r32 then (if r19.1 = r20.1 then (some (decide (r19.2 = r20.2)))
  else (some false))
  else (some false))
  else (some false))
  else (some false))
  else (some false)

def law06_HistRefuses (p1 : Int) (p2 : List (Int × Int)) (p3 : Int × Int) : Option Bool :=
  (law06_awake).bind fun (r13 : Bool) =>
  (law06_played p1 p2).bind fun (r14 : Int × Int × (List (List (Int × Int))) × Int × Int × (List (List (Int × Int))) × Bool) =>
  (hist_Add ((r14.1, r14.2.1, r14.2.2.1)) p3.1 p3.2).bind fun (r15 : Int × Int × (List (List (Int × Int))) × Int) =>
  (ref06_Add ((r14.2.2.2.1, r14.2.2.2.2.1, r14.2.2.2.2.2.1)) p3.1 p3.2).bind fun (r16 : Int × Int × (List (List (Int × Int))) × Int) =>
  (hist_New p1).bind fun (r17 : Int × Int) =>
  (ref06_May p1).bind fun (r18 : Bool) =>
  if r13 = true then (if r14.2.2.2.2.2.2 = true then (if r15.2.2.2 = r16.2.2.2 then ((law06_same ((r15.1, r15.2.1, r15.2.2.1)) ((r16.1, r16.2.1, r16.2.2.1))).bind fun (r22 : Bool) =>
  if r22 = true then ((law06_same ((r14.1, r14.2.1, r14.2.2.1)) ((r14.2.2.2.1, r14.2.2.2.2.1, r14.2.2.2.2.2.1))).bind fun (r23 : Bool) =>
  if r23 = true then (if (decide (r17.2 = 0)) = r18 then (if (decide (r17.2 = 9)) = (decide (¬ (r18 = true))) then ((law06_same ((r17.1, (0 : Int), ([] : List (List (Int × Int))))) ((r17.1, (0 : Int), ([] : List (List (Int × Int)))))).bind fun (r24 : Bool) =>
  if r24 = true then (if r17.1 = p1 then (some true)
  else (if ¬ (r18 = true) then (some (decide (r17.1 = 0)))
  else (some false)))
  else (some false))
  else (some false))
  else (some false))
  else (some false))
  else (some false))
  else (some false))
  else (some false))
  else (some false)

def ref06_Unit_s0 (p1 : Int × Int × List (List (Int × Int))) (s5 : (List (Int × Int)) × Int × List (List (Int × Int))) : Option (((List (Int × Int)) × Int × List (List (Int × Int))) ⊕ ((List (List (Int × Int))))) :=
  ((if 0 < ((s5.1.length : Int)) then (some true)
  else (some (decide (s5.2.1 < ((p1.2.2.length : Int)))))) : Option Bool).bind (fun (j4 : Bool) =>
  if j4 = true then ((ref06_at p1 s5.2.1).bind fun (r26 : List (Int × Int)) =>
  if 0 < ((s5.1.length : Int)) then ((rdo s5.1 0).bind fun (z12 : Int × Int) =>
  (ref05_Most p1.1 s5.2.1).bind fun (r29 : Int) =>
  (ref05_One r26 r29 z12).bind fun (r30 : (List (Int × Int)) × List (Int × Int)) =>
  (room (s5.2.2.length + ([r30.1]).length) 24).bind fun _ =>
  some (.inl ((r30.2, wi64 (s5.2.1 + 1), s5.2.2 ++ ([r30.1])))))
  else ((room (s5.2.2.length + ([r26]).length) 24).bind fun _ =>
  some (.inl ((s5.1, wi64 (s5.2.1 + 1), s5.2.2 ++ ([r26]))))))
  else (some (.inr s5.2.2)))
def ref06_Unit (p1 : Int × Int × List (List (Int × Int))) (p2 : Int) : Option (List (List (Int × Int))) :=
  ((loopO (ref06_Unit_s0 p1) (([(p2, p2)], (0 : Int), ([] : List (List (Int × Int)))))) : Option ((List (List (Int × Int))))).bind (fun (x2 : (List (List (Int × Int)))) =>
  some x2)

def law06_HistUnits_s0 (p3 : Int × Int) (r14 : Int × Bool) (s5 : Int × Int × Int × List (List (Int × Int))) : Option ((Int × Int × Int × List (List (Int × Int))) ⊕ ((Int × Int × List (List (Int × Int))))) :=
  if s5.1 < (wu64 ((p3.2.tmod 60) + 1)) then ((ref06_Unit s5.2 (wu64 (r14.1 + (p3.1.tmod 1000)))).bind fun (r20 : List (List (Int × Int))) =>
  some (.inl ((wu64 (s5.1 + 1), s5.2.1, s5.2.2.1, r20))))
  else (some (.inr ((s5.2.1, s5.2.2.1, s5.2.2.2))))
def law06_HistUnits (p1 : Int) (p2 : List (Int × Int)) (p3 : Int × Int) : Option Bool :=
  (law06_awake).bind fun (r12 : Bool) =>
  (law06_played p1 p2).bind fun (r13 : Int × Int × (List (List (Int × Int))) × Int × Int × (List (List (Int × Int))) × Bool) =>
  (ref06_Last ((r13.2.2.2.1, r13.2.2.2.2.1, r13.2.2.2.2.2.1))).bind fun (r14 : Int × Bool) =>
  (hist_Add ((r13.1, r13.2.1, r13.2.2.1)) (wu64 (r14.1 + (p3.1.tmod 1000))) (wu64 ((p3.2.tmod 60) + 1))).bind fun (r15 : Int × Int × (List (List (Int × Int))) × Int) =>
  if ¬ r15.2.2.2 = 0 then (if r12 = true then (if r13.2.2.2.2.2.2 = true then ((ref06_Total ((r13.2.2.2.1, r13.2.2.2.2.1, r13.2.2.2.2.2.1))).bind fun (r17 : Int) =>
  some (decide (4503599627370496 < (wu64 (r17 + (wu64 ((p3.2.tmod 60) + 1)))))))
  else (some false))
  else (some false))
  else (((loopO (law06_HistUnits_s0 p3 r14) (((0 : Int), r13.2.2.2.1, r13.2.2.2.2.1, r13.2.2.2.2.2.1))) : Option ((Int × Int × List (List (Int × Int))))).bind (fun (x2 : (Int × Int × List (List (Int × Int)))) =>
  if r12 = true then (if r13.2.2.2.2.2.2 = true then ((law06_same ((r15.1, r15.2.1, r15.2.2.1)) x2).bind fun (r22 : Bool) =>
  some r22)
  else (some false))
  else (some false)))

def law06_HistSums_s0 (p2 : List (Int × Int)) (s5 : Int × Int × Int × Int × List (List (Int × Int))) : Option ((Int × Int × Int × Int × List (List (Int × Int))) ⊕ ((Int × Int × Int × List (List (Int × Int))))) :=
  if s5.2.1 < ((p2.length : Int)) then (if s5.2.1 < 30 then ((rdo p2 s5.2.1).bind fun (z12 : Int × Int) =>
  (hist_Add s5.2.2 ((7 : Int)) z12.2).bind fun (r12 : Int × Int × (List (List (Int × Int))) × Int) =>
  if r12.2.2.2 = 0 then (some (.inl ((wu64 (s5.1 + z12.2), wi64 (s5.2.1 + 1), r12.1, r12.2.1, r12.2.2.1))))
  else (some (.inl ((s5.1, wi64 (s5.2.1 + 1), s5.2.2.1, s5.2.2.2.1, s5.2.2.2.2)))))
  else (some (.inr ((s5.1, s5.2.2.1, s5.2.2.2.1, s5.2.2.2.2)))))
  else (some (.inr ((s5.1, s5.2.2.1, s5.2.2.2.1, s5.2.2.2.2))))
def law06_HistSums (p1 : Int) (p2 : List (Int × Int)) : Option Bool :=
  (law06_awake).bind fun (r8 : Bool) =>
  (hist_New (wi64 (2 + ((max p1 0).tmod 30)))).bind fun (r9 : Int × Int) =>
  ((loopO (law06_HistSums_s0 p2) (((0 : Int), (0 : Int), r9.1, (0 : Int), ([] : List (List (Int × Int)))))) : Option ((Int × Int × Int × List (List (Int × Int))))).bind (fun (x2 : (Int × Int × Int × List (List (Int × Int)))) =>
  if r8 = true then ((hist_Total x2.2).bind fun (r14 : Int) =>
  if r14 = x2.1 then (some (decide (x2.1 ≤ 4503599627370496)))
  else (some false))
  else (some false))

def law06_HistShape_s1 (s17 : Int × Int) (z21 : List (Int × Int)) (s23 : Int × Int) : Option ((Int × Int) ⊕ (Unit ⊕ Int)) :=
  if s23.2 < ((z21.length : Int)) then ((rdo z21 s23.2).bind fun (z24 : Int × Int) =>
  if z24.1 < s23.1 then (some (.inr (.inl (()))))
  else (if z24.2 < z24.1 then (some (.inr (.inl (()))))
  else (if s17.2 = 0 then (if ¬ z24.1 = z24.2 then (some (.inr (.inl (()))))
  else (some (.inl ((z24.2, wi64 (s23.2 + 1))))))
  else (some (.inl ((z24.2, wi64 (s23.2 + 1))))))))
  else (some (.inr (.inr s23.1)))
def law06_HistShape_s0 (r22 : Int × Int × (List (List (Int × Int))) × Int × Int × (List (List (Int × Int))) × Bool) (s17 : Int × Int) : Option ((Int × Int) ⊕ (Unit ⊕ Unit)) :=
  if 0 ≤ s17.2 then ((rdo r22.2.2.1 s17.2).bind fun (z21 : List (Int × Int)) =>
  ((if ((z21.length : Int)) < 1 then (some true)
  else ((ref05_Most r22.1 s17.2).bind fun (r39 : Int) =>
  if r39 < ((z21.length : Int)) then (some true)
  else (if ¬ (s17.2 = (wi64 (((r22.2.2.1.length : Int)) - 1))) then ((ref05_Least r22.1 s17.2).bind fun (r40 : Int) =>
  some (decide (((z21.length : Int)) < r40)))
  else (some false)))) : Option Bool).bind (fun (j6 : Bool) =>
  if j6 = true then (some (.inr (.inl (()))))
  else (((loopO (law06_HistShape_s1 s17 z21) ((s17.1, (0 : Int)))) : Option (Unit ⊕ Int)).bind (Sum.elim (fun (d15 : Unit) =>
  some (.inr (.inl (()))))
  (fun (d16 : Int) =>
  some (.inl ((d16, wi64 (s17.2 - 1)))))))))
  else (some (.inr (.inr (()))))
def law06_HistShape (p1 : Int) (p2 : List (Int × Int)) : Option Bool :=
  (law06_awake).bind fun (r21 : Bool) =>
  (law06_played p1 p2).bind fun (r22 : Int × Int × (List (List (Int × Int))) × Int × Int × (List (List (Int × Int))) × Bool) =>
  ((loopO (law06_HistShape_s0 r22) (((0 : Int), wi64 (((r22.2.2.1.length : Int)) - 1)))) : Option (Unit ⊕ Unit)).bind (Sum.elim (fun (d13 : Unit) =>
  some false)
  (fun (d14 : Unit) =>
  if r21 = true then (some r22.2.2.2.2.2.2)
  else (some false)))

def law06_made (p1 : Int × Int × List (List (Int × Int))) : Option Unit :=
  some (())

def law06_HistSame (p1 : Int × Int) (p2 : List (Int × Int)) (p3 : List (Int × Int)) : Option Bool :=
  (law06_awake).bind fun (r32 : Bool) =>
  (ref06_Made p1.1 p2).bind fun (r33 : Int × Int × List (List (Int × Int))) =>
  (ref06_Made p1.2 p3).bind fun (r34 : Int × Int × List (List (Int × Int))) =>
  if r32 = true then ((law06_made r33).bind fun (r56 : Unit) =>
  (law06_made r34).bind fun (r57 : Unit) =>
  (hist_Same r33 r34).bind fun (r58 : Bool) =>
  (ref06_Same r33 r34).bind fun (r59 : Bool) =>
  if r58 = r59 then ((law06_made ((r33.1, wi64 (r33.2.1 + 1), r33.2.2))).bind fun (r60 : Unit) =>
  (hist_Same r33 (((r33.1, wi64 (r33.2.1 + 1), r33.2.2)))).bind fun (r61 : Bool) =>
  if ¬ (r61 = true) then ((hist_Same (((r33.1, wi64 (r33.2.1 + 1), r33.2.2))) (((r33.1, wi64 (r33.2.1 + 1), r33.2.2)))).bind fun (r62 : Bool) =>
  some r62)
  else (some false))
  else (some false))
  else (some false)

end
end Go.Proofs.Ytbnjjpmlaknaoaa.Pu
