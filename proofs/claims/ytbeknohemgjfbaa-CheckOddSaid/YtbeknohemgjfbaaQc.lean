/- The plain functions that the walked code computes. Printed by gen.py. -/
import Derived.Test.YtbeknohemgjfbaaP1
namespace Go.Proofs.Ytbeknohemgjfbaa.Pu
set_option linter.unusedVariables false
noncomputable section

def bs0 : ByteArray := ⟨#[0, 1, 2, 2, 3, 3, 3, 3, 4, 4, 4, 4, 4, 4, 4, 4, 5, 5, 5, 5, 5, 5, 5, 5, 5, 5, 5, 5, 5, 5, 5, 5, 6, 6, 6, 6, 6, 6, 6, 6, 6, 6, 6, 6, 6, 6, 6, 6, 6, 6, 6, 6, 6, 6, 6, 6, 6, 6, 6, 6, 6, 6, 6, 6, 7, 7, 7, 7, 7, 7, 7, 7, 7, 7, 7, 7, 7, 7, 7, 7, 7, 7, 7, 7, 7, 7, 7, 7, 7, 7, 7, 7, 7, 7, 7, 7, 7, 7, 7, 7, 7, 7, 7, 7, 7, 7, 7, 7, 7, 7, 7, 7, 7, 7, 7, 7, 7, 7, 7, 7, 7, 7, 7, 7, 7, 7, 7, 7, 8, 8, 8, 8, 8, 8, 8, 8, 8, 8, 8, 8, 8, 8, 8, 8, 8, 8, 8, 8, 8, 8, 8, 8, 8, 8, 8, 8, 8, 8, 8, 8, 8, 8, 8, 8, 8, 8, 8, 8, 8, 8, 8, 8, 8, 8, 8, 8, 8, 8, 8, 8, 8, 8, 8, 8, 8, 8, 8, 8, 8, 8, 8, 8, 8, 8, 8, 8, 8, 8, 8, 8, 8, 8, 8, 8, 8, 8, 8, 8, 8, 8, 8, 8, 8, 8, 8, 8, 8, 8, 8, 8, 8, 8, 8, 8, 8, 8, 8, 8, 8, 8, 8, 8, 8, 8, 8, 8, 8, 8, 8, 8, 8, 8, 8, 8, 8, 8, 8, 8, 8, 8, 8, 8, 8, 8, 8, 8]⟩

def ref06_Last (p1 : Int × Int × List (List (Int × Int))) : Option (Int × Bool) :=
  if ((p1.2.2.length : Int)) = 0 then (some (((0 : Int), false)))
  else ((rdo p1.2.2 0).bind fun (z5 : List (Int × Int)) =>
  if ((z5.length : Int)) = 0 then (some (((0 : Int), false)))
  else ((rdo z5 (wi64 (((z5.length : Int)) - 1))).bind fun (z6 : Int × Int) =>
  some ((z6.2, true))))

def ref06_Total_s0 (p1 : Int × Int × List (List (Int × Int))) (s5 : Int × Int) : Option ((Int × Int) ⊕ Int) :=
  if s5.2 < ((p1.2.2.length : Int)) then ((rdo p1.2.2 s5.2).bind fun (z6 : List (Int × Int)) =>
  (must (0 ≤ s5.2)).bind fun _ =>
  some (.inl ((wu64 (s5.1 + (wu64 (shlk 64 (wu64 ((z6.length : Int))) s5.2))), wi64 (s5.2 + 1)))))
  else (some (.inr s5.1))
def ref06_Total (p1 : Int × Int × List (List (Int × Int))) : Option Int :=
  ((loopO (ref06_Total_s0 p1) (((0 : Int), (0 : Int)))) : Option Int).bind (fun (x2 : Int) =>
  some x2)

def ref06_at (p1 : Int × Int × List (List (Int × Int))) (p2 : Int) : Option (List (Int × Int)) :=
  if ((p1.2.2.length : Int)) ≤ p2 then (some (([] : List (Int × Int))))
  else ((rdo p1.2.2 p2).bind fun (z2 : List (Int × Int)) =>
  some z2)

def ref05_Most (p1 : Int) (p2 : Int) : Option Int :=
  if p2 = 0 then (some (wi64 ((max p1 0) + 1)))
  else (some (wi64 ((wi64 ((wi64 ((max p1 0).tdiv 2)) + ((max p1 0).tmod 2))) + 1)))

def ref05_Push_s0 (p1 : List (Int × Int)) (p3 : List (Int × Int)) (p5 : Int) (j2 : Int) (s8 : (List (Int × Int)) × Int) : Option (((List (Int × Int)) × Int) ⊕ (((List (Int × Int)) × Int))) :=
  if s8.2 < j2 then (if (wu64 (2 * s8.2)) < (wu64 (((p1 ++ p3).length : Int))) then ((rdo (p1 ++ p3) (wu64 (2 * s8.2))).bind fun (z14 : Int × Int) =>
  if (wu64 ((wu64 (2 * s8.2)) + 1)) < (wu64 (((p1 ++ p3).length : Int))) then ((rdo (p1 ++ p3) (wu64 ((wu64 (2 * s8.2)) + 1))).bind fun (z15 : Int × Int) =>
  (room (s8.1.length + ([(z14.1, z15.2)]).length) 16).bind fun _ =>
  some (.inl ((s8.1 ++ ([(z14.1, z15.2)]), wu64 (s8.2 + 1)))))
  else ((room (s8.1.length + ([(z14.1, p5)]).length) 16).bind fun _ =>
  some (.inl ((s8.1 ++ ([(z14.1, p5)]), wu64 (s8.2 + 1))))))
  else (some (.inr ((s8.1, s8.2)))))
  else (some (.inr ((s8.1, s8.2))))
def ref05_Push_s1 (p1 : List (Int × Int)) (p3 : List (Int × Int)) (p4 : Int) (p5 : Int) (s11 : (List (Int × Int)) × Int) : Option (((List (Int × Int)) × Int) ⊕ ((List (Int × Int)))) :=
  if s11.2 < (wu64 ((wu64 (((p1 ++ p3).length : Int))) + p4)) then (if s11.2 < (wu64 (((p1 ++ p3).length : Int))) then ((rdo (p1 ++ p3) s11.2).bind fun (z18 : Int × Int) =>
  (room (s11.1.length + ([z18]).length) 16).bind fun _ =>
  some (.inl ((s11.1 ++ ([z18]), wu64 (s11.2 + 1)))))
  else ((room (s11.1.length + ([(p5, p5)]).length) 16).bind fun _ =>
  some (.inl ((s11.1 ++ ([(p5, p5)]), wu64 (s11.2 + 1))))))
  else (some (.inr s11.1))
def ref05_Push (p1 : List (Int × Int)) (p2 : Int) (p3 : List (Int × Int)) (p4 : Int) (p5 : Int) : Option ((List (Int × Int)) × (List (Int × Int)) × Int) :=
  (room ((([] : List (Int × Int))).length + p1.length) 16).bind fun _ =>
  (room (p1.length + p3.length) 16).bind fun _ =>
  ((if (wu64 (max p2 1)) < (wu64 ((wu64 (((p1 ++ p3).length : Int))) + p4)) then (some (wu64 ((wu64 ((wu64 ((wu64 ((wu64 (((p1 ++ p3).length : Int))) + p4)) - (wu64 (max p2 1)))) + 1)).tdiv 2)))
  else (some ((0 : Int)))) : Option Int).bind (fun (j2 : Int) =>
  ((loopO (ref05_Push_s0 p1 p3 p5 j2) ((([] : List (Int × Int)), (0 : Int)))) : Option (((List (Int × Int)) × Int))).bind (fun (x3 : ((List (Int × Int)) × Int)) =>
  ((loopO (ref05_Push_s1 p1 p3 p4 p5) ((([] : List (Int × Int)), wu64 (2 * j2)))) : Option ((List (Int × Int)))).bind (fun (x4 : (List (Int × Int))) =>
  some ((x4, x3.1, wu64 (j2 - x3.2))))))

def ref06_Add_s0 (p1 : Int × Int × List (List (Int × Int))) (p2 : Int) (s5 : (List (Int × Int)) × Int × Int × List (List (Int × Int))) : Option (((List (Int × Int)) × Int × Int × List (List (Int × Int))) ⊕ ((List (List (Int × Int))))) :=
  ((if 0 < ((s5.1.length : Int)) then (some true)
  else (if 0 < s5.2.1 then (some true)
  else (some (decide (s5.2.2.1 < ((p1.2.2.length : Int))))))) : Option Bool).bind (fun (j8 : Bool) =>
  if j8 = true then ((ref06_at p1 s5.2.2.1).bind fun (r40 : List (Int × Int)) =>
  (ref05_Most p1.1 s5.2.2.1).bind fun (r41 : Int) =>
  (ref05_Push r40 r41 s5.1 s5.2.1 p2).bind fun (r42 : (List (Int × Int)) × (List (Int × Int)) × Int) =>
  (room (s5.2.2.2.length + ([r42.1]).length) 24).bind fun _ =>
  some (.inl ((r42.2.1, r42.2.2, wi64 (s5.2.2.1 + 1), s5.2.2.2 ++ ([r42.1])))))
  else (some (.inr s5.2.2.2)))
def ref06_Add (p1 : Int × Int × List (List (Int × Int))) (p2 : Int) (p3 : Int) : Option (Int × Int × (List (List (Int × Int))) × Int) :=
  if p3 = 0 then (some (((0 : Int), (0 : Int), ([] : List (List (Int × Int))), (1 : Int))))
  else ((ref06_Last p1).bind fun (r22 : Int × Bool) =>
  ((if 9223372036854775807 < p2 then (some true)
  else (if r22.2 = true then (some (decide (p2 < r22.1)))
  else (some false))) : Option Bool).bind (fun (j5 : Bool) =>
  if j5 = true then (some (((0 : Int), (0 : Int), ([] : List (List (Int × Int))), (6 : Int))))
  else (if 4503599627370496 < p3 then (some (((0 : Int), (0 : Int), ([] : List (List (Int × Int))), (5 : Int))))
  else ((ref06_Total p1).bind fun (r24 : Int) =>
  if 4503599627370496 < (wu64 (p3 + r24)) then (some (((0 : Int), (0 : Int), ([] : List (List (Int × Int))), (5 : Int))))
  else (((loopO (ref06_Add_s0 p1 p2) ((([] : List (Int × Int)), p3, (0 : Int), ([] : List (List (Int × Int)))))) : Option ((List (List (Int × Int))))).bind (fun (x2 : (List (List (Int × Int)))) =>
  some ((p1.1, p1.2.1, x2, (0 : Int)))))))))

def ref06_Made_s0 (p2 : List (Int × Int)) (s5 : Int × Int × Int × Int × List (List (Int × Int))) : Option ((Int × Int × Int × Int × List (List (Int × Int))) ⊕ ((Int × Int × List (List (Int × Int))))) :=
  if s5.2.1 < ((p2.length : Int)) then (if s5.2.1 < 30 then ((rdo p2 s5.2.1).bind fun (z6 : Int × Int) =>
  (ref06_Add s5.2.2 (wu64 (s5.1 + (z6.1.tmod 1000))) z6.2).bind fun (r6 : Int × Int × (List (List (Int × Int))) × Int) =>
  if r6.2.2.2 = 0 then (some (.inl ((wu64 (s5.1 + (z6.1.tmod 1000)), wi64 (s5.2.1 + 1), r6.1, r6.2.1, r6.2.2.1))))
  else (some (.inl ((wu64 (s5.1 + (z6.1.tmod 1000)), wi64 (s5.2.1 + 1), s5.2.2.1, s5.2.2.2.1, s5.2.2.2.2)))))
  else (some (.inr ((s5.2.2.1, s5.2.2.2.1, s5.2.2.2.2)))))
  else (some (.inr ((s5.2.2.1, s5.2.2.2.1, s5.2.2.2.2))))
def ref06_Made (p1 : Int) (p2 : List (Int × Int)) : Option (Int × Int × List (List (Int × Int))) :=
  ((loopO (ref06_Made_s0 p2) (((0 : Int), (0 : Int), wi64 (2 + ((max p1 0).tmod 30)), (0 : Int), ([] : List (List (Int × Int)))))) : Option ((Int × Int × List (List (Int × Int))))).bind (fun (x2 : (Int × Int × List (List (Int × Int)))) =>
  some ((x2.1, x2.2.1, x2.2.2)))

def law09_made (p1 : Int × Int × List (List (Int × Int))) : Option Unit :=
  some (())

def check_conf (p1 : Int) (p2 : Int) : Option Bool :=
  if 2 ≤ p1 then (if p1 ≤ 1024 then (if 0 ≤ p2 then (some (decide (p2 ≤ 4)))
  else (some false))
  else (some false))
  else (some false)

def level_Most (p1 : Int) (p2 : Int) : Option Int :=
  if p2 = 0 then (some (wi64 ((max p1 0) + 1)))
  else (some (wi64 ((wi64 ((wi64 ((max p1 0) + 1)).tdiv 2)) + 1)))

def level_Least (p1 : Int) (p2 : Int) : Option Int :=
  (level_Most p1 p2).bind fun (r2 : Int) =>
  some (wi64 (r2 - 1))

def check_shaped_s0 (p1 : Int × Int × List (List (Int × Int))) (s5 : Int) : Option (Int ⊕ (Unit ⊕ Unit)) :=
  if s5 < ((p1.2.2.length : Int)) then ((rdo p1.2.2 s5).bind fun (z6 : List (Int × Int)) =>
  (level_Least p1.1 s5).bind fun (r16 : Int) =>
  ((if s5 = (wi64 (((p1.2.2.length : Int)) - 1)) then (some ((1 : Int)))
  else (some r16)) : Option Int).bind (fun (j6 : Int) =>
  if ((z6.length : Int)) < (max j6 1) then (some (.inr (.inl (()))))
  else ((level_Most p1.1 s5).bind fun (r18 : Int) =>
  if r18 < ((z6.length : Int)) then (some (.inr (.inl (()))))
  else (some (.inl (wi64 (s5 + 1)))))))
  else (some (.inr (.inr (()))))
def check_shaped (p1 : Int × Int × List (List (Int × Int))) : Option Bool :=
  ((loopO (check_shaped_s0 p1) ((0 : Int))) : Option (Unit ⊕ Unit)).bind (Sum.elim (fun (d3 : Unit) =>
  some false)
  (fun (d4 : Unit) =>
  some (decide (((p1.2.2.length : Int)) ≤ 52))))

def check_walk_step (p1 : Int × Bool) (p2 : Int × Int) (p3 : Bool) : Option Bool :=
  ((if p2.2 < p2.1 then (some true)
  else (if p2.1 < p1.1 then (some true)
  else (if 9223372036854775807 < p2.2 then (some true)
  else (if p3 = true then (some (decide (¬ p2.1 = p2.2)))
  else (some false))))) : Option Bool).bind (fun (j2 : Bool) =>
  if p1.2 = true then (some (decide (¬ (j2 = true))))
  else (some false))

def check_turned_s1 (s17 : Int × Int × Bool) (z21 : List (Int × Int)) (s23 : Int × Int × Bool) : Option ((Int × Int × Bool) ⊕ ((Int × Bool))) :=
  if s23.1 < ((z21.length : Int)) then ((rdo z21 s23.1).bind fun (z24 : Int × Int) =>
  (check_walk_step s23.2 z24 (decide (s17.1 = 0))).bind fun (r18 : Bool) =>
  some (.inl ((wi64 (s23.1 + 1), z24.2, r18))))
  else (some (.inr ((s23.2.1, s23.2.2))))
def check_turned_s0 (p1 : Int × Int × List (List (Int × Int))) (s17 : Int × Int × Bool) : Option ((Int × Int × Bool) ⊕ ((Int × Bool))) :=
  if 0 ≤ s17.1 then ((rdo p1.2.2 s17.1).bind fun (z21 : List (Int × Int)) =>
  ((loopO (check_turned_s1 s17 z21) (((0 : Int), s17.2.1, s17.2.2))) : Option ((Int × Bool))).bind (fun (x8 : (Int × Bool)) =>
  some (.inl ((wi64 (s17.1 - 1), x8.1, x8.2)))))
  else (some (.inr ((s17.2.1, s17.2.2))))
def check_turned (p1 : Int × Int × List (List (Int × Int))) : Option Bool :=
  ((loopO (check_turned_s0 p1) ((wi64 (((p1.2.2.length : Int)) - 1), (0 : Int), true))) : Option ((Int × Bool))).bind (fun (x7 : (Int × Bool)) =>
  some x7.2)

def hist_Total_s0 (p1 : Int × Int × List (List (Int × Int))) (s5 : Int × Int) : Option ((Int × Int) ⊕ Int) :=
  if s5.2 < ((p1.2.2.length : Int)) then ((rdo p1.2.2 s5.2).bind fun (z6 : List (Int × Int)) =>
  (must (0 ≤ s5.2)).bind fun _ =>
  some (.inl ((wu64 (s5.1 + (wu64 (shlk 64 (wu64 ((z6.length : Int))) s5.2))), wi64 (s5.2 + 1)))))
  else (some (.inr s5.1))
def hist_Total (p1 : Int × Int × List (List (Int × Int))) : Option Int :=
  ((loopO (hist_Total_s0 p1) (((0 : Int), (0 : Int)))) : Option Int).bind (fun (x2 : Int) =>
  some x2)

def check_light (p1 : Int × Int × List (List (Int × Int))) : Option Bool :=
  (hist_Total p1).bind fun (r2 : Int) =>
  some (decide (r2 ≤ 4503599627370496))

def check_Hist (p1 : Int × Int × List (List (Int × Int))) : Option Int :=
  (check_conf p1.1 p1.2.1).bind fun (r5 : Bool) =>
  if ¬ (r5 = true) then (some ((9 : Int)))
  else ((check_shaped p1).bind fun (r6 : Bool) =>
  if ¬ (r6 = true) then (some ((2 : Int)))
  else ((check_turned p1).bind fun (r7 : Bool) =>
  if ¬ (r7 = true) then (some ((2 : Int)))
  else ((check_light p1).bind fun (r8 : Bool) =>
  if ¬ (r8 = true) then (some ((2 : Int)))
  else (some ((0 : Int))))))

def check_Buckets_s0 (p1 : Int × Int × List (List (Int × Int))) (s5 : Int × Int) : Option ((Int × Int) ⊕ Int) :=
  if s5.2 < ((p1.2.2.length : Int)) then ((rdo p1.2.2 s5.2).bind fun (z6 : List (Int × Int)) =>
  some (.inl ((wi64 (s5.1 + ((z6.length : Int))), wi64 (s5.2 + 1)))))
  else (some (.inr s5.1))
def check_Buckets (p1 : Int × Int × List (List (Int × Int))) : Option Int :=
  ((loopO (check_Buckets_s0 p1) (((0 : Int), (0 : Int)))) : Option Int).bind (fun (x2 : Int) =>
  some x2)

def bits_Len64 (p1 : Int) : Option Int :=
  ((if 4294967296 ≤ p1 then (some ((shrk 64 p1 32, (32 : Int))))
  else (some ((p1, (0 : Int))))) : Option ((Int × Int))).bind (fun (j3 : (Int × Int)) =>
  ((if 65536 ≤ j3.1 then (some ((shrk 64 j3.1 16, wi64 (j3.2 + 16))))
  else (some ((j3.1, j3.2)))) : Option ((Int × Int))).bind (fun (j4 : (Int × Int)) =>
  if 256 ≤ j4.1 then ((rdb bs0 (wu8 (shrk 64 j4.1 8))).bind fun (z3 : Int) =>
  some (wi64 ((wi64 (j4.2 + 8)) + (wi64 z3))))
  else ((rdb bs0 (wu8 j4.1)).bind fun (z4 : Int) =>
  some (wi64 (j4.2 + (wi64 z4))))))

def check_Bound (p1 : Int) (p2 : Int) (p3 : Int) : Option Int :=
  if p3 = 0 then (some ((0 : Int)))
  else ((check_conf p1 p2).bind fun (r5 : Bool) =>
  if ¬ (r5 = true) then (some ((0 : Int)))
  else ((bits_Len64 p3).bind fun (r6 : Int) =>
  some (wi64 ((wi64 (p1 + 1)) * (wi64 (r6 + p2))))))

def law09_awake : Option Bool :=
  (ref06_Made ((0 : Int)) ([((1 : Int), (4 : Int))])).bind fun (r13 : Int × Int × List (List (Int × Int))) =>
  (law09_made r13).bind fun (r14 : Unit) =>
  (check_Hist r13).bind fun (r20 : Int) =>
  if r20 = 0 then ((check_Hist ((r13.1, (5 : Int), r13.2.2))).bind fun (r21 : Int) =>
  if r21 = 9 then ((check_Buckets r13).bind fun (r22 : Int) =>
  if r22 = 3 then ((check_Bound ((2 : Int)) ((0 : Int)) ((4 : Int))).bind fun (r23 : Int) =>
  if r23 = 9 then ((check_Hist (((2 : Int), (0 : Int), [[((1 : Int), (2 : Int))]]))).bind fun (r24 : Int) =>
  some (decide (r24 = 2)))
  else (some false))
  else (some false))
  else (some false))
  else (some false)

def law09_copied_s0 (p1 : Int × Int × List (List (Int × Int))) (s5 : Int × List (List (Int × Int))) : Option ((Int × List (List (Int × Int))) ⊕ ((List (List (Int × Int))))) :=
  if s5.1 < ((p1.2.2.length : Int)) then ((rdo p1.2.2 s5.1).bind fun (z12 : List (Int × Int)) =>
  (room ((([] : List (Int × Int))).length + z12.length) 16).bind fun _ =>
  (room (s5.2.length + ([z12]).length) 24).bind fun _ =>
  some (.inl ((wi64 (s5.1 + 1), s5.2 ++ ([z12])))))
  else (some (.inr s5.2))
def law09_copied (p1 : Int × Int × List (List (Int × Int))) : Option (List (List (Int × Int))) :=
  ((loopO (law09_copied_s0 p1) (((0 : Int), ([] : List (List (Int × Int)))))) : Option ((List (List (Int × Int))))).bind (fun (x2 : (List (List (Int × Int)))) =>
  some x2)

def law09_CheckOdd (p1 : Int) (p2 : List (Int × Int)) (p3 : Int) : Option Bool :=
  (law09_awake).bind fun (r20 : Bool) =>
  (ref06_Made p1 p2).bind fun (r21 : Int × Int × List (List (Int × Int))) =>
  if ((r21.2.2.length : Int)) = 0 then (some r20)
  else ((must (((r21.2.2.length : Int)) ≠ 0)).bind fun _ =>
  (rdo r21.2.2 ((wi64 p3).tmod ((r21.2.2.length : Int)))).bind fun (z11 : List (Int × Int)) =>
  (rdo z11 0).bind fun (z12 : Int × Int) =>
  (law09_copied r21).bind fun (r22 : List (List (Int × Int))) =>
  (rdo r22 ((wi64 p3).tmod ((r21.2.2.length : Int)))).bind fun (z13 : List (Int × Int)) =>
  (rdo z13 0).bind fun (z15 : Int × Int) =>
  (rdo r22 0).bind fun (z16 : List (Int × Int)) =>
  (rdo z16 (wi64 (((z16.length : Int)) - 1))).bind fun (z17 : Int × Int) =>
  (room (r22.length + ([([] : List (Int × Int))]).length) 24).bind fun _ =>
  (rdo r22 (wi64 (((r22.length : Int)) - 1))).bind fun (z19 : List (Int × Int)) =>
  (must (0 ≤ (1 : Int) ∧ (1 : Int) ≤ z19.length)).bind fun _ =>
  (rdo (r22.set (wi64 (((r22.length : Int)) - 1)).toNat (z19.drop (1 : Int).toNat)) (wi64 (((r22.length : Int)) - 1))).bind fun (z20 : List (Int × Int)) =>
  ((if ((z20.length : Int)) = 0 then ((must (0 ≤ (wi64 (((r22.length : Int)) - 1)) ∧ (wi64 (((r22.length : Int)) - 1)) ≤ (r22.set (wi64 (((r22.length : Int)) - 1)).toNat (z19.drop (1 : Int).toNat)).length)).bind fun _ =>
  some ((r22.set (wi64 (((r22.length : Int)) - 1)).toNat (z19.drop (1 : Int).toNat)).take ((wi64 (((r22.length : Int)) - 1)).toNat)))
  else (some (r22.set (wi64 (((r22.length : Int)) - 1)).toNat (z19.drop (1 : Int).toNat)))) : Option ((List (List (Int × Int))))).bind (fun (j2 : (List (List (Int × Int)))) =>
  if r20 = true then ((law09_made ((r21.1, r21.2.1, r22.set ((wi64 p3).tmod ((r21.2.2.length : Int))).toNat (z13.set (0 : Int).toNat ((wu64 (z12.2 + 1), z12.1)))))).bind fun (r31 : Unit) =>
  (check_Hist (((r21.1, r21.2.1, r22.set ((wi64 p3).tmod ((r21.2.2.length : Int))).toNat (z13.set (0 : Int).toNat ((wu64 (z12.2 + 1), z12.1))))))).bind fun (r32 : Int) =>
  if r32 = 2 then ((law09_made ((r21.1, r21.2.1, r22.set (0 : Int).toNat (z16.set (wi64 (((z16.length : Int)) - 1)).toNat (((9223372036854775808 : Int), (9223372036854775808 : Int))))))).bind fun (r33 : Unit) =>
  (check_Hist (((r21.1, r21.2.1, r22.set (0 : Int).toNat (z16.set (wi64 (((z16.length : Int)) - 1)).toNat (((9223372036854775808 : Int), (9223372036854775808 : Int)))))))).bind fun (r34 : Int) =>
  if r34 = 2 then ((law09_made ((r21.1, r21.2.1, r22 ++ ([([] : List (Int × Int))])))).bind fun (r35 : Unit) =>
  (check_Hist (((r21.1, r21.2.1, r22 ++ ([([] : List (Int × Int))]))))).bind fun (r36 : Int) =>
  if r36 = 2 then ((law09_made ((r21.1, r21.2.1, j2))).bind fun (r37 : Unit) =>
  (check_Hist (((r21.1, r21.2.1, j2)))).bind fun (r38 : Int) =>
  some (decide (r38 = 0)))
  else (some false))
  else (some false))
  else (some false))
  else (some false)))

def law11_made (p1 : Int × Int × List (List (Int × Int))) : Option Unit :=
  some (())

def varint_digits (p1 : Int) : Option Unit :=
  some (())

def varint_digits_1_s0 {σ : Type} (y : (Int × Bool) → σ → Option (Bool × σ)) (s5 : Int × σ) : Option ((Int × σ) ⊕ ((Int × σ))) :=
  (y ((wu8 (wu64 (andk 64 s5.1 127)), decide (127 < s5.1))) s5.2).bind fun (r12 : Bool × σ) =>
  if ¬ (r12.1 = true) then (some (.inr ((s5.1, r12.2))))
  else (if ¬ (127 < s5.1) then (some (.inr ((s5.1, r12.2))))
  else (some (.inl ((shrk 64 s5.1 7, r12.2)))))
def varint_digits_1 {σ : Type} (y : (Int × Bool) → σ → Option (Bool × σ)) (p1 : Int) (s0 : σ) : Option (Int × σ) :=
  ((loopO (varint_digits_1_s0 y) ((p1, s0))) : Option ((Int × σ))).bind (fun (x2 : (Int × σ)) =>
  some ((x2.1, x2.2)))

def varint_Put_r0 (x2 : Int × Bool) (d5 : List Int) : Option (List Int ⊕ Empty) :=
  if x2.2 = true then ((room (d5.length + ([wu8 (ork 8 x2.1 128)]).length) 1).bind fun _ =>
  some (.inl (d5 ++ ([wu8 (ork 8 x2.1 128)]))))
  else ((room (d5.length + ([x2.1]).length) 1).bind fun _ =>
  some (.inl (d5 ++ ([x2.1]))))
def varint_Put (p1 : Int) : Option (List Int) :=
  (varint_digits p1).bind fun (r2 : Unit) =>
  (varint_digits_1 (yl (varint_Put_r0)) p1 (.inl (([] : List Int)))).bind fun (j2 : Int × (List Int ⊕ Empty)) =>
  (Sum.elim (fun (d5 : List Int) =>
  some d5)
  (fun (q : Empty) => none) j2.2)

def codec_Num (p1 : Int) : Option (List Int) :=
  (varint_Put p1).bind fun (r2 : List Int) =>
  some r2

def slices_Grow_byte (p1 : Int) : Option (List Int) :=
  ((if p1 < 0 then (none)
  else (some (()))) : Option Unit).bind (fun (j2 : Unit) =>
  if 0 < (wi64 (p1 - 0)) then ((must (0 ≤ (0 : Int) ∧ (0 : Int) ≤ (([] : List Int)).length)).bind fun _ =>
  (room ((wi64 (p1 - 0)).toNat) 1).bind fun _ =>
  (must (0 ≤ (0 : Int) ∧ (0 : Int) ≤ (List.replicate ((wi64 (p1 - 0)).toNat) ((0 : Int) : Int)).length)).bind fun _ =>
  some ((List.replicate ((wi64 (p1 - 0)).toNat) ((0 : Int) : Int)).take 0))
  else (some (([] : List Int))))

def slices_Concat_byte_s0 (p1 : List (List Int)) (s8 : Int × Int) : Option ((Int × Int) ⊕ Int) :=
  if s8.2 < ((p1.length : Int)) then ((rdo p1 s8.2).bind fun (z9 : List Int) =>
  if (wi64 (s8.1 + ((z9.length : Int)))) < 0 then (none)
  else (some (.inl ((wi64 (s8.1 + ((z9.length : Int))), wi64 (s8.2 + 1))))))
  else (some (.inr s8.1))
def slices_Concat_byte_s1 (p1 : List (List Int)) (s11 : List Int × Int) : Option ((List Int × Int) ⊕ (List Int)) :=
  if s11.2 < ((p1.length : Int)) then ((rdo p1 s11.2).bind fun (z12 : List Int) =>
  (room (s11.1.length + z12.length) 1).bind fun _ =>
  some (.inl ((s11.1 ++ z12, wi64 (s11.2 + 1)))))
  else (some (.inr s11.1))
def slices_Concat_byte (p1 : List (List Int)) : Option (List Int) :=
  ((loopO (slices_Concat_byte_s0 p1) (((0 : Int), (0 : Int)))) : Option Int).bind (fun (x3 : Int) =>
  (slices_Grow_byte x3).bind fun (r2 : List Int) =>
  ((loopO (slices_Concat_byte_s1 p1) ((r2, (0 : Int)))) : Option (List Int)).bind (fun (x4 : List Int) =>
  some x4))

def record_ticks : Option Unit :=
  some (())

def record_ticks_1 (p1 : Int) (p2 : Int) : Option (List Int) :=
  (codec_Num (wu64 (p1 - p2))).bind fun (r2 : List Int) =>
  some r2

def record_Put_s1 (z21 : List (Int × Int)) (s23 : List Int × Int × Int) : Option ((List Int × Int × Int) ⊕ ((List Int × Int))) :=
  if s23.2.1 < ((z21.length : Int)) then ((rdo z21 s23.2.1).bind fun (z24 : Int × Int) =>
  (record_ticks_1 z24.1 s23.2.2).bind fun (r61 : List Int) =>
  (room (s23.1.length + r61.length) 1).bind fun _ =>
  (record_ticks_1 z24.2 z24.1).bind fun (r62 : List Int) =>
  (room ((s23.1 ++ r61).length + r62.length) 1).bind fun _ =>
  some (.inl (((s23.1 ++ r61) ++ r62, wi64 (s23.2.1 + 1), z24.2))))
  else (some (.inr ((s23.1, s23.2.2))))
def record_Put_s0 (p1 : Int × Int × List (List (Int × Int))) (s17 : List Int × Int × Int) : Option ((List Int × Int × Int) ⊕ (List Int)) :=
  if s17.2.1 < ((p1.2.2.length : Int)) then ((rdo p1.2.2 (wi64 ((wi64 (((p1.2.2.length : Int)) - 1)) - s17.2.1))).bind fun (z21 : List (Int × Int)) =>
  (codec_Num (wu64 ((z21.length : Int)))).bind fun (r56 : List Int) =>
  (room (s17.1.length + r56.length) 1).bind fun _ =>
  ((loopO (record_Put_s1 z21) ((s17.1 ++ r56, (0 : Int), s17.2.2))) : Option ((List Int × Int))).bind (fun (x8 : (List Int × Int)) =>
  some (.inl ((x8.1, wi64 (s17.2.1 + 1), x8.2)))))
  else (some (.inr s17.1))
def record_Put (p1 : Int × Int × List (List (Int × Int))) : Option (List Int) :=
  (check_Hist p1).bind fun (r32 : Int) =>
  if ¬ r32 = 0 then (some (([] : List Int)))
  else ((codec_Num (wu64 p1.1)).bind fun (r37 : List Int) =>
  (codec_Num (wu64 p1.2.1)).bind fun (r38 : List Int) =>
  (codec_Num (wu64 ((p1.2.2.length : Int)))).bind fun (r39 : List Int) =>
  (slices_Concat_byte ([r37, r38, r39])).bind fun (r40 : List Int) =>
  (record_ticks).bind fun (r41 : Unit) =>
  ((loopO (record_Put_s0 p1) ((r40, (0 : Int), (0 : Int)))) : Option (List Int)).bind (fun (x7 : List Int) =>
  some x7))

def codec_New (p1 : List Int) : Option Unit :=
  (must (0 ≤ ((p1.length : Int)) ∧ ((p1.length : Int)) ≤ ((p1.length : Int)) ∧ ((p1.length : Int)) ≤ p1.length)).bind fun _ =>
  some (())

def codec_Reader_on (p1 : List Int × Int) : Option Unit :=
  some (())

def varint_Take_s0 (p1 : List Int) (s5 : Int × Int) : Option ((Int × Int) ⊕ ((Int × Int × Int) ⊕ Unit)) :=
  if s5.2 < (min ((p1.length : Int)) 10) then ((rdo p1 s5.2).bind fun (z6 : Int) =>
  (must (0 ≤ (wi64 (7 * s5.2)))).bind fun _ =>
  if 128 ≤ z6 then (some (.inl ((wu64 (ork 64 s5.1 (wu64 (shlk 64 (wu64 (wu8 (andk 8 z6 127))) (wi64 (7 * s5.2))))), wi64 (s5.2 + 1)))))
  else (((if z6 = 0 then (if 0 < s5.2 then (some true)
  else (if s5.2 = 9 then (some (decide (1 < z6)))
  else (some false)))
  else (if s5.2 = 9 then (some (decide (1 < z6)))
  else (some false))) : Option Bool).bind (fun (j4 : Bool) =>
  if j4 = true then (some (.inr (.inl (((0 : Int), (0 : Int), (2 : Int))))))
  else (some (.inr (.inl ((wu64 (ork 64 s5.1 (wu64 (shlk 64 (wu64 (wu8 (andk 8 z6 127))) (wi64 (7 * s5.2))))), wi64 (s5.2 + 1), (0 : Int)))))))))
  else (some (.inr (.inr (()))))
def varint_Take (p1 : List Int) : Option (Int × Int × Int) :=
  ((loopO (varint_Take_s0 p1) (((0 : Int), (0 : Int)))) : Option ((Int × Int × Int) ⊕ Unit)).bind (Sum.elim (fun (d3 : Int × Int × Int) =>
  some ((d3.1, d3.2.1, d3.2.2)))
  (fun (d4 : Unit) =>
  if 10 ≤ ((p1.length : Int)) then (some (((0 : Int), (0 : Int), (2 : Int))))
  else (some (((0 : Int), (0 : Int), (3 : Int))))))

def codec_Reader_number (p1 : List Int × Int) (p2 : Int) : Option (Int × Int × Int) :=
  (varint_Take p1.1).bind fun (r2 : Int × Int × Int) =>
  ((if r2.2.2 = 0 then (some (decide (p2 < r2.1)))
  else (some false)) : Option Bool).bind (fun (j2 : Bool) =>
  if j2 = true then (some (((0 : Int), (0 : Int), (2 : Int))))
  else (if ¬ r2.2.2 = 0 then (some (((0 : Int), (0 : Int), r2.2.2)))
  else (some ((r2.1, r2.2.1, p1.2)))))

def codec_Reader_Num (p1 : List Int × Int) (p2 : Int) : Option (Int × List Int × Int) :=
  (codec_Reader_on p1).bind fun (r3 : Unit) =>
  if ¬ (p1.2 = 0) then (some (((0 : Int), p1.1, p1.2)))
  else ((codec_Reader_number p1 p2).bind fun (r4 : Int × Int × Int) =>
  (must (0 ≤ r4.2.1 ∧ r4.2.1 ≤ p1.1.length)).bind fun _ =>
  some ((r4.1, p1.1.drop r4.2.1.toNat, r4.2.2)))

def record_clock_next (p1 : List Int × Int × Int) : Option (Int × List Int × Int) :=
  (codec_Reader_Num ((p1.1, p1.2.1)) ((9223372036854775807 : Int))).bind fun (r2 : Int × List Int × Int) =>
  some ((min (wu64 (p1.2.2 + r2.1)) 9223372036854775808, r2.2.1, r2.2.2))

def codec_Reader_Err (p1 : List Int × Int) : Option Unit :=
  some (())

def record_clock_spans_s0 (r17 : Int × List Int × Int) (s5 : (List (Int × Int)) × Int × Int × List Int × Int) : Option (((List (Int × Int)) × Int × Int × List Int × Int) ⊕ (((List (Int × Int)) × Int × List Int × Int))) :=
  if s5.2.1 < r17.1 then ((record_clock_next ((s5.2.2.2.1, s5.2.2.2.2, s5.2.2.1))).bind fun (r24 : Int × List Int × Int) =>
  (record_clock_next ((r24.2.1, r24.2.2, r24.1))).bind fun (r25 : Int × List Int × Int) =>
  (codec_Reader_Err r25.2).bind fun (r26 : Unit) =>
  if ¬ r25.2.2 = 0 then (some (.inr ((s5.1, r25.1, r25.2.1, r25.2.2))))
  else ((room (s5.1.length + ([(r24.1, r25.1)]).length) 16).bind fun _ =>
  some (.inl ((s5.1 ++ ([(r24.1, r25.1)]), wu64 (s5.2.1 + 1), r25.1, r25.2.1, r25.2.2)))))
  else (some (.inr ((s5.1, s5.2.2.1, s5.2.2.2.1, s5.2.2.2.2))))
def record_clock_spans (p1 : List Int × Int × Int) : Option ((List (Int × Int)) × List Int × Int × Int) :=
  (level_Most ((1024 : Int)) ((0 : Int))).bind fun (r16 : Int) =>
  (codec_Reader_Num ((p1.1, p1.2.1)) (wu64 r16)).bind fun (r17 : Int × List Int × Int) =>
  ((loopO (record_clock_spans_s0 r17) ((([] : List (Int × Int)), (0 : Int), p1.2.2, r17.2.1, r17.2.2))) : Option (((List (Int × Int)) × Int × List Int × Int))).bind (fun (x2 : ((List (Int × Int)) × Int × List Int × Int)) =>
  some ((x2.1, x2.2.2.1, x2.2.2.2, x2.2.1)))

def slices_Reverse_Spans_s0 (s5 : (List (List (Int × Int))) × Int × Int) : Option (((List (List (Int × Int))) × Int × Int) ⊕ ((List (List (Int × Int))))) :=
  if s5.2.1 < s5.2.2 then ((rdo s5.1 s5.2.2).bind fun (z28 : List (Int × Int)) =>
  (rdo s5.1 s5.2.1).bind fun (z29 : List (Int × Int)) =>
  (rdo (s5.1.set (s5.2.1).toNat z28) s5.2.2).bind fun (z30 : List (Int × Int)) =>
  some (.inl (((s5.1.set (s5.2.1).toNat z28).set (s5.2.2).toNat z29, wi64 (s5.2.1 + 1), wi64 (s5.2.2 - 1)))))
  else (some (.inr s5.1))
def slices_Reverse_Spans (p1 : List (List (Int × Int))) : Option (List (List (Int × Int))) :=
  ((loopO (slices_Reverse_Spans_s0) ((p1, (0 : Int), wi64 (((p1.length : Int)) - 1)))) : Option ((List (List (Int × Int))))).bind (fun (x2 : (List (List (Int × Int)))) =>
  some x2)

def codec_Reader_Fail (p1 : List Int × Int) (p2 : Int) : Option Int :=
  (codec_Reader_on p1).bind fun (r2 : Unit) =>
  if p1.2 = 0 then (some p2)
  else (some p1.2)

def record_Take_s0 (r21 : Int × List Int × Int) (s5 : Int × List Int × Int × (List (List (Int × Int))) × Int) : Option ((Int × List Int × Int × (List (List (Int × Int))) × Int) ⊕ ((List Int × Int × List (List (Int × Int))))) :=
  if s5.1 < r21.1 then ((record_clock_spans ((s5.2.1, s5.2.2.1, s5.2.2.2.2))).bind fun (r27 : (List (Int × Int)) × List Int × Int × Int) =>
  (room (s5.2.2.2.1.length + ([r27.1]).length) 24).bind fun _ =>
  some (.inl ((wu64 (s5.1 + 1), r27.2.1, r27.2.2.1, s5.2.2.2.1 ++ ([r27.1]), r27.2.2.2))))
  else (some (.inr ((s5.2.1, s5.2.2.1, s5.2.2.2.1))))
def record_Take (p1 : List Int × Int) : Option (Int × Int × (List (List (Int × Int))) × List Int × Int) :=
  (codec_Reader_Num p1 ((1024 : Int))).bind fun (r19 : Int × List Int × Int) =>
  (codec_Reader_Num r19.2 ((4 : Int))).bind fun (r20 : Int × List Int × Int) =>
  (codec_Reader_Num r20.2 ((52 : Int))).bind fun (r21 : Int × List Int × Int) =>
  ((loopO (record_Take_s0 r21) (((0 : Int), r21.2.1, r21.2.2, ([] : List (List (Int × Int))), (0 : Int)))) : Option ((List Int × Int × List (List (Int × Int))))).bind (fun (x2 : (List Int × Int × List (List (Int × Int)))) =>
  (slices_Reverse_Spans x2.2.2).bind fun (r28 : List (List (Int × Int))) =>
  (codec_Reader_Err ((x2.1, x2.2.1))).bind fun (r31 : Unit) =>
  if (((x2.1, x2.2.1)).2) = 0 then ((check_Hist ((wi64 r19.1, wi64 r20.1, r28))).bind fun (r32 : Int) =>
  if ¬ r32 = 0 then ((codec_Reader_Fail (((x2.1, x2.2.1))) ((2 : Int))).bind fun (r33 : Int) =>
  (codec_Reader_Err (((((x2.1, x2.2.1))).1, r33))).bind fun (r34 : Unit) =>
  if ¬ ((((((x2.1, x2.2.1))).1, r33)).2) = 0 then (some (((0 : Int), (0 : Int), ([] : List (List (Int × Int))), (((((x2.1, x2.2.1))).1, r33)).1, (((((x2.1, x2.2.1))).1, r33)).2)))
  else (some ((wi64 r19.1, wi64 r20.1, r28, (((((x2.1, x2.2.1))).1, r33)).1, (((((x2.1, x2.2.1))).1, r33)).2))))
  else ((codec_Reader_Err (((x2.1, x2.2.1)))).bind fun (r35 : Unit) =>
  if ¬ ((((x2.1, x2.2.1))).2) = 0 then (some (((0 : Int), (0 : Int), ([] : List (List (Int × Int))), (((x2.1, x2.2.1))).1, (((x2.1, x2.2.1))).2)))
  else (some ((wi64 r19.1, wi64 r20.1, r28, (((x2.1, x2.2.1))).1, (((x2.1, x2.2.1))).2)))))
  else ((codec_Reader_Err (((x2.1, x2.2.1)))).bind fun (r36 : Unit) =>
  if ¬ ((((x2.1, x2.2.1))).2) = 0 then (some (((0 : Int), (0 : Int), ([] : List (List (Int × Int))), (((x2.1, x2.2.1))).1, (((x2.1, x2.2.1))).2)))
  else (some ((wi64 r19.1, wi64 r20.1, r28, (((x2.1, x2.2.1))).1, (((x2.1, x2.2.1))).2)))))

def codec_Reader_Left (p1 : List Int × Int) : Option Unit :=
  some (())

def codec_Reader_End (p1 : List Int × Int) : Option Int :=
  (codec_Reader_Err p1).bind fun (r3 : Unit) =>
  if ¬ p1.2 = 0 then (some p1.2)
  else ((codec_Reader_Left p1).bind fun (r4 : Unit) =>
  if 0 < ((p1.1.length : Int)) then (some ((2 : Int)))
  else (some ((0 : Int))))

def record_One (p1 : List Int) : Option (Int × Int × (List (List (Int × Int))) × Int) :=
  (codec_New p1).bind fun (r4 : Unit) =>
  (record_Take ((p1.take ((p1.length : Int)).toNat, (0 : Int)))).bind fun (r5 : Int × Int × (List (List (Int × Int))) × List Int × Int) =>
  (codec_Reader_End r5.2.2.2).bind fun (r6 : Int) =>
  if ¬ r6 = 0 then (some (((0 : Int), (0 : Int), ([] : List (List (Int × Int))), r6)))
  else (some ((r5.1, r5.2.1, r5.2.2.1, (0 : Int))))

def slices_Equal_Span_s0 (p1 : List (Int × Int)) (p2 : List (Int × Int)) (s5 : Int) : Option (Int ⊕ (Unit ⊕ Unit)) :=
  if s5 < ((p1.length : Int)) then ((rdo p1 s5).bind fun (z23 : Int × Int) =>
  (rdo p2 s5).bind fun (z24 : Int × Int) =>
  if ¬ (z23.1 = z24.1 ∧ z23.2 = z24.2 ∧ True) then (some (.inr (.inl (()))))
  else (some (.inl (wi64 (s5 + 1)))))
  else (some (.inr (.inr (()))))
def slices_Equal_Span (p1 : List (Int × Int)) (p2 : List (Int × Int)) : Option Bool :=
  if ¬ ((p1.length : Int)) = ((p2.length : Int)) then (some false)
  else (((loopO (slices_Equal_Span_s0 p1 p2) ((0 : Int))) : Option (Unit ⊕ Unit)).bind (Sum.elim (fun (d3 : Unit) =>
  some false)
  (fun (d4 : Unit) =>
  some true)))

def slices_EqualFunc_Spans_s0 (p1 : List (List (Int × Int))) (p2 : List (List (Int × Int))) (s5 : Int) : Option (Int ⊕ (Unit ⊕ Unit)) :=
  if s5 < ((p1.length : Int)) then ((rdo p1 s5).bind fun (z11 : List (Int × Int)) =>
  (rdo p2 s5).bind fun (z12 : List (Int × Int)) =>
  (slices_Equal_Span z11 z12).bind fun (r6 : Bool) =>
  if ¬ (r6 = true) then (some (.inr (.inl (()))))
  else (some (.inl (wi64 (s5 + 1)))))
  else (some (.inr (.inr (()))))
def slices_EqualFunc_Spans (p1 : List (List (Int × Int))) (p2 : List (List (Int × Int))) : Option Bool :=
  if ¬ ((p1.length : Int)) = ((p2.length : Int)) then (some false)
  else (((loopO (slices_EqualFunc_Spans_s0 p1 p2) ((0 : Int))) : Option (Unit ⊕ Unit)).bind (Sum.elim (fun (d3 : Unit) =>
  some false)
  (fun (d4 : Unit) =>
  some true)))

def hist_Hist_equal (p1 : Int × Int × List (List (Int × Int))) (p2 : List (List (Int × Int))) : Option Bool :=
  (slices_EqualFunc_Spans p1.2.2 p2).bind fun (r2 : Bool) =>
  some r2

def hist_Same (p1 : Int × Int × List (List (Int × Int))) (p2 : Int × Int × List (List (Int × Int))) : Option Bool :=
  if p1.1 = p2.1 then (if p1.2.1 = p2.2.1 then ((hist_Hist_equal p1 p2.2.2).bind fun (r4 : Bool) =>
  some r4)
  else (some false))
  else (some false)

def law11_awake : Option Bool :=
  (ref06_Made ((0 : Int)) ([((5 : Int), (1 : Int))])).bind fun (r8 : Int × Int × List (List (Int × Int))) =>
  (law11_made r8).bind fun (r9 : Unit) =>
  (record_Put r8).bind fun (r10 : List Int) =>
  (record_One r10).bind fun (r11 : Int × Int × (List (List (Int × Int))) × Int) =>
  (record_One ([(2 : Int), (0 : Int), (1 : Int), (0 : Int)])).bind fun (r12 : Int × Int × (List (List (Int × Int))) × Int) =>
  if (bstr r10) = (bstr ([(2 : Int), (0 : Int), (1 : Int), (1 : Int), (5 : Int), (0 : Int)])) then (if r11.2.2.2 = 0 then ((hist_Same ((r11.1, r11.2.1, r11.2.2.1)) r8).bind fun (r14 : Bool) =>
  if r14 = true then (some (decide (r12.2.2.2 = 2)))
  else (some false))
  else (some false))
  else (some false)

def ref09_Few_s0 (p1 : Int × Int × List (List (Int × Int))) (s5 : Int) : Option (Int ⊕ (Unit ⊕ Unit)) :=
  if s5 < ((p1.2.2.length : Int)) then (if s5 < 61 then ((rdo p1.2.2 s5).bind fun (z6 : List (Int × Int)) =>
  if 40 < ((z6.length : Int)) then (some (.inr (.inl (()))))
  else (some (.inl (wi64 (s5 + 1)))))
  else (some (.inr (.inr (())))))
  else (some (.inr (.inr (()))))
def ref09_Few (p1 : Int × Int × List (List (Int × Int))) : Option Bool :=
  ((loopO (ref09_Few_s0 p1) ((0 : Int))) : Option (Unit ⊕ Unit)).bind (Sum.elim (fun (d3 : Unit) =>
  some false)
  (fun (d4 : Unit) =>
  some (decide (((p1.2.2.length : Int)) ≤ 60))))

def ref06_May (p1 : Int) : Option Bool :=
  if 2 ≤ p1 then (some (decide (p1 ≤ 1024)))
  else (some false)

def ref05_Least (p1 : Int) (p2 : Int) : Option Int :=
  (ref05_Most p1 p2).bind fun (r2 : Int) =>
  some (wi64 (r2 - 1))

def ref09_shaped_s0 (p1 : Int × Int × List (List (Int × Int))) (s5 : Int) : Option (Int ⊕ (Unit ⊕ Unit)) :=
  if s5 < ((p1.2.2.length : Int)) then ((rdo p1.2.2 s5).bind fun (z6 : List (Int × Int)) =>
  if ((z6.length : Int)) < 1 then (some (.inr (.inl (()))))
  else ((ref05_Most p1.1 s5).bind fun (r23 : Int) =>
  if r23 < ((z6.length : Int)) then (some (.inr (.inl (()))))
  else (if ¬ (s5 = (wi64 (((p1.2.2.length : Int)) - 1))) then ((ref05_Least p1.1 s5).bind fun (r24 : Int) =>
  if ((z6.length : Int)) < r24 then (some (.inr (.inl (()))))
  else (some (.inl (wi64 (s5 + 1)))))
  else (some (.inl (wi64 (s5 + 1)))))))
  else (some (.inr (.inr (()))))
def ref09_shaped (p1 : Int × Int × List (List (Int × Int))) : Option Bool :=
  ((loopO (ref09_shaped_s0 p1) ((0 : Int))) : Option (Unit ⊕ Unit)).bind (Sum.elim (fun (d3 : Unit) =>
  some false)
  (fun (d4 : Unit) =>
  some (decide (((p1.2.2.length : Int)) ≤ 52))))

def ref09_turned_s1 (p1 : Int × Int × List (List (Int × Int))) (s17 : Int × Int) (s23 : Int × Int) : Option ((Int × Int) ⊕ (Unit ⊕ Int)) :=
  (rdo p1.2.2 s17.2).bind fun (z35 : List (Int × Int)) =>
  if s23.2 < ((z35.length : Int)) then ((rdo z35 s23.2).bind fun (z36 : Int × Int) =>
  if z36.2 < z36.1 then (some (.inr (.inl (()))))
  else (if z36.1 < s23.1 then (some (.inr (.inl (()))))
  else (if 9223372036854775807 < z36.2 then (some (.inr (.inl (()))))
  else (if s17.2 = 0 then (if ¬ z36.1 = z36.2 then (some (.inr (.inl (()))))
  else (some (.inl ((z36.2, wi64 (s23.2 + 1))))))
  else (some (.inl ((z36.2, wi64 (s23.2 + 1)))))))))
  else (some (.inr (.inr s23.1)))
def ref09_turned_s0 (p1 : Int × Int × List (List (Int × Int))) (s17 : Int × Int) : Option ((Int × Int) ⊕ (Unit ⊕ Unit)) :=
  if 0 ≤ s17.2 then (((loopO (ref09_turned_s1 p1 s17) ((s17.1, (0 : Int)))) : Option (Unit ⊕ Int)).bind (Sum.elim (fun (d15 : Unit) =>
  some (.inr (.inl (()))))
  (fun (d16 : Int) =>
  some (.inl ((d16, wi64 (s17.2 - 1)))))))
  else (some (.inr (.inr (()))))
def ref09_turned (p1 : Int × Int × List (List (Int × Int))) : Option Bool :=
  ((loopO (ref09_turned_s0 p1) (((0 : Int), wi64 (((p1.2.2.length : Int)) - 1)))) : Option (Unit ⊕ Unit)).bind (Sum.elim (fun (d13 : Unit) =>
  some false)
  (fun (d14 : Unit) =>
  some true))

def ref09_Hist (p1 : Int × Int × List (List (Int × Int))) : Option Int :=
  (ref06_May p1.1).bind fun (r10 : Bool) =>
  if ¬ (r10 = true) then (some ((9 : Int)))
  else (if p1.2.1 < 0 then (some ((9 : Int)))
  else (if 4 < p1.2.1 then (some ((9 : Int)))
  else ((ref09_shaped p1).bind fun (r14 : Bool) =>
  if ¬ (r14 = true) then (some ((2 : Int)))
  else ((ref09_turned p1).bind fun (r15 : Bool) =>
  if ¬ (r15 = true) then (some ((2 : Int)))
  else ((ref06_Total p1).bind fun (r16 : Int) =>
  if 4503599627370496 < r16 then (some ((2 : Int)))
  else (some ((0 : Int))))))))

def ref01_Put_F (rec : Int → Option (List Int)) (p1 : Int) : Option (List Int) :=
  if p1 < 128 then (some ([wu8 p1]))
  else ((rec (wu64 (p1.tdiv 128))).bind fun (r2 : List Int) =>
  (room (([wu8 (wu64 (128 + (p1.tmod 128)))]).length + r2.length) 1).bind fun _ =>
  some (([wu8 (wu64 (128 + (p1.tmod 128)))]) ++ r2))
def ref01_Put (p1 : Int) : Option (List Int) := itR ref01_Put_F 1000 p1

def ref02_Num (p1 : Int) : Option (List Int) :=
  (ref01_Put p1).bind fun (r2 : List Int) =>
  some r2

def ref11_Put_s1 (z21 : List (Int × Int)) (s23 : List Int × Int × Int) : Option ((List Int × Int × Int) ⊕ ((List Int × Int))) :=
  if s23.2.2 < ((z21.length : Int)) then ((rdo z21 s23.2.2).bind fun (z24 : Int × Int) =>
  (ref02_Num (wu64 (z24.1 - s23.2.1))).bind fun (r49 : List Int) =>
  (room (s23.1.length + r49.length) 1).bind fun _ =>
  (ref02_Num (wu64 (z24.2 - z24.1))).bind fun (r50 : List Int) =>
  (room ((s23.1 ++ r49).length + r50.length) 1).bind fun _ =>
  some (.inl (((s23.1 ++ r49) ++ r50, z24.2, wi64 (s23.2.2 + 1)))))
  else (some (.inr ((s23.1, s23.2.1))))
def ref11_Put_s0 (p1 : Int × Int × List (List (Int × Int))) (s17 : List Int × Int × Int) : Option ((List Int × Int × Int) ⊕ (List Int)) :=
  if 0 ≤ s17.2.2 then ((rdo p1.2.2 s17.2.2).bind fun (z21 : List (Int × Int)) =>
  (ref02_Num (wu64 ((z21.length : Int)))).bind fun (r44 : List Int) =>
  (room (s17.1.length + r44.length) 1).bind fun _ =>
  ((loopO (ref11_Put_s1 z21) ((s17.1 ++ r44, s17.2.1, (0 : Int)))) : Option ((List Int × Int))).bind (fun (x8 : (List Int × Int)) =>
  some (.inl ((x8.1, x8.2, wi64 (s17.2.2 - 1))))))
  else (some (.inr s17.1))
def ref11_Put (p1 : Int × Int × List (List (Int × Int))) : Option (List Int) :=
  (ref09_Hist p1).bind fun (r26 : Int) =>
  if ¬ r26 = 0 then (some (([] : List Int)))
  else ((ref02_Num (wu64 p1.1)).bind fun (r27 : List Int) =>
  (room ((([] : List Int)).length + r27.length) 1).bind fun _ =>
  (ref02_Num (wu64 p1.2.1)).bind fun (r28 : List Int) =>
  (room (r27.length + r28.length) 1).bind fun _ =>
  (ref02_Num (wu64 ((p1.2.2.length : Int)))).bind fun (r29 : List Int) =>
  (room ((r27 ++ r28).length + r29.length) 1).bind fun _ =>
  ((loopO (ref11_Put_s0 p1) (((r27 ++ r28) ++ r29, (0 : Int), wi64 (((p1.2.2.length : Int)) - 1)))) : Option (List Int)).bind (fun (x7 : List Int) =>
  some x7))

def law11_RecordPuts (p1 : Int × Int × List (List (Int × Int))) : Option Bool :=
  (law11_awake).bind fun (r15 : Bool) =>
  (ref09_Few p1).bind fun (r16 : Bool) =>
  if ¬ (r16 = true) then (some r15)
  else (if r15 = true then ((law11_made p1).bind fun (r26 : Unit) =>
  (record_Put p1).bind fun (r27 : List Int) =>
  (ref11_Put p1).bind fun (r28 : List Int) =>
  some (decide ((bstr r27) = (bstr r28))))
  else (some false))

def ref01_end_s0 (p1 : List Int) (s5 : Int) : Option (Int ⊕ (Int ⊕ Unit)) :=
  if s5 < ((p1.length : Int)) then (if s5 < 10 then ((rdo p1 s5).bind fun (z6 : Int) =>
  if z6 < 128 then (some (.inr (.inl s5)))
  else (some (.inl (wi64 (s5 + 1)))))
  else (some (.inr (.inr (())))))
  else (some (.inr (.inr (()))))
def ref01_end (p1 : List Int) : Option Int :=
  ((loopO (ref01_end_s0 p1) ((0 : Int))) : Option (Int ⊕ Unit)).bind (Sum.elim (fun (d3 : Int) =>
  some d3)
  (fun (d4 : Unit) =>
  some ((-1 : Int))))

def ref01_Take_s0 (p1 : List Int) (s5 : Int × Int) : Option ((Int × Int) ⊕ Int) :=
  if 0 ≤ s5.2 then ((rdo p1 s5.2).bind fun (z12 : Int) =>
  some (.inl ((wu64 ((wu64 (128 * s5.1)) + (wu64 (z12.tmod 128))), wi64 (s5.2 - 1)))))
  else (some (.inr s5.1))
def ref01_Take (p1 : List Int) : Option (Int × Int × Int) :=
  (ref01_end p1).bind fun (r2 : Int) =>
  ((if r2 < 0 then (some (decide (10 ≤ ((p1.length : Int)))))
  else (some false)) : Option Bool).bind (fun (j3 : Bool) =>
  if j3 = true then (some (((0 : Int), (0 : Int), (2 : Int))))
  else (if r2 < 0 then (some (((0 : Int), (0 : Int), (3 : Int))))
  else ((((rdo p1 r2).bind fun (z9 : Int) =>
  if z9 = 0 then (if 0 < r2 then (some true)
  else (if r2 = 9 then (some (decide (1 < z9)))
  else (some false)))
  else (if r2 = 9 then (some (decide (1 < z9)))
  else (some false))) : Option Bool).bind (fun (j4 : Bool) =>
  if j4 = true then (some (((0 : Int), (0 : Int), (2 : Int))))
  else (((loopO (ref01_Take_s0 p1) (((0 : Int), r2))) : Option Int).bind (fun (x2 : Int) =>
  some ((x2, wi64 (r2 + 1), (0 : Int)))))))))

def ref02_fail (p1 : List Int × Int) (p2 : Int) : Option Int :=
  if p1.2 = 0 then (some p2)
  else (some p1.2)

def ref02_Read (p1 : List Int × Int) (p2 : Int) : Option (List Int × Int × Int) :=
  if ¬ p1.2 = 0 then (some ((p1.1, p1.2, (0 : Int))))
  else ((ref01_Take p1.1).bind fun (r4 : Int × Int × Int) =>
  if ¬ r4.2.2 = 0 then ((ref02_fail p1 r4.2.2).bind fun (r5 : Int) =>
  some ((p1.1, r5, (0 : Int))))
  else (if p2 < r4.1 then ((ref02_fail p1 ((2 : Int))).bind fun (r6 : Int) =>
  some ((p1.1, r6, (0 : Int))))
  else ((must (0 ≤ r4.2.1 ∧ r4.2.1 ≤ p1.1.length)).bind fun _ =>
  some ((p1.1.drop r4.2.1.toNat, p1.2, r4.1)))))

def ref11_spans_s0 (r8 : List Int × Int × Int) (s5 : Int × (List (Int × Int)) × Int × List Int × Int) : Option ((Int × (List (Int × Int)) × Int × List Int × Int) ⊕ ((Int × (List (Int × Int)) × List Int × Int))) :=
  if s5.2.2.1 < r8.2.2 then (if s5.2.2.2.2 = 0 then ((ref02_Read s5.2.2.2 ((9223372036854775807 : Int))).bind fun (r13 : List Int × Int × Int) =>
  (ref02_Read ((r13.1, r13.2.1)) ((9223372036854775807 : Int))).bind fun (r14 : List Int × Int × Int) =>
  (room (s5.2.1.length + ([(wu64 (s5.1 + r13.2.2), wu64 ((wu64 (s5.1 + r13.2.2)) + r14.2.2))]).length) 16).bind fun _ =>
  if (wu64 ((wu64 (s5.1 + r13.2.2)) + r14.2.2)) < (wu64 (s5.1 + r13.2.2)) then (some (.inl (((9223372036854775808 : Int), s5.2.1 ++ ([(wu64 (s5.1 + r13.2.2), wu64 ((wu64 (s5.1 + r13.2.2)) + r14.2.2))]), wu64 (s5.2.2.1 + 1), r14.1, r14.2.1))))
  else (if (wu64 (s5.1 + r13.2.2)) < r13.2.2 then (some (.inl (((9223372036854775808 : Int), s5.2.1 ++ ([(wu64 (s5.1 + r13.2.2), wu64 ((wu64 (s5.1 + r13.2.2)) + r14.2.2))]), wu64 (s5.2.2.1 + 1), r14.1, r14.2.1))))
  else (if 9223372036854775807 < (wu64 ((wu64 (s5.1 + r13.2.2)) + r14.2.2)) then (some (.inl (((9223372036854775808 : Int), s5.2.1 ++ ([(wu64 (s5.1 + r13.2.2), wu64 ((wu64 (s5.1 + r13.2.2)) + r14.2.2))]), wu64 (s5.2.2.1 + 1), r14.1, r14.2.1))))
  else (some (.inl ((wu64 ((wu64 (s5.1 + r13.2.2)) + r14.2.2), s5.2.1 ++ ([(wu64 (s5.1 + r13.2.2), wu64 ((wu64 (s5.1 + r13.2.2)) + r14.2.2))]), wu64 (s5.2.2.1 + 1), r14.1, r14.2.1)))))))
  else (some (.inr ((s5.1, s5.2.1, s5.2.2.2.1, s5.2.2.2.2)))))
  else (some (.inr ((s5.1, s5.2.1, s5.2.2.2.1, s5.2.2.2.2))))
def ref11_spans (p1 : List Int × Int) (p2 : Int) : Option (List Int × Int × (List (Int × Int)) × Int) :=
  (ref02_Read p1 ((1025 : Int))).bind fun (r8 : List Int × Int × Int) =>
  ((loopO (ref11_spans_s0 r8) ((p2, ([] : List (Int × Int)), (0 : Int), r8.1, r8.2.1))) : Option ((Int × (List (Int × Int)) × List Int × Int))).bind (fun (x2 : (Int × (List (Int × Int)) × List Int × Int)) =>
  some ((x2.2.2.1, x2.2.2.2, x2.2.1, x2.1)))

def ref11_turned_s0 (p1 : List (List (Int × Int))) (s5 : (List (List (Int × Int))) × Int) : Option (((List (List (Int × Int))) × Int) ⊕ ((List (List (Int × Int))))) :=
  if 0 ≤ s5.2 then ((rdo p1 s5.2).bind fun (z6 : List (Int × Int)) =>
  (room (s5.1.length + ([z6]).length) 24).bind fun _ =>
  some (.inl ((s5.1 ++ ([z6]), wi64 (s5.2 - 1)))))
  else (some (.inr s5.1))
def ref11_turned (p1 : List (List (Int × Int))) : Option (List (List (Int × Int))) :=
  ((loopO (ref11_turned_s0 p1) ((([] : List (List (Int × Int))), wi64 (((p1.length : Int)) - 1)))) : Option ((List (List (Int × Int))))).bind (fun (x2 : (List (List (Int × Int)))) =>
  some x2)

def ref11_Take_s0 (r13 : List Int × Int × Int) (s5 : Int × (List (List (Int × Int))) × Int × List Int × Int) : Option ((Int × (List (List (Int × Int))) × Int × List Int × Int) ⊕ (((List (List (Int × Int))) × List Int × Int))) :=
  if s5.2.2.1 < r13.2.2 then (if s5.2.2.2.2 = 0 then ((ref11_spans s5.2.2.2 s5.1).bind fun (r16 : List Int × Int × (List (Int × Int)) × Int) =>
  (room (s5.2.1.length + ([r16.2.2.1]).length) 24).bind fun _ =>
  some (.inl ((r16.2.2.2, s5.2.1 ++ ([r16.2.2.1]), wu64 (s5.2.2.1 + 1), r16.1, r16.2.1))))
  else (some (.inr ((s5.2.1, s5.2.2.2.1, s5.2.2.2.2)))))
  else (some (.inr ((s5.2.1, s5.2.2.2.1, s5.2.2.2.2))))
def ref11_Take (p1 : List Int × Int) : Option (List Int × Int × Int × Int × List (List (Int × Int))) :=
  (ref02_Read p1 ((1024 : Int))).bind fun (r11 : List Int × Int × Int) =>
  (ref02_Read ((r11.1, r11.2.1)) ((4 : Int))).bind fun (r12 : List Int × Int × Int) =>
  (ref02_Read ((r12.1, r12.2.1)) ((52 : Int))).bind fun (r13 : List Int × Int × Int) =>
  ((loopO (ref11_Take_s0 r13) (((0 : Int), ([] : List (List (Int × Int))), (0 : Int), r13.1, r13.2.1))) : Option (((List (List (Int × Int))) × List Int × Int))).bind (fun (x2 : ((List (List (Int × Int))) × List Int × Int)) =>
  (ref11_turned x2.1).bind fun (r17 : List (List (Int × Int))) =>
  ((if x2.2.2 = 0 then ((ref09_Hist ((wi64 r11.2.2, wi64 r12.2.2, r17))).bind fun (r20 : Int) =>
  some (decide (¬ r20 = 0)))
  else (some false)) : Option Bool).bind (fun (j2 : Bool) =>
  if j2 = true then (some ((x2.2.1, (2 : Int), (0 : Int), (0 : Int), ([] : List (List (Int × Int))))))
  else (if ¬ x2.2.2 = 0 then (some ((x2.2.1, x2.2.2, (0 : Int), (0 : Int), ([] : List (List (Int × Int))))))
  else (some ((x2.2.1, x2.2.2, wi64 r11.2.2, wi64 r12.2.2, r17))))))

def ref02_End (p1 : List Int × Int) : Option Int :=
  if p1.2 = 0 then (if 0 < ((p1.1.length : Int)) then (some ((2 : Int)))
  else (some p1.2))
  else (some p1.2)

def ref11_One (p1 : List Int) : Option (Int × Int × (List (List (Int × Int))) × Int) :=
  (ref11_Take ((p1, (0 : Int)))).bind fun (r3 : List Int × Int × Int × Int × List (List (Int × Int))) =>
  (ref02_End ((r3.1, r3.2.1))).bind fun (r4 : Int) =>
  if ¬ r4 = 0 then (some (((0 : Int), (0 : Int), ([] : List (List (Int × Int))), r4)))
  else (some ((r3.2.2.1, r3.2.2.2.1, r3.2.2.2.2, (0 : Int))))

def ref05_Same_s0 (p1 : List (Int × Int)) (p2 : List (Int × Int)) (s5 : Int) : Option (Int ⊕ (Unit ⊕ Unit)) :=
  if s5 < ((p1.length : Int)) then ((rdo p1 s5).bind fun (z23 : Int × Int) =>
  (rdo p2 s5).bind fun (z24 : Int × Int) =>
  if ¬ (z23.1 = z24.1 ∧ z23.2 = z24.2 ∧ True) then (some (.inr (.inl (()))))
  else (some (.inl (wi64 (s5 + 1)))))
  else (some (.inr (.inr (()))))
def ref05_Same (p1 : List (Int × Int)) (p2 : List (Int × Int)) : Option Bool :=
  if ¬ ((p1.length : Int)) = ((p2.length : Int)) then (some false)
  else (((loopO (ref05_Same_s0 p1 p2) ((0 : Int))) : Option (Unit ⊕ Unit)).bind (Sum.elim (fun (d3 : Unit) =>
  some false)
  (fun (d4 : Unit) =>
  some true)))

def ref06_Same_s0 (p1 : Int × Int × List (List (Int × Int))) (p2 : Int × Int × List (List (Int × Int))) (s5 : Int) : Option (Int ⊕ (Unit ⊕ Unit)) :=
  if s5 < ((p1.2.2.length : Int)) then ((rdo p1.2.2 s5).bind fun (z23 : List (Int × Int)) =>
  (rdo p2.2.2 s5).bind fun (z24 : List (Int × Int)) =>
  (ref05_Same z23 z24).bind fun (r12 : Bool) =>
  if ¬ (r12 = true) then (some (.inr (.inl (()))))
  else (some (.inl (wi64 (s5 + 1)))))
  else (some (.inr (.inr (()))))
def ref06_Same (p1 : Int × Int × List (List (Int × Int))) (p2 : Int × Int × List (List (Int × Int))) : Option Bool :=
  if ¬ p1.1 = p2.1 then (some false)
  else (if ¬ p1.2.1 = p2.2.1 then (some false)
  else (if ¬ ((p1.2.2.length : Int)) = ((p2.2.2.length : Int)) then (some false)
  else (((loopO (ref06_Same_s0 p1 p2) ((0 : Int))) : Option (Unit ⊕ Unit)).bind (Sum.elim (fun (d3 : Unit) =>
  some false)
  (fun (d4 : Unit) =>
  some true)))))

def law11_same (p1 : Int × Int × List (List (Int × Int))) (p2 : Int × Int × List (List (Int × Int))) : Option Bool :=
  (ref06_Same p1 p2).bind fun (r2 : Bool) =>
  some r2

def law11_RecordTakes (p1 : List Int) : Option Bool :=
  (law11_awake).bind fun (r23 : Bool) =>
  if 400 < ((p1.length : Int)) then (some r23)
  else ((record_One p1).bind fun (r24 : Int × Int × (List (List (Int × Int))) × Int) =>
  (ref11_One p1).bind fun (r25 : Int × Int × (List (List (Int × Int))) × Int) =>
  (codec_New p1).bind fun (r26 : Unit) =>
  (record_Take ((p1.take ((p1.length : Int)).toNat, (0 : Int)))).bind fun (r27 : Int × Int × (List (List (Int × Int))) × List Int × Int) =>
  (ref11_Take ((p1, (0 : Int)))).bind fun (r28 : List Int × Int × Int × Int × List (List (Int × Int))) =>
  if r23 = true then ((law11_same ((r24.1, r24.2.1, r24.2.2.1)) ((r25.1, r25.2.1, r25.2.2.1))).bind fun (r41 : Bool) =>
  if r41 = true then (if r24.2.2.2 = r25.2.2.2 then ((law11_same ((r27.1, r27.2.1, r27.2.2.1)) r28.2.2).bind fun (r42 : Bool) =>
  if r42 = true then ((codec_Reader_Left r27.2.2.2).bind fun (r43 : Unit) =>
  if ((r27.2.2.2.1.length : Int)) = ((r28.1.length : Int)) then ((codec_Reader_Err r27.2.2.2).bind fun (r44 : Unit) =>
  some (decide (r27.2.2.2.2 = r28.2.1)))
  else (some false))
  else (some false))
  else (some false))
  else (some false))
  else (some false))

def ref10_Light_s0 (p1 : Int × (List (Int × Int)) × (List (Int × Int)) × (List (Int × Int)) × (List (Int × Int)) × Int) (s14 : Int) : Option (Int ⊕ (Unit ⊕ Unit)) :=
  if s14 < ((p1.2.1.length : Int)) then ((rdo p1.2.1 s14).bind fun (z15 : Int × Int) =>
  if 1099511627776 < z15.2 then (some (.inr (.inl (()))))
  else (some (.inl (wi64 (s14 + 1)))))
  else (some (.inr (.inr (()))))
def ref10_Light_s1 (p1 : Int × (List (Int × Int)) × (List (Int × Int)) × (List (Int × Int)) × (List (Int × Int)) × Int) (s17 : Int) : Option (Int ⊕ (Unit ⊕ Unit)) :=
  if s17 < ((p1.2.2.1.length : Int)) then ((rdo p1.2.2.1 s17).bind fun (z18 : Int × Int) =>
  if 1099511627776 < z18.2 then (some (.inr (.inl (()))))
  else (some (.inl (wi64 (s17 + 1)))))
  else (some (.inr (.inr (()))))
def ref10_Light_s2 (p1 : Int × (List (Int × Int)) × (List (Int × Int)) × (List (Int × Int)) × (List (Int × Int)) × Int) (s20 : Int) : Option (Int ⊕ (Unit ⊕ Unit)) :=
  if s20 < ((p1.2.2.2.1.length : Int)) then ((rdo p1.2.2.2.1 s20).bind fun (z21 : Int × Int) =>
  if 1099511627776 < z21.2 then (some (.inr (.inl (()))))
  else (some (.inl (wi64 (s20 + 1)))))
  else (some (.inr (.inr (()))))
def ref10_Light_s3 (p1 : Int × (List (Int × Int)) × (List (Int × Int)) × (List (Int × Int)) × (List (Int × Int)) × Int) (s23 : Int) : Option (Int ⊕ (Unit ⊕ Unit)) :=
  if s23 < ((p1.2.2.2.2.1.length : Int)) then ((rdo p1.2.2.2.2.1 s23).bind fun (z24 : Int × Int) =>
  if 1099511627776 < z24.2 then (some (.inr (.inl (()))))
  else (some (.inl (wi64 (s23 + 1)))))
  else (some (.inr (.inr (()))))
def ref10_Light (p1 : Int × (List (Int × Int)) × (List (Int × Int)) × (List (Int × Int)) × (List (Int × Int)) × Int) : Option Bool :=
  if 20 < ((p1.2.1.length : Int)) then (some false)
  else (((loopO (ref10_Light_s0 p1) ((0 : Int))) : Option (Unit ⊕ Unit)).bind (Sum.elim (fun (d9 : Unit) =>
  some false)
  (fun (d10 : Unit) =>
  if 20 < ((p1.2.2.1.length : Int)) then (some false)
  else (((loopO (ref10_Light_s1 p1) ((0 : Int))) : Option (Unit ⊕ Unit)).bind (Sum.elim (fun (d11 : Unit) =>
  some false)
  (fun (d12 : Unit) =>
  if 20 < ((p1.2.2.2.1.length : Int)) then (some false)
  else (((loopO (ref10_Light_s2 p1) ((0 : Int))) : Option (Unit ⊕ Unit)).bind (Sum.elim (fun (d13 : Unit) =>
  some false)
  (fun (d14 : Unit) =>
  if 20 < ((p1.2.2.2.2.1.length : Int)) then (some false)
  else (((loopO (ref10_Light_s3 p1) ((0 : Int))) : Option (Unit ⊕ Unit)).bind (Sum.elim (fun (d15 : Unit) =>
  some false)
  (fun (d16 : Unit) =>
  some true))))))))))))

def ref10_weighed_s0 (p1 : List (Int × Int × Int)) (s5 : Bool × Bool × Int × Int) : Option ((Bool × Bool × Int × Int) ⊕ ((Bool × Bool × Int))) :=
  if s5.2.2.2 < ((p1.length : Int)) then (((if s5.1 = true then ((rdo p1 s5.2.2.2).bind fun (z28 : Int × Int × Int) =>
  some (decide (0 < z28.2.2)))
  else (some false)) : Option Bool).bind (fun (j7 : Bool) =>
  ((if s5.2.1 = true then ((rdo p1 s5.2.2.2).bind fun (z31 : Int × Int × Int) =>
  some (decide (z31.1 ≤ 9223372036854775807)))
  else (some false)) : Option Bool).bind (fun (j8 : Bool) =>
  (rdo p1 s5.2.2.2).bind fun (z32 : Int × Int × Int) =>
  some (.inl ((j7, j8, min (wu64 (s5.2.2.1 + (min z32.2.2 4503599627370497))) 4503599627370497, wi64 (s5.2.2.2 + 1)))))))
  else (some (.inr ((s5.1, s5.2.1, s5.2.2.1))))
def ref10_weighed (p1 : List (Int × Int × Int)) : Option (Bool × Bool × Int) :=
  ((loopO (ref10_weighed_s0 p1) ((true, true, (0 : Int), (0 : Int)))) : Option ((Bool × Bool × Int))).bind (fun (x2 : (Bool × Bool × Int)) =>
  some ((x2.1, x2.2.1, x2.2.2)))

def ref10_bad_s0 (p2 : List (Int × Int × List (List (Int × Int)))) (s5 : Int × Int × Bool × Int) : Option ((Int × Int × Bool × Int) ⊕ (Unit ⊕ (Int × Bool))) :=
  if s5.2.2.2 < ((p2.length : Int)) then ((rdo p2 s5.2.2.2).bind fun (z19 : Int × Int × List (List (Int × Int))) =>
  (rdo p2 0).bind fun (z20 : Int × Int × List (List (Int × Int))) =>
  if ¬ z19.1 = z20.1 then (some (.inr (.inl (()))))
  else ((ref06_Total z19).bind fun (r8 : Int) =>
  if s5.2.2.1 = true then (some (.inl ((max s5.1 z19.2.1, wu64 (s5.2.1 + r8), true, wi64 (s5.2.2.2 + 1)))))
  else (some (.inl ((max s5.1 z19.2.1, wu64 (s5.2.1 + r8), decide (4503599627370496 < (wu64 (s5.2.1 + r8))), wi64 (s5.2.2.2 + 1)))))))
  else (some (.inr (.inr ((s5.1, s5.2.2.1)))))
def ref10_bad (p1 : List (Int × Int × Int)) (p2 : List (Int × Int × List (List (Int × Int)))) : Option Int :=
  (ref10_weighed p1).bind fun (r5 : Bool × Bool × Int) =>
  if ((p2.length : Int)) = 0 then (some ((1 : Int)))
  else (if ¬ (r5.1 = true) then (some ((1 : Int)))
  else (((loopO (ref10_bad_s0 p2) (((0 : Int), r5.2.2, decide (4503599627370496 < r5.2.2), (0 : Int)))) : Option (Unit ⊕ (Int × Bool))).bind (Sum.elim (fun (d3 : Unit) =>
  some ((9 : Int)))
  (fun (d4 : Int × Bool) =>
  if 4 ≤ d4.1 then (some ((10 : Int)))
  else (if ¬ (r5.2.1 = true) then (some ((6 : Int)))
  else (if d4.2 = true then (some ((5 : Int)))
  else (some ((0 : Int)))))))))

def ref10_lumps_s2 (z141 : Int × Int × List (List (Int × Int))) (s71 : (List (Int × Int)) × Int) (s77 : (List (Int × Int)) × Int) : Option (((List (Int × Int)) × Int) ⊕ ((List (Int × Int)))) :=
  (rdo z141.2.2 s71.2).bind fun (z166 : List (Int × Int)) =>
  if s77.2 < ((z166.length : Int)) then ((rdo z166 s77.2).bind fun (z168 : Int × Int) =>
  (room (s77.1.length + ([(z168.2, wu64 (shlk 64 1 s71.2))]).length) 16).bind fun _ =>
  some (.inl ((s77.1 ++ ([(z168.2, wu64 (shlk 64 1 s71.2))]), wi64 (s77.2 + 1)))))
  else (some (.inr s77.1))
def ref10_lumps_s1 (z141 : Int × Int × List (List (Int × Int))) (s71 : (List (Int × Int)) × Int) : Option (((List (Int × Int)) × Int) ⊕ ((List (Int × Int)))) :=
  if 0 ≤ s71.2 then (((loopO (ref10_lumps_s2 z141 s71) ((s71.1, (0 : Int)))) : Option ((List (Int × Int)))).bind (fun (x26 : (List (Int × Int))) =>
  some (.inl ((x26, wi64 (s71.2 - 1))))))
  else (some (.inr s71.1))
def ref10_lumps_s0 (p1 : List (Int × Int × List (List (Int × Int)))) (s53 : (List (Int × Int)) × Int) : Option (((List (Int × Int)) × Int) ⊕ ((List (Int × Int)))) :=
  if s53.2 < ((p1.length : Int)) then ((rdo p1 s53.2).bind fun (z141 : Int × Int × List (List (Int × Int))) =>
  ((loopO (ref10_lumps_s1 z141) ((s53.1, wi64 (((z141.2.2.length : Int)) - 1)))) : Option ((List (Int × Int)))).bind (fun (x25 : (List (Int × Int))) =>
  some (.inl ((x25, wi64 (s53.2 + 1))))))
  else (some (.inr s53.1))
def ref10_lumps (p1 : List (Int × Int × List (List (Int × Int)))) : Option (List (Int × Int)) :=
  ((loopO (ref10_lumps_s0 p1) ((([] : List (Int × Int)), (0 : Int)))) : Option ((List (Int × Int)))).bind (fun (x22 : (List (Int × Int))) =>
  some x22)

def ref10_least_s0 (p1 : List (Int × Int)) (p2 : List Bool) (s5 : Int × Int) : Option ((Int × Int) ⊕ Int) :=
  if s5.2 < ((p1.length : Int)) then ((rdo p2 s5.2).bind fun (z54 : Bool) =>
  if ¬ (z54 = true) then (if s5.1 < 0 then (some (.inl ((s5.2, wi64 (s5.2 + 1)))))
  else ((rdo p1 s5.2).bind fun (z55 : Int × Int) =>
  (rdo p1 s5.1).bind fun (z56 : Int × Int) =>
  if z55.1 < z56.1 then (some (.inl ((s5.2, wi64 (s5.2 + 1)))))
  else (some (.inl ((s5.1, wi64 (s5.2 + 1)))))))
  else (some (.inl ((s5.1, wi64 (s5.2 + 1))))))
  else (some (.inr s5.1))
def ref10_least (p1 : List (Int × Int)) (p2 : List Bool) : Option Int :=
  ((loopO (ref10_least_s0 p1 p2) (((-1 : Int), (0 : Int)))) : Option Int).bind (fun (x2 : Int) =>
  some x2)

def ref10_With_s0 (p2 : List (Int × Int × List (List (Int × Int)))) (s11 : Int × Int) : Option ((Int × Int) ⊕ Int) :=
  if s11.2 < ((p2.length : Int)) then ((rdo p2 s11.2).bind fun (z21 : Int × Int × List (List (Int × Int))) =>
  some (.inl ((max s11.1 z21.2.1, wi64 (s11.2 + 1)))))
  else (some (.inr s11.1))
def ref10_With_s1 (p1 : List (Int × Int × Int)) (s14 : (List (Int × Int)) × Int) : Option (((List (Int × Int)) × Int) ⊕ ((List (Int × Int)))) :=
  if s14.2 < ((p1.length : Int)) then ((rdo p1 s14.2).bind fun (z27 : Int × Int × Int) =>
  (room (s14.1.length + ([(z27.1, z27.2.2)]).length) 16).bind fun _ =>
  some (.inl ((s14.1 ++ ([(z27.1, z27.2.2)]), wi64 (s14.2 + 1)))))
  else (some (.inr s14.1))
def ref10_With_s2 (x5 : List (Int × Int)) (s17 : List Bool × Int × Int × Int × List (List (Int × Int))) : Option ((List Bool × Int × Int × Int × List (List (Int × Int))) ⊕ ((Int × Int × List (List (Int × Int))))) :=
  if s17.2.1 < ((x5.length : Int)) then ((ref10_least x5 s17.1).bind fun (r15 : Int) =>
  (rdo s17.1 r15).bind fun (z34 : Bool) =>
  (rdo x5 r15).bind fun (z36 : Int × Int) =>
  (ref06_Add s17.2.2 z36.1 z36.2).bind fun (r16 : Int × Int × (List (List (Int × Int))) × Int) =>
  some (.inl ((s17.1.set (r15).toNat true, wi64 (s17.2.1 + 1), r16.1, r16.2.1, r16.2.2.1))))
  else (some (.inr ((s17.2.2.1, s17.2.2.2.1, s17.2.2.2.2))))
def ref10_With (p1 : List (Int × Int × Int)) (p2 : List (Int × Int × List (List (Int × Int)))) : Option (Int × Int × (List (List (Int × Int))) × Int) :=
  (ref10_bad p1 p2).bind fun (r9 : Int) =>
  if ¬ r9 = 0 then (some (((0 : Int), (0 : Int), ([] : List (List (Int × Int))), r9)))
  else ((rdo p2 0).bind fun (z19 : Int × Int × List (List (Int × Int))) =>
  ((loopO (ref10_With_s0 p2) (((0 : Int), (0 : Int)))) : Option Int).bind (fun (x4 : Int) =>
  (ref10_lumps p2).bind fun (r10 : List (Int × Int)) =>
  ((loopO (ref10_With_s1 p1) ((r10, (0 : Int)))) : Option ((List (Int × Int)))).bind (fun (x5 : (List (Int × Int))) =>
  (must (0 ≤ ((x5.length : Int)))).bind fun _ =>
  (room (((x5.length : Int)).toNat) 1).bind fun _ =>
  ((loopO (ref10_With_s2 x5) ((List.replicate (((x5.length : Int)).toNat) (false : Bool), (0 : Int), z19.1, (0 : Int), ([] : List (List (Int × Int)))))) : Option ((Int × Int × List (List (Int × Int))))).bind (fun (x6 : (Int × Int × List (List (Int × Int)))) =>
  some ((x6.1, wi64 (x4 + 1), x6.2.2, (0 : Int)))))))

def ref10_Merge (p1 : List (Int × Int × List (List (Int × Int)))) : Option (Int × Int × (List (List (Int × Int))) × Int) :=
  (ref10_With (([] : List (Int × Int × Int))) p1).bind fun (r2 : Int × Int × (List (List (Int × Int))) × Int) =>
  some ((r2.1, r2.2.1, r2.2.2.1, r2.2.2.2))

def ref10_Build_s0 (p1 : Int × (List (Int × Int)) × (List (Int × Int)) × (List (Int × Int)) × (List (Int × Int)) × Int) (r21 : Int × Int × List (List (Int × Int))) (s5 : Int × Int × Int × List (List (Int × Int))) : Option ((Int × Int × Int × List (List (Int × Int))) ⊕ ((Int × Int × List (List (Int × Int))))) :=
  if s5.1 < (wi64 (p1.2.2.2.2.2.tmod 5)) then ((ref10_Merge ([s5.2, r21])).bind fun (r38 : Int × Int × (List (List (Int × Int))) × Int) =>
  some (.inl ((wi64 (s5.1 + 1), r38.1, r38.2.1, r38.2.2.1))))
  else (some (.inr ((s5.2.1, s5.2.2.1, s5.2.2.2))))
def ref10_Build (p1 : Int × (List (Int × Int)) × (List (Int × Int)) × (List (Int × Int)) × (List (Int × Int)) × Int) : Option (Int × Int × List (List (Int × Int))) :=
  (ref06_Made p1.1 p1.2.1).bind fun (r21 : Int × Int × List (List (Int × Int))) =>
  (ref06_Made p1.1 p1.2.2.1).bind fun (r23 : Int × Int × List (List (Int × Int))) =>
  (ref06_Made p1.1 p1.2.2.2.1).bind fun (r25 : Int × Int × List (List (Int × Int))) =>
  (ref06_Made p1.1 p1.2.2.2.2.1).bind fun (r27 : Int × Int × List (List (Int × Int))) =>
  ((if (wi64 (p1.2.2.2.2.2.tmod 5)) = 1 then ((ref10_Merge ([r21, r23])).bind fun (r29 : Int × Int × (List (List (Int × Int))) × Int) =>
  some ((r29.1, r29.2.1, r29.2.2.1)))
  else (some ((r21.1, r21.2.1, r21.2.2)))) : Option ((Int × Int × List (List (Int × Int))))).bind (fun (j3 : (Int × Int × List (List (Int × Int)))) =>
  ((if 1 < (wi64 (p1.2.2.2.2.2.tmod 5)) then ((ref10_Merge ([r21, r23])).bind fun (r33 : Int × Int × (List (List (Int × Int))) × Int) =>
  (ref10_Merge ([r25, r27])).bind fun (r34 : Int × Int × (List (List (Int × Int))) × Int) =>
  (ref10_Merge ([(r33.1, r33.2.1, r33.2.2.1), (r34.1, r34.2.1, r34.2.2.1)])).bind fun (r35 : Int × Int × (List (List (Int × Int))) × Int) =>
  some ((r35.1, r35.2.1, r35.2.2.1)))
  else (some ((j3.1, j3.2.1, j3.2.2)))) : Option ((Int × Int × List (List (Int × Int))))).bind (fun (j4 : (Int × Int × List (List (Int × Int)))) =>
  ((loopO (ref10_Build_s0 p1 r21) (((2 : Int), j4.1, j4.2.1, j4.2.2))) : Option ((Int × Int × List (List (Int × Int))))).bind (fun (x2 : (Int × Int × List (List (Int × Int)))) =>
  some ((x2.1, x2.2.1, x2.2.2)))))

def law11_RecordBack (p1 : Int × (List (Int × Int)) × (List (Int × Int)) × (List (Int × Int)) × (List (Int × Int)) × Int) (p2 : Int) (p3 : Int) : Option Bool :=
  (law11_awake).bind fun (r11 : Bool) =>
  (ref10_Light p1).bind fun (r12 : Bool) =>
  if ¬ (r12 = true) then (some r11)
  else ((ref10_Build p1).bind fun (r13 : Int × Int × List (List (Int × Int))) =>
  (law11_made r13).bind fun (r14 : Unit) =>
  (record_Put r13).bind fun (r15 : List Int) =>
  if ((r15.length : Int)) = 0 then (some false)
  else ((record_One r15).bind fun (r16 : Int × Int × (List (List (Int × Int))) × Int) =>
  (must (((r15.length : Int)) ≠ 0)).bind fun _ =>
  (must (0 ≤ ((wi64 p3).tmod ((r15.length : Int))) ∧ ((wi64 p3).tmod ((r15.length : Int))) ≤ r15.length)).bind fun _ =>
  (record_One (r15.take ((wi64 p3).tmod ((r15.length : Int))).toNat)).bind fun (r17 : Int × Int × (List (List (Int × Int))) × Int) =>
  (room ((([] : List Int)).length + r15.length) 1).bind fun _ =>
  (room (r15.length + ([p2]).length) 1).bind fun _ =>
  (record_One (r15 ++ ([p2]))).bind fun (r18 : Int × Int × (List (List (Int × Int))) × Int) =>
  if r11 = true then (if r16.2.2.2 = 0 then ((law11_same ((r16.1, r16.2.1, r16.2.2.1)) r13).bind fun (r20 : Bool) =>
  if r20 = true then (if r17.2.2.2 = 3 then (some (decide (r18.2.2.2 = 2)))
  else (some false))
  else (some false))
  else (some false))
  else (some false)))

def law11_RecordOne (p1 : List Int) : Option Bool :=
  (law11_awake).bind fun (r13 : Bool) =>
  if 400 < ((p1.length : Int)) then (some r13)
  else ((record_One p1).bind fun (r14 : Int × Int × (List (List (Int × Int))) × Int) =>
  if ¬ r14.2.2.2 = 0 then (if r13 = true then ((law11_same ((r14.1, r14.2.1, r14.2.2.1)) (((0 : Int), (0 : Int), ([] : List (List (Int × Int)))))).bind fun (r16 : Bool) =>
  some r16)
  else (some false))
  else (if r13 = true then ((ref09_Hist ((r14.1, r14.2.1, r14.2.2.1))).bind fun (r23 : Int) =>
  if r23 = 0 then ((record_Put ((r14.1, r14.2.1, r14.2.2.1))).bind fun (r24 : List Int) =>
  some (decide ((bstr r24) = (bstr p1))))
  else (some false))
  else (some false)))

def law11_RecordLists_s0 (p1 : Int) (p2 : List (List (Int × Int))) (s8 : List Int × Int) : Option ((List Int × Int) ⊕ (List Int)) :=
  if s8.2 < ((p2.length : Int)) then ((rdo p2 s8.2).bind fun (z12 : List (Int × Int)) =>
  (ref06_Made p1 z12).bind fun (r39 : Int × Int × List (List (Int × Int))) =>
  (law11_made r39).bind fun (r40 : Unit) =>
  (record_Put r39).bind fun (r41 : List Int) =>
  (room (s8.1.length + r41.length) 1).bind fun _ =>
  some (.inl ((s8.1 ++ r41, wi64 (s8.2 + 1)))))
  else (some (.inr s8.1))
def law11_RecordLists_s1 (p1 : Int) (p2 : List (List (Int × Int))) (s11 : Int × List Int × Int) : Option ((Int × List Int × Int) ⊕ (Unit ⊕ (List Int × Int))) :=
  if s11.1 < ((p2.length : Int)) then ((rdo p2 s11.1).bind fun (z18 : List (Int × Int)) =>
  (record_Take s11.2).bind fun (r58 : Int × Int × (List (List (Int × Int))) × List Int × Int) =>
  (ref06_Made p1 z18).bind fun (r59 : Int × Int × List (List (Int × Int))) =>
  (law11_same ((r58.1, r58.2.1, r58.2.2.1)) r59).bind fun (r60 : Bool) =>
  if ¬ (r60 = true) then (some (.inr (.inl (()))))
  else (some (.inl ((wi64 (s11.1 + 1), r58.2.2.2.1, r58.2.2.2.2)))))
  else (some (.inr (.inr ((s11.2.1, s11.2.2)))))
def law11_RecordLists (p1 : Int) (p2 : List (List (Int × Int))) : Option Bool :=
  (law11_awake).bind fun (r32 : Bool) =>
  if 4 < ((p2.length : Int)) then (some r32)
  else (((loopO (law11_RecordLists_s0 p1 p2) ((([] : List Int), (0 : Int)))) : Option (List Int)).bind (fun (x3 : List Int) =>
  (codec_New x3).bind fun (r42 : Unit) =>
  ((loopO (law11_RecordLists_s1 p1 p2) (((0 : Int), x3.take ((x3.length : Int)).toNat, (0 : Int)))) : Option (Unit ⊕ (List Int × Int))).bind (Sum.elim (fun (d3 : Unit) =>
  some false)
  (fun (d4 : List Int × Int) =>
  if r32 = true then ((codec_Reader_End d4).bind fun (r62 : Int) =>
  some (decide (r62 = 0)))
  else (some false)))))

def buffer_New (p1 : Int) (p2 : Int) : Option (Int × Int × Int) :=
  if 4611686018427387904 < p1 then (some (((0 : Int), (0 : Int), (9 : Int))))
  else (if p2 < 1 then (some (((0 : Int), (0 : Int), (9 : Int))))
  else (if 1024 < p2 then (some (((0 : Int), (0 : Int), (9 : Int))))
  else (some ((p1, p2, (0 : Int))))))

def buffer_Buf_below_1 (p1 : Int × Int × Int) (p2 : Int) : Option Unit :=
  some (())

def slices_IndexFunc_Event_s0 (p1 : List (Int × Int × Int)) (p2 : Int) (s5 : Int) : Option (Int ⊕ (Int ⊕ Unit)) :=
  if s5 < ((p1.length : Int)) then ((rdo p1 s5).bind fun (z6 : Int × Int × Int) =>
  (buffer_Buf_below_1 z6 p2).bind fun (r6 : Unit) =>
  if p2 < z6.1 then (some (.inr (.inl s5)))
  else (some (.inl (wi64 (s5 + 1)))))
  else (some (.inr (.inr (()))))
def slices_IndexFunc_Event (p1 : List (Int × Int × Int)) (p2 : Int) : Option Int :=
  ((loopO (slices_IndexFunc_Event_s0 p1 p2) ((0 : Int))) : Option (Int ⊕ Unit)).bind (Sum.elim (fun (d3 : Int) =>
  some d3)
  (fun (d4 : Unit) =>
  some ((-1 : Int))))

def buffer_Buf_below (p1 : Int × Int × Int × Int × List (Int × Int × Int)) (p2 : Int) : Option Int :=
  (slices_IndexFunc_Event p1.2.2.2.2 p2).bind fun (r2 : Int) =>
  if r2 < 0 then (some ((p1.2.2.2.2.length : Int)))
  else (some r2)

def slices_Max_uint64_s0 (p1 : List Int) (s5 : Int × Int) : Option ((Int × Int) ⊕ Int) :=
  if s5.2 < ((p1.length : Int)) then ((rdo p1 s5.2).bind fun (z8 : Int) =>
  some (.inl ((max s5.1 z8, wi64 (s5.2 + 1)))))
  else (some (.inr s5.1))
def slices_Max_uint64 (p1 : List Int) : Option Int :=
  ((if ((p1.length : Int)) < 1 then (none)
  else (some (()))) : Option Unit).bind (fun (j2 : Unit) =>
  (rdo p1 0).bind fun (z5 : Int) =>
  ((loopO (slices_Max_uint64_s0 p1) ((z5, (1 : Int)))) : Option Int).bind (fun (x2 : Int) =>
  some x2))

def buffer_latest (p1 : List Int) : Option Int :=
  (slices_Max_uint64 p1).bind fun (r2 : Int) =>
  some r2

def slices_Grow_Event (p1 : Int) : Option (List (Int × Int × Int)) :=
  ((if p1 < 0 then (none)
  else (some (()))) : Option Unit).bind (fun (j2 : Unit) =>
  if 0 < (wi64 (p1 - 0)) then ((must (0 ≤ (0 : Int) ∧ (0 : Int) ≤ (([] : List (Int × Int × Int))).length)).bind fun _ =>
  (room ((wi64 (p1 - 0)).toNat) 24).bind fun _ =>
  (must (0 ≤ (0 : Int) ∧ (0 : Int) ≤ (List.replicate ((wi64 (p1 - 0)).toNat) (((0 : Int), (0 : Int), (0 : Int)) : Int × Int × Int)).length)).bind fun _ =>
  some ((List.replicate ((wi64 (p1 - 0)).toNat) (((0 : Int), (0 : Int), (0 : Int)) : Int × Int × Int)).take 0))
  else (some (([] : List (Int × Int × Int)))))

def slices_Concat_Event_s0 (p1 : List (List (Int × Int × Int))) (s8 : Int × Int) : Option ((Int × Int) ⊕ Int) :=
  if s8.2 < ((p1.length : Int)) then ((rdo p1 s8.2).bind fun (z9 : List (Int × Int × Int)) =>
  if (wi64 (s8.1 + ((z9.length : Int)))) < 0 then (none)
  else (some (.inl ((wi64 (s8.1 + ((z9.length : Int))), wi64 (s8.2 + 1))))))
  else (some (.inr s8.1))
def slices_Concat_Event_s1 (p1 : List (List (Int × Int × Int))) (s11 : (List (Int × Int × Int)) × Int) : Option (((List (Int × Int × Int)) × Int) ⊕ ((List (Int × Int × Int)))) :=
  if s11.2 < ((p1.length : Int)) then ((rdo p1 s11.2).bind fun (z12 : List (Int × Int × Int)) =>
  (room (s11.1.length + z12.length) 24).bind fun _ =>
  some (.inl ((s11.1 ++ z12, wi64 (s11.2 + 1)))))
  else (some (.inr s11.1))
def slices_Concat_Event (p1 : List (List (Int × Int × Int))) : Option (List (Int × Int × Int)) :=
  ((loopO (slices_Concat_Event_s0 p1) (((0 : Int), (0 : Int)))) : Option Int).bind (fun (x3 : Int) =>
  (slices_Grow_Event x3).bind fun (r2 : List (Int × Int × Int)) =>
  ((loopO (slices_Concat_Event_s1 p1) ((r2, (0 : Int)))) : Option ((List (Int × Int × Int)))).bind (fun (x4 : (List (Int × Int × Int))) =>
  some x4))

def slices_Clone_Event (p1 : List (Int × Int × Int)) : Option (List (Int × Int × Int)) :=
  (room ((([] : List (Int × Int × Int))).length + p1.length) 24).bind fun _ =>
  some p1

def buffer_Buf_settle_s0 (p1 : Int × Int × Int × Int × List (Int × Int × Int)) (s5 : Int × Int) : Option ((Int × Int) ⊕ ((Int × Int))) :=
  if p1.2.1 < (wi64 (((p1.2.2.2.2.length : Int)) - s5.1)) then ((rdo p1.2.2.2.2 s5.1).bind fun (z6 : Int × Int × Int) =>
  (buffer_Buf_below ((p1.1, p1.2.1, p1.2.2.1, z6.1, p1.2.2.2.2)) z6.1).bind fun (r14 : Int) =>
  some (.inl ((r14, z6.1))))
  else (some (.inr ((s5.1, s5.2))))
def buffer_Buf_settle (p1 : Int × Int × Int × Int × List (Int × Int × Int)) : Option (Int × (List (Int × Int × Int)) × List (Int × Int × Int)) :=
  ((if p1.1 < p1.2.2.1 then ((buffer_latest ([p1.2.2.2.1, wu64 (p1.2.2.1 - p1.1)])).bind fun (r10 : Int) =>
  some r10)
  else (some p1.2.2.2.1)) : Option Int).bind (fun (j2 : Int) =>
  (buffer_Buf_below ((p1.1, p1.2.1, p1.2.2.1, j2, p1.2.2.2.2)) j2).bind fun (r11 : Int) =>
  ((loopO (buffer_Buf_settle_s0 p1) ((r11, j2))) : Option ((Int × Int))).bind (fun (x2 : (Int × Int)) =>
  (must (0 ≤ x2.1 ∧ x2.1 ≤ x2.1 ∧ x2.1 ≤ p1.2.2.2.2.length)).bind fun _ =>
  (must (0 ≤ x2.1 ∧ x2.1 ≤ p1.2.2.2.2.length)).bind fun _ =>
  (slices_Clone_Event (p1.2.2.2.2.take x2.1.toNat)).bind fun (r16 : List (Int × Int × Int)) =>
  some ((x2.2, p1.2.2.2.2.drop x2.1.toNat, r16))))

def buffer_Push (p1 : Int × Int × Int × Int × List (Int × Int × Int)) (p2 : Int × Int × Int) : Option (Int × Int × Int × Int × (List (Int × Int × Int)) × (List (Int × Int × Int)) × Int) :=
  if p2.2.2 = 0 then (some (((0 : Int), (0 : Int), (0 : Int), (0 : Int), ([] : List (Int × Int × Int)), ([] : List (Int × Int × Int)), (1 : Int))))
  else (if 9223372036854775807 < p2.1 then (some (((0 : Int), (0 : Int), (0 : Int), (0 : Int), ([] : List (Int × Int × Int)), ([] : List (Int × Int × Int)), (6 : Int))))
  else (if p2.1 < p1.2.2.2.1 then (some (((0 : Int), (0 : Int), (0 : Int), (0 : Int), ([] : List (Int × Int × Int)), ([] : List (Int × Int × Int)), (4 : Int))))
  else ((buffer_Buf_below p1 p2.1).bind fun (r6 : Int) =>
  (buffer_latest ([p1.2.2.1, p2.1])).bind fun (r7 : Int) =>
  (must (0 ≤ r6 ∧ r6 ≤ r6 ∧ r6 ≤ p1.2.2.2.2.length)).bind fun _ =>
  (must (0 ≤ r6 ∧ r6 ≤ p1.2.2.2.2.length)).bind fun _ =>
  (slices_Concat_Event ([p1.2.2.2.2.take r6.toNat, [p2], p1.2.2.2.2.drop r6.toNat])).bind fun (r9 : List (Int × Int × Int)) =>
  (buffer_Buf_settle ((p1.1, p1.2.1, r7, p1.2.2.2.1, r9))).bind fun (r10 : Int × (List (Int × Int × Int)) × List (Int × Int × Int)) =>
  some ((((p1.1, p1.2.1, r7, p1.2.2.2.1, r9)).1, ((p1.1, p1.2.1, r7, p1.2.2.2.1, r9)).2.1, ((p1.1, p1.2.1, r7, p1.2.2.2.1, r9)).2.2.1, r10.1, r10.2.1, r10.2.2, (0 : Int))))))

def buffer_Weight_s0 (p1 : Int × Int × Int × Int × List (Int × Int × Int)) (s5 : Int × Int) : Option ((Int × Int) ⊕ Int) :=
  if s5.2 < ((p1.2.2.2.2.length : Int)) then ((rdo p1.2.2.2.2 s5.2).bind fun (z6 : Int × Int × Int) =>
  some (.inl ((wu64 (s5.1 + z6.2.2), wi64 (s5.2 + 1)))))
  else (some (.inr s5.1))
def buffer_Weight (p1 : Int × Int × Int × Int × List (Int × Int × Int)) : Option Int :=
  ((loopO (buffer_Weight_s0 p1) (((0 : Int), (0 : Int)))) : Option Int).bind (fun (x2 : Int) =>
  some x2)

def buffer_May_1 (p1 : Int × Int × Int) (p2 : Int × Int × Int × Int × List (Int × Int × Int)) (p3 : Int) : Option Bool :=
  if p1.2.2 = 0 then (some true)
  else (if p1.1 ≤ p2.2.2.2.1 then (some true)
  else (if p1.1 < p3 then (some true)
  else (some (decide (p2.2.2.1 < p1.1)))))

def slices_IndexFunc_Event_v1_s0 (p1 : List (Int × Int × Int)) (s5 : Int × Int × Int × Int × Int × (List (Int × Int × Int)) × Int) : Option ((Int × Int × Int × Int × Int × (List (Int × Int × Int)) × Int) ⊕ ((Int × Int × Int × Int × Int × (List (Int × Int × Int)) × Int) ⊕ (Int × Int × Int × Int × (List (Int × Int × Int)) × Int))) :=
  if s5.1 < ((p1.length : Int)) then ((rdo p1 s5.1).bind fun (z6 : Int × Int × Int) =>
  (buffer_May_1 z6 ((s5.2.1, s5.2.2.1, s5.2.2.2.1, s5.2.2.2.2.1, s5.2.2.2.2.2.1)) s5.2.2.2.2.2.2).bind fun (r6 : Bool) =>
  if r6 = true then (some (.inr (.inl ((s5.1, ((s5.2.1, s5.2.2.1, s5.2.2.2.1, s5.2.2.2.2.1, s5.2.2.2.2.2.1)).1, ((s5.2.1, s5.2.2.1, s5.2.2.2.1, s5.2.2.2.2.1, s5.2.2.2.2.2.1)).2.1, ((s5.2.1, s5.2.2.1, s5.2.2.2.1, s5.2.2.2.2.1, s5.2.2.2.2.2.1)).2.2.1, ((s5.2.1, s5.2.2.1, s5.2.2.2.1, s5.2.2.2.2.1, s5.2.2.2.2.2.1)).2.2.2.1, ((s5.2.1, s5.2.2.1, s5.2.2.2.1, s5.2.2.2.2.1, s5.2.2.2.2.2.1)).2.2.2.2, z6.1)))))
  else (some (.inl ((wi64 (s5.1 + 1), ((s5.2.1, s5.2.2.1, s5.2.2.2.1, s5.2.2.2.2.1, s5.2.2.2.2.2.1)).1, ((s5.2.1, s5.2.2.1, s5.2.2.2.1, s5.2.2.2.2.1, s5.2.2.2.2.2.1)).2.1, ((s5.2.1, s5.2.2.1, s5.2.2.2.1, s5.2.2.2.2.1, s5.2.2.2.2.2.1)).2.2.1, ((s5.2.1, s5.2.2.1, s5.2.2.2.1, s5.2.2.2.2.1, s5.2.2.2.2.2.1)).2.2.2.1, ((s5.2.1, s5.2.2.1, s5.2.2.2.1, s5.2.2.2.2.1, s5.2.2.2.2.2.1)).2.2.2.2, z6.1)))))
  else (some (.inr (.inr ((s5.2.1, s5.2.2.1, s5.2.2.2.1, s5.2.2.2.2.1, s5.2.2.2.2.2.1, s5.2.2.2.2.2.2)))))
def slices_IndexFunc_Event_v1 (p1 : List (Int × Int × Int)) (p2 : Int × Int × Int × Int × (List (Int × Int × Int)) × Int) : Option (Int × Int × Int × Int × Int × (List (Int × Int × Int)) × Int) :=
  ((loopO (slices_IndexFunc_Event_v1_s0 p1) (((0 : Int), p2.1, p2.2.1, p2.2.2.1, p2.2.2.2.1, p2.2.2.2.2.1, p2.2.2.2.2.2))) : Option ((Int × Int × Int × Int × Int × (List (Int × Int × Int)) × Int) ⊕ (Int × Int × Int × Int × (List (Int × Int × Int)) × Int))).bind (Sum.elim (fun (d3 : Int × Int × Int × Int × Int × (List (Int × Int × Int)) × Int) =>
  some ((d3.1, d3.2.1, d3.2.2.1, d3.2.2.2.1, d3.2.2.2.2.1, d3.2.2.2.2.2.1, d3.2.2.2.2.2.2)))
  (fun (d4 : Int × Int × Int × Int × (List (Int × Int × Int)) × Int) =>
  some (((-1 : Int), d4.1, d4.2.1, d4.2.2.1, d4.2.2.2.1, d4.2.2.2.2.1, d4.2.2.2.2.2))))

def slices_ContainsFunc_Event (p1 : List (Int × Int × Int)) (p2 : Int × Int × Int × Int × (List (Int × Int × Int)) × Int) : Option (Bool × Int × Int × Int × Int × (List (Int × Int × Int)) × Int) :=
  (slices_IndexFunc_Event_v1 p1 p2).bind fun (r2 : Int × Int × Int × Int × Int × (List (Int × Int × Int)) × Int) =>
  some ((decide (0 ≤ r2.1), r2.2.1, r2.2.2.1, r2.2.2.2.1, r2.2.2.2.2.1, r2.2.2.2.2.2.1, r2.2.2.2.2.2.2))

def buffer_May (p1 : Int × Int × Int × Int × List (Int × Int × Int)) : Option Int :=
  (buffer_New p1.1 p1.2.1).bind fun (r3 : Int × Int × Int) =>
  if ¬ r3.2.2 = 0 then (some r3.2.2)
  else ((slices_ContainsFunc_Event p1.2.2.2.2 ((p1.1, p1.2.1, p1.2.2.1, p1.2.2.2.1, p1.2.2.2.2, p1.2.2.2.1))).bind fun (r4 : Bool × Int × Int × Int × Int × (List (Int × Int × Int)) × Int) =>
  if r4.1 = true then (some ((2 : Int)))
  else (if r4.2.2.1 < ((r4.2.2.2.2.2.1.length : Int)) then (some ((2 : Int)))
  else (if r4.2.2.2.1 < r4.2.2.2.2.1 then (some ((2 : Int)))
  else (if 9223372036854775807 < r4.2.2.2.1 then (some ((2 : Int)))
  else (if r4.2.1 < (wu64 (r4.2.2.2.1 - r4.2.2.2.2.1)) then (some ((2 : Int)))
  else (some ((0 : Int))))))))

def law12_awake : Option Bool :=
  (buffer_New ((2 : Int)) ((9 : Int))).bind fun (r10 : Int × Int × Int) =>
  (buffer_Push ((r10.1, r10.2.1, (0 : Int), (0 : Int), ([] : List (Int × Int × Int)))) (((5 : Int), (0 : Int), (1 : Int)))).bind fun (r11 : Int × Int × Int × Int × (List (Int × Int × Int)) × (List (Int × Int × Int)) × Int) =>
  (buffer_Push ((r11.1, r11.2.1, r11.2.2.1, r11.2.2.2.1, r11.2.2.2.2.1)) (((4 : Int), (0 : Int), (2 : Int)))).bind fun (r12 : Int × Int × Int × Int × (List (Int × Int × Int)) × (List (Int × Int × Int)) × Int) =>
  (buffer_Push ((r12.1, r12.2.1, r12.2.2.1, r12.2.2.2.1, r12.2.2.2.2.1)) (((8 : Int), (0 : Int), (3 : Int)))).bind fun (r13 : Int × Int × Int × Int × (List (Int × Int × Int)) × (List (Int × Int × Int)) × Int) =>
  (buffer_Push ((r13.1, r13.2.1, r13.2.2.1, r13.2.2.2.1, r13.2.2.2.2.1)) (((5 : Int), (0 : Int), (1 : Int)))).bind fun (r14 : Int × Int × Int × Int × (List (Int × Int × Int)) × (List (Int × Int × Int)) × Int) =>
  if r10.2.2 = 0 then (if r12.2.2.2.2.2.2 = 0 then (if r13.2.2.2.2.2.2 = 0 then (if ((r12.2.2.2.2.2.1.length : Int)) = 0 then (if ((r13.2.2.2.2.2.1.length : Int)) = 2 then ((rdo r13.2.2.2.2.2.1 0).bind fun (z4 : Int × Int × Int) =>
  if z4.1 = 4 then (if r13.2.2.2.1 = 6 then (if r14.2.2.2.2.2.2 = 4 then ((buffer_Weight ((r13.1, r13.2.1, r13.2.2.1, r13.2.2.2.1, r13.2.2.2.2.1))).bind fun (r17 : Int) =>
  if r17 = 3 then ((buffer_May ((r13.1, r13.2.1, r13.2.2.1, r13.2.2.2.1, r13.2.2.2.2.1))).bind fun (r18 : Int) =>
  some (decide (r18 = 0)))
  else (some false))
  else (some false))
  else (some false))
  else (some false))
  else (some false))
  else (some false))
  else (some false))
  else (some false))
  else (some false)

def ref12_split_s0 (p1 : List (Int × Int × Int)) (p2 : Int) (s5 : (List (Int × Int × Int)) × (List (Int × Int × Int)) × Int) : Option (((List (Int × Int × Int)) × (List (Int × Int × Int)) × Int) ⊕ (((List (Int × Int × Int)) × List (Int × Int × Int)))) :=
  if s5.2.2 < ((p1.length : Int)) then ((rdo p1 s5.2.2).bind fun (z6 : Int × Int × Int) =>
  if z6.1 ≤ p2 then ((room (s5.1.length + ([z6]).length) 24).bind fun _ =>
  some (.inl ((s5.1 ++ ([z6]), s5.2.1, wi64 (s5.2.2 + 1)))))
  else ((room (s5.2.1.length + ([z6]).length) 24).bind fun _ =>
  some (.inl ((s5.1, s5.2.1 ++ ([z6]), wi64 (s5.2.2 + 1))))))
  else (some (.inr ((s5.1, s5.2.1))))
def ref12_split (p1 : List (Int × Int × Int)) (p2 : Int) : Option ((List (Int × Int × Int)) × List (Int × Int × Int)) :=
  ((loopO (ref12_split_s0 p1 p2) ((([] : List (Int × Int × Int)), ([] : List (Int × Int × Int)), (0 : Int)))) : Option (((List (Int × Int × Int)) × List (Int × Int × Int)))).bind (fun (x2 : ((List (Int × Int × Int)) × List (Int × Int × Int))) =>
  some ((x2.1, x2.2)))

def ref12_settle_s0 (p1 : Int × Int × Int × Int × List (Int × Int × Int)) (s5 : (List (Int × Int × Int)) × (List (Int × Int × Int)) × Int) : Option (((List (Int × Int × Int)) × (List (Int × Int × Int)) × Int) ⊕ (((List (Int × Int × Int)) × (List (Int × Int × Int)) × Int))) :=
  if p1.2.1 < ((s5.2.1.length : Int)) then ((rdo s5.2.1 0).bind fun (z6 : Int × Int × Int) =>
  (ref12_split s5.2.1 z6.1).bind fun (r8 : (List (Int × Int × Int)) × List (Int × Int × Int)) =>
  (room (s5.1.length + r8.1.length) 24).bind fun _ =>
  some (.inl ((s5.1 ++ r8.1, r8.2, z6.1))))
  else (some (.inr ((s5.1, s5.2.1, s5.2.2))))
def ref12_settle (p1 : Int × Int × Int × Int × List (Int × Int × Int)) : Option (Int × (List (Int × Int × Int)) × List (Int × Int × Int)) :=
  ((if p1.1 ≤ p1.2.2.1 then (some (decide (p1.2.2.2.1 < (wu64 (p1.2.2.1 - p1.1)))))
  else (some false)) : Option Bool).bind (fun (j3 : Bool) =>
  ((if j3 = true then (some (wu64 (p1.2.2.1 - p1.1)))
  else (some p1.2.2.2.1)) : Option Int).bind (fun (j4 : Int) =>
  (ref12_split p1.2.2.2.2 j4).bind fun (r5 : (List (Int × Int × Int)) × List (Int × Int × Int)) =>
  ((loopO (ref12_settle_s0 p1) ((r5.1, r5.2, j4))) : Option (((List (Int × Int × Int)) × (List (Int × Int × Int)) × Int))).bind (fun (x2 : ((List (Int × Int × Int)) × (List (Int × Int × Int)) × Int)) =>
  some ((x2.2.2, x2.2.1, x2.1)))))

def ref12_Move (p1 : Int × Int × Int × Int × List (Int × Int × Int)) (p2 : Int) : Option (Int × Int × Int × Int × (List (Int × Int × Int)) × (List (Int × Int × Int)) × Int) :=
  if 9223372036854775807 < p2 then (some (((0 : Int), (0 : Int), (0 : Int), (0 : Int), ([] : List (Int × Int × Int)), ([] : List (Int × Int × Int)), (6 : Int))))
  else ((ref12_settle ((p1.1, p1.2.1, max p1.2.2.1 p2, p1.2.2.2.1, p1.2.2.2.2))).bind fun (r2 : Int × (List (Int × Int × Int)) × List (Int × Int × Int)) =>
  some ((((p1.1, p1.2.1, max p1.2.2.1 p2, p1.2.2.2.1, p1.2.2.2.2)).1, ((p1.1, p1.2.1, max p1.2.2.1 p2, p1.2.2.2.1, p1.2.2.2.2)).2.1, ((p1.1, p1.2.1, max p1.2.2.1 p2, p1.2.2.2.1, p1.2.2.2.2)).2.2.1, r2.1, r2.2.1, r2.2.2, (0 : Int))))

def ref12_Push (p1 : Int × Int × Int × Int × List (Int × Int × Int)) (p2 : Int × Int × Int) : Option (Int × Int × Int × Int × (List (Int × Int × Int)) × (List (Int × Int × Int)) × Int) :=
  if p2.2.2 = 0 then (some (((0 : Int), (0 : Int), (0 : Int), (0 : Int), ([] : List (Int × Int × Int)), ([] : List (Int × Int × Int)), (1 : Int))))
  else (if 9223372036854775807 < p2.1 then (some (((0 : Int), (0 : Int), (0 : Int), (0 : Int), ([] : List (Int × Int × Int)), ([] : List (Int × Int × Int)), (6 : Int))))
  else (if p2.1 < p1.2.2.2.1 then (some (((0 : Int), (0 : Int), (0 : Int), (0 : Int), ([] : List (Int × Int × Int)), ([] : List (Int × Int × Int)), (4 : Int))))
  else ((ref12_split p1.2.2.2.2 p2.1).bind fun (r3 : (List (Int × Int × Int)) × List (Int × Int × Int)) =>
  (room ((([] : List (Int × Int × Int))).length + r3.1.length) 24).bind fun _ =>
  (room (r3.1.length + ([p2]).length) 24).bind fun _ =>
  (room ((r3.1 ++ ([p2])).length + r3.2.length) 24).bind fun _ =>
  (ref12_settle ((p1.1, p1.2.1, max p1.2.2.1 p2.1, p1.2.2.2.1, (r3.1 ++ ([p2])) ++ r3.2))).bind fun (r4 : Int × (List (Int × Int × Int)) × List (Int × Int × Int)) =>
  some ((((p1.1, p1.2.1, max p1.2.2.1 p2.1, p1.2.2.2.1, (r3.1 ++ ([p2])) ++ r3.2)).1, ((p1.1, p1.2.1, max p1.2.2.1 p2.1, p1.2.2.2.1, (r3.1 ++ ([p2])) ++ r3.2)).2.1, ((p1.1, p1.2.1, max p1.2.2.1 p2.1, p1.2.2.2.1, (r3.1 ++ ([p2])) ++ r3.2)).2.2.1, r4.1, r4.2.1, r4.2.2, (0 : Int))))))

def ref12_one (p1 : Int × Int × Int × Int × List (Int × Int × Int)) (p2 : Int × Int × Int) : Option (Int × Int × Int × Int × (List (Int × Int × Int)) × (List (Int × Int × Int)) × Int) :=
  if p2.2.2 = 0 then ((ref12_Move p1 p2.1).bind fun (r3 : Int × Int × Int × Int × (List (Int × Int × Int)) × (List (Int × Int × Int)) × Int) =>
  some ((r3.1, r3.2.1, r3.2.2.1, r3.2.2.2.1, r3.2.2.2.2.1, r3.2.2.2.2.2.1, r3.2.2.2.2.2.2)))
  else ((ref12_Push p1 p2).bind fun (r4 : Int × Int × Int × Int × (List (Int × Int × Int)) × (List (Int × Int × Int)) × Int) =>
  some ((r4.1, r4.2.1, r4.2.2.1, r4.2.2.2.1, r4.2.2.2.2.1, r4.2.2.2.2.2.1, r4.2.2.2.2.2.2)))

def ref12_Made_s0 (p3 : List (Int × Int × Int)) (s5 : (List (Int × Int × Int)) × Int × Int × Int × Int × Int × List (Int × Int × Int)) : Option (((List (Int × Int × Int)) × Int × Int × Int × Int × Int × List (Int × Int × Int)) ⊕ (((List (Int × Int × Int)) × Int × Int × Int × Int × List (Int × Int × Int)))) :=
  if s5.2.1 < ((p3.length : Int)) then (if s5.2.1 < 40 then ((rdo p3 s5.2.1).bind fun (z12 : Int × Int × Int) =>
  (ref12_one s5.2.2 z12).bind fun (r6 : Int × Int × Int × Int × (List (Int × Int × Int)) × (List (Int × Int × Int)) × Int) =>
  if r6.2.2.2.2.2.2 = 0 then ((room (s5.1.length + r6.2.2.2.2.2.1.length) 24).bind fun _ =>
  some (.inl ((s5.1 ++ r6.2.2.2.2.2.1, wi64 (s5.2.1 + 1), r6.1, r6.2.1, r6.2.2.1, r6.2.2.2.1, r6.2.2.2.2.1))))
  else (some (.inl ((s5.1, wi64 (s5.2.1 + 1), s5.2.2.1, s5.2.2.2.1, s5.2.2.2.2.1, s5.2.2.2.2.2.1, s5.2.2.2.2.2.2)))))
  else (some (.inr ((s5.1, s5.2.2.1, s5.2.2.2.1, s5.2.2.2.2.1, s5.2.2.2.2.2.1, s5.2.2.2.2.2.2)))))
  else (some (.inr ((s5.1, s5.2.2.1, s5.2.2.2.1, s5.2.2.2.2.1, s5.2.2.2.2.2.1, s5.2.2.2.2.2.2))))
def ref12_Made (p1 : Int) (p2 : Int) (p3 : List (Int × Int × Int)) : Option (Int × Int × Int × Int × (List (Int × Int × Int)) × List (Int × Int × Int)) :=
  ((loopO (ref12_Made_s0 p3) ((([] : List (Int × Int × Int)), (0 : Int), p1.tmod 1000, wi64 (1 + ((max p2 0).tmod 50)), (0 : Int), (0 : Int), ([] : List (Int × Int × Int))))) : Option (((List (Int × Int × Int)) × Int × Int × Int × Int × List (Int × Int × Int)))).bind (fun (x2 : ((List (Int × Int × Int)) × Int × Int × Int × Int × List (Int × Int × Int))) =>
  some ((x2.2.1, x2.2.2.1, x2.2.2.2.1, x2.2.2.2.2.1, x2.2.2.2.2.2, x2.1)))

def law12_made (p1 : Int × Int × Int × Int × List (Int × Int × Int)) : Option Unit :=
  some (())

def ref12_Weight_s0 (p1 : Int × Int × Int × Int × List (Int × Int × Int)) (s5 : Int × Int) : Option ((Int × Int) ⊕ Int) :=
  if s5.2 < ((p1.2.2.2.2.length : Int)) then ((rdo p1.2.2.2.2 s5.2).bind fun (z6 : Int × Int × Int) =>
  some (.inl ((wu64 (s5.1 + z6.2.2), wi64 (s5.2 + 1)))))
  else (some (.inr s5.1))
def ref12_Weight (p1 : Int × Int × Int × Int × List (Int × Int × Int)) : Option Int :=
  ((loopO (ref12_Weight_s0 p1) (((0 : Int), (0 : Int)))) : Option Int).bind (fun (x2 : Int) =>
  some x2)

def cmp_isNaN_uint64 (p1 : Int) : Option Unit :=
  some (())

def cmp_Compare_uint64 (p1 : Int) (p2 : Int) : Option Int :=
  (cmp_isNaN_uint64 p1).bind fun (r3 : Unit) =>
  (cmp_isNaN_uint64 p2).bind fun (r4 : Unit) =>
  if ¬ p1 = p1 then (if ¬ p2 = p2 then (some ((0 : Int)))
  else (some ((-1 : Int))))
  else (if ¬ p2 = p2 then (some ((1 : Int)))
  else (if p1 < p2 then (some ((-1 : Int)))
  else (if p2 < p1 then (some ((1 : Int)))
  else (some ((0 : Int))))))

def buffer_Join_1 (p1 : Int × Int × Int) (p2 : Int × Int × Int) : Option Int :=
  (cmp_Compare_uint64 p1.1 p2.1).bind fun (r2 : Int) =>
  some r2

def slices_insertionSortCmpFunc_Event_s1 (p2 : Int) (s23 : (List (Int × Int × Int)) × Int) : Option (((List (Int × Int × Int)) × Int) ⊕ ((List (Int × Int × Int)))) :=
  if p2 < s23.2 then ((rdo s23.1 s23.2).bind fun (z177 : Int × Int × Int) =>
  (rdo s23.1 (wi64 (s23.2 - 1))).bind fun (z178 : Int × Int × Int) =>
  (buffer_Join_1 z177 z178).bind fun (r72 : Int) =>
  if r72 < 0 then ((rdo (s23.1.set (s23.2).toNat z178) (wi64 (s23.2 - 1))).bind fun (z180 : Int × Int × Int) =>
  some (.inl (((s23.1.set (s23.2).toNat z178).set (wi64 (s23.2 - 1)).toNat z177, wi64 (s23.2 - 1)))))
  else (some (.inr s23.1)))
  else (some (.inr s23.1))
def slices_insertionSortCmpFunc_Event_s0 (p2 : Int) (p3 : Int) (s17 : (List (Int × Int × Int)) × Int) : Option (((List (Int × Int × Int)) × Int) ⊕ ((List (Int × Int × Int)))) :=
  if s17.2 < p3 then (((loopO (slices_insertionSortCmpFunc_Event_s1 p2) ((s17.1, s17.2))) : Option ((List (Int × Int × Int)))).bind (fun (x8 : (List (Int × Int × Int))) =>
  some (.inl ((x8, wi64 (s17.2 + 1))))))
  else (some (.inr s17.1))
def slices_insertionSortCmpFunc_Event (p1 : List (Int × Int × Int)) (p2 : Int) (p3 : Int) : Option (List (Int × Int × Int)) :=
  ((loopO (slices_insertionSortCmpFunc_Event_s0 p2 p3) ((p1, wi64 (p2 + 1)))) : Option ((List (Int × Int × Int)))).bind (fun (x7 : (List (Int × Int × Int))) =>
  some x7)

def slices_swapRangeCmpFunc_Event_s0 (p2 : Int) (p3 : Int) (p4 : Int) (s5 : (List (Int × Int × Int)) × Int) : Option (((List (Int × Int × Int)) × Int) ⊕ ((List (Int × Int × Int)))) :=
  if s5.2 < p4 then ((rdo s5.1 (wi64 (p3 + s5.2))).bind fun (z34 : Int × Int × Int) =>
  (rdo s5.1 (wi64 (p2 + s5.2))).bind fun (z35 : Int × Int × Int) =>
  (rdo (s5.1.set (wi64 (p2 + s5.2)).toNat z34) (wi64 (p3 + s5.2))).bind fun (z36 : Int × Int × Int) =>
  some (.inl (((s5.1.set (wi64 (p2 + s5.2)).toNat z34).set (wi64 (p3 + s5.2)).toNat z35, wi64 (s5.2 + 1)))))
  else (some (.inr s5.1))
def slices_swapRangeCmpFunc_Event (p1 : List (Int × Int × Int)) (p2 : Int) (p3 : Int) (p4 : Int) : Option (List (Int × Int × Int)) :=
  ((loopO (slices_swapRangeCmpFunc_Event_s0 p2 p3 p4) ((p1, (0 : Int)))) : Option ((List (Int × Int × Int)))).bind (fun (x2 : (List (Int × Int × Int))) =>
  some x2)

def slices_rotateCmpFunc_Event_s0 (p3 : Int) (s5 : (List (Int × Int × Int)) × Int × Int) : Option (((List (Int × Int × Int)) × Int × Int) ⊕ (((List (Int × Int × Int)) × Int))) :=
  if ¬ s5.2.1 = s5.2.2 then (if s5.2.2 < s5.2.1 then ((slices_swapRangeCmpFunc_Event s5.1 (wi64 (p3 - s5.2.1)) p3 s5.2.2).bind fun (r12 : List (Int × Int × Int)) =>
  some (.inl ((r12, wi64 (s5.2.1 - s5.2.2), s5.2.2))))
  else ((slices_swapRangeCmpFunc_Event s5.1 (wi64 (p3 - s5.2.1)) (wi64 ((wi64 (p3 + s5.2.2)) - s5.2.1)) s5.2.1).bind fun (r13 : List (Int × Int × Int)) =>
  some (.inl ((r13, s5.2.1, wi64 (s5.2.2 - s5.2.1))))))
  else (some (.inr ((s5.1, s5.2.1))))
def slices_rotateCmpFunc_Event (p1 : List (Int × Int × Int)) (p2 : Int) (p3 : Int) (p4 : Int) : Option (List (Int × Int × Int)) :=
  ((loopO (slices_rotateCmpFunc_Event_s0 p3) ((p1, wi64 (p3 - p2), wi64 (p4 - p3)))) : Option (((List (Int × Int × Int)) × Int))).bind (fun (x2 : ((List (Int × Int × Int)) × Int)) =>
  (slices_swapRangeCmpFunc_Event x2.1 (wi64 (p3 - x2.2)) p3 x2.2).bind fun (r14 : List (Int × Int × Int)) =>
  some r14)

def slices_symMergeCmpFunc_Event_s0 (p1 : List (Int × Int × Int)) (p2 : Int) (s17 : Int × Int) : Option ((Int × Int) ⊕ Int) :=
  if s17.1 < s17.2 then ((rdo p1 (wi64 (shrk 64 (wu64 (wi64 (s17.1 + s17.2))) 1))).bind fun (z83 : Int × Int × Int) =>
  (rdo p1 p2).bind fun (z84 : Int × Int × Int) =>
  (buffer_Join_1 z83 z84).bind fun (r29 : Int) =>
  if r29 < 0 then (some (.inl ((wi64 ((wi64 (shrk 64 (wu64 (wi64 (s17.1 + s17.2))) 1)) + 1), s17.2))))
  else (some (.inl ((s17.1, wi64 (shrk 64 (wu64 (wi64 (s17.1 + s17.2))) 1))))))
  else (some (.inr s17.1))
def slices_symMergeCmpFunc_Event_s1 (x6 : Int) (s20 : (List (Int × Int × Int)) × Int) : Option (((List (Int × Int × Int)) × Int) ⊕ ((List (Int × Int × Int)))) :=
  if s20.2 < (wi64 (x6 - 1)) then ((rdo s20.1 (wi64 (s20.2 + 1))).bind fun (z100 : Int × Int × Int) =>
  (rdo s20.1 s20.2).bind fun (z101 : Int × Int × Int) =>
  (rdo (s20.1.set (s20.2).toNat z100) (wi64 (s20.2 + 1))).bind fun (z102 : Int × Int × Int) =>
  some (.inl (((s20.1.set (s20.2).toNat z100).set (wi64 (s20.2 + 1)).toNat z101, wi64 (s20.2 + 1)))))
  else (some (.inr s20.1))
def slices_symMergeCmpFunc_Event_s2 (p1 : List (Int × Int × Int)) (p3 : Int) (s23 : Int × Int) : Option ((Int × Int) ⊕ Int) :=
  if s23.1 < s23.2 then ((rdo p1 p3).bind fun (z113 : Int × Int × Int) =>
  (rdo p1 (wi64 (shrk 64 (wu64 (wi64 (s23.1 + s23.2))) 1))).bind fun (z114 : Int × Int × Int) =>
  (buffer_Join_1 z113 z114).bind fun (r35 : Int) =>
  if ¬ (r35 < 0) then (some (.inl ((wi64 ((wi64 (shrk 64 (wu64 (wi64 (s23.1 + s23.2))) 1)) + 1), s23.2))))
  else (some (.inl ((s23.1, wi64 (shrk 64 (wu64 (wi64 (s23.1 + s23.2))) 1))))))
  else (some (.inr s23.1))
def slices_symMergeCmpFunc_Event_s3 (x8 : Int) (s26 : (List (Int × Int × Int)) × Int) : Option (((List (Int × Int × Int)) × Int) ⊕ ((List (Int × Int × Int)))) :=
  if x8 < s26.2 then ((rdo s26.1 (wi64 (s26.2 - 1))).bind fun (z130 : Int × Int × Int) =>
  (rdo s26.1 s26.2).bind fun (z131 : Int × Int × Int) =>
  (rdo (s26.1.set (s26.2).toNat z130) (wi64 (s26.2 - 1))).bind fun (z132 : Int × Int × Int) =>
  some (.inl (((s26.1.set (s26.2).toNat z130).set (wi64 (s26.2 - 1)).toNat z131, wi64 (s26.2 - 1)))))
  else (some (.inr s26.1))
def slices_symMergeCmpFunc_Event_s4 (p1 : List (Int × Int × Int)) (p2 : Int) (p3 : Int) (p4 : Int) (s29 : Int × Int) : Option ((Int × Int) ⊕ Int) :=
  if s29.1 < s29.2 then ((rdo p1 (wi64 ((wi64 ((wi64 ((wi64 (shrk 64 (wu64 (wi64 (p2 + p4))) 1)) + p3)) - 1)) - (wi64 (shrk 64 (wu64 (wi64 (s29.1 + s29.2))) 1))))).bind fun (z143 : Int × Int × Int) =>
  (rdo p1 (wi64 (shrk 64 (wu64 (wi64 (s29.1 + s29.2))) 1))).bind fun (z144 : Int × Int × Int) =>
  (buffer_Join_1 z143 z144).bind fun (r41 : Int) =>
  if ¬ (r41 < 0) then (some (.inl ((wi64 ((wi64 (shrk 64 (wu64 (wi64 (s29.1 + s29.2))) 1)) + 1), s29.2))))
  else (some (.inl ((s29.1, wi64 (shrk 64 (wu64 (wi64 (s29.1 + s29.2))) 1))))))
  else (some (.inr s29.1))
def slices_symMergeCmpFunc_Event_F (rec : (List (Int × Int × Int)) → Int → Int → Int → Option (List (Int × Int × Int))) (p1 : List (Int × Int × Int)) (p2 : Int) (p3 : Int) (p4 : Int) : Option (List (Int × Int × Int)) :=
  if (wi64 (p3 - p2)) = 1 then (((loopO (slices_symMergeCmpFunc_Event_s0 p1 p2) ((p3, p4))) : Option Int).bind (fun (x6 : Int) =>
  ((loopO (slices_symMergeCmpFunc_Event_s1 x6) ((p1, p2))) : Option ((List (Int × Int × Int)))).bind (fun (x7 : (List (Int × Int × Int))) =>
  some x7)))
  else (if (wi64 (p4 - p3)) = 1 then (((loopO (slices_symMergeCmpFunc_Event_s2 p1 p3) ((p2, p3))) : Option Int).bind (fun (x8 : Int) =>
  ((loopO (slices_symMergeCmpFunc_Event_s3 x8) ((p1, p3))) : Option ((List (Int × Int × Int)))).bind (fun (x9 : (List (Int × Int × Int))) =>
  some x9)))
  else (((if (wi64 (shrk 64 (wu64 (wi64 (p2 + p4))) 1)) < p3 then (some ((wi64 ((wi64 ((wi64 (shrk 64 (wu64 (wi64 (p2 + p4))) 1)) + p3)) - p4), wi64 (shrk 64 (wu64 (wi64 (p2 + p4))) 1))))
  else (some ((p2, p3)))) : Option ((Int × Int))).bind (fun (j6 : (Int × Int)) =>
  ((loopO (slices_symMergeCmpFunc_Event_s4 p1 p2 p3 p4) ((j6.1, j6.2))) : Option Int).bind (fun (x10 : Int) =>
  ((if x10 < p3 then (some (decide (p3 < (wi64 ((wi64 ((wi64 (shrk 64 (wu64 (wi64 (p2 + p4))) 1)) + p3)) - x10)))))
  else (some false)) : Option Bool).bind (fun (j7 : Bool) =>
  ((if j7 = true then ((slices_rotateCmpFunc_Event p1 x10 p3 (wi64 ((wi64 ((wi64 (shrk 64 (wu64 (wi64 (p2 + p4))) 1)) + p3)) - x10))).bind fun (r43 : List (Int × Int × Int)) =>
  some r43)
  else (some p1)) : Option ((List (Int × Int × Int)))).bind (fun (j8 : (List (Int × Int × Int))) =>
  ((if p2 < x10 then (some (decide (x10 < (wi64 (shrk 64 (wu64 (wi64 (p2 + p4))) 1)))))
  else (some false)) : Option Bool).bind (fun (j9 : Bool) =>
  ((if j9 = true then ((rec j8 p2 x10 (wi64 (shrk 64 (wu64 (wi64 (p2 + p4))) 1))).bind fun (r45 : List (Int × Int × Int)) =>
  some r45)
  else (some j8)) : Option ((List (Int × Int × Int)))).bind (fun (j10 : (List (Int × Int × Int))) =>
  if (wi64 (shrk 64 (wu64 (wi64 (p2 + p4))) 1)) < (wi64 ((wi64 ((wi64 (shrk 64 (wu64 (wi64 (p2 + p4))) 1)) + p3)) - x10)) then (if (wi64 ((wi64 ((wi64 (shrk 64 (wu64 (wi64 (p2 + p4))) 1)) + p3)) - x10)) < p4 then ((rec j10 (wi64 (shrk 64 (wu64 (wi64 (p2 + p4))) 1)) (wi64 ((wi64 ((wi64 (shrk 64 (wu64 (wi64 (p2 + p4))) 1)) + p3)) - x10)) p4).bind fun (r46 : List (Int × Int × Int)) =>
  some r46)
  else (some j10))
  else (some j10)))))))))
def slices_symMergeCmpFunc_Event (p1 : List (Int × Int × Int)) (p2 : Int) (p3 : Int) (p4 : Int) : Option (List (Int × Int × Int)) := itR (fun rec q => slices_symMergeCmpFunc_Event_F (fun p1 p2 p3 p4 => rec (p1, p2, p3, p4)) q.1 q.2.1 q.2.2.1 q.2.2.2) 1000 (p1, p2, p3, p4)

def slices_stableCmpFunc_Event_s0 (p2 : Int) (s17 : (List (Int × Int × Int)) × Int × Int) : Option (((List (Int × Int × Int)) × Int × Int) ⊕ (((List (Int × Int × Int)) × Int))) :=
  if s17.2.2 ≤ p2 then ((slices_insertionSortCmpFunc_Event s17.1 s17.2.1 s17.2.2).bind fun (r19 : List (Int × Int × Int)) =>
  some (.inl ((r19, s17.2.2, wi64 (s17.2.2 + 20)))))
  else (some (.inr ((s17.1, s17.2.1))))
def slices_stableCmpFunc_Event_s2 (p2 : Int) (s23 : (List (Int × Int × Int)) × Int) (s29 : (List (Int × Int × Int)) × Int × Int) : Option (((List (Int × Int × Int)) × Int × Int) ⊕ (((List (Int × Int × Int)) × Int))) :=
  if s29.2.2 ≤ p2 then ((slices_symMergeCmpFunc_Event s29.1 s29.2.1 (wi64 (s29.2.1 + s23.2)) s29.2.2).bind fun (r31 : List (Int × Int × Int)) =>
  some (.inl ((r31, s29.2.2, wi64 (s29.2.2 + (wi64 (2 * s23.2)))))))
  else (some (.inr ((s29.1, s29.2.1))))
def slices_stableCmpFunc_Event_s1 (p2 : Int) (s23 : (List (Int × Int × Int)) × Int) : Option (((List (Int × Int × Int)) × Int) ⊕ ((List (Int × Int × Int)))) :=
  if s23.2 < p2 then (((loopO (slices_stableCmpFunc_Event_s2 p2 s23) ((s23.1, (0 : Int), wi64 (2 * s23.2)))) : Option (((List (Int × Int × Int)) × Int))).bind (fun (x10 : ((List (Int × Int × Int)) × Int)) =>
  if (wi64 (x10.2 + s23.2)) < p2 then ((slices_symMergeCmpFunc_Event x10.1 x10.2 (wi64 (x10.2 + s23.2)) p2).bind fun (r32 : List (Int × Int × Int)) =>
  some (.inl ((r32, wi64 (s23.2 * 2)))))
  else (some (.inl ((x10.1, wi64 (s23.2 * 2)))))))
  else (some (.inr s23.1))
def slices_stableCmpFunc_Event (p1 : List (Int × Int × Int)) (p2 : Int) : Option (List (Int × Int × Int)) :=
  ((loopO (slices_stableCmpFunc_Event_s0 p2) ((p1, (0 : Int), (20 : Int)))) : Option (((List (Int × Int × Int)) × Int))).bind (fun (x6 : ((List (Int × Int × Int)) × Int)) =>
  (slices_insertionSortCmpFunc_Event x6.1 x6.2 p2).bind fun (r20 : List (Int × Int × Int)) =>
  ((loopO (slices_stableCmpFunc_Event_s1 p2) ((r20, (20 : Int)))) : Option ((List (Int × Int × Int)))).bind (fun (x9 : (List (Int × Int × Int))) =>
  some x9))

def slices_SortStableFunc_Event (p1 : List (Int × Int × Int)) : Option (List (Int × Int × Int)) :=
  (slices_stableCmpFunc_Event p1 ((p1.length : Int))).bind fun (r2 : List (Int × Int × Int)) =>
  some r2

def buffer_Join_s0 (p1 : List (Int × Int × Int × Int × List (Int × Int × Int))) (s5 : Int × Int × Int × List (Int × Int × Int)) : Option ((Int × Int × Int × List (Int × Int × Int)) ⊕ ((Int × Int × List (Int × Int × Int)))) :=
  if s5.1 < ((p1.length : Int)) then ((rdo p1 s5.1).bind fun (z8 : Int × Int × Int × Int × List (Int × Int × Int)) =>
  (buffer_latest ([s5.2.1, z8.2.2.1])).bind fun (r18 : Int) =>
  (buffer_latest ([s5.2.2.1, z8.2.2.2.1])).bind fun (r19 : Int) =>
  (slices_Concat_Event ([s5.2.2.2, z8.2.2.2.2])).bind fun (r20 : List (Int × Int × Int)) =>
  some (.inl ((wi64 (s5.1 + 1), r18, r19, r20))))
  else (some (.inr ((s5.2.1, s5.2.2.1, s5.2.2.2))))
def buffer_Join (p1 : List (Int × Int × Int × Int × List (Int × Int × Int))) : Option (Int × Int × Int × Int × (List (Int × Int × Int)) × List (Int × Int × Int)) :=
  if ((p1.length : Int)) = 0 then (some (((0 : Int), (0 : Int), (0 : Int), (0 : Int), ([] : List (Int × Int × Int)), ([] : List (Int × Int × Int)))))
  else ((rdo p1 0).bind fun (z6 : Int × Int × Int × Int × List (Int × Int × Int)) =>
  ((loopO (buffer_Join_s0 p1) (((0 : Int), (0 : Int), (0 : Int), ([] : List (Int × Int × Int))))) : Option ((Int × Int × List (Int × Int × Int)))).bind (fun (x2 : (Int × Int × List (Int × Int × Int))) =>
  (slices_SortStableFunc_Event x2.2.2).bind fun (r21 : List (Int × Int × Int)) =>
  (buffer_Buf_below ((z6.1, z6.2.1, x2.1, x2.2.1, r21)) x2.2.1).bind fun (r22 : Int) =>
  (must (0 ≤ r22 ∧ r22 ≤ r22 ∧ r22 ≤ r21.length)).bind fun _ =>
  (must (0 ≤ r22 ∧ r22 ≤ r21.length)).bind fun _ =>
  some ((z6.1, z6.2.1, x2.1, x2.2.1, r21.drop r22.toNat, r21.take r22.toNat))))

def ref12_Gather_s1 (p1 : List (Int × Int × Int × Int × List (Int × Int × Int))) (s17 : (List (Int × Int × Int)) × Int) (s23 : (List (Int × Int × Int)) × Int) : Option (((List (Int × Int × Int)) × Int) ⊕ ((List (Int × Int × Int)))) :=
  (rdo p1 s17.2).bind fun (z35 : Int × Int × Int × Int × List (Int × Int × Int)) =>
  if s23.2 < ((z35.2.2.2.2.length : Int)) then ((rdo z35.2.2.2.2 s23.2).bind fun (z36 : Int × Int × Int) =>
  (ref12_split s23.1 z36.1).bind fun (r18 : (List (Int × Int × Int)) × List (Int × Int × Int)) =>
  (room ((([] : List (Int × Int × Int))).length + r18.1.length) 24).bind fun _ =>
  (room (r18.1.length + ([z36]).length) 24).bind fun _ =>
  (room ((r18.1 ++ ([z36])).length + r18.2.length) 24).bind fun _ =>
  some (.inl (((r18.1 ++ ([z36])) ++ r18.2, wi64 (s23.2 + 1)))))
  else (some (.inr s23.1))
def ref12_Gather_s0 (p1 : List (Int × Int × Int × Int × List (Int × Int × Int))) (s17 : (List (Int × Int × Int)) × Int) : Option (((List (Int × Int × Int)) × Int) ⊕ ((List (Int × Int × Int)))) :=
  if s17.2 < ((p1.length : Int)) then (((loopO (ref12_Gather_s1 p1 s17) ((s17.1, (0 : Int)))) : Option ((List (Int × Int × Int)))).bind (fun (x8 : (List (Int × Int × Int))) =>
  some (.inl ((x8, wi64 (s17.2 + 1))))))
  else (some (.inr s17.1))
def ref12_Gather (p1 : List (Int × Int × Int × Int × List (Int × Int × Int))) : Option (List (Int × Int × Int)) :=
  ((loopO (ref12_Gather_s0 p1) ((([] : List (Int × Int × Int)), (0 : Int)))) : Option ((List (Int × Int × Int)))).bind (fun (x7 : (List (Int × Int × Int))) =>
  some x7)

def ref12_Join_s0 (p1 : List (Int × Int × Int × Int × List (Int × Int × Int))) (s5 : Int × Int × Int) : Option ((Int × Int × Int) ⊕ ((Int × Int))) :=
  if s5.1 < ((p1.length : Int)) then ((rdo p1 s5.1).bind fun (z12 : Int × Int × Int × Int × List (Int × Int × Int)) =>
  some (.inl ((wi64 (s5.1 + 1), max s5.2.1 z12.2.2.1, max s5.2.2 z12.2.2.2.1))))
  else (some (.inr ((s5.2.1, s5.2.2))))
def ref12_Join (p1 : List (Int × Int × Int × Int × List (Int × Int × Int))) : Option (Int × Int × Int × Int × (List (Int × Int × Int)) × List (Int × Int × Int)) :=
  if ((p1.length : Int)) = 0 then (some (((0 : Int), (0 : Int), (0 : Int), (0 : Int), ([] : List (Int × Int × Int)), ([] : List (Int × Int × Int)))))
  else ((rdo p1 0).bind fun (z8 : Int × Int × Int × Int × List (Int × Int × Int)) =>
  ((loopO (ref12_Join_s0 p1) (((0 : Int), (0 : Int), (0 : Int)))) : Option ((Int × Int))).bind (fun (x2 : (Int × Int)) =>
  (ref12_Gather p1).bind fun (r7 : List (Int × Int × Int)) =>
  (ref12_split r7 x2.2).bind fun (r8 : (List (Int × Int × Int)) × List (Int × Int × Int)) =>
  some ((z8.1, z8.2.1, x2.1, x2.2, r8.2, r8.1))))

def ref12_Events_s0 (p1 : List (Int × Int × Int)) (p2 : List (Int × Int × Int)) (s5 : Int) : Option (Int ⊕ (Unit ⊕ Unit)) :=
  if s5 < ((p1.length : Int)) then ((rdo p1 s5).bind fun (z23 : Int × Int × Int) =>
  (rdo p2 s5).bind fun (z24 : Int × Int × Int) =>
  if ¬ (z23.1 = z24.1 ∧ z23.2.1 = z24.2.1 ∧ z23.2.2 = z24.2.2 ∧ True) then (some (.inr (.inl (()))))
  else (some (.inl (wi64 (s5 + 1)))))
  else (some (.inr (.inr (()))))
def ref12_Events (p1 : List (Int × Int × Int)) (p2 : List (Int × Int × Int)) : Option Bool :=
  if ¬ ((p1.length : Int)) = ((p2.length : Int)) then (some false)
  else (((loopO (ref12_Events_s0 p1 p2) ((0 : Int))) : Option (Unit ⊕ Unit)).bind (Sum.elim (fun (d3 : Unit) =>
  some false)
  (fun (d4 : Unit) =>
  some true)))

def ref12_Same (p1 : Int × Int × Int × Int × List (Int × Int × Int)) (p2 : Int × Int × Int × Int × List (Int × Int × Int)) : Option Bool :=
  if p1.1 = p2.1 then (if p1.2.1 = p2.2.1 then (if p1.2.2.1 = p2.2.2.1 then (if p1.2.2.2.1 = p2.2.2.2.1 then ((ref12_Events p1.2.2.2.2 p2.2.2.2.2).bind fun (r4 : Bool) =>
  some r4)
  else (some false))
  else (some false))
  else (some false))
  else (some false)

def law12_same (p1 : Int × Int × Int × Int × List (Int × Int × Int)) (p2 : Int × Int × Int × Int × List (Int × Int × Int)) : Option Bool :=
  (ref12_Same p1 p2).bind fun (r2 : Bool) =>
  some r2

def law12_BufferJoins_s0 (p1 : Int) (p2 : List (List (Int × Int × Int))) (s8 : (List (Int × Int × Int × Int × List (Int × Int × Int))) × (List (Int × Int × Int × Int × List (Int × Int × Int))) × Int × Int) : Option (((List (Int × Int × Int × Int × List (Int × Int × Int))) × (List (Int × Int × Int × Int × List (Int × Int × Int))) × Int × Int) ⊕ (((List (Int × Int × Int × Int × List (Int × Int × Int))) × (List (Int × Int × Int × Int × List (Int × Int × Int))) × Int))) :=
  if s8.2.2.2 < ((p2.length : Int)) then ((rdo p2 s8.2.2.2).bind fun (z9 : List (Int × Int × Int)) =>
  (ref12_Made p1 ((20 : Int)) z9).bind fun (r25 : Int × Int × Int × Int × (List (Int × Int × Int)) × List (Int × Int × Int)) =>
  (room (s8.1.length + ([(r25.1, r25.2.1, r25.2.2.1, r25.2.2.2.1, r25.2.2.2.2.1)]).length) 56).bind fun _ =>
  (law12_made ((r25.1, r25.2.1, r25.2.2.1, r25.2.2.2.1, r25.2.2.2.2.1))).bind fun (r26 : Unit) =>
  (room (s8.2.1.length + ([((r25.1, r25.2.1, r25.2.2.1, r25.2.2.2.1, r25.2.2.2.2.1))]).length) 56).bind fun _ =>
  (ref12_Weight ((r25.1, r25.2.1, r25.2.2.1, r25.2.2.2.1, r25.2.2.2.2.1))).bind fun (r27 : Int) =>
  some (.inl ((s8.1 ++ ([(r25.1, r25.2.1, r25.2.2.1, r25.2.2.2.1, r25.2.2.2.2.1)]), s8.2.1 ++ ([((r25.1, r25.2.1, r25.2.2.1, r25.2.2.2.1, r25.2.2.2.2.1))]), wu64 (s8.2.2.1 + r27), wi64 (s8.2.2.2 + 1)))))
  else (some (.inr ((s8.1, s8.2.1, s8.2.2.1))))
def law12_BufferJoins_s1 (r28 : Int × Int × Int × Int × (List (Int × Int × Int)) × List (Int × Int × Int)) (s11 : Int × Int) : Option ((Int × Int) ⊕ Int) :=
  if s11.2 < ((r28.2.2.2.2.2.length : Int)) then ((rdo r28.2.2.2.2.2 s11.2).bind fun (z12 : Int × Int × Int) =>
  some (.inl ((wu64 (s11.1 + z12.2.2), wi64 (s11.2 + 1)))))
  else (some (.inr s11.1))
def law12_BufferJoins (p1 : Int) (p2 : List (List (Int × Int × Int))) : Option Bool :=
  (law12_awake).bind fun (r18 : Bool) =>
  if 4 < ((p2.length : Int)) then (some r18)
  else (((loopO (law12_BufferJoins_s0 p1 p2) ((([] : List (Int × Int × Int × Int × List (Int × Int × Int))), ([] : List (Int × Int × Int × Int × List (Int × Int × Int))), (0 : Int), (0 : Int)))) : Option (((List (Int × Int × Int × Int × List (Int × Int × Int))) × (List (Int × Int × Int × Int × List (Int × Int × Int))) × Int))).bind (fun (x3 : ((List (Int × Int × Int × Int × List (Int × Int × Int))) × (List (Int × Int × Int × Int × List (Int × Int × Int))) × Int)) =>
  (buffer_Join x3.2.1).bind fun (r28 : Int × Int × Int × Int × (List (Int × Int × Int)) × List (Int × Int × Int)) =>
  (ref12_Join x3.1).bind fun (r29 : Int × Int × Int × Int × (List (Int × Int × Int)) × List (Int × Int × Int)) =>
  (buffer_Weight ((r28.1, r28.2.1, r28.2.2.1, r28.2.2.2.1, r28.2.2.2.2.1))).bind fun (r30 : Int) =>
  ((loopO (law12_BufferJoins_s1 r28) ((r30, (0 : Int)))) : Option Int).bind (fun (x4 : Int) =>
  if r18 = true then ((law12_same ((r28.1, r28.2.1, r28.2.2.1, r28.2.2.2.1, r28.2.2.2.2.1)) ((r29.1, r29.2.1, r29.2.2.1, r29.2.2.2.1, r29.2.2.2.2.1))).bind fun (r33 : Bool) =>
  if r33 = true then ((ref12_Events r28.2.2.2.2.2 r29.2.2.2.2.2).bind fun (r34 : Bool) =>
  if r34 = true then (some (decide (x4 = x3.2.2)))
  else (some false))
  else (some false))
  else (some false))))

def conf_bare_1 (p1 : Int) : Option Unit :=
  some (())

def slices_IndexFunc_int_s0 (p1 : List Int) (s5 : Int) : Option (Int ⊕ (Int ⊕ Unit)) :=
  if s5 < ((p1.length : Int)) then ((rdo p1 s5).bind fun (z6 : Int) =>
  (conf_bare_1 z6).bind fun (r6 : Unit) =>
  if ¬ z6 = 0 then (some (.inr (.inl s5)))
  else (some (.inl (wi64 (s5 + 1)))))
  else (some (.inr (.inr (()))))
def slices_IndexFunc_int (p1 : List Int) : Option Int :=
  ((loopO (slices_IndexFunc_int_s0 p1) ((0 : Int))) : Option (Int ⊕ Unit)).bind (Sum.elim (fun (d3 : Int) =>
  some d3)
  (fun (d4 : Unit) =>
  some ((-1 : Int))))

def slices_ContainsFunc_int (p1 : List Int) : Option Bool :=
  (slices_IndexFunc_int p1).bind fun (r2 : Int) =>
  some (decide (0 ≤ r2))

def conf_bare (p1 : List Int) : Option Bool :=
  (slices_ContainsFunc_int p1).bind fun (r2 : Bool) =>
  some (decide (¬ (r2 = true)))

def hist_New (p1 : Int) : Option (Int × Int) :=
  if p1 < 2 then (some (((0 : Int), (9 : Int))))
  else (if 1024 < p1 then (some (((0 : Int), (9 : Int))))
  else (some ((p1, (0 : Int)))))

def count_New (p1 : Int) (p2 : Int) (p3 : Int) (p4 : Int) : Option (Int × Int × Int × Int × Int) :=
  (hist_New p1).bind fun (r3 : Int × Int) =>
  (buffer_New p3 p4).bind fun (r4 : Int × Int × Int) =>
  if ¬ r3.2 = 0 then (some (((0 : Int), (0 : Int), (0 : Int), (0 : Int), (9 : Int))))
  else (if ¬ r4.2.2 = 0 then (some (((0 : Int), (0 : Int), (0 : Int), (0 : Int), (9 : Int))))
  else (if p2 < 1 then (some (((0 : Int), (0 : Int), (0 : Int), (0 : Int), (9 : Int))))
  else (if 4611686018427387904 < p2 then (some (((0 : Int), (0 : Int), (0 : Int), (0 : Int), (9 : Int))))
  else (some ((p2, r4.1, r4.2.1, r3.1, (0 : Int)))))))

def conf_Check_1 (p1 : Int × Int × Int × Int × Int × Int × (List (Int × Int)) × Int × Int) : Option Int :=
  (conf_bare ([p1.2.2.2.2.2.1, (p1.2.2.2.2.2.2.1.length : Int), p1.2.2.2.2.2.2.2.1, p1.2.2.2.2.2.2.2.2])).bind fun (r3 : Bool) =>
  if ¬ (r3 = true) then (some ((9 : Int)))
  else ((count_New p1.2.1 p1.2.2.1 p1.2.2.2.1 p1.2.2.2.2.1).bind fun (r4 : Int × Int × Int × Int × Int) =>
  some r4.2.2.2.2)

def hash_May (p1 : Int × Int) : Option Bool :=
  if p1.1 = (p1.1.tmod 2305843009213693951) ∧ p1.2 = (p1.2.tmod 2305843009213693951) ∧ True then (some (decide (0 < p1.1)))
  else (some false)

def grid_New_1 (p1 : Int × Int) : Option Bool :=
  (hash_May p1).bind fun (r2 : Bool) =>
  some (decide (¬ (r2 = true)))

def slices_IndexFunc_Seed_s0 (p1 : List (Int × Int)) (s5 : Int) : Option (Int ⊕ (Int ⊕ Unit)) :=
  if s5 < ((p1.length : Int)) then ((rdo p1 s5).bind fun (z6 : Int × Int) =>
  (grid_New_1 z6).bind fun (r6 : Bool) =>
  if r6 = true then (some (.inr (.inl s5)))
  else (some (.inl (wi64 (s5 + 1)))))
  else (some (.inr (.inr (()))))
def slices_IndexFunc_Seed (p1 : List (Int × Int)) : Option Int :=
  ((loopO (slices_IndexFunc_Seed_s0 p1) ((0 : Int))) : Option (Int ⊕ Unit)).bind (Sum.elim (fun (d3 : Int) =>
  some d3)
  (fun (d4 : Unit) =>
  some ((-1 : Int))))

def slices_ContainsFunc_Seed (p1 : List (Int × Int)) : Option Bool :=
  (slices_IndexFunc_Seed p1).bind fun (r2 : Int) =>
  some (decide (0 ≤ r2))

def slices_Clone_Seed (p1 : List (Int × Int)) : Option (List (Int × Int)) :=
  (room ((([] : List (Int × Int))).length + p1.length) 16).bind fun _ =>
  some p1

def bits_Mul64 (p1 : Int) (p2 : Int) : Option Unit :=
  some (())

def bits_Mul (p1 : Int) (p2 : Int) : Option Unit :=
  (bits_Mul64 p1 p2).bind fun (r2 : Unit) =>
  some (())

def slices_Repeat_Hist_s0 (p1 : List (Int × Int × List (List (Int × Int)))) (p2 : Int) (s5 : (List (Int × Int × List (List (Int × Int)))) × Int) : Option (((List (Int × Int × List (List (Int × Int)))) × Int) ⊕ ((List (Int × Int × List (List (Int × Int)))))) :=
  if s5.2 < ((s5.1.length : Int)) then ((must (0 ≤ s5.2 ∧ s5.2 ≤ s5.1.length)).bind fun _ =>
  some (.inl ((s5.1.take s5.2.toNat ++ (s5.1.take s5.2.toNat).take (((wi64 (wu64 ((wu64 ((p1.length : Int))) * (wu64 p2)))).toNat) - s5.2.toNat) ++ s5.1.drop (s5.2.toNat + ((s5.1.take s5.2.toNat).take (((wi64 (wu64 ((wu64 ((p1.length : Int))) * (wu64 p2)))).toNat) - s5.2.toNat)).length), wi64 (s5.2 + ((((s5.1.take s5.2.toNat).take (((wi64 (wu64 ((wu64 ((p1.length : Int))) * (wu64 p2)))).toNat) - s5.2.toNat)).length : Int)))))))
  else (some (.inr s5.1))
def slices_Repeat_Hist (p1 : List (Int × Int × List (List (Int × Int)))) (p2 : Int) : Option (List (Int × Int × List (List (Int × Int)))) :=
  ((if p2 < 0 then (none)
  else (some (()))) : Option Unit).bind (fun (j4 : Unit) =>
  (bits_Mul (wu64 ((p1.length : Int))) (wu64 p2)).bind fun (r2 : Unit) =>
  ((if 0 < (wu64 ((wu64 ((wu64 ((shrk 64 (wu64 ((p1.length : Int))) 32) * (shrk 64 (wu64 p2) 32))) + (shrk 64 (wu64 ((wu64 ((shrk 64 (wu64 ((p1.length : Int))) 32) * (wu64 (andk 64 (wu64 p2) 4294967295)))) + (shrk 64 (wu64 ((wu64 (andk 64 (wu64 ((p1.length : Int))) 4294967295)) * (wu64 (andk 64 (wu64 p2) 4294967295)))) 32))) 32))) + (shrk 64 (wu64 ((wu64 (andk 64 (wu64 ((wu64 ((shrk 64 (wu64 ((p1.length : Int))) 32) * (wu64 (andk 64 (wu64 p2) 4294967295)))) + (shrk 64 (wu64 ((wu64 (andk 64 (wu64 ((p1.length : Int))) 4294967295)) * (wu64 (andk 64 (wu64 p2) 4294967295)))) 32))) 4294967295)) + (wu64 ((wu64 (andk 64 (wu64 ((p1.length : Int))) 4294967295)) * (shrk 64 (wu64 p2) 32))))) 32))) then (some true)
  else (some (decide (9223372036854775807 < (wu64 ((wu64 ((p1.length : Int))) * (wu64 p2))))))) : Option Bool).bind (fun (j5 : Bool) =>
  ((if j5 = true then (none)
  else (some (()))) : Option Unit).bind (fun (j6 : Unit) =>
  (must (0 ≤ (wi64 (wu64 ((wu64 ((p1.length : Int))) * (wu64 p2)))))).bind fun _ =>
  (room ((wi64 (wu64 ((wu64 ((p1.length : Int))) * (wu64 p2)))).toNat) 40).bind fun _ =>
  ((loopO (slices_Repeat_Hist_s0 p1 p2) (((List.replicate ((wi64 (wu64 ((wu64 ((p1.length : Int))) * (wu64 p2)))).toNat) (((0 : Int), (0 : Int), ([] : List (List (Int × Int)))) : Int × Int × List (List (Int × Int)))).take 0 ++ p1.take ((wi64 (wu64 ((wu64 ((p1.length : Int))) * (wu64 p2)))).toNat) ++ (List.replicate ((wi64 (wu64 ((wu64 ((p1.length : Int))) * (wu64 p2)))).toNat) (((0 : Int), (0 : Int), ([] : List (List (Int × Int)))) : Int × Int × List (List (Int × Int)))).drop (0 + (p1.take ((wi64 (wu64 ((wu64 ((p1.length : Int))) * (wu64 p2)))).toNat)).length), ((p1.take ((wi64 (wu64 ((wu64 ((p1.length : Int))) * (wu64 p2)))).toNat)).length : Int)))) : Option ((List (Int × Int × List (List (Int × Int)))))).bind (fun (x2 : (List (Int × Int × List (List (Int × Int))))) =>
  some x2))))

def grid_New_s0 (p2 : Int) (p3 : List (Int × Int)) (r10 : Int × Int) (s5 : Int × List (List (Int × Int × List (List (Int × Int))))) : Option ((Int × List (List (Int × Int × List (List (Int × Int))))) ⊕ ((List (List (Int × Int × List (List (Int × Int))))))) :=
  if s5.1 < ((p3.length : Int)) then ((slices_Repeat_Hist ([(r10.1, (0 : Int), ([] : List (List (Int × Int))))]) p2).bind fun (r18 : List (Int × Int × List (List (Int × Int)))) =>
  (room (s5.2.length + ([r18]).length) 24).bind fun _ =>
  some (.inl ((wi64 (s5.1 + 1), s5.2 ++ ([r18])))))
  else (some (.inr s5.2))
def grid_New (p1 : Int) (p2 : Int) (p3 : List (Int × Int)) : Option (Int × (List (Int × Int)) × (List (List (Int × Int × List (List (Int × Int))))) × Int × Int) :=
  (hist_New p1).bind fun (r10 : Int × Int) =>
  ((if 1 ≤ p2 then (if p2 ≤ 256 then (if 1 ≤ ((p3.length : Int)) then (some (decide (((p3.length : Int)) ≤ 8)))
  else (some false))
  else (some false))
  else (some false)) : Option Bool).bind (fun (j2 : Bool) =>
  if ¬ r10.2 = 0 then (some (((0 : Int), ([] : List (Int × Int)), ([] : List (List (Int × Int × List (List (Int × Int))))), (0 : Int), (9 : Int))))
  else (if ¬ (j2 = true) then (some (((0 : Int), ([] : List (Int × Int)), ([] : List (List (Int × Int × List (List (Int × Int))))), (0 : Int), (9 : Int))))
  else ((slices_ContainsFunc_Seed p3).bind fun (r11 : Bool) =>
  if r11 = true then (some (((0 : Int), ([] : List (Int × Int)), ([] : List (List (Int × Int × List (List (Int × Int))))), (0 : Int), (1 : Int))))
  else ((slices_Clone_Seed p3).bind fun (r12 : List (Int × Int)) =>
  ((loopO (grid_New_s0 p2 p3 r10) (((0 : Int), ([] : List (List (Int × Int × List (List (Int × Int)))))))) : Option ((List (List (Int × Int × List (List (Int × Int))))))).bind (fun (x2 : (List (List (Int × Int × List (List (Int × Int)))))) =>
  some ((p2, r12, x2, r10.1, (0 : Int))))))))

def ecm_New (p1 : Int × Int × Int × Int × Int × Int × (List (Int × Int)) × Int × Int) : Option (Int × Int × Int × Int × (List (Int × Int)) × (List (List (Int × Int × List (List (Int × Int))))) × Int × Int) :=
  (buffer_New p1.2.2.2.1 p1.2.2.2.2.1).bind fun (r3 : Int × Int × Int) =>
  if ¬ r3.2.2 = 0 then (some (((0 : Int), (0 : Int), (0 : Int), (0 : Int), ([] : List (Int × Int)), ([] : List (List (Int × Int × List (List (Int × Int))))), (0 : Int), (9 : Int))))
  else (if p1.2.2.1 < 1 then (some (((0 : Int), (0 : Int), (0 : Int), (0 : Int), ([] : List (Int × Int)), ([] : List (List (Int × Int × List (List (Int × Int))))), (0 : Int), (9 : Int))))
  else (if 4611686018427387904 < p1.2.2.1 then (some (((0 : Int), (0 : Int), (0 : Int), (0 : Int), ([] : List (Int × Int)), ([] : List (List (Int × Int × List (List (Int × Int))))), (0 : Int), (9 : Int))))
  else ((grid_New p1.2.1 p1.2.2.2.2.2.1 p1.2.2.2.2.2.2.1).bind fun (r4 : Int × (List (Int × Int)) × (List (List (Int × Int × List (List (Int × Int))))) × Int × Int) =>
  if ¬ r4.2.2.2.2 = 0 then (some (((0 : Int), (0 : Int), (0 : Int), (0 : Int), ([] : List (Int × Int)), ([] : List (List (Int × Int × List (List (Int × Int))))), (0 : Int), r4.2.2.2.2)))
  else (some ((p1.2.2.1, r3.1, r3.2.1, r4.1, r4.2.1, r4.2.2.1, r4.2.2.2.1, (0 : Int)))))))

def conf_Check_2 (p1 : Int × Int × Int × Int × Int × Int × (List (Int × Int)) × Int × Int) : Option Int :=
  (conf_bare ([p1.2.2.2.2.2.2.2.1, p1.2.2.2.2.2.2.2.2])).bind fun (r3 : Bool) =>
  if ¬ (r3 = true) then (some ((9 : Int)))
  else ((ecm_New p1).bind fun (r4 : Int × Int × Int × Int × (List (Int × Int)) × (List (List (Int × Int × List (List (Int × Int))))) × Int × Int) =>
  some r4.2.2.2.2.2.2.2)

def heavy_New (p1 : Int) : Option (Int × Int) :=
  if p1 < 1 then (some (((0 : Int), (9 : Int))))
  else (if 256 < p1 then (some (((0 : Int), (9 : Int))))
  else (some ((p1, (0 : Int)))))

def ring_New (p1 : Int) (p2 : Int) (p3 : Int) : Option (Int × Int × Int × Int) :=
  (heavy_New p1).bind fun (r2 : Int × Int) =>
  if ¬ r2.2 = 0 then (some (((0 : Int), (0 : Int), (0 : Int), r2.2)))
  else (if p2 < 1 then (some (((0 : Int), (0 : Int), (0 : Int), (9 : Int))))
  else (if 64 < p2 then (some (((0 : Int), (0 : Int), (0 : Int), (9 : Int))))
  else (if p3 < 1 then (some (((0 : Int), (0 : Int), (0 : Int), (9 : Int))))
  else (if 4611686018427387904 < p3 then (some (((0 : Int), (0 : Int), (0 : Int), (9 : Int))))
  else ((must ((wu64 p2) ≠ 0)).bind fun _ =>
  if ¬ (p3.tmod (wu64 p2)) = 0 then (some (((0 : Int), (0 : Int), (0 : Int), (9 : Int))))
  else (some ((p1, p2, p3, (0 : Int)))))))))

def top_New (p1 : Int × Int × Int × Int × Int × Int × (List (Int × Int)) × Int × Int) : Option (Int × Int × Int × Int × Int × Int) :=
  (buffer_New p1.2.2.2.1 p1.2.2.2.2.1).bind fun (r3 : Int × Int × Int) =>
  if ¬ r3.2.2 = 0 then (some (((0 : Int), (0 : Int), (0 : Int), (0 : Int), (0 : Int), r3.2.2)))
  else ((ring_New p1.2.2.2.2.2.2.2.1 p1.2.2.2.2.2.2.2.2 p1.2.2.1).bind fun (r4 : Int × Int × Int × Int) =>
  if ¬ r4.2.2.2 = 0 then (some (((0 : Int), (0 : Int), (0 : Int), (0 : Int), (0 : Int), r4.2.2.2)))
  else (some ((r3.1, r3.2.1, r4.1, r4.2.1, r4.2.2.1, (0 : Int)))))

def conf_Check_3 (p1 : Int × Int × Int × Int × Int × Int × (List (Int × Int)) × Int × Int) : Option Int :=
  (conf_bare ([p1.2.1, p1.2.2.2.2.2.1, (p1.2.2.2.2.2.2.1.length : Int)])).bind fun (r3 : Bool) =>
  if ¬ (r3 = true) then (some ((9 : Int)))
  else ((top_New p1).bind fun (r4 : Int × Int × Int × Int × Int × Int) =>
  some r4.2.2.2.2.2)

def conf_Check (p1 : Int × Int × Int × Int × Int × Int × (List (Int × Int)) × Int × Int) : Option Int :=
  if p1.1 = 1 then ((conf_Check_1 p1).bind fun (r4 : Int) =>
  some r4)
  else (if p1.1 = 2 then ((conf_Check_2 p1).bind fun (r5 : Int) =>
  some r5)
  else (if p1.1 = 3 then ((conf_Check_3 p1).bind fun (r6 : Int) =>
  some r6)
  else (some ((14 : Int)))))

def conf_nums_s0 (p1 : List Int) (s5 : List Int × Int) : Option ((List Int × Int) ⊕ (List Int)) :=
  if s5.2 < ((p1.length : Int)) then ((rdo p1 s5.2).bind fun (z6 : Int) =>
  (codec_Num (wu64 z6)).bind fun (r6 : List Int) =>
  (room (s5.1.length + r6.length) 1).bind fun _ =>
  some (.inl ((s5.1 ++ r6, wi64 (s5.2 + 1)))))
  else (some (.inr s5.1))
def conf_nums (p1 : List Int) : Option (List Int) :=
  ((loopO (conf_nums_s0 p1) ((([] : List Int), (0 : Int)))) : Option (List Int)).bind (fun (x2 : List Int) =>
  some x2)

def conf_seeds (p1 : List (Int × Int)) : Option Unit :=
  some (())

def codec_Fixed_s0 (p1 : Int) (s5 : List Int × Int) : Option ((List Int × Int) ⊕ (List Int)) :=
  if s5.2 < 8 then ((must (0 ≤ (wi64 (8 * s5.2)))).bind fun _ =>
  (rdo s5.1 (wi64 (7 - s5.2))).bind fun (z6 : Int) =>
  some (.inl ((s5.1.set (wi64 (7 - s5.2)).toNat (wu8 (shrk 64 p1 (wi64 (8 * s5.2)))), wi64 (s5.2 + 1)))))
  else (some (.inr s5.1))
def codec_Fixed (p1 : Int) : Option (List Int) :=
  ((loopO (codec_Fixed_s0 p1) ((List.replicate 8 ((0 : Int) : Int), (0 : Int)))) : Option (List Int)).bind (fun (x2 : List Int) =>
  some x2)

def conf_seeds_1_s0 {σ : Type} (y : List Int → σ → Option (Bool × σ)) (p1 : List (Int × Int)) (s5 : Int × σ) : Option ((Int × σ) ⊕ (σ ⊕ σ)) :=
  if s5.1 < ((p1.length : Int)) then ((rdo p1 s5.1).bind fun (z6 : Int × Int) =>
  (codec_Fixed z6.1).bind fun (r45 : List Int) =>
  (y r45 s5.2).bind fun (r46 : Bool × σ) =>
  if ¬ (r46.1 = true) then (some (.inr (.inl r46.2)))
  else ((codec_Fixed z6.2).bind fun (r47 : List Int) =>
  (y r47 r46.2).bind fun (r48 : Bool × σ) =>
  if ¬ (r48.1 = true) then (some (.inr (.inl r48.2)))
  else (some (.inl ((wi64 (s5.1 + 1), r48.2))))))
  else (some (.inr (.inr s5.2)))
def conf_seeds_1 {σ : Type} (y : List Int → σ → Option (Bool × σ)) (p1 : List (Int × Int)) (s0 : σ) : Option σ :=
  ((loopO (conf_seeds_1_s0 y p1) (((0 : Int), s0))) : Option (σ ⊕ σ)).bind (Sum.elim (fun (d3 : σ) =>
  some d3)
  (fun (d4 : σ) =>
  some d4))

def conf_Put_r0 (x2 : List Int) (d5 : List Int) : Option (List Int ⊕ Empty) :=
  (room (d5.length + x2.length) 1).bind fun _ =>
  some (.inl (d5 ++ x2))
def conf_Put (p1 : Int × Int × Int × Int × Int × Int × (List (Int × Int)) × Int × Int) : Option (List Int) :=
  (conf_Check p1).bind fun (r14 : Int) =>
  if ¬ r14 = 0 then (some (([] : List Int)))
  else ((conf_nums ([p1.1])).bind fun (r15 : List Int) =>
  (codec_Num p1.2.2.1).bind fun (r16 : List Int) =>
  (codec_Num p1.2.2.2.1).bind fun (r17 : List Int) =>
  (conf_nums ([p1.2.2.2.2.1])).bind fun (r18 : List Int) =>
  (slices_Concat_byte ([r15, r16, r17, r18])).bind fun (r19 : List Int) =>
  if p1.1 = 1 then ((conf_nums ([p1.2.1])).bind fun (r21 : List Int) =>
  (room (r19.length + r21.length) 1).bind fun _ =>
  some (r19 ++ r21))
  else (if p1.1 = 2 then ((conf_nums ([p1.2.1, p1.2.2.2.2.2.1, (p1.2.2.2.2.2.2.1.length : Int)])).bind fun (r23 : List Int) =>
  (room (r19.length + r23.length) 1).bind fun _ =>
  (conf_seeds p1.2.2.2.2.2.2.1).bind fun (r24 : Unit) =>
  (conf_seeds_1 (yl (conf_Put_r0)) p1.2.2.2.2.2.2.1 (.inl (r19 ++ r23))).bind fun (j2 : (List Int ⊕ Empty)) =>
  (Sum.elim (fun (d5 : List Int) =>
  some d5)
  (fun (q : Empty) => none) j2))
  else ((conf_nums ([p1.2.2.2.2.2.2.2.1, p1.2.2.2.2.2.2.2.2])).bind fun (r26 : List Int) =>
  (room (r19.length + r26.length) 1).bind fun _ =>
  some (r19 ++ r26))))

def codec_Reader_Fixed_s0 (p1 : List Int × Int) (s5 : Int × Int) : Option ((Int × Int) ⊕ Int) :=
  if s5.2 < (((p1.1.take (8 : Int).toNat).length : Int)) then ((rdo (p1.1.take (8 : Int).toNat) s5.2).bind fun (z6 : Int) =>
  some (.inl ((wu64 (ork 64 (wu64 (shlk 64 s5.1 8)) (wu64 z6)), wi64 (s5.2 + 1)))))
  else (some (.inr s5.1))
def codec_Reader_Fixed (p1 : List Int × Int) : Option (Int × List Int × Int) :=
  (codec_Reader_on p1).bind fun (r2 : Unit) =>
  if ¬ (p1.2 = 0) then (some (((0 : Int), p1.1, p1.2)))
  else (if ((p1.1.length : Int)) < 8 then (some (((0 : Int), p1.1, (3 : Int))))
  else ((must (0 ≤ (8 : Int) ∧ (8 : Int) ≤ p1.1.length)).bind fun _ =>
  ((loopO (codec_Reader_Fixed_s0 p1) (((0 : Int), (0 : Int)))) : Option Int).bind (fun (x2 : Int) =>
  some ((x2, p1.1.drop (8 : Int).toNat, p1.2)))))

def conf_Take_s0 (r112 : Int × List Int × Int) (s17 : Int × List Int × Int × List (Int × Int)) : Option ((Int × List Int × Int × List (Int × Int)) ⊕ ((List Int × Int × List (Int × Int)))) :=
  if s17.1 < r112.1 then ((codec_Reader_Fixed ((s17.2.1, s17.2.2.1))).bind fun (r123 : Int × List Int × Int) =>
  (codec_Reader_Fixed r123.2).bind fun (r124 : Int × List Int × Int) =>
  (room (s17.2.2.2.length + ([(r123.1, r124.1)]).length) 16).bind fun _ =>
  some (.inl ((wu64 (s17.1 + 1), r124.2.1, r124.2.2, s17.2.2.2 ++ ([(r123.1, r124.1)])))))
  else (some (.inr ((s17.2.1, s17.2.2.1, s17.2.2.2))))
def conf_Take (p1 : List Int × Int) : Option (Int × Int × Int × Int × Int × Int × (List (Int × Int)) × Int × Int × List Int × Int) :=
  (codec_Reader_Num p1 ((3 : Int))).bind fun (r68 : Int × List Int × Int) =>
  (codec_Reader_Num r68.2 ((4611686018427387904 : Int))).bind fun (r69 : Int × List Int × Int) =>
  (codec_Reader_Num r69.2 ((4611686018427387904 : Int))).bind fun (r70 : Int × List Int × Int) =>
  (codec_Reader_Num r70.2 ((1024 : Int))).bind fun (r71 : Int × List Int × Int) =>
  ((if (wi64 r68.1) = 1 then ((codec_Reader_Num r71.2 ((1024 : Int))).bind fun (r109 : Int × List Int × Int) =>
  some ((r109.2.1, r109.2.2, wi64 r109.1, (0 : Int), ([] : List (Int × Int)), (0 : Int), (0 : Int))))
  else (if (wi64 r68.1) = 2 then ((codec_Reader_Num r71.2 ((1024 : Int))).bind fun (r110 : Int × List Int × Int) =>
  (codec_Reader_Num r110.2 ((256 : Int))).bind fun (r111 : Int × List Int × Int) =>
  (codec_Reader_Num r111.2 ((8 : Int))).bind fun (r112 : Int × List Int × Int) =>
  ((loopO (conf_Take_s0 r112) (((0 : Int), r112.2.1, r112.2.2, ([] : List (Int × Int))))) : Option ((List Int × Int × List (Int × Int)))).bind (fun (x6 : (List Int × Int × List (Int × Int))) =>
  some ((x6.1, x6.2.1, wi64 r110.1, wi64 r111.1, x6.2.2, (0 : Int), (0 : Int)))))
  else (if (wi64 r68.1) = 3 then ((codec_Reader_Num r71.2 ((256 : Int))).bind fun (r125 : Int × List Int × Int) =>
  (codec_Reader_Num r125.2 ((64 : Int))).bind fun (r126 : Int × List Int × Int) =>
  some ((r126.2.1, r126.2.2, (0 : Int), (0 : Int), ([] : List (Int × Int)), wi64 r125.1, wi64 r126.1)))
  else (some ((r71.2.1, r71.2.2, (0 : Int), (0 : Int), ([] : List (Int × Int)), (0 : Int), (0 : Int))))))) : Option ((List Int × Int × Int × Int × (List (Int × Int)) × Int × Int))).bind (fun (j6 : (List Int × Int × Int × Int × (List (Int × Int)) × Int × Int)) =>
  (codec_Reader_Err ((j6.1, j6.2.1))).bind fun (r129 : Unit) =>
  if (((j6.1, j6.2.1)).2) = 0 then ((conf_Check ((wi64 r68.1, j6.2.2.1, r69.1, r70.1, wi64 r71.1, j6.2.2.2.1, j6.2.2.2.2.1, j6.2.2.2.2.2.1, j6.2.2.2.2.2.2))).bind fun (r130 : Int) =>
  if ¬ r130 = 0 then ((codec_Reader_Fail (((j6.1, j6.2.1))) ((2 : Int))).bind fun (r131 : Int) =>
  (codec_Reader_Err (((((j6.1, j6.2.1))).1, r131))).bind fun (r132 : Unit) =>
  if ¬ ((((((j6.1, j6.2.1))).1, r131)).2) = 0 then (some (((0 : Int), (0 : Int), (0 : Int), (0 : Int), (0 : Int), (0 : Int), ([] : List (Int × Int)), (0 : Int), (0 : Int), (((((j6.1, j6.2.1))).1, r131)).1, (((((j6.1, j6.2.1))).1, r131)).2)))
  else (some ((wi64 r68.1, j6.2.2.1, r69.1, r70.1, wi64 r71.1, j6.2.2.2.1, j6.2.2.2.2.1, j6.2.2.2.2.2.1, j6.2.2.2.2.2.2, (((((j6.1, j6.2.1))).1, r131)).1, (((((j6.1, j6.2.1))).1, r131)).2))))
  else ((codec_Reader_Err (((j6.1, j6.2.1)))).bind fun (r133 : Unit) =>
  if ¬ ((((j6.1, j6.2.1))).2) = 0 then (some (((0 : Int), (0 : Int), (0 : Int), (0 : Int), (0 : Int), (0 : Int), ([] : List (Int × Int)), (0 : Int), (0 : Int), (((j6.1, j6.2.1))).1, (((j6.1, j6.2.1))).2)))
  else (some ((wi64 r68.1, j6.2.2.1, r69.1, r70.1, wi64 r71.1, j6.2.2.2.1, j6.2.2.2.2.1, j6.2.2.2.2.2.1, j6.2.2.2.2.2.2, (((j6.1, j6.2.1))).1, (((j6.1, j6.2.1))).2)))))
  else ((codec_Reader_Err (((j6.1, j6.2.1)))).bind fun (r134 : Unit) =>
  if ¬ ((((j6.1, j6.2.1))).2) = 0 then (some (((0 : Int), (0 : Int), (0 : Int), (0 : Int), (0 : Int), (0 : Int), ([] : List (Int × Int)), (0 : Int), (0 : Int), (((j6.1, j6.2.1))).1, (((j6.1, j6.2.1))).2)))
  else (some ((wi64 r68.1, j6.2.2.1, r69.1, r70.1, wi64 r71.1, j6.2.2.2.1, j6.2.2.2.2.1, j6.2.2.2.2.2.1, j6.2.2.2.2.2.2, (((j6.1, j6.2.1))).1, (((j6.1, j6.2.1))).2)))))

def slices_Equal_Seed_s0 (p1 : List (Int × Int)) (p2 : List (Int × Int)) (s5 : Int) : Option (Int ⊕ (Unit ⊕ Unit)) :=
  if s5 < ((p1.length : Int)) then ((rdo p1 s5).bind fun (z23 : Int × Int) =>
  (rdo p2 s5).bind fun (z24 : Int × Int) =>
  if ¬ (z23.1 = z24.1 ∧ z23.2 = z24.2 ∧ True) then (some (.inr (.inl (()))))
  else (some (.inl (wi64 (s5 + 1)))))
  else (some (.inr (.inr (()))))
def slices_Equal_Seed (p1 : List (Int × Int)) (p2 : List (Int × Int)) : Option Bool :=
  if ¬ ((p1.length : Int)) = ((p2.length : Int)) then (some false)
  else (((loopO (slices_Equal_Seed_s0 p1 p2) ((0 : Int))) : Option (Unit ⊕ Unit)).bind (Sum.elim (fun (d3 : Unit) =>
  some false)
  (fun (d4 : Unit) =>
  some true)))

def conf_Same (p1 : Int × Int × Int × Int × Int × Int × (List (Int × Int)) × Int × Int) (p2 : Int × Int × Int × Int × Int × Int × (List (Int × Int)) × Int × Int) : Option Bool :=
  ((if p1.2.2.1 = p2.2.2.1 then (if p1.2.2.2.1 = p2.2.2.2.1 then (some (decide (p1.2.2.2.2.1 = p2.2.2.2.2.1)))
  else (some false))
  else (some false)) : Option Bool).bind (fun (j3 : Bool) =>
  ((if p1.1 = p2.1 then (if p1.2.1 = p2.2.1 then (if p1.2.2.2.2.2.2.2.1 = p2.2.2.2.2.2.2.2.1 then (some (decide (p1.2.2.2.2.2.2.2.2 = p2.2.2.2.2.2.2.2.2)))
  else (some false))
  else (some false))
  else (some false)) : Option Bool).bind (fun (j4 : Bool) =>
  if j3 = true then (if j4 = true then (if p1.2.2.2.2.2.1 = p2.2.2.2.2.2.1 then ((slices_Equal_Seed p1.2.2.2.2.2.2.1 p2.2.2.2.2.2.2.1).bind fun (r4 : Bool) =>
  some r4)
  else (some false))
  else (some false))
  else (some false)))

def law21_awake : Option Bool :=
  (conf_Put (((1 : Int), (2 : Int), (10 : Int), (0 : Int), (1 : Int), (0 : Int), ([] : List (Int × Int)), (0 : Int), (0 : Int)))).bind fun (r14 : List Int) =>
  (codec_New r14).bind fun (r15 : Unit) =>
  (conf_Take ((r14.take ((r14.length : Int)).toNat, (0 : Int)))).bind fun (r16 : Int × Int × Int × Int × Int × Int × (List (Int × Int)) × Int × Int × List Int × Int) =>
  if (bstr r14) = (bstr ([(1 : Int), (10 : Int), (0 : Int), (1 : Int), (2 : Int)])) then (if r16.2.1 = 2 then (if r16.2.2.1 = 10 then ((codec_Reader_End r16.2.2.2.2.2.2.2.2.2).bind fun (r22 : Int) =>
  if r22 = 0 then ((conf_Same ((r16.1, r16.2.1, r16.2.2.1, r16.2.2.2.1, r16.2.2.2.2.1, r16.2.2.2.2.2.1, r16.2.2.2.2.2.2.1, r16.2.2.2.2.2.2.2.1, r16.2.2.2.2.2.2.2.2.1)) ((r16.1, r16.2.1, r16.2.2.1, r16.2.2.2.1, r16.2.2.2.2.1, r16.2.2.2.2.2.1, r16.2.2.2.2.2.2.1, r16.2.2.2.2.2.2.2.1, r16.2.2.2.2.2.2.2.2.1))).bind fun (r23 : Bool) =>
  if r23 = true then ((conf_Same (((4 : Int), (2 : Int), (10 : Int), (0 : Int), (1 : Int), (0 : Int), ([] : List (Int × Int)), (0 : Int), (0 : Int))) ((r16.1, r16.2.1, r16.2.2.1, r16.2.2.2.1, r16.2.2.2.2.1, r16.2.2.2.2.2.1, r16.2.2.2.2.2.2.1, r16.2.2.2.2.2.2.2.1, r16.2.2.2.2.2.2.2.2.1))).bind fun (r24 : Bool) =>
  if ¬ (r24 = true) then ((conf_Check (((4 : Int), (2 : Int), (10 : Int), (0 : Int), (1 : Int), (0 : Int), ([] : List (Int × Int)), (0 : Int), (0 : Int)))).bind fun (r25 : Int) =>
  if r25 = 14 then ((conf_Check ((r16.1, r16.2.1, r16.2.2.1, r16.2.2.2.1, r16.2.2.2.2.1, r16.2.2.2.2.2.1, r16.2.2.2.2.2.2.1, r16.2.2.2.2.2.2.2.1, r16.2.2.2.2.2.2.2.2.1))).bind fun (r26 : Int) =>
  some (decide (r26 = 0)))
  else (some false))
  else (some false))
  else (some false))
  else (some false))
  else (some false))
  else (some false))
  else (some false)

def ref12_Conf (p1 : Int) (p2 : Int) : Option Bool :=
  if p1 ≤ 4611686018427387904 then (if 1 ≤ p2 then (some (decide (p2 ≤ 1024)))
  else (some false))
  else (some false)

def ref14_Conf (p1 : Int) (p2 : Int) (p3 : Int) (p4 : Int) : Option Bool :=
  if 1 ≤ p2 then (if p2 ≤ 4611686018427387904 then ((ref06_May p1).bind fun (r7 : Bool) =>
  if r7 = true then ((ref12_Conf p3 p4).bind fun (r8 : Bool) =>
  some r8)
  else (some false))
  else (some false))
  else (some false)

def ref04_May (p1 : Int × Int) : Option Bool :=
  if 1 ≤ p1.1 then (if p1.1 < 2305843009213693951 then (some (decide (p1.2 < 2305843009213693951)))
  else (some false))
  else (some false)

def ref15_Conf_s0 (p3 : List (Int × Int)) (s5 : Int) : Option (Int ⊕ (Unit ⊕ Unit)) :=
  if s5 < ((p3.length : Int)) then ((rdo p3 s5).bind fun (z6 : Int × Int) =>
  (ref04_May z6).bind fun (r10 : Bool) =>
  if ¬ (r10 = true) then (some (.inr (.inl (()))))
  else (some (.inl (wi64 (s5 + 1)))))
  else (some (.inr (.inr (()))))
def ref15_Conf (p1 : Int) (p2 : Int) (p3 : List (Int × Int)) : Option Int :=
  (ref06_May p1).bind fun (r7 : Bool) =>
  if ¬ (r7 = true) then (some ((9 : Int)))
  else (if p2 < 1 then (some ((9 : Int)))
  else (if 256 < p2 then (some ((9 : Int)))
  else (if ((p3.length : Int)) < 1 then (some ((9 : Int)))
  else (if 8 < ((p3.length : Int)) then (some ((9 : Int)))
  else (((loopO (ref15_Conf_s0 p3) ((0 : Int))) : Option (Unit ⊕ Unit)).bind (Sum.elim (fun (d3 : Unit) =>
  some ((1 : Int)))
  (fun (d4 : Unit) =>
  some ((0 : Int)))))))))

def ref16_Conf (p1 : Int × Int × Int × Int × Int × Int × (List (Int × Int)) × Int × Int) : Option Int :=
  if p1.2.2.1 = 0 then (some ((9 : Int)))
  else (if 4611686018427387904 < p1.2.2.1 then (some ((9 : Int)))
  else ((ref12_Conf p1.2.2.2.1 p1.2.2.2.2.1).bind fun (r5 : Bool) =>
  if ¬ (r5 = true) then (some ((9 : Int)))
  else ((ref15_Conf p1.2.1 p1.2.2.2.2.2.1 p1.2.2.2.2.2.2.1).bind fun (r6 : Int) =>
  some r6)))

def ref17_Conf (p1 : Int) : Option Bool :=
  if 1 ≤ p1 then (some (decide (p1 ≤ 256)))
  else (some false)

def ref19_Conf (p1 : Int) (p2 : Int) (p3 : Int) : Option Bool :=
  (ref17_Conf p1).bind fun (r4 : Bool) =>
  if r4 = true then (if 1 ≤ p2 then (if p2 ≤ 64 then (if 1 ≤ p3 then (if p3 ≤ 4611686018427387904 then ((must ((wu64 p2) ≠ 0)).bind fun _ =>
  some (decide ((p3.tmod (wu64 p2)) = 0)))
  else (some false))
  else (some false))
  else (some false))
  else (some false))
  else (some false)

def ref20_Conf (p1 : Int × Int × Int × Int × Int × Int × (List (Int × Int)) × Int × Int) : Option Bool :=
  (ref12_Conf p1.2.2.2.1 p1.2.2.2.2.1).bind fun (r7 : Bool) =>
  if r7 = true then ((ref19_Conf p1.2.2.2.2.2.2.2.1 p1.2.2.2.2.2.2.2.2 p1.2.2.1).bind fun (r8 : Bool) =>
  some r8)
  else (some false)

def ref21_Check (p1 : Int × Int × Int × Int × Int × Int × (List (Int × Int)) × Int × Int) : Option Int :=
  if p1.1 = 1 then (if ¬ p1.2.2.2.2.2.1 = 0 then (some ((9 : Int)))
  else (if ¬ p1.2.2.2.2.2.2.2.1 = 0 then (some ((9 : Int)))
  else (if ¬ p1.2.2.2.2.2.2.2.2 = 0 then (some ((9 : Int)))
  else (if 0 < ((p1.2.2.2.2.2.2.1.length : Int)) then (some ((9 : Int)))
  else ((ref14_Conf p1.2.1 p1.2.2.1 p1.2.2.2.1 p1.2.2.2.2.1).bind fun (r7 : Bool) =>
  if ¬ (r7 = true) then (some ((9 : Int)))
  else (some ((0 : Int))))))))
  else (if p1.1 = 2 then (if ¬ p1.2.2.2.2.2.2.2.1 = 0 then (some ((9 : Int)))
  else (if ¬ p1.2.2.2.2.2.2.2.2 = 0 then (some ((9 : Int)))
  else ((ref16_Conf p1).bind fun (r8 : Int) =>
  some r8)))
  else (if p1.1 = 3 then (if ¬ p1.2.1 = 0 then (some ((9 : Int)))
  else (if ¬ p1.2.2.2.2.2.1 = 0 then (some ((9 : Int)))
  else (if 0 < ((p1.2.2.2.2.2.2.1.length : Int)) then (some ((9 : Int)))
  else ((ref20_Conf p1).bind fun (r10 : Bool) =>
  if ¬ (r10 = true) then (some ((9 : Int)))
  else (some ((0 : Int)))))))
  else (some ((14 : Int)))))

def ref21_nums_s0 (p1 : List Int) (s5 : List Int × Int) : Option ((List Int × Int) ⊕ (List Int)) :=
  if s5.2 < ((p1.length : Int)) then ((rdo p1 s5.2).bind fun (z6 : Int) =>
  (ref02_Num z6).bind fun (r6 : List Int) =>
  (room (s5.1.length + r6.length) 1).bind fun _ =>
  some (.inl ((s5.1 ++ r6, wi64 (s5.2 + 1)))))
  else (some (.inr s5.1))
def ref21_nums (p1 : List Int) : Option (List Int) :=
  ((loopO (ref21_nums_s0 p1) ((([] : List Int), (0 : Int)))) : Option (List Int)).bind (fun (x2 : List Int) =>
  some x2)

def ref02_Fixed_s0 (p1 : Int) (s5 : List Int × Int) : Option ((List Int × Int) ⊕ (List Int)) :=
  if s5.2 < 8 then ((must (0 ≤ (wi64 (56 - (wi64 (8 * s5.2)))))).bind fun _ =>
  (room (s5.1.length + ([wu8 (shrk 64 p1 (wi64 (56 - (wi64 (8 * s5.2)))))]).length) 1).bind fun _ =>
  some (.inl ((s5.1 ++ ([wu8 (shrk 64 p1 (wi64 (56 - (wi64 (8 * s5.2)))))]), wi64 (s5.2 + 1)))))
  else (some (.inr s5.1))
def ref02_Fixed (p1 : Int) : Option (List Int) :=
  ((loopO (ref02_Fixed_s0 p1) ((([] : List Int), (0 : Int)))) : Option (List Int)).bind (fun (x2 : List Int) =>
  some x2)

def ref21_Put_s0 (p1 : Int × Int × Int × Int × Int × Int × (List (Int × Int)) × Int × Int) (s5 : List Int × Int) : Option ((List Int × Int) ⊕ (List Int)) :=
  if s5.2 < ((p1.2.2.2.2.2.2.1.length : Int)) then ((rdo p1.2.2.2.2.2.2.1 s5.2).bind fun (z6 : Int × Int) =>
  (ref02_Fixed z6.1).bind fun (r20 : List Int) =>
  (room (s5.1.length + r20.length) 1).bind fun _ =>
  (ref02_Fixed z6.2).bind fun (r21 : List Int) =>
  (room ((s5.1 ++ r20).length + r21.length) 1).bind fun _ =>
  some (.inl (((s5.1 ++ r20) ++ r21, wi64 (s5.2 + 1)))))
  else (some (.inr s5.1))
def ref21_Put (p1 : Int × Int × Int × Int × Int × Int × (List (Int × Int)) × Int × Int) : Option (List Int) :=
  (ref21_Check p1).bind fun (r12 : Int) =>
  if ¬ r12 = 0 then (some (([] : List Int)))
  else ((ref21_nums ([wu64 p1.1, p1.2.2.1, p1.2.2.2.1, wu64 p1.2.2.2.2.1])).bind fun (r13 : List Int) =>
  if p1.1 = 1 then ((ref21_nums ([wu64 p1.2.1])).bind fun (r14 : List Int) =>
  (room (r13.length + r14.length) 1).bind fun _ =>
  some (r13 ++ r14))
  else (if p1.1 = 2 then ((ref21_nums ([wu64 p1.2.1, wu64 p1.2.2.2.2.2.1, wu64 ((p1.2.2.2.2.2.2.1.length : Int))])).bind fun (r15 : List Int) =>
  (room (r13.length + r15.length) 1).bind fun _ =>
  ((loopO (ref21_Put_s0 p1) ((r13 ++ r15, (0 : Int)))) : Option (List Int)).bind (fun (x2 : List Int) =>
  some x2))
  else ((ref21_nums ([wu64 p1.2.2.2.2.2.2.2.1, wu64 p1.2.2.2.2.2.2.2.2])).bind fun (r22 : List Int) =>
  (room (r13.length + r22.length) 1).bind fun _ =>
  some (r13 ++ r22))))

def law21_ConfChecks (p1 : Int × Int × Int × Int × Int × Int × (List (Int × Int)) × Int × Int) : Option Bool :=
  (law21_awake).bind fun (r18 : Bool) =>
  if 20 < ((p1.2.2.2.2.2.2.1.length : Int)) then (some r18)
  else (if r18 = true then ((conf_Check p1).bind fun (r31 : Int) =>
  (ref21_Check p1).bind fun (r32 : Int) =>
  if r31 = r32 then ((conf_Put p1).bind fun (r33 : List Int) =>
  (ref21_Put p1).bind fun (r34 : List Int) =>
  some (decide ((bstr r33) = (bstr r34))))
  else (some false))
  else (some false))

def ref21_read_s0 (p2 : List Int) (s5 : List Int × Int × List Int × Int) : Option ((List Int × Int × List Int × Int) ⊕ ((List Int × List Int × Int))) :=
  if s5.2.1 < ((p2.length : Int)) then ((rdo p2 s5.2.1).bind fun (z12 : Int) =>
  (ref02_Read s5.2.2 z12).bind fun (r6 : List Int × Int × Int) =>
  (room (s5.1.length + ([r6.2.2]).length) 8).bind fun _ =>
  some (.inl ((s5.1 ++ ([r6.2.2]), wi64 (s5.2.1 + 1), r6.1, r6.2.1))))
  else (some (.inr ((s5.1, s5.2.2.1, s5.2.2.2))))
def ref21_read (p1 : List Int × Int) (p2 : List Int) : Option (List Int × Int × List Int) :=
  ((loopO (ref21_read_s0 p2) ((([] : List Int), (0 : Int), p1.1, p1.2))) : Option ((List Int × List Int × Int))).bind (fun (x2 : (List Int × List Int × Int)) =>
  some ((x2.2.1, x2.2.2, x2.1)))

def ref02_ReadFixed_s0 (p1 : List Int × Int) (s5 : Int × Int) : Option ((Int × Int) ⊕ Int) :=
  if s5.2 < 8 then ((rdo p1.1 s5.2).bind fun (z6 : Int) =>
  some (.inl ((wu64 ((wu64 (256 * s5.1)) + (wu64 z6)), wi64 (s5.2 + 1)))))
  else (some (.inr s5.1))
def ref02_ReadFixed (p1 : List Int × Int) : Option (List Int × Int × Int) :=
  if ¬ p1.2 = 0 then (some ((p1.1, p1.2, (0 : Int))))
  else (if ((p1.1.length : Int)) < 8 then ((ref02_fail p1 ((3 : Int))).bind fun (r2 : Int) =>
  some ((p1.1, r2, (0 : Int))))
  else (((loopO (ref02_ReadFixed_s0 p1) (((0 : Int), (0 : Int)))) : Option Int).bind (fun (x2 : Int) =>
  (must (0 ≤ (8 : Int) ∧ (8 : Int) ≤ p1.1.length)).bind fun _ =>
  some ((p1.1.drop (8 : Int).toNat, p1.2, x2)))))

def ref21_rest_s0 (r11 : List Int × Int × List Int) (s5 : Int × (List (Int × Int)) × List Int × Int) : Option ((Int × (List (Int × Int)) × List Int × Int) ⊕ (((List (Int × Int)) × List Int × Int))) :=
  (rdo r11.2.2 2).bind fun (z14 : Int) =>
  if s5.1 < z14 then ((ref02_ReadFixed s5.2.2).bind fun (r16 : List Int × Int × Int) =>
  (ref02_ReadFixed ((r16.1, r16.2.1))).bind fun (r17 : List Int × Int × Int) =>
  (room (s5.2.1.length + ([(r16.2.2, r17.2.2)]).length) 16).bind fun _ =>
  some (.inl ((wu64 (s5.1 + 1), s5.2.1 ++ ([(r16.2.2, r17.2.2)]), r17.1, r17.2.1))))
  else (some (.inr ((s5.2.1, s5.2.2.1, s5.2.2.2))))
def ref21_rest (p1 : List Int × Int) (p2 : Int × Int × Int × Int × Int × Int × Int × Int) : Option (List Int × Int × Int × Int × (List (Int × Int)) × Int × Int) :=
  if p2.1 = 1 then ((ref21_read p1 ([(1024 : Int)])).bind fun (r10 : List Int × Int × List Int) =>
  (rdo r10.2.2 0).bind fun (z9 : Int) =>
  some ((r10.1, r10.2.1, wi64 z9, p2.2.2.2.2.2.1, ([] : List (Int × Int)), p2.2.2.2.2.2.2.1, p2.2.2.2.2.2.2.2)))
  else (if p2.1 = 2 then ((ref21_read p1 ([(1024 : Int), (256 : Int), (8 : Int)])).bind fun (r11 : List Int × Int × List Int) =>
  (rdo r11.2.2 0).bind fun (z10 : Int) =>
  (rdo r11.2.2 1).bind fun (z11 : Int) =>
  ((loopO (ref21_rest_s0 r11) (((0 : Int), ([] : List (Int × Int)), r11.1, r11.2.1))) : Option (((List (Int × Int)) × List Int × Int))).bind (fun (x2 : ((List (Int × Int)) × List Int × Int)) =>
  some ((x2.2.1, x2.2.2, wi64 z10, wi64 z11, x2.1, p2.2.2.2.2.2.2.1, p2.2.2.2.2.2.2.2))))
  else (if p2.1 = 3 then ((ref21_read p1 ([(256 : Int), (64 : Int)])).bind fun (r18 : List Int × Int × List Int) =>
  (rdo r18.2.2 0).bind fun (z15 : Int) =>
  (rdo r18.2.2 1).bind fun (z16 : Int) =>
  some ((r18.1, r18.2.1, p2.2.1, p2.2.2.2.2.2.1, ([] : List (Int × Int)), wi64 z15, wi64 z16)))
  else (some ((p1.1, p1.2, p2.2.1, p2.2.2.2.2.2.1, ([] : List (Int × Int)), p2.2.2.2.2.2.2.1, p2.2.2.2.2.2.2.2)))))

def ref21_Take (p1 : List Int × Int) : Option (List Int × Int × Int × Int × Int × Int × Int × Int × (List (Int × Int)) × Int × Int) :=
  (ref21_read p1 ([(3 : Int), (4611686018427387904 : Int), (4611686018427387904 : Int), (1024 : Int)])).bind fun (r7 : List Int × Int × List Int) =>
  (rdo r7.2.2 0).bind fun (z13 : Int) =>
  (rdo r7.2.2 1).bind fun (z14 : Int) =>
  (rdo r7.2.2 2).bind fun (z15 : Int) =>
  (rdo r7.2.2 3).bind fun (z16 : Int) =>
  ((if r7.2.1 = 0 then ((ref21_rest ((r7.1, r7.2.1)) ((wi64 z13, (0 : Int), z14, z15, wi64 z16, (0 : Int), (0 : Int), (0 : Int)))).bind fun (r9 : List Int × Int × Int × Int × (List (Int × Int)) × Int × Int) =>
  some ((r9.1, r9.2.1, ((wi64 z13, (0 : Int), z14, z15, wi64 z16, (0 : Int), (0 : Int), (0 : Int))).1, r9.2.2.1, ((wi64 z13, (0 : Int), z14, z15, wi64 z16, (0 : Int), (0 : Int), (0 : Int))).2.2.1, ((wi64 z13, (0 : Int), z14, z15, wi64 z16, (0 : Int), (0 : Int), (0 : Int))).2.2.2.1, ((wi64 z13, (0 : Int), z14, z15, wi64 z16, (0 : Int), (0 : Int), (0 : Int))).2.2.2.2.1, r9.2.2.2.1, r9.2.2.2.2.1, r9.2.2.2.2.2.1, r9.2.2.2.2.2.2)))
  else (some ((r7.1, r7.2.1, wi64 z13, (0 : Int), z14, z15, wi64 z16, (0 : Int), ([] : List (Int × Int)), (0 : Int), (0 : Int))))) : Option ((List Int × Int × Int × Int × Int × Int × Int × Int × (List (Int × Int)) × Int × Int))).bind (fun (j3 : (List Int × Int × Int × Int × Int × Int × Int × Int × (List (Int × Int)) × Int × Int)) =>
  ((if j3.2.1 = 0 then ((ref21_Check j3.2.2).bind fun (r12 : Int) =>
  some (decide (¬ r12 = 0)))
  else (some false)) : Option Bool).bind (fun (j4 : Bool) =>
  if j4 = true then (some ((j3.1, (2 : Int), (0 : Int), (0 : Int), (0 : Int), (0 : Int), (0 : Int), (0 : Int), ([] : List (Int × Int)), (0 : Int), (0 : Int))))
  else (if ¬ j3.2.1 = 0 then (some ((j3.1, j3.2.1, (0 : Int), (0 : Int), (0 : Int), (0 : Int), (0 : Int), (0 : Int), ([] : List (Int × Int)), (0 : Int), (0 : Int))))
  else (some ((j3.1, j3.2.1, j3.2.2.1, j3.2.2.2.1, j3.2.2.2.2.1, j3.2.2.2.2.2.1, j3.2.2.2.2.2.2.1, j3.2.2.2.2.2.2.2.1, j3.2.2.2.2.2.2.2.2.1, j3.2.2.2.2.2.2.2.2.2.1, j3.2.2.2.2.2.2.2.2.2.2))))))

def ref21_Same_s0 (p1 : Int × Int × Int × Int × Int × Int × (List (Int × Int)) × Int × Int) (p2 : Int × Int × Int × Int × Int × Int × (List (Int × Int)) × Int × Int) (s5 : Int) : Option (Int ⊕ (Unit ⊕ Unit)) :=
  if s5 < ((p1.2.2.2.2.2.2.1.length : Int)) then ((rdo p1.2.2.2.2.2.2.1 s5).bind fun (z23 : Int × Int) =>
  (rdo p2.2.2.2.2.2.2.1 s5).bind fun (z24 : Int × Int) =>
  if ¬ (z23.1 = z24.1 ∧ z23.2 = z24.2 ∧ True) then (some (.inr (.inl (()))))
  else (some (.inl (wi64 (s5 + 1)))))
  else (some (.inr (.inr (()))))
def ref21_Same (p1 : Int × Int × Int × Int × Int × Int × (List (Int × Int)) × Int × Int) (p2 : Int × Int × Int × Int × Int × Int × (List (Int × Int)) × Int × Int) : Option Bool :=
  if ¬ p1.1 = p2.1 then (some false)
  else (if ¬ p1.2.1 = p2.2.1 then (some false)
  else (if ¬ p1.2.2.1 = p2.2.2.1 then (some false)
  else (if ¬ p1.2.2.2.1 = p2.2.2.2.1 then (some false)
  else (if ¬ p1.2.2.2.2.1 = p2.2.2.2.2.1 then (some false)
  else (if ¬ p1.2.2.2.2.2.1 = p2.2.2.2.2.2.1 then (some false)
  else (if ¬ p1.2.2.2.2.2.2.2.1 = p2.2.2.2.2.2.2.2.1 then (some false)
  else (if ¬ p1.2.2.2.2.2.2.2.2 = p2.2.2.2.2.2.2.2.2 then (some false)
  else (if ¬ ((p1.2.2.2.2.2.2.1.length : Int)) = ((p2.2.2.2.2.2.2.1.length : Int)) then (some false)
  else (((loopO (ref21_Same_s0 p1 p2) ((0 : Int))) : Option (Unit ⊕ Unit)).bind (Sum.elim (fun (d3 : Unit) =>
  some false)
  (fun (d4 : Unit) =>
  some true)))))))))))

def law21_ConfTakes (p1 : List Int) : Option Bool :=
  (law21_awake).bind fun (r17 : Bool) =>
  if 200 < ((p1.length : Int)) then (some r17)
  else ((codec_New p1).bind fun (r18 : Unit) =>
  (conf_Take ((p1.take ((p1.length : Int)).toNat, (0 : Int)))).bind fun (r19 : Int × Int × Int × Int × Int × Int × (List (Int × Int)) × Int × Int × List Int × Int) =>
  (ref21_Take ((p1, (0 : Int)))).bind fun (r20 : List Int × Int × Int × Int × Int × Int × Int × Int × (List (Int × Int)) × Int × Int) =>
  if r17 = true then ((ref21_Same ((r19.1, r19.2.1, r19.2.2.1, r19.2.2.2.1, r19.2.2.2.2.1, r19.2.2.2.2.2.1, r19.2.2.2.2.2.2.1, r19.2.2.2.2.2.2.2.1, r19.2.2.2.2.2.2.2.2.1)) r20.2.2).bind fun (r30 : Bool) =>
  if r30 = true then ((codec_Reader_Left r19.2.2.2.2.2.2.2.2.2).bind fun (r31 : Unit) =>
  if ((r19.2.2.2.2.2.2.2.2.2.1.length : Int)) = ((r20.1.length : Int)) then ((codec_Reader_Err r19.2.2.2.2.2.2.2.2.2).bind fun (r32 : Unit) =>
  some (decide (r19.2.2.2.2.2.2.2.2.2.2 = r20.2.1)))
  else (some false))
  else (some false))
  else (some false))

def ref15_New_s1 (p1 : Int) (p2 : Int) (s23 : (List (Int × Int × List (List (Int × Int)))) × Int) : Option (((List (Int × Int × List (List (Int × Int)))) × Int) ⊕ ((List (Int × Int × List (List (Int × Int)))))) :=
  if s23.2 < p2 then ((room (s23.1.length + ([(p1, (0 : Int), ([] : List (List (Int × Int))))]).length) 40).bind fun _ =>
  some (.inl ((s23.1 ++ ([(p1, (0 : Int), ([] : List (List (Int × Int))))]), wi64 (s23.2 + 1)))))
  else (some (.inr s23.1))
def ref15_New_s0 (p1 : Int) (p2 : Int) (p3 : List (Int × Int)) (s17 : Int × List (List (Int × Int × List (List (Int × Int))))) : Option ((Int × List (List (Int × Int × List (List (Int × Int))))) ⊕ ((List (List (Int × Int × List (List (Int × Int))))))) :=
  if s17.1 < ((p3.length : Int)) then (((loopO (ref15_New_s1 p1 p2) ((([] : List (Int × Int × List (List (Int × Int)))), (0 : Int)))) : Option ((List (Int × Int × List (List (Int × Int)))))).bind (fun (x8 : (List (Int × Int × List (List (Int × Int))))) =>
  (room (s17.2.length + ([x8]).length) 24).bind fun _ =>
  some (.inl ((wi64 (s17.1 + 1), s17.2 ++ ([x8]))))))
  else (some (.inr s17.2))
def ref15_New (p1 : Int) (p2 : Int) (p3 : List (Int × Int)) : Option (List (List (Int × Int × List (List (Int × Int))))) :=
  ((loopO (ref15_New_s0 p1 p2 p3) (((0 : Int), ([] : List (List (Int × Int × List (List (Int × Int)))))))) : Option ((List (List (Int × Int × List (List (Int × Int))))))).bind (fun (x7 : (List (List (Int × Int × List (List (Int × Int)))))) =>
  some x7)

def ref15_Tame_s0 (p1 : Int × Int × List (Int × Int)) (s5 : (List (Int × Int)) × Int) : Option (((List (Int × Int)) × Int) ⊕ ((List (Int × Int)))) :=
  if s5.2 < ((p1.2.2.length : Int)) then (if s5.2 < 4 then ((rdo p1.2.2 s5.2).bind fun (z12 : Int × Int) =>
  (room (s5.1.length + ([(wu64 (1 + (z12.1.tmod 2305843009213693950)), z12.2.tmod 2305843009213693951)]).length) 16).bind fun _ =>
  some (.inl ((s5.1 ++ ([(wu64 (1 + (z12.1.tmod 2305843009213693950)), z12.2.tmod 2305843009213693951)]), wi64 (s5.2 + 1)))))
  else (some (.inr s5.1)))
  else (some (.inr s5.1))
def ref15_Tame (p1 : Int × Int × List (Int × Int)) : Option ((List (Int × Int)) × List (List (Int × Int × List (List (Int × Int))))) :=
  ((loopO (ref15_Tame_s0 p1) ((([] : List (Int × Int)), (0 : Int)))) : Option ((List (Int × Int)))).bind (fun (x2 : (List (Int × Int))) =>
  if ((x2.length : Int)) = 0 then ((room (x2.length + ([((3 : Int), (1 : Int))]).length) 16).bind fun _ =>
  (ref15_New (wi64 (2 + ((max p1.1 0).tmod 10))) (wi64 (1 + ((max p1.2.1 0).tmod 7))) (x2 ++ ([((3 : Int), (1 : Int))]))).bind fun (r3 : List (List (Int × Int × List (List (Int × Int))))) =>
  some (((x2 ++ ([((3 : Int), (1 : Int))])), r3)))
  else ((ref15_New (wi64 (2 + ((max p1.1 0).tmod 10))) (wi64 (1 + ((max p1.2.1 0).tmod 7))) x2).bind fun (r4 : List (List (Int × Int × List (List (Int × Int))))) =>
  some ((x2, r4))))

def ref16_Tame (p1 : Int × Int × Int × Int × Int × Int × (List (Int × Int)) × Int × Int) : Option (List (Int × Int)) :=
  (ref15_Tame ((p1.2.1, p1.2.2.2.2.2.1, p1.2.2.2.2.2.2.1))).bind fun (r2 : (List (Int × Int)) × List (List (Int × Int × List (List (Int × Int))))) =>
  some r2.1

def ref19_Tame (p1 : Int) (p2 : Int) (p3 : Int) : Option Unit :=
  some (())

def ref20_Tame (p1 : Int × Int × Int × Int × Int × Int × (List (Int × Int)) × Int × Int) : Option Unit :=
  (ref19_Tame p1.2.2.2.2.2.2.2.1 p1.2.2.2.2.2.2.2.2 p1.2.2.1).bind fun (r2 : Unit) =>
  some (())

def ref21_Tame (p1 : Int) (p2 : Int × Int × Int × Int × Int × Int × (List (Int × Int)) × Int × Int) : Option (Int × Int × Int × Int × (List (Int × Int)) × Int × Int) :=
  if (wi64 (1 + ((max p1 0).tmod 3))) = 1 then ((ref16_Tame p2).bind fun (r4 : List (Int × Int)) =>
  some (((1 : Int), (wi64 (2 + ((max ((p2.2.1, p2.2.2.2.2.2.1, p2.2.2.2.2.2.2.1)).1 0).tmod 10))), wu64 (1 + (p2.2.2.1.tmod 1000)), (0 : Int), ([] : List (Int × Int)), (0 : Int), (0 : Int))))
  else (if (wi64 (1 + ((max p1 0).tmod 3))) = 2 then ((ref16_Tame p2).bind fun (r5 : List (Int × Int)) =>
  some (((2 : Int), (wi64 (2 + ((max ((p2.2.1, p2.2.2.2.2.2.1, p2.2.2.2.2.2.2.1)).1 0).tmod 10))), wu64 (1 + (p2.2.2.1.tmod 1000)), (wi64 (1 + ((max ((p2.2.1, p2.2.2.2.2.2.1, p2.2.2.2.2.2.2.1)).2.1 0).tmod 7))), r5, (0 : Int), (0 : Int))))
  else ((ref20_Tame p2).bind fun (r6 : Unit) =>
  some (((3 : Int), (0 : Int), wu64 ((wu64 (wi64 (1 + ((max p2.2.2.2.2.2.2.2.2 0).tmod 6)))) * (wu64 (1 + (p2.2.2.1.tmod 40)))), (0 : Int), ([] : List (Int × Int)), wi64 (1 + ((max p2.2.2.2.2.2.2.2.1 0).tmod 8)), wi64 (1 + ((max p2.2.2.2.2.2.2.2.2 0).tmod 6))))))

def law21_ConfBack (p1 : Int) (p2 : Int × Int × Int × Int × Int × Int × (List (Int × Int)) × Int × Int) (p3 : Int) : Option Bool :=
  (law21_awake).bind fun (r14 : Bool) =>
  (ref21_Tame p1 p2).bind fun (r15 : Int × Int × Int × Int × (List (Int × Int)) × Int × Int) =>
  (conf_Put ((r15.1, r15.2.1, r15.2.2.1, p2.2.2.2.1.tmod 100, wi64 (1 + ((max p2.2.2.2.2.1 0).tmod 7)), r15.2.2.2.1, r15.2.2.2.2.1, r15.2.2.2.2.2.1, r15.2.2.2.2.2.2))).bind fun (r16 : List Int) =>
  if ((r16.length : Int)) = 0 then (some false)
  else ((codec_New r16).bind fun (r17 : Unit) =>
  (conf_Take ((r16.take ((r16.length : Int)).toNat, (0 : Int)))).bind fun (r18 : Int × Int × Int × Int × Int × Int × (List (Int × Int)) × Int × Int × List Int × Int) =>
  (must (((r16.length : Int)) ≠ 0)).bind fun _ =>
  (must (0 ≤ ((wi64 p3).tmod ((r16.length : Int))) ∧ ((wi64 p3).tmod ((r16.length : Int))) ≤ r16.length)).bind fun _ =>
  (codec_New (r16.take ((wi64 p3).tmod ((r16.length : Int))).toNat)).bind fun (r19 : Unit) =>
  (conf_Take (((r16.take ((wi64 p3).tmod ((r16.length : Int))).toNat).take (((r16.take ((wi64 p3).tmod ((r16.length : Int))).toNat).length : Int)).toNat, (0 : Int)))).bind fun (r20 : Int × Int × Int × Int × Int × Int × (List (Int × Int)) × Int × Int × List Int × Int) =>
  if r14 = true then ((ref21_Same ((r18.1, r18.2.1, r18.2.2.1, r18.2.2.2.1, r18.2.2.2.2.1, r18.2.2.2.2.2.1, r18.2.2.2.2.2.2.1, r18.2.2.2.2.2.2.2.1, r18.2.2.2.2.2.2.2.2.1)) ((r15.1, r15.2.1, r15.2.2.1, p2.2.2.2.1.tmod 100, wi64 (1 + ((max p2.2.2.2.2.1 0).tmod 7)), r15.2.2.2.1, r15.2.2.2.2.1, r15.2.2.2.2.2.1, r15.2.2.2.2.2.2))).bind fun (r24 : Bool) =>
  if r24 = true then ((codec_Reader_End r18.2.2.2.2.2.2.2.2.2).bind fun (r25 : Int) =>
  if r25 = 0 then ((codec_Reader_Err r20.2.2.2.2.2.2.2.2.2).bind fun (r26 : Unit) =>
  some (decide (r20.2.2.2.2.2.2.2.2.2.2 = 3)))
  else (some false))
  else (some false))
  else (some false))

def law21_ConfOne (p1 : List Int) : Option Bool :=
  (law21_awake).bind fun (r19 : Bool) =>
  if 200 < ((p1.length : Int)) then (some r19)
  else ((codec_New p1).bind fun (r20 : Unit) =>
  (conf_Take ((p1.take ((p1.length : Int)).toNat, (0 : Int)))).bind fun (r21 : Int × Int × Int × Int × Int × Int × (List (Int × Int)) × Int × Int × List Int × Int) =>
  (codec_Reader_Err r21.2.2.2.2.2.2.2.2.2).bind fun (r22 : Unit) =>
  if ¬ r21.2.2.2.2.2.2.2.2.2.2 = 0 then (if r19 = true then ((ref21_Same ((r21.1, r21.2.1, r21.2.2.1, r21.2.2.2.1, r21.2.2.2.2.1, r21.2.2.2.2.2.1, r21.2.2.2.2.2.2.1, r21.2.2.2.2.2.2.2.1, r21.2.2.2.2.2.2.2.2.1)) (((0 : Int), (0 : Int), (0 : Int), (0 : Int), (0 : Int), (0 : Int), ([] : List (Int × Int)), (0 : Int), (0 : Int)))).bind fun (r24 : Bool) =>
  some r24)
  else (some false))
  else (if r19 = true then ((ref21_Check ((r21.1, r21.2.1, r21.2.2.1, r21.2.2.2.1, r21.2.2.2.2.1, r21.2.2.2.2.2.1, r21.2.2.2.2.2.2.1, r21.2.2.2.2.2.2.2.1, r21.2.2.2.2.2.2.2.2.1))).bind fun (r34 : Int) =>
  if r34 = 0 then ((conf_Put ((r21.1, r21.2.1, r21.2.2.1, r21.2.2.2.1, r21.2.2.2.2.1, r21.2.2.2.2.2.1, r21.2.2.2.2.2.2.1, r21.2.2.2.2.2.2.2.1, r21.2.2.2.2.2.2.2.2.1))).bind fun (r35 : List Int) =>
  (codec_Reader_Left r21.2.2.2.2.2.2.2.2.2).bind fun (r36 : Unit) =>
  (must (0 ≤ (wi64 (((p1.length : Int)) - ((r21.2.2.2.2.2.2.2.2.2.1.length : Int)))) ∧ (wi64 (((p1.length : Int)) - ((r21.2.2.2.2.2.2.2.2.2.1.length : Int)))) ≤ p1.length)).bind fun _ =>
  some (decide ((bstr r35) = (bstr (p1.take (wi64 (((p1.length : Int)) - ((r21.2.2.2.2.2.2.2.2.2.1.length : Int)))).toNat)))))
  else (some false))
  else (some false)))

def law21_ConfSame (p1 : Int × Int × Int × Int × Int × Int × (List (Int × Int)) × Int × Int) (p2 : Int × Int × Int × Int × Int × Int × (List (Int × Int)) × Int × Int) : Option Bool :=
  (law21_awake).bind fun (r9 : Bool) =>
  if 20 < ((p1.2.2.2.2.2.2.1.length : Int)) then (some r9)
  else (if 20 < ((p2.2.2.2.2.2.2.1.length : Int)) then (some r9)
  else ((ref21_Same p1 p2).bind fun (r10 : Bool) =>
  (conf_Put p1).bind fun (r11 : List Int) =>
  (conf_Put p2).bind fun (r12 : List Int) =>
  if r9 = true then ((conf_Same p1 p2).bind fun (r15 : Bool) =>
  if r15 = r10 then ((conf_Same p1 p1).bind fun (r16 : Bool) =>
  if r16 = true then (if ((r11.length : Int)) = 0 then (some true)
  else (if ((r12.length : Int)) = 0 then (some true)
  else (some (decide ((decide ((bstr r11) = (bstr r12))) = r10)))))
  else (some false))
  else (some false))
  else (some false)))

end
end Go.Proofs.Ytbeknohemgjfbaa.Pu
