/- What a proof needs: rules of walking, mirrors of functions and their plain laws. No condition. -/
import Derived.Test.YtbaoeefdjpaomaaDoorZk5
import Derived.Lib.AtoiAllCases
set_option linter.unusedVariables false
set_option linter.unusedSimpArgs false
namespace Go.Proofs.YtbaoeefdjpaomaaDoor
section
set_option maxRecDepth 100000
def B_expr_parser_next_io_0 (fu : Nat)  : (((List Nat) × (Int × (Int × Int))) → Option ((List Nat) × (Int × (Int × Int)))) → ((List Nat) × (Int × (Int × Int))) → Option ((List Nat) × (Int × (Int × Int))) := fun L t1 =>
 if t1.2.1 < ((t1.1.length : Nat) : Int) then
 ckI t1.2.1 (t1.1.length) fun j1 =>
 nm (t1.1.getD j1 0) fun m1 =>
 if ((m1 : Nat) : Int) = (((32 : Nat) : Nat) : Int) then
 ck64 (t1.2.1 + ((1 : Int))) fun x1 =>
 nm ((t1.1, (x1, t1.2.2))) fun t2 =>
 L t2
 else
 some t1
 else
 some t1
def M_expr_parser_next_io (fu : Nat) (a0 : (List Nat) × (Int × (Int × Int))) : Option (Nat × Bool × ((List Nat) × (Int × (Int × Int)))) :=
 bd (loopN (B_expr_parser_next_io_0 fu ) fu a0) fun t3 =>
 if t3.2.1 = ((t3.1.length : Nat) : Int) then
 some (((0 : Nat), false, t3))
 else
 ckI t3.2.1 (t3.1.length) fun j2 =>
 nm (t3.1.getD j2 0) fun m2 =>
 some (m2, true, t3)
def B_expr_parser_digits_io_0 (fu : Nat) (y1 : (List Nat) × (Int × (Int × Int))) : (((List Nat) × (Int × (Int × Int))) → Option ((List Nat) × (Int × (Int × Int)))) → ((List Nat) × (Int × (Int × Int))) → Option ((List Nat) × (Int × (Int × Int))) := fun L t1 =>
 bd ((if t1.2.1 < ((t1.1.length : Nat) : Int) then
 ckI t1.2.1 (t1.1.length) fun j1 =>
 nm (t1.1.getD j1 0) fun m2 =>
 if (((48 : Nat) : Nat) : Int) ≤ ((m2 : Nat) : Int) then
 ckI t1.2.1 (t1.1.length) fun j2 =>
 nm (t1.1.getD j2 0) fun m3 =>
 if ((m3 : Nat) : Int) ≤ (((57 : Nat) : Nat) : Int) then
 if t1.2.1 = y1.2.1 then
 some (.inl (y1.2.1, t1.1, t1.2.1, m2, t1.1, t1.2.1, m3, t1.2.1, y1.2.1, true, true, t1))
 else
 ckI y1.2.1 (t1.1.length) fun j3 =>
 nm (t1.1.getD j3 0) fun m4 =>
 if ((m4 : Nat) : Int) = (((48 : Nat) : Nat) : Int) then
 some (.inr (y1.2.1, t1))
 else
 some (.inl (y1.2.1, t1.1, t1.2.1, m2, t1.1, t1.2.1, m3, t1.2.1, y1.2.1, false, false, t1))
 else
 some (.inr (y1.2.1, t1))
 else
 some (.inr (y1.2.1, t1))
 else
 some (.inr (y1.2.1, t1)) : Option ((Int × (List Nat) × Int × Nat × (List Nat) × Int × Nat × Int × Int × Bool × Bool × ((List Nat) × (Int × (Int × Int)))) ⊕ (Int × ((List Nat) × (Int × (Int × Int))))))) fun s1 => match s1 with
 | .inl (i1, t2, i2, t3, t4, i3, t5, i4, i5, b1, b2, t6) =>
 ck64 (t6.2.1 + ((1 : Int))) fun x1 =>
 nm ((t6.1, (x1, t6.2.2))) fun t7 =>
 L t7
 | .inr (i6, t8) =>
 some t8
def M_expr_parser_digits_io (fu : Nat) (a0 : (List Nat) × (Int × (Int × Int))) : Option (PX ⊕ ((List Nat) × ((List Nat) × (Int × (Int × Int))))) :=
 bd (M_expr_parser_next_io fu a0) fun (m1, c1, y1) =>
 bd (loopN (B_expr_parser_digits_io_0 fu y1) fu y1) fun t9 =>
 if t9.2.1 = y1.2.1 then
 some (.inl (33, y1.2.1))
 else
 ckN y1.2.1 fun j4 =>
 ckN t9.2.1 fun j5 =>
 ck (j4 ≤ j5 ∧ j5 ≤ t9.1.length) <|
 nm ((t9.1.drop j4).take (j5 - j4)) fun t10 =>
 some (.inr (t10, t9))
def M_nat_at (fu : Nat) (a0 : List Nat) (a1 : Int) : Option Nat :=
 if a1 < ((a0.length : Nat) : Int) then
 ckI a1 (a0.length) fun j1 =>
 nm (a0.getD j1 0) fun y1 =>
 some y1
 else
 some (0 : Nat)
def M_nat_Add_1 (fu : Nat) (a0 : Int) (a1 : Nat) (a2 : List Nat) (a3 : List Nat) : Option (Nat × Nat) :=
 bd (M_nat_at fu a2 a0) fun m1 =>
 bd (M_nat_at fu a3 a0) fun m2 =>
 ck (a1 ≤ 1) <|
 nm ((m1 + m2 + a1) % 18446744073709551616) fun m3 =>
 nm ((m1 + m2 + a1) / 18446744073709551616) fun m4 =>
 some (m3, m4)
def B_nat_carried_0 (fu : Nat) (a1 : Int → Nat → Option (Nat × Nat)) (t1 : List Nat) : ((Nat × Int × (List Nat)) → Option (Nat × (List Nat))) → (Nat × Int × (List Nat)) → Option (Nat × (List Nat)) := fun L (d1, i1, t2) =>
 if i1 < ((t1.length : Nat) : Int) then
 bd (a1 i1 d1) fun (m1, m2) =>
 ckI i1 (t2.length) fun j2 =>
 nm (t2.set j2 m1) fun t3 =>
 ck64 (i1 + ((1 : Int))) fun x1 =>
 L (m2, x1, t3)
 else
 some (d1, t2)
def M_nat_carried (fu : Nat) (a0 : Int) (a1 : Int → Nat → Option (Nat × Nat)) : Option ((List Nat) × Nat) :=
 ckN a0 fun j1 =>
 ck (8 * j1 ≤ 281474976710656) <|
 nm (List.replicate j1 0) fun t1 =>
 bd (loopN (B_nat_carried_0 fu a1 t1) fu (((0 : Nat), (0 : Int), t1))) fun (d2, t4) =>
 some (t4, d2)
def B_nat_plain_0 (fu : Nat)  : ((List Nat) → Option (List Nat)) → (List Nat) → Option (List Nat) := fun L t1 =>
 if (0 : Int) < ((t1.length : Nat) : Int) then
 ck64 ((((t1.length : Nat) : Int)) - ((1 : Int))) fun x1 =>
 ckI x1 (t1.length) fun j1 =>
 nm (t1.getD j1 0) fun y1 =>
 if ((y1 : Nat) : Int) = (((0 : Nat) : Nat) : Int) then
 ck64 ((((t1.length : Nat) : Int)) - ((1 : Int))) fun x2 =>
 ckN x2 fun j2 =>
 ck (j2 ≤ t1.length) <|
 nm (t1.take j2) fun t2 =>
 L t2
 else
 some t1
 else
 some t1
def M_nat_plain (fu : Nat) (a0 : List Nat) : Option (List Nat) :=
 bd (loopN (B_nat_plain_0 fu ) fu a0) fun t3 =>
 some t3
def B_nat_plain_own_0 (fu : Nat)  : ((List Nat) → Option (List Nat)) → (List Nat) → Option (List Nat) := fun L t1 =>
 if (0 : Int) < ((t1.length : Nat) : Int) then
 ck64 ((((t1.length : Nat) : Int)) - ((1 : Int))) fun x1 =>
 ckI x1 (t1.length) fun j1 =>
 nm ((t1.getD j1 0)) fun m1 =>
 if ((m1 : Nat) : Int) = (((0 : Nat) : Nat) : Int) then
 ck64 ((((t1.length : Nat) : Int)) - ((1 : Int))) fun x2 =>
 ckN x2 fun j2 =>
 ck (j2 ≤ t1.length) <|
 nm (t1.take j2) fun t2 =>
 L t2
 else
 some t1
 else
 some t1
def M_nat_plain_own (fu : Nat) (a0 : List Nat) : Option (List Nat) :=
 bd (loopN (B_nat_plain_own_0 fu ) fu a0) fun t3 =>
 some t3
def M_nat_Add (fu : Nat) (a0 : List Nat) (a1 : List Nat) : Option (List Nat) :=
 nm (max (((a0.length : Nat) : Int)) (((a1.length : Nat) : Int))) fun x1 =>
 bd (M_nat_carried fu x1 (fun zx0 zx1 => M_nat_Add_1 fu zx0 zx1 a0 a1)) fun (t1, m1) =>
 ck ((t1.length + ([m1]).length) * 8 ≤ 140737488355328) <|
 nm (t1 ++ ([m1])) fun t2 =>
 bd (M_nat_plain_own fu t2) fun t3 =>
 some t3
def M_math_bits_Mul64 (fu : Nat) (a0 : Nat) (a1 : Nat) : Option (Nat × Nat) :=
 nm (a0 &&& ((4294967295 : Nat))) fun m1 =>
 nm (a0 / 2 ^ (min (((32 : Nat)) : Int).toNat 64)) fun m2 =>
 nm (a1 &&& ((4294967295 : Nat))) fun m3 =>
 nm (a1 / 2 ^ (min (((32 : Nat)) : Int).toNat 64)) fun m4 =>
 nm ((m1 * m3) % 18446744073709551616) fun m5 =>
 nm ((m2 * m3) % 18446744073709551616) fun m6 =>
 nm (m5 / 2 ^ (min (((32 : Nat)) : Int).toNat 64)) fun m7 =>
 nm ((m6 + m7) % 18446744073709551616) fun m8 =>
 nm (m8 &&& ((4294967295 : Nat))) fun m9 =>
 nm (m8 / 2 ^ (min (((32 : Nat)) : Int).toNat 64)) fun m10 =>
 nm ((m1 * m4) % 18446744073709551616) fun m11 =>
 nm ((m9 + m11) % 18446744073709551616) fun m12 =>
 nm ((m2 * m4) % 18446744073709551616) fun m13 =>
 nm ((m13 + m10) % 18446744073709551616) fun m14 =>
 nm (m12 / 2 ^ (min (((32 : Nat)) : Int).toNat 64)) fun m15 =>
 nm ((m14 + m15) % 18446744073709551616) fun m16 =>
 nm ((a0 * a1) % 18446744073709551616) fun m17 =>
 some (m16, m17)
def M_nat_row_1 (fu : Nat) (a0 : Int) (a1 : Nat) (a2 : List Nat) (a3 : Nat) : Option (Nat × Nat) :=
 ckI a0 (a2.length) fun j1 =>
 nm (a2.getD j1 0) fun y1 =>
 bd (M_math_bits_Mul64 fu y1 a3) fun (m1, m2) =>
 ck ((0 : Nat) ≤ 1) <|
 nm ((m2 + a1 + ((0 : Nat))) % 18446744073709551616) fun m3 =>
 nm ((m2 + a1 + ((0 : Nat))) / 18446744073709551616) fun m4 =>
 nm ((m1 + m4) % 18446744073709551616) fun m5 =>
 some (m3, m5)
def M_nat_row (fu : Nat) (a0 : List Nat) (a1 : Nat) : Option (List Nat) :=
 bd (M_nat_carried fu (((a0.length : Nat) : Int)) (fun zx0 zx1 => M_nat_row_1 fu zx0 zx1 a0 a1)) fun (t1, m1) =>
 ck ((t1.length + ([m1]).length) * 8 ≤ 140737488355328) <|
 nm (t1 ++ ([m1])) fun t2 =>
 some t2
def B_nat_Parse_0 (fu : Nat) (a0 : List Nat) : (((List Nat) × Int) → Option ((List Nat) ⊕ Unit)) → ((List Nat) × Int) → Option ((List Nat) ⊕ Unit) := fun L (t1, i1) =>
 bd ((if i1 < ((a0.length : Nat) : Int) then
 some ((a0, ((a0.length : Nat) : Int), true))
 else
 some ((a0, ((a0.length : Nat) : Int), false)) : Option ((List Nat) × Int × Bool))) fun (t2, i2, b1) =>
 if b1 = true then
 ckI i1 (t2.length) fun j2 =>
 nm (t2.getD j2 0) fun y1 =>
 if ((y1 : Nat) : Int) < (((48 : Nat) : Nat) : Int) then
 some (.inr ())
 else
 if (((57 : Nat) : Nat) : Int) < ((y1 : Nat) : Int) then
 some (.inr ())
 else
 bd (M_nat_row fu t1 (10 : Nat)) fun t3 =>
 nm ((y1 + 256 - ((48 : Nat))) % 256) fun m2 =>
 bd (M_nat_Add fu t3 [m2]) fun t4 =>
 ck64 (i1 + ((1 : Int))) fun x1 =>
 L (t4, x1)
 else
 some (.inl t1)
def M_nat_Parse (fu : Nat) (a0 : List Nat) : Option ((List Nat) × Int) :=
 bd ((if ((a0.length : Nat) : Int) = (0 : Int) then
 some (.inr ())
 else
 if (4096 : Int) < ((a0.length : Nat) : Int) then
 some (.inr ())
 else
 ckI ((0 : Int)) (a0.length) fun j1 =>
 nm (a0.getD j1 0) fun m1 =>
 if ((m1 : Nat) : Int) = (((48 : Nat) : Nat) : Int) then
 if (1 : Int) < ((a0.length : Nat) : Int) then
 some (.inr ())
 else
 some (.inl ())
 else
 some (.inl ()) : Option (Unit ⊕ Unit))) fun s1 => match s1 with
 | .inl _ =>
 (bd (loopN (B_nat_Parse_0 fu a0) fu (([], (0 : Int)))) fun s2 => match s2 with
 | .inl t5 =>
 some ((t5, (0 : Int)))
 | .inr _ =>
 some (([], (2 : Int))))
 | .inr _ =>
 some (([], (2 : Int)))
def M_expr_parser_number_io (fu : Nat) (a0 : (List Nat) × (Int × (Int × Int))) : Option (PX ⊕ ((List Nat) × ((List Nat) × (Int × (Int × Int))))) :=
 bd (M_expr_parser_digits_io fu a0) fun z1 => match z1 with
 | .inl q1 =>
 (some (.inl q1))
 | .inr (t1, y1) =>
 bd (M_nat_Parse fu t1) fun (t2, x1) =>
 if x1 = (0 : Int) then
 some (.inr (t2, y1))
 else
 some (.inl (33, y1.2.1))
def M_strings_Contains (fu : Nat) (a0 a1 : List Nat) : Option Bool := containsN a0 a1
def M_expr_parser_take_io (fu : Nat) (a0 : (List Nat) × (Int × (Int × Int))) (a1 : List Nat) : Option (Nat × Bool × ((List Nat) × (Int × (Int × Int)))) :=
 bd (M_expr_parser_next_io fu a0) fun (m1, c1, y1) =>
 if ((!c1)) = true then
 some (((0 : Nat), false, y1))
 else
 bd (M_strings_Contains fu a1 [m1]) fun c2 =>
 if ((!c2)) = true then
 some (((0 : Nat), false, y1))
 else
 ck64 (y1.2.1 + ((1 : Int))) fun x1 =>
 nm ((y1.1, (x1, y1.2.2))) fun t1 =>
 some (m1, true, t1)
def M_expr_parser_atom_io (R : ((List Nat) × (Int × (Int × Int))) → Option (PX ⊕ (Tr × ((List Nat) × (Int × (Int × Int)))))) (fu : Nat) (a0 : (List Nat) × (Int × (Int × Int))) : Option (PX ⊕ (Tr × ((List Nat) × (Int × (Int × Int))))) :=
 bd (M_expr_parser_next_io fu a0) fun (m1, c1, y1) =>
 bd ((if c1 = true then
 if (((48 : Nat) : Nat) : Int) ≤ ((m1 : Nat) : Int) then
 if ((m1 : Nat) : Int) ≤ (((57 : Nat) : Nat) : Int) then
 some true
 else
 some false
 else
 some false
 else
 some false : Option Bool)) fun b1 =>
 if b1 = true then
 bd (M_expr_parser_number_io fu y1) fun z1 => match z1 with
 | .inl q1 =>
 (some (.inl q1))
 | .inr (t1, y2) =>
 some (.inr (((Tr.un (((110 : Nat), (t1, (0, (0, (Tr.nil, Tr.nil))))))), y2)))
 else
 bd ((if c1 = true then
 if (((97 : Nat) : Nat) : Int) ≤ ((m1 : Nat) : Int) then
 if ((m1 : Nat) : Int) ≤ (((122 : Nat) : Nat) : Int) then
 some true
 else
 some false
 else
 some false
 else
 some false : Option Bool)) fun b2 =>
 if b2 = true then
 ck64 (y1.2.1 + ((1 : Int))) fun x1 =>
 nm ((y1.1, (x1, y1.2.2))) fun t2 =>
 some (.inr (((Tr.un (((118 : Nat), ([], (m1, (0, (Tr.nil, Tr.nil))))))), t2)))
 else
 if ((m1 : Nat) : Int) = (((40 : Nat) : Nat) : Int) then
 if y1.2.2.1 = y1.2.2.2 then
 some (.inl (33, y1.2.1))
 else
 ck64 (y1.2.1 + ((1 : Int))) fun x2 =>
 nm ((y1.1, (x2, y1.2.2))) fun t3 =>
 ck64 (t3.2.2.1 + ((1 : Int))) fun x3 =>
 nm ((t3.1, (t3.2.1, (x3, t3.2.2.2)))) fun t4 =>
 bd (R t4) fun z2 => match z2 with
 | .inl q2 =>
 (some (.inl q2))
 | .inr (q3, y3) =>
 bd (M_expr_parser_take_io fu y3 [41]) fun (m2, c2, y4) =>
 if ((!c2)) = true then
 some (.inl (33, y4.2.1))
 else
 ck64 (y4.2.2.1 - ((1 : Int))) fun x4 =>
 nm ((y4.1, (y4.2.1, (x4, y4.2.2.2)))) fun t5 =>
 some (.inr (q3, t5))
 else
 some (.inl (33, y1.2.1))
def M_strconv_Atoi (fu : Nat) (a0 : List Nat) : Option (Int × Bool) := atoiN a0
def M_expr_parser_exponent_io (fu : Nat) (a0 : (List Nat) × (Int × (Int × Int))) : Option (PX ⊕ (Int × ((List Nat) × (Int × (Int × Int))))) :=
 bd (M_expr_parser_next_io fu a0) fun (m1, c1, y1) =>
 bd (M_expr_parser_digits_io fu y1) fun z1 => match z1 with
 | .inl q1 =>
 (some (.inl q1))
 | .inr (t1, y2) =>
 bd (M_strconv_Atoi fu t1) fun (x1, c2) =>
 if (!c2) = true then
 if (1000 : Int) < x1 then
 some (.inl (33, y1.2.1))
 else
 some (.inr (x1, y2))
 else
 some (.inl (33, y1.2.1))
def M_expr_parser_power_io (R : ((List Nat) × (Int × (Int × Int))) → Option (PX ⊕ (Tr × ((List Nat) × (Int × (Int × Int)))))) (fu : Nat) (a0 : (List Nat) × (Int × (Int × Int))) : Option (PX ⊕ (Tr × ((List Nat) × (Int × (Int × Int))))) :=
 bd (M_expr_parser_atom_io R fu a0) fun z1 => match z1 with
 | .inl q1 =>
 (some (.inl q1))
 | .inr (q2, y1) =>
 bd (M_expr_parser_take_io fu y1 [94]) fun (m1, c1, y2) =>
 if c1 = true then
 bd (M_expr_parser_exponent_io fu y2) fun z2 => match z2 with
 | .inl q3 =>
 (some (.inl q3))
 | .inr (x1, y3) =>
 some (.inr (((Tr.un (((94 : Nat), ([], (0, (x1, (q2, (Tr.nil)))))))), y3)))
 else
 some (.inr (q2, y2))
def B_expr_parser_product_io_0 (fu : Nat) (R : ((List Nat) × (Int × (Int × Int))) → Option (PX ⊕ (Tr × ((List Nat) × (Int × (Int × Int)))))) : ((Tr × ((List Nat) × (Int × (Int × Int)))) → Option ((Tr × ((List Nat) × (Int × (Int × Int)))) ⊕ (PX × Unit))) → (Tr × ((List Nat) × (Int × (Int × Int)))) → Option ((Tr × ((List Nat) × (Int × (Int × Int)))) ⊕ (PX × Unit)) := fun L (t1, t2) =>
 bd (M_expr_parser_take_io fu t2 [42, 47]) fun (m1, c1, y2) =>
 if ((!c1)) = true then
 some (.inl (t1, y2))
 else
 if ((m1 : Nat) : Int) = (((42 : Nat) : Nat) : Int) then
 bd (M_expr_parser_power_io R fu y2) fun z2 => match z2 with
 | .inl q3 =>
 (some (.inr ((q3, ()))))
 | .inr (q4, y3) =>
 L (((Tr.un ((m1, ([], (0, (0, (t1, q4))))))), y3))
 else
 bd (M_expr_parser_number_io fu y2) fun z3 => match z3 with
 | .inl q5 =>
 (some (.inr ((q5, ()))))
 | .inr (t3, y4) =>
 L (((Tr.un ((m1, (t3, (0, (0, (t1, (Tr.nil)))))))), y4))
def M_expr_parser_product_io (R : ((List Nat) × (Int × (Int × Int))) → Option (PX ⊕ (Tr × ((List Nat) × (Int × (Int × Int)))))) (fu : Nat) (a0 : (List Nat) × (Int × (Int × Int))) : Option (PX ⊕ (Tr × ((List Nat) × (Int × (Int × Int))))) :=
 bd (M_expr_parser_power_io R fu a0) fun z1 => match z1 with
 | .inl q1 =>
 (some (.inl q1))
 | .inr (q2, y1) =>
 bd (loopN (B_expr_parser_product_io_0 fu R) fu (q2, y1)) fun s1 => match s1 with
 | .inl (t4, t5) =>
 some (.inr (t4, t5))
 | .inr (q6, _) =>
 some (.inl q6)
def B_expr_parser_sum_io_0 (fu : Nat) (self : ((List Nat) × (Int × (Int × Int))) → Option (PX ⊕ (Tr × ((List Nat) × (Int × (Int × Int))))))  : ((Tr × Nat × Bool × ((List Nat) × (Int × (Int × Int)))) → Option ((Tr × ((List Nat) × (Int × (Int × Int)))) ⊕ (PX × Unit))) → (Tr × Nat × Bool × ((List Nat) × (Int × (Int × Int)))) → Option ((Tr × ((List Nat) × (Int × (Int × Int)))) ⊕ (PX × Unit)) := fun L (t3, t4, b1, t5) =>
 if b1 = true then
 bd (M_expr_parser_product_io self fu t5) fun z3 => match z3 with
 | .inl q5 =>
 (some (.inr ((q5, ()))))
 | .inr (q6, y5) =>
 bd (M_expr_parser_take_io fu y5 [43, 45]) fun (m3, c3, y6) =>
 L (((Tr.un ((t4, ([], (0, (0, (t3, q6))))))), m3, c3, y6))
 else
 some (.inl (t3, t5))
def M_expr_parser_sum_io : Nat → ((List Nat) × (Int × (Int × Int))) → Option (PX ⊕ (Tr × ((List Nat) × (Int × (Int × Int)))))
  | 0, _ => none
  | fu + 1, a0 =>
    bd ((bd (M_expr_parser_take_io fu a0 [45]) fun (m1, c1, y1) =>
    if c1 = true then
    bd (M_expr_parser_product_io (M_expr_parser_sum_io fu) fu y1) fun z1 => match z1 with
    | .inl q1 =>
    (some (.inr ((q1, ()))))
    | .inr (q2, y2) =>
    some (.inl (((Tr.un (((126 : Nat), ([], (0, (0, (q2, (Tr.nil)))))))), y2)))
    else
    bd (M_expr_parser_product_io (M_expr_parser_sum_io fu) fu y1) fun z2 => match z2 with
    | .inl q3 =>
    (some (.inr ((q3, ()))))
    | .inr (q4, y3) =>
    some (.inl (q4, y3)) : Option ((Tr × ((List Nat) × (Int × (Int × Int)))) ⊕ (PX × Unit)))) fun s1 => match s1 with
    | .inl (t1, t2) =>
    (bd (M_expr_parser_take_io fu t2 [43, 45]) fun (m2, c2, y4) =>
    bd (loopN (B_expr_parser_sum_io_0 fu (M_expr_parser_sum_io fu) ) fu (t1, m2, c2, y4)) fun s2 => match s2 with
    | .inl (t6, t7) =>
    some (.inr (t6, t7))
    | .inr (q7, _) =>
    some (.inl q7))
    | .inr (q8, _) =>
    some (.inl q8)
def M_expr_Parse (fu : Nat) (a0 : List Nat) (a1 : Int) : Option (Tr × Int × Int) :=
 bd ((if a1 < (0 : Int) then
 some true
 else
 if (100 : Int) < a1 then
 some true
 else
 some false : Option Bool)) fun b1 =>
 if b1 = true then
 some ((Tr.nil, (0 : Int), (1 : Int)))
 else
 if (4096 : Int) < ((a0.length : Nat) : Int) then
 some ((Tr.nil, (4096 : Int), (2 : Int)))
 else
 bd (M_expr_parser_sum_io fu ((a0, (0, (0, a1))))) fun z1 => match z1 with
 | .inl q1 =>
 (ck (q1.1 = 33) <|
 ck (InR q1.2) <|
 some (Tr.nil, q1.2, 2))
 | .inr (q2, y1) =>
 bd (M_expr_parser_next_io fu y1) fun (m1, c1, y2) =>
 if y2.2.1 < ((a0.length : Nat) : Int) then
 ck ((33, y2.2.1).1 = 33) <|
 ck (InR (33, y2.2.1).2) <|
 some ((Tr.nil, (33, y2.2.1).2, 2))
 else
 some ((q2, ((a0.length : Nat) : Int), (0 : Int)))
def M_expr_writer_put_vr (fu : Nat) (a0 : (List Nat) × (Int × (Int × Bool))) (b0 : List Nat) (a1 : List Nat) : Option (((List Nat) × (Int × (Int × Bool))) × List Nat) :=
 ck ((b0.length + a1.length) * 1 ≤ 140737488355328) <|
 nm (b0 ++ a1) fun t1 =>
 if a0.2.2.2 = true then
 nm ((a0.1, (a0.2.1, (a0.2.2.1, true)))) fun t2 =>
 some (t2, t1)
 else
 if (4096 : Int) < ((t1.length : Nat) : Int) then
 nm ((a0.1, (a0.2.1, (a0.2.2.1, true)))) fun t3 =>
 some (t3, t1)
 else
 nm ((a0.1, (a0.2.1, (a0.2.2.1, false)))) fun t4 =>
 some (t4, t1)
def B_slices_Reverse_byte_byte_io_0 (fu : Nat)  : ((Int × Int × (List Nat)) → Option (List Nat)) → (Int × Int × (List Nat)) → Option (List Nat) := fun L (i1, i2, t1) =>
 if i1 < i2 then
 ckI i2 (t1.length) fun j1 =>
 nm ((t1.getD j1 0)) fun m1 =>
 ckI i1 (t1.length) fun j2 =>
 nm ((t1.getD j2 0)) fun m2 =>
 ckI i1 (t1.length) fun j3 =>
 nm (t1.set j3 m1) fun t2 =>
 ckI i2 (t2.length) fun j4 =>
 nm (t2.set j4 m2) fun t3 =>
 ck64 (i1 + ((1 : Int))) fun x2 =>
 ck64 (i2 - ((1 : Int))) fun x3 =>
 L (x2, x3, t3)
 else
 some t1
def M_slices_Reverse_byte_byte_io (fu : Nat) (a0 : List Nat) : Option (List Nat) :=
 ck64 ((((a0.length : Nat) : Int)) - ((1 : Int))) fun x1 =>
 bd (loopN (B_slices_Reverse_byte_byte_io_0 fu ) fu (((0 : Int), x1, a0))) fun t4 =>
 some t4
def B_nat_digits_0 (fu : Nat) (a1 : Bool) : ((Nat × (List Nat)) → Option (List Nat)) → (Nat × (List Nat)) → Option (List Nat) := fun L (d1, t1) =>
 if (((0 : Nat) : Nat) : Int) < ((d1 : Nat) : Int) then
 ck ((10 : Nat) ≠ 0) <|
 nm (d1 % ((10 : Nat))) fun m1 =>
 nm ((((48 : Nat)) + m1) % 18446744073709551616) fun m2 =>
 nm (m2 % 256) fun m3 =>
 ck ((t1.length + ([m3]).length) * 1 ≤ 140737488355328) <|
 nm (t1 ++ ([m3])) fun t2 =>
 ck ((10 : Nat) ≠ 0) <|
 nm (d1 / ((10 : Nat))) fun m4 =>
 L (m4, t2)
 else
 if a1 = true then
 if ((t1.length : Nat) : Int) < (19 : Int) then
 ck ((10 : Nat) ≠ 0) <|
 nm (d1 % ((10 : Nat))) fun m5 =>
 nm ((((48 : Nat)) + m5) % 18446744073709551616) fun m6 =>
 nm (m6 % 256) fun m7 =>
 ck ((t1.length + ([m7]).length) * 1 ≤ 140737488355328) <|
 nm (t1 ++ ([m7])) fun t3 =>
 ck ((10 : Nat) ≠ 0) <|
 nm (d1 / ((10 : Nat))) fun m8 =>
 L (m8, t3)
 else
 some t1
 else
 some t1
def M_nat_digits (fu : Nat) (a0 : Nat) (a1 : Bool) : Option (List Nat) :=
 bd (loopN (B_nat_digits_0 fu a1) fu (a0, [])) fun t4 =>
 bd (M_slices_Reverse_byte_byte_io fu t4) fun t5 =>
 some t5
def M_math_bits_Len64 (fu : Nat) (a0 : Nat) : Option Int :=
 bd ((if (4294967296 : Int) ≤ ((a0 : Nat) : Int) then
 nm (a0 / 2 ^ (min ((32 : Int)).toNat 64)) fun m1 =>
 some (m1, 32)
 else
 some (a0, 0) : Option (Nat × Int))) fun (d1, i1) =>
 bd ((if (65536 : Int) ≤ ((d1 : Nat) : Int) then
 nm (d1 / 2 ^ (min ((16 : Int)).toNat 64)) fun m2 =>
 ck64 (i1 + 16) fun x1 =>
 some (m2, x1)
 else
 some (d1, i1) : Option (Nat × Int))) fun (d2, i2) =>
 if (256 : Int) ≤ ((d2 : Nat) : Int) then
 nm (d2 / 2 ^ (min ((8 : Int)).toNat 64)) fun m3 =>
 ck64 (i2 + 8) fun x2 =>
 nm (m3 % 256) fun m4 =>
 nm (Lib.bitLen m4) fun m5 =>
 ck64 (x2 + (((m5 : Nat) : Int))) fun x3 =>
 some x3
 else
 nm (d2 % 256) fun m6 =>
 nm (Lib.bitLen m6) fun m7 =>
 ck64 (i2 + (((m7 : Nat) : Int))) fun x4 =>
 some x4
def M_math_bits_LeadingZeros64 (fu : Nat) (a0 : Nat) : Option Int :=
 bd (M_math_bits_Len64 fu a0) fun x1 =>
 ck64 (((64 : Int)) - x1) fun x2 =>
 some x2
def B_math_bits_Div64_0 (fu : Nat) (m5 : Nat) (m6 : Nat) (m12 : Nat) : ((Nat × Nat) → Option Nat) → (Nat × Nat) → Option Nat := fun L (d1, d2) =>
 if (((4294967296 : Nat) : Nat) : Int) ≤ ((d1 : Nat) : Int) then
 nm ((d1 + 18446744073709551616 - ((1 : Nat))) % 18446744073709551616) fun m17 =>
 nm ((d2 + m5) % 18446744073709551616) fun m18 =>
 if (((4294967296 : Nat) : Nat) : Int) ≤ ((m18 : Nat) : Int) then
 some m17
 else
 L (m17, m18)
 else
 nm ((d1 * m6) % 18446744073709551616) fun m19 =>
 nm ((((4294967296 : Nat)) * d2) % 18446744073709551616) fun m20 =>
 nm ((m20 + m12) % 18446744073709551616) fun m21 =>
 if ((m21 : Nat) : Int) < ((m19 : Nat) : Int) then
 nm ((d1 + 18446744073709551616 - ((1 : Nat))) % 18446744073709551616) fun m22 =>
 nm ((d2 + m5) % 18446744073709551616) fun m23 =>
 if (((4294967296 : Nat) : Nat) : Int) ≤ ((m23 : Nat) : Int) then
 some m22
 else
 L (m22, m23)
 else
 some d1
def B_math_bits_Div64_1 (fu : Nat) (m5 : Nat) (m6 : Nat) (m13 : Nat) : ((Nat × Nat) → Option Nat) → (Nat × Nat) → Option Nat := fun L (d4, d5) =>
 if (((4294967296 : Nat) : Nat) : Int) ≤ ((d5 : Nat) : Int) then
 nm ((d5 + 18446744073709551616 - ((1 : Nat))) % 18446744073709551616) fun m31 =>
 nm ((d4 + m5) % 18446744073709551616) fun m32 =>
 if (((4294967296 : Nat) : Nat) : Int) ≤ ((m32 : Nat) : Int) then
 some m31
 else
 L (m32, m31)
 else
 nm ((d5 * m6) % 18446744073709551616) fun m33 =>
 nm ((((4294967296 : Nat)) * d4) % 18446744073709551616) fun m34 =>
 nm ((m34 + m13) % 18446744073709551616) fun m35 =>
 if ((m35 : Nat) : Int) < ((m33 : Nat) : Int) then
 nm ((d5 + 18446744073709551616 - ((1 : Nat))) % 18446744073709551616) fun m36 =>
 nm ((d4 + m5) % 18446744073709551616) fun m37 =>
 if (((4294967296 : Nat) : Nat) : Int) ≤ ((m37 : Nat) : Int) then
 some m36
 else
 L (m37, m36)
 else
 some d5
def M_math_bits_Div64 (fu : Nat) (a0 : Nat) (a1 : Nat) (a2 : Nat) : Option (Nat × Nat) :=
 if ((a2 : Nat) : Int) = (((0 : Nat) : Nat) : Int) then
 none
 else
 if ((a2 : Nat) : Int) ≤ ((a0 : Nat) : Int) then
 none
 else
 if ((a0 : Nat) : Int) = (((0 : Nat) : Nat) : Int) then
 ck (a2 ≠ 0) <|
 nm (a1 / a2) fun m1 =>
 ck (a2 ≠ 0) <|
 nm (a1 % a2) fun m2 =>
 some (m1, m2)
 else
 bd (M_math_bits_LeadingZeros64 fu a2) fun x1 =>
 nm (uns x1) fun m3 =>
 nm (a2 * 2 ^ (min (m3 : Int).toNat 64) % 18446744073709551616) fun m4 =>
 nm (m4 / 2 ^ (min (((32 : Nat)) : Int).toNat 64)) fun m5 =>
 nm (m4 &&& ((4294967295 : Nat))) fun m6 =>
 nm (a0 * 2 ^ (min (m3 : Int).toNat 64) % 18446744073709551616) fun m7 =>
 nm ((((64 : Nat)) + 18446744073709551616 - m3) % 18446744073709551616) fun m8 =>
 nm (a1 / 2 ^ (min (m8 : Int).toNat 64)) fun m9 =>
 nm (m7 ||| m9) fun m10 =>
 nm (a1 * 2 ^ (min (m3 : Int).toNat 64) % 18446744073709551616) fun m11 =>
 nm (m11 / 2 ^ (min (((32 : Nat)) : Int).toNat 64)) fun m12 =>
 nm (m11 &&& ((4294967295 : Nat))) fun m13 =>
 ck (m5 ≠ 0) <|
 nm (m10 / m5) fun m14 =>
 nm ((m14 * m5) % 18446744073709551616) fun m15 =>
 nm ((m10 + 18446744073709551616 - m15) % 18446744073709551616) fun m16 =>
 bd (loopN (B_math_bits_Div64_0 fu m5 m6 m12) fu (m14, m16)) fun d3 =>
 nm ((m10 * ((4294967296 : Nat))) % 18446744073709551616) fun m24 =>
 nm ((m24 + m12) % 18446744073709551616) fun m25 =>
 nm ((d3 * m4) % 18446744073709551616) fun m26 =>
 nm ((m25 + 18446744073709551616 - m26) % 18446744073709551616) fun m27 =>
 ck (m5 ≠ 0) <|
 nm (m27 / m5) fun m28 =>
 nm ((m28 * m5) % 18446744073709551616) fun m29 =>
 nm ((m27 + 18446744073709551616 - m29) % 18446744073709551616) fun m30 =>
 bd (loopN (B_math_bits_Div64_1 fu m5 m6 m13) fu (m30, m28)) fun d6 =>
 nm ((d3 * ((4294967296 : Nat))) % 18446744073709551616) fun m38 =>
 nm ((m38 + d6) % 18446744073709551616) fun m39 =>
 nm ((m27 * ((4294967296 : Nat))) % 18446744073709551616) fun m40 =>
 nm ((m40 + m13) % 18446744073709551616) fun m41 =>
 nm ((d6 * m4) % 18446744073709551616) fun m42 =>
 nm ((m41 + 18446744073709551616 - m42) % 18446744073709551616) fun m43 =>
 nm (m43 / 2 ^ (min (m3 : Int).toNat 64)) fun m44 =>
 some (m39, m44)
def B_nat_short_0 (fu : Nat) (a0 : List Nat) (a1 : Nat) : ((Nat × Int × (List Nat)) → Option (Nat × (List Nat))) → (Nat × Int × (List Nat)) → Option (Nat × (List Nat)) := fun L (d1, i1, t2) =>
 if (0 : Int) ≤ i1 then
 ckI i1 (a0.length) fun j2 =>
 nm (a0.getD j2 0) fun y1 =>
 bd (M_math_bits_Div64 fu d1 y1 a1) fun (m1, m2) =>
 ckI i1 (t2.length) fun j3 =>
 nm (t2.set j3 m1) fun t3 =>
 ck64 (i1 - ((1 : Int))) fun x2 =>
 L (m2, x2, t3)
 else
 some (d1, t2)
def M_nat_short (fu : Nat) (a0 : List Nat) (a1 : Nat) : Option ((List Nat) × Nat) :=
 ckN (((a0.length : Nat) : Int)) fun j1 =>
 ck (8 * j1 ≤ 281474976710656) <|
 nm (List.replicate j1 0) fun t1 =>
 ck64 ((((a0.length : Nat) : Int)) - ((1 : Int))) fun x1 =>
 bd (loopN (B_nat_short_0 fu a0 a1) fu (((0 : Nat), x1, t1))) fun (d2, t4) =>
 bd (M_nat_plain_own fu t4) fun t5 =>
 some (t5, d2)
def B_slices_Reverse_string_string_io_0 (fu : Nat)  : ((Int × Int × (List (List Nat))) → Option (List (List Nat))) → (Int × Int × (List (List Nat))) → Option (List (List Nat)) := fun L (i1, i2, t1) =>
 if i1 < i2 then
 ckI i2 (t1.length) fun j1 =>
 nm ((t1.getD j1 [])) fun t2 =>
 ckI i1 (t1.length) fun j2 =>
 nm ((t1.getD j2 [])) fun t3 =>
 ckI i1 (t1.length) fun j3 =>
 nm (t1.set j3 t2) fun t4 =>
 ckI i2 (t4.length) fun j4 =>
 nm (t4.set j4 t3) fun t5 =>
 ck64 (i1 + ((1 : Int))) fun x2 =>
 ck64 (i2 - ((1 : Int))) fun x3 =>
 L (x2, x3, t5)
 else
 some t1
def M_slices_Reverse_string_string_io (fu : Nat) (a0 : List (List Nat)) : Option (List (List Nat)) :=
 ck64 ((((a0.length : Nat) : Int)) - ((1 : Int))) fun x1 =>
 bd (loopN (B_slices_Reverse_string_string_io_0 fu ) fu (((0 : Int), x1, a0))) fun t6 =>
 some t6
def M_strings_Join (fu : Nat) (a0 : List (List Nat)) (a1 : List Nat) : Option (List Nat) :=
 ck (a0.length ≤ 140737488355328) <|
 ck ((a1.intercalate a0).length ≤ 140737488355328) <|
 some (a1.intercalate a0)
def B_nat_Text_0 (fu : Nat)  : (((List Nat) × (List (List Nat))) → Option (List (List Nat))) → ((List Nat) × (List (List Nat))) → Option (List (List Nat)) := fun L (t2, t3) =>
 if (0 : Int) < ((t2.length : Nat) : Int) then
 bd (M_nat_short fu t2 (10000000000000000000 : Nat)) fun (t4, m1) =>
 if (0 : Int) < ((t4.length : Nat) : Int) then
 bd (M_nat_digits fu m1 true) fun t5 =>
 ck ((t3.length + ([t5]).length) * 16 ≤ 140737488355328) <|
 nm (t3 ++ ([t5])) fun t6 =>
 L (t4, t6)
 else
 bd (M_nat_digits fu m1 false) fun t7 =>
 ck ((t3.length + ([t7]).length) * 16 ≤ 140737488355328) <|
 nm (t3 ++ ([t7])) fun t8 =>
 L (t4, t8)
 else
 some t3
def M_nat_Text (fu : Nat) (a0 : List Nat) : Option (List Nat) :=
 bd (M_nat_plain fu a0) fun t1 =>
 bd (loopN (B_nat_Text_0 fu ) fu (t1, [])) fun t9 =>
 if ((t9.length : Nat) : Int) = (0 : Int) then
 some [48]
 else
 bd (M_slices_Reverse_string_string_io fu t9) fun t10 =>
 bd (M_strings_Join fu t10 []) fun t11 =>
 some t11
def M_expr_writer_digits_vr (fu : Nat) (a0 : (List Nat) × (Int × (Int × Bool))) (b0 : List Nat) (a1 : List Nat) : Option (((List Nat) × (Int × (Int × Bool))) × List Nat) :=
 if (4096 : Int) < ((a1.length : Nat) : Int) then
 nm ((a0.1, (a0.2.1, (a0.2.2.1, true)))) fun t1 =>
 some (t1, b0)
 else
 bd (M_nat_Text fu a1) fun t2 =>
 bd (M_expr_writer_put_vr fu a0 b0 t2) fun (y1, t3) =>
 some (y1, t3)
def M_expr_level (fu : Nat) (a0 : Tr) : Option Int :=
 bd (Tr.opt a0) fun y1 =>
 if ((y1.1 : Nat) : Int) = (((43 : Nat) : Nat) : Int) then
 ck64 (((0 : Int)) + ((1 : Int))) fun x1 =>
 ck64 (x1 + ((1 : Int))) fun x2 =>
 ck64 (x2 + ((1 : Int))) fun x3 =>
 some x3
 else
 if ((y1.1 : Nat) : Int) = (((45 : Nat) : Nat) : Int) then
 ck64 (((0 : Int)) + ((1 : Int))) fun x4 =>
 ck64 (x4 + ((1 : Int))) fun x5 =>
 ck64 (x5 + ((1 : Int))) fun x6 =>
 some x6
 else
 if ((y1.1 : Nat) : Int) = (((126 : Nat) : Nat) : Int) then
 ck64 (((0 : Int)) + ((1 : Int))) fun x7 =>
 ck64 (x7 + ((1 : Int))) fun x8 =>
 ck64 (x8 + ((1 : Int))) fun x9 =>
 some x9
 else
 if ((y1.1 : Nat) : Int) = (((42 : Nat) : Nat) : Int) then
 ck64 (((0 : Int)) + ((1 : Int))) fun x10 =>
 ck64 (x10 + ((1 : Int))) fun x11 =>
 some x11
 else
 if ((y1.1 : Nat) : Int) = (((47 : Nat) : Nat) : Int) then
 ck64 (((0 : Int)) + ((1 : Int))) fun x12 =>
 ck64 (x12 + ((1 : Int))) fun x13 =>
 some x13
 else
 if ((y1.1 : Nat) : Int) = (((94 : Nat) : Nat) : Int) then
 ck64 (((0 : Int)) + ((1 : Int))) fun x14 =>
 some x14
 else
 some (0 : Int)
def M_expr_writer_within_vr (R : ((List Nat) × (Int × (Int × Bool))) → List Nat → Tr → Option (((List Nat) × (Int × (Int × Bool))) × List Nat)) (fu : Nat) (a0 : (List Nat) × (Int × (Int × Bool))) (b0 : List Nat) (a1 : Tr) (a2 : Int) : Option (((List Nat) × (Int × (Int × Bool))) × List Nat) :=
 if a0.2.2.2 = true then
 bd (R a0 b0 a1) fun (y1, t1) =>
 some (y1, t1)
 else
 bd (M_expr_level fu a1) fun x1 =>
 if x1 ≤ a2 then
 bd (R a0 b0 a1) fun (y2, t2) =>
 some (y2, t2)
 else
 ck64 (a0.2.2.1 + ((1 : Int))) fun x2 =>
 nm ((a0.1, (a0.2.1, (x2, a0.2.2.2)))) fun t3 =>
 bd ((if t3.2.2.2 = true then
 nm ((t3.1, (t3.2.1, (t3.2.2.1, true)))) fun t4 =>
 some (t4, b0)
 else
 if (100 : Int) < t3.2.2.1 then
 nm ((t3.1, (t3.2.1, (t3.2.2.1, true)))) fun t5 =>
 some (t5, b0)
 else
 nm ((t3.1, (t3.2.1, (t3.2.2.1, false)))) fun t6 =>
 some (t6, b0) : Option (((List Nat) × (Int × (Int × Bool))) × (List Nat)))) fun t7 =>
 bd (M_expr_writer_put_vr fu t7.1 t7.2 [40]) fun (y3, t8) =>
 bd (R y3 t8 a1) fun (y4, t9) =>
 bd (M_expr_writer_put_vr fu y4 t9 [41]) fun (y5, t10) =>
 ck64 (y5.2.2.1 - ((1 : Int))) fun x3 =>
 nm ((y5.1, (y5.2.1, (x3, y5.2.2.2)))) fun t11 =>
 some (t11, t10)
def M_expr_right (fu : Nat) (a0 : Tr) : Option Bool :=
 bd (Tr.opt a0) fun y1 =>
 bd ((bd (Tr.opt a0) fun y2 =>
 bd ((if ((y2.1 : Nat) : Int) = (((110 : Nat) : Nat) : Int) then
 some (a0, true)
 else
 some (a0, false) : Option (Tr × Bool))) fun (t1, b1) =>
 if b1 = true then
 bd (Tr.opt t1) fun y3 =>
 nm ((y1.1, (y3.2.1, (0, (0, (Tr.nil, Tr.nil)))))) fun t2 =>
 some (.inl (((0 : Int), t2)))
 else
 bd ((if ((y2.1 : Nat) : Int) = (((118 : Nat) : Nat) : Int) then
 some true
 else
 some false : Option Bool)) fun b2 =>
 if b2 = true then
 bd (Tr.opt t1) fun y4 =>
 nm ((y1.1, ([], (y4.2.2.1, (0, (Tr.nil, Tr.nil)))))) fun t3 =>
 some (.inl (((0 : Int), t3)))
 else
 bd ((if ((y2.1 : Nat) : Int) = (((47 : Nat) : Nat) : Int) then
 some true
 else
 some false : Option Bool)) fun b3 =>
 if b3 = true then
 bd (Tr.opt t1) fun y5 =>
 nm ((y1.1, (y5.2.1, (0, (0, (Tr.nil, Tr.nil)))))) fun t4 =>
 some (.inl (((1 : Int), t4)))
 else
 bd ((if ((y2.1 : Nat) : Int) = (((94 : Nat) : Nat) : Int) then
 some true
 else
 some false : Option Bool)) fun b4 =>
 if b4 = true then
 bd (Tr.opt t1) fun y6 =>
 nm ((y1.1, ([], (0, (y6.2.2.2.1, (Tr.nil, Tr.nil)))))) fun t5 =>
 some (.inl (((1 : Int), t5)))
 else
 if ((y2.1 : Nat) : Int) = (((126 : Nat) : Nat) : Int) then
 some (.inl (((1 : Int), (y1.1, ([], (0, (0, (Tr.nil, Tr.nil))))))))
 else
 if ((y2.1 : Nat) : Int) = (((43 : Nat) : Nat) : Int) then
 some (.inl (((2 : Int), (y1.1, ([], (0, (0, (Tr.nil, Tr.nil))))))))
 else
 if ((y2.1 : Nat) : Int) = (((45 : Nat) : Nat) : Int) then
 some (.inl (((2 : Int), (y1.1, ([], (0, (0, (Tr.nil, Tr.nil))))))))
 else
 if ((y2.1 : Nat) : Int) = (((42 : Nat) : Nat) : Int) then
 some (.inl (((2 : Int), (y1.1, ([], (0, (0, (Tr.nil, Tr.nil))))))))
 else
 some (.inr ()) : Option ((Int × TrD) ⊕ Unit))) fun s1 => match s1 with
 | .inl (i1, t6) =>
 bd ((bd (Tr.opt a0) fun y7 =>
 if ((t6.2.1.length : Nat) : Int) = ((y7.2.1.length : Nat) : Int) then
 bd (Tr.opt a0) fun y8 =>
 if ((t6.2.2.1 : Nat) : Int) = ((y8.2.2.1 : Nat) : Int) then
 bd (Tr.opt a0) fun y9 =>
 if t6.2.2.2.1 = y9.2.2.2.1 then
 some true
 else
 some false
 else
 some false
 else
 some false : Option Bool)) fun b5 =>
 if b5 = true then
 bd (Tr.opt a0) fun y10 =>
 if Tr.isNil y10.2.2.2.2.1 = true then
 if (0 : Int) < i1 then
 nm (false == true) fun c1 =>
 if c1 = true then
 bd (Tr.opt a0) fun y11 =>
 if Tr.isNil y11.2.2.2.2.2 = true then
 if (1 : Int) < i1 then
 nm (false == true) fun c2 =>
 if c2 = true then
 bd (Tr.opt a0) fun y12 =>
 if ((y12.1 : Nat) : Int) = (((118 : Nat) : Nat) : Int) then
 bd (Tr.opt a0) fun y13 =>
 if (((97 : Nat) : Nat) : Int) ≤ ((y13.2.2.1 : Nat) : Int) then
 bd (Tr.opt a0) fun y14 =>
 if ((y14.2.2.1 : Nat) : Int) ≤ (((122 : Nat) : Nat) : Int) then
 nm (true == true) fun c3 =>
 if c3 = true then
 bd (Tr.opt a0) fun y15 =>
 if (0 : Int) ≤ y15.2.2.2.1 then
 bd (Tr.opt a0) fun y16 =>
 if y16.2.2.2.1 ≤ (1000 : Int) then
 bd (Tr.opt a0) fun y17 =>
 if ((y17.2.1.length : Nat) : Int) = (0 : Int) then
 some true
 else
 bd (Tr.opt a0) fun y18 =>
 bd (Tr.opt a0) fun y19 =>
 ck64 ((((y19.2.1.length : Nat) : Int)) - ((1 : Int))) fun x1 =>
 ckI x1 (y18.2.1.length) fun j1 =>
 nm (y18.2.1.getD j1 0) fun y20 =>
 if ((y20 : Nat) : Int) = (((0 : Nat) : Nat) : Int) then
 some false
 else
 some true
 else
 some false
 else
 some false
 else
 some false
 else
 nm (true == false) fun c4 =>
 if c4 = true then
 bd (Tr.opt a0) fun y21 =>
 if (0 : Int) ≤ y21.2.2.2.1 then
 bd (Tr.opt a0) fun y22 =>
 if y22.2.2.2.1 ≤ (1000 : Int) then
 bd (Tr.opt a0) fun y23 =>
 if ((y23.2.1.length : Nat) : Int) = (0 : Int) then
 some true
 else
 bd (Tr.opt a0) fun y24 =>
 bd (Tr.opt a0) fun y25 =>
 ck64 ((((y25.2.1.length : Nat) : Int)) - ((1 : Int))) fun x2 =>
 ckI x2 (y24.2.1.length) fun j2 =>
 nm (y24.2.1.getD j2 0) fun y26 =>
 if ((y26 : Nat) : Int) = (((0 : Nat) : Nat) : Int) then
 some false
 else
 some true
 else
 some false
 else
 some false
 else
 some false
 else
 nm (true == false) fun c5 =>
 if c5 = true then
 bd (Tr.opt a0) fun y27 =>
 if (0 : Int) ≤ y27.2.2.2.1 then
 bd (Tr.opt a0) fun y28 =>
 if y28.2.2.2.1 ≤ (1000 : Int) then
 bd (Tr.opt a0) fun y29 =>
 if ((y29.2.1.length : Nat) : Int) = (0 : Int) then
 some true
 else
 bd (Tr.opt a0) fun y30 =>
 bd (Tr.opt a0) fun y31 =>
 ck64 ((((y31.2.1.length : Nat) : Int)) - ((1 : Int))) fun x3 =>
 ckI x3 (y30.2.1.length) fun j3 =>
 nm (y30.2.1.getD j3 0) fun y32 =>
 if ((y32 : Nat) : Int) = (((0 : Nat) : Nat) : Int) then
 some false
 else
 some true
 else
 some false
 else
 some false
 else
 some false
 else
 bd (Tr.opt a0) fun y33 =>
 if (((97 : Nat) : Nat) : Int) ≤ ((y33.2.2.1 : Nat) : Int) then
 bd (Tr.opt a0) fun y34 =>
 if ((y34.2.2.1 : Nat) : Int) ≤ (((122 : Nat) : Nat) : Int) then
 nm (false == true) fun c6 =>
 if c6 = true then
 bd (Tr.opt a0) fun y35 =>
 if (0 : Int) ≤ y35.2.2.2.1 then
 bd (Tr.opt a0) fun y36 =>
 if y36.2.2.2.1 ≤ (1000 : Int) then
 bd (Tr.opt a0) fun y37 =>
 if ((y37.2.1.length : Nat) : Int) = (0 : Int) then
 some true
 else
 bd (Tr.opt a0) fun y38 =>
 bd (Tr.opt a0) fun y39 =>
 ck64 ((((y39.2.1.length : Nat) : Int)) - ((1 : Int))) fun x4 =>
 ckI x4 (y38.2.1.length) fun j4 =>
 nm (y38.2.1.getD j4 0) fun y40 =>
 if ((y40 : Nat) : Int) = (((0 : Nat) : Nat) : Int) then
 some false
 else
 some true
 else
 some false
 else
 some false
 else
 some false
 else
 nm (false == false) fun c7 =>
 if c7 = true then
 bd (Tr.opt a0) fun y41 =>
 if (0 : Int) ≤ y41.2.2.2.1 then
 bd (Tr.opt a0) fun y42 =>
 if y42.2.2.2.1 ≤ (1000 : Int) then
 bd (Tr.opt a0) fun y43 =>
 if ((y43.2.1.length : Nat) : Int) = (0 : Int) then
 some true
 else
 bd (Tr.opt a0) fun y44 =>
 bd (Tr.opt a0) fun y45 =>
 ck64 ((((y45.2.1.length : Nat) : Int)) - ((1 : Int))) fun x5 =>
 ckI x5 (y44.2.1.length) fun j5 =>
 nm (y44.2.1.getD j5 0) fun y46 =>
 if ((y46 : Nat) : Int) = (((0 : Nat) : Nat) : Int) then
 some false
 else
 some true
 else
 some false
 else
 some false
 else
 some false
 else
 nm (false == false) fun c8 =>
 if c8 = true then
 bd (Tr.opt a0) fun y47 =>
 if (0 : Int) ≤ y47.2.2.2.1 then
 bd (Tr.opt a0) fun y48 =>
 if y48.2.2.2.1 ≤ (1000 : Int) then
 bd (Tr.opt a0) fun y49 =>
 if ((y49.2.1.length : Nat) : Int) = (0 : Int) then
 some true
 else
 bd (Tr.opt a0) fun y50 =>
 bd (Tr.opt a0) fun y51 =>
 ck64 ((((y51.2.1.length : Nat) : Int)) - ((1 : Int))) fun x6 =>
 ckI x6 (y50.2.1.length) fun j6 =>
 nm (y50.2.1.getD j6 0) fun y52 =>
 if ((y52 : Nat) : Int) = (((0 : Nat) : Nat) : Int) then
 some false
 else
 some true
 else
 some false
 else
 some false
 else
 some false
 else
 some false
 else
 nm (false == false) fun c9 =>
 if c9 = true then
 bd (Tr.opt a0) fun y53 =>
 if ((y53.1 : Nat) : Int) = (((118 : Nat) : Nat) : Int) then
 bd (Tr.opt a0) fun y54 =>
 if (((97 : Nat) : Nat) : Int) ≤ ((y54.2.2.1 : Nat) : Int) then
 bd (Tr.opt a0) fun y55 =>
 if ((y55.2.2.1 : Nat) : Int) ≤ (((122 : Nat) : Nat) : Int) then
 nm (true == true) fun c10 =>
 if c10 = true then
 bd (Tr.opt a0) fun y56 =>
 if (0 : Int) ≤ y56.2.2.2.1 then
 bd (Tr.opt a0) fun y57 =>
 if y57.2.2.2.1 ≤ (1000 : Int) then
 bd (Tr.opt a0) fun y58 =>
 if ((y58.2.1.length : Nat) : Int) = (0 : Int) then
 some true
 else
 bd (Tr.opt a0) fun y59 =>
 bd (Tr.opt a0) fun y60 =>
 ck64 ((((y60.2.1.length : Nat) : Int)) - ((1 : Int))) fun x7 =>
 ckI x7 (y59.2.1.length) fun j7 =>
 nm (y59.2.1.getD j7 0) fun y61 =>
 if ((y61 : Nat) : Int) = (((0 : Nat) : Nat) : Int) then
 some false
 else
 some true
 else
 some false
 else
 some false
 else
 some false
 else
 nm (true == false) fun c11 =>
 if c11 = true then
 bd (Tr.opt a0) fun y62 =>
 if (0 : Int) ≤ y62.2.2.2.1 then
 bd (Tr.opt a0) fun y63 =>
 if y63.2.2.2.1 ≤ (1000 : Int) then
 bd (Tr.opt a0) fun y64 =>
 if ((y64.2.1.length : Nat) : Int) = (0 : Int) then
 some true
 else
 bd (Tr.opt a0) fun y65 =>
 bd (Tr.opt a0) fun y66 =>
 ck64 ((((y66.2.1.length : Nat) : Int)) - ((1 : Int))) fun x8 =>
 ckI x8 (y65.2.1.length) fun j8 =>
 nm (y65.2.1.getD j8 0) fun y67 =>
 if ((y67 : Nat) : Int) = (((0 : Nat) : Nat) : Int) then
 some false
 else
 some true
 else
 some false
 else
 some false
 else
 some false
 else
 nm (true == false) fun c12 =>
 if c12 = true then
 bd (Tr.opt a0) fun y68 =>
 if (0 : Int) ≤ y68.2.2.2.1 then
 bd (Tr.opt a0) fun y69 =>
 if y69.2.2.2.1 ≤ (1000 : Int) then
 bd (Tr.opt a0) fun y70 =>
 if ((y70.2.1.length : Nat) : Int) = (0 : Int) then
 some true
 else
 bd (Tr.opt a0) fun y71 =>
 bd (Tr.opt a0) fun y72 =>
 ck64 ((((y72.2.1.length : Nat) : Int)) - ((1 : Int))) fun x9 =>
 ckI x9 (y71.2.1.length) fun j9 =>
 nm (y71.2.1.getD j9 0) fun y73 =>
 if ((y73 : Nat) : Int) = (((0 : Nat) : Nat) : Int) then
 some false
 else
 some true
 else
 some false
 else
 some false
 else
 some false
 else
 bd (Tr.opt a0) fun y74 =>
 if (((97 : Nat) : Nat) : Int) ≤ ((y74.2.2.1 : Nat) : Int) then
 bd (Tr.opt a0) fun y75 =>
 if ((y75.2.2.1 : Nat) : Int) ≤ (((122 : Nat) : Nat) : Int) then
 nm (false == true) fun c13 =>
 if c13 = true then
 bd (Tr.opt a0) fun y76 =>
 if (0 : Int) ≤ y76.2.2.2.1 then
 bd (Tr.opt a0) fun y77 =>
 if y77.2.2.2.1 ≤ (1000 : Int) then
 bd (Tr.opt a0) fun y78 =>
 if ((y78.2.1.length : Nat) : Int) = (0 : Int) then
 some true
 else
 bd (Tr.opt a0) fun y79 =>
 bd (Tr.opt a0) fun y80 =>
 ck64 ((((y80.2.1.length : Nat) : Int)) - ((1 : Int))) fun x10 =>
 ckI x10 (y79.2.1.length) fun j10 =>
 nm (y79.2.1.getD j10 0) fun y81 =>
 if ((y81 : Nat) : Int) = (((0 : Nat) : Nat) : Int) then
 some false
 else
 some true
 else
 some false
 else
 some false
 else
 some false
 else
 nm (false == false) fun c14 =>
 if c14 = true then
 bd (Tr.opt a0) fun y82 =>
 if (0 : Int) ≤ y82.2.2.2.1 then
 bd (Tr.opt a0) fun y83 =>
 if y83.2.2.2.1 ≤ (1000 : Int) then
 bd (Tr.opt a0) fun y84 =>
 if ((y84.2.1.length : Nat) : Int) = (0 : Int) then
 some true
 else
 bd (Tr.opt a0) fun y85 =>
 bd (Tr.opt a0) fun y86 =>
 ck64 ((((y86.2.1.length : Nat) : Int)) - ((1 : Int))) fun x11 =>
 ckI x11 (y85.2.1.length) fun j11 =>
 nm (y85.2.1.getD j11 0) fun y87 =>
 if ((y87 : Nat) : Int) = (((0 : Nat) : Nat) : Int) then
 some false
 else
 some true
 else
 some false
 else
 some false
 else
 some false
 else
 nm (false == false) fun c15 =>
 if c15 = true then
 bd (Tr.opt a0) fun y88 =>
 if (0 : Int) ≤ y88.2.2.2.1 then
 bd (Tr.opt a0) fun y89 =>
 if y89.2.2.2.1 ≤ (1000 : Int) then
 bd (Tr.opt a0) fun y90 =>
 if ((y90.2.1.length : Nat) : Int) = (0 : Int) then
 some true
 else
 bd (Tr.opt a0) fun y91 =>
 bd (Tr.opt a0) fun y92 =>
 ck64 ((((y92.2.1.length : Nat) : Int)) - ((1 : Int))) fun x12 =>
 ckI x12 (y91.2.1.length) fun j12 =>
 nm (y91.2.1.getD j12 0) fun y93 =>
 if ((y93 : Nat) : Int) = (((0 : Nat) : Nat) : Int) then
 some false
 else
 some true
 else
 some false
 else
 some false
 else
 some false
 else
 some false
 else
 if (1 : Int) < i1 then
 nm (true == true) fun c16 =>
 if c16 = true then
 bd (Tr.opt a0) fun y94 =>
 if ((y94.1 : Nat) : Int) = (((118 : Nat) : Nat) : Int) then
 bd (Tr.opt a0) fun y95 =>
 if (((97 : Nat) : Nat) : Int) ≤ ((y95.2.2.1 : Nat) : Int) then
 bd (Tr.opt a0) fun y96 =>
 if ((y96.2.2.1 : Nat) : Int) ≤ (((122 : Nat) : Nat) : Int) then
 nm (true == true) fun c17 =>
 if c17 = true then
 bd (Tr.opt a0) fun y97 =>
 if (0 : Int) ≤ y97.2.2.2.1 then
 bd (Tr.opt a0) fun y98 =>
 if y98.2.2.2.1 ≤ (1000 : Int) then
 bd (Tr.opt a0) fun y99 =>
 if ((y99.2.1.length : Nat) : Int) = (0 : Int) then
 some true
 else
 bd (Tr.opt a0) fun y100 =>
 bd (Tr.opt a0) fun y101 =>
 ck64 ((((y101.2.1.length : Nat) : Int)) - ((1 : Int))) fun x13 =>
 ckI x13 (y100.2.1.length) fun j13 =>
 nm (y100.2.1.getD j13 0) fun y102 =>
 if ((y102 : Nat) : Int) = (((0 : Nat) : Nat) : Int) then
 some false
 else
 some true
 else
 some false
 else
 some false
 else
 some false
 else
 nm (true == false) fun c18 =>
 if c18 = true then
 bd (Tr.opt a0) fun y103 =>
 if (0 : Int) ≤ y103.2.2.2.1 then
 bd (Tr.opt a0) fun y104 =>
 if y104.2.2.2.1 ≤ (1000 : Int) then
 bd (Tr.opt a0) fun y105 =>
 if ((y105.2.1.length : Nat) : Int) = (0 : Int) then
 some true
 else
 bd (Tr.opt a0) fun y106 =>
 bd (Tr.opt a0) fun y107 =>
 ck64 ((((y107.2.1.length : Nat) : Int)) - ((1 : Int))) fun x14 =>
 ckI x14 (y106.2.1.length) fun j14 =>
 nm (y106.2.1.getD j14 0) fun y108 =>
 if ((y108 : Nat) : Int) = (((0 : Nat) : Nat) : Int) then
 some false
 else
 some true
 else
 some false
 else
 some false
 else
 some false
 else
 nm (true == false) fun c19 =>
 if c19 = true then
 bd (Tr.opt a0) fun y109 =>
 if (0 : Int) ≤ y109.2.2.2.1 then
 bd (Tr.opt a0) fun y110 =>
 if y110.2.2.2.1 ≤ (1000 : Int) then
 bd (Tr.opt a0) fun y111 =>
 if ((y111.2.1.length : Nat) : Int) = (0 : Int) then
 some true
 else
 bd (Tr.opt a0) fun y112 =>
 bd (Tr.opt a0) fun y113 =>
 ck64 ((((y113.2.1.length : Nat) : Int)) - ((1 : Int))) fun x15 =>
 ckI x15 (y112.2.1.length) fun j15 =>
 nm (y112.2.1.getD j15 0) fun y114 =>
 if ((y114 : Nat) : Int) = (((0 : Nat) : Nat) : Int) then
 some false
 else
 some true
 else
 some false
 else
 some false
 else
 some false
 else
 bd (Tr.opt a0) fun y115 =>
 if (((97 : Nat) : Nat) : Int) ≤ ((y115.2.2.1 : Nat) : Int) then
 bd (Tr.opt a0) fun y116 =>
 if ((y116.2.2.1 : Nat) : Int) ≤ (((122 : Nat) : Nat) : Int) then
 nm (false == true) fun c20 =>
 if c20 = true then
 bd (Tr.opt a0) fun y117 =>
 if (0 : Int) ≤ y117.2.2.2.1 then
 bd (Tr.opt a0) fun y118 =>
 if y118.2.2.2.1 ≤ (1000 : Int) then
 bd (Tr.opt a0) fun y119 =>
 if ((y119.2.1.length : Nat) : Int) = (0 : Int) then
 some true
 else
 bd (Tr.opt a0) fun y120 =>
 bd (Tr.opt a0) fun y121 =>
 ck64 ((((y121.2.1.length : Nat) : Int)) - ((1 : Int))) fun x16 =>
 ckI x16 (y120.2.1.length) fun j16 =>
 nm (y120.2.1.getD j16 0) fun y122 =>
 if ((y122 : Nat) : Int) = (((0 : Nat) : Nat) : Int) then
 some false
 else
 some true
 else
 some false
 else
 some false
 else
 some false
 else
 nm (false == false) fun c21 =>
 if c21 = true then
 bd (Tr.opt a0) fun y123 =>
 if (0 : Int) ≤ y123.2.2.2.1 then
 bd (Tr.opt a0) fun y124 =>
 if y124.2.2.2.1 ≤ (1000 : Int) then
 bd (Tr.opt a0) fun y125 =>
 if ((y125.2.1.length : Nat) : Int) = (0 : Int) then
 some true
 else
 bd (Tr.opt a0) fun y126 =>
 bd (Tr.opt a0) fun y127 =>
 ck64 ((((y127.2.1.length : Nat) : Int)) - ((1 : Int))) fun x17 =>
 ckI x17 (y126.2.1.length) fun j17 =>
 nm (y126.2.1.getD j17 0) fun y128 =>
 if ((y128 : Nat) : Int) = (((0 : Nat) : Nat) : Int) then
 some false
 else
 some true
 else
 some false
 else
 some false
 else
 some false
 else
 nm (false == false) fun c22 =>
 if c22 = true then
 bd (Tr.opt a0) fun y129 =>
 if (0 : Int) ≤ y129.2.2.2.1 then
 bd (Tr.opt a0) fun y130 =>
 if y130.2.2.2.1 ≤ (1000 : Int) then
 bd (Tr.opt a0) fun y131 =>
 if ((y131.2.1.length : Nat) : Int) = (0 : Int) then
 some true
 else
 bd (Tr.opt a0) fun y132 =>
 bd (Tr.opt a0) fun y133 =>
 ck64 ((((y133.2.1.length : Nat) : Int)) - ((1 : Int))) fun x18 =>
 ckI x18 (y132.2.1.length) fun j18 =>
 nm (y132.2.1.getD j18 0) fun y134 =>
 if ((y134 : Nat) : Int) = (((0 : Nat) : Nat) : Int) then
 some false
 else
 some true
 else
 some false
 else
 some false
 else
 some false
 else
 some false
 else
 nm (true == false) fun c23 =>
 if c23 = true then
 bd (Tr.opt a0) fun y135 =>
 if ((y135.1 : Nat) : Int) = (((118 : Nat) : Nat) : Int) then
 bd (Tr.opt a0) fun y136 =>
 if (((97 : Nat) : Nat) : Int) ≤ ((y136.2.2.1 : Nat) : Int) then
 bd (Tr.opt a0) fun y137 =>
 if ((y137.2.2.1 : Nat) : Int) ≤ (((122 : Nat) : Nat) : Int) then
 nm (true == true) fun c24 =>
 if c24 = true then
 bd (Tr.opt a0) fun y138 =>
 if (0 : Int) ≤ y138.2.2.2.1 then
 bd (Tr.opt a0) fun y139 =>
 if y139.2.2.2.1 ≤ (1000 : Int) then
 bd (Tr.opt a0) fun y140 =>
 if ((y140.2.1.length : Nat) : Int) = (0 : Int) then
 some true
 else
 bd (Tr.opt a0) fun y141 =>
 bd (Tr.opt a0) fun y142 =>
 ck64 ((((y142.2.1.length : Nat) : Int)) - ((1 : Int))) fun x19 =>
 ckI x19 (y141.2.1.length) fun j19 =>
 nm (y141.2.1.getD j19 0) fun y143 =>
 if ((y143 : Nat) : Int) = (((0 : Nat) : Nat) : Int) then
 some false
 else
 some true
 else
 some false
 else
 some false
 else
 some false
 else
 nm (true == false) fun c25 =>
 if c25 = true then
 bd (Tr.opt a0) fun y144 =>
 if (0 : Int) ≤ y144.2.2.2.1 then
 bd (Tr.opt a0) fun y145 =>
 if y145.2.2.2.1 ≤ (1000 : Int) then
 bd (Tr.opt a0) fun y146 =>
 if ((y146.2.1.length : Nat) : Int) = (0 : Int) then
 some true
 else
 bd (Tr.opt a0) fun y147 =>
 bd (Tr.opt a0) fun y148 =>
 ck64 ((((y148.2.1.length : Nat) : Int)) - ((1 : Int))) fun x20 =>
 ckI x20 (y147.2.1.length) fun j20 =>
 nm (y147.2.1.getD j20 0) fun y149 =>
 if ((y149 : Nat) : Int) = (((0 : Nat) : Nat) : Int) then
 some false
 else
 some true
 else
 some false
 else
 some false
 else
 some false
 else
 nm (true == false) fun c26 =>
 if c26 = true then
 bd (Tr.opt a0) fun y150 =>
 if (0 : Int) ≤ y150.2.2.2.1 then
 bd (Tr.opt a0) fun y151 =>
 if y151.2.2.2.1 ≤ (1000 : Int) then
 bd (Tr.opt a0) fun y152 =>
 if ((y152.2.1.length : Nat) : Int) = (0 : Int) then
 some true
 else
 bd (Tr.opt a0) fun y153 =>
 bd (Tr.opt a0) fun y154 =>
 ck64 ((((y154.2.1.length : Nat) : Int)) - ((1 : Int))) fun x21 =>
 ckI x21 (y153.2.1.length) fun j21 =>
 nm (y153.2.1.getD j21 0) fun y155 =>
 if ((y155 : Nat) : Int) = (((0 : Nat) : Nat) : Int) then
 some false
 else
 some true
 else
 some false
 else
 some false
 else
 some false
 else
 bd (Tr.opt a0) fun y156 =>
 if (((97 : Nat) : Nat) : Int) ≤ ((y156.2.2.1 : Nat) : Int) then
 bd (Tr.opt a0) fun y157 =>
 if ((y157.2.2.1 : Nat) : Int) ≤ (((122 : Nat) : Nat) : Int) then
 nm (false == true) fun c27 =>
 if c27 = true then
 bd (Tr.opt a0) fun y158 =>
 if (0 : Int) ≤ y158.2.2.2.1 then
 bd (Tr.opt a0) fun y159 =>
 if y159.2.2.2.1 ≤ (1000 : Int) then
 bd (Tr.opt a0) fun y160 =>
 if ((y160.2.1.length : Nat) : Int) = (0 : Int) then
 some true
 else
 bd (Tr.opt a0) fun y161 =>
 bd (Tr.opt a0) fun y162 =>
 ck64 ((((y162.2.1.length : Nat) : Int)) - ((1 : Int))) fun x22 =>
 ckI x22 (y161.2.1.length) fun j22 =>
 nm (y161.2.1.getD j22 0) fun y163 =>
 if ((y163 : Nat) : Int) = (((0 : Nat) : Nat) : Int) then
 some false
 else
 some true
 else
 some false
 else
 some false
 else
 some false
 else
 nm (false == false) fun c28 =>
 if c28 = true then
 bd (Tr.opt a0) fun y164 =>
 if (0 : Int) ≤ y164.2.2.2.1 then
 bd (Tr.opt a0) fun y165 =>
 if y165.2.2.2.1 ≤ (1000 : Int) then
 bd (Tr.opt a0) fun y166 =>
 if ((y166.2.1.length : Nat) : Int) = (0 : Int) then
 some true
 else
 bd (Tr.opt a0) fun y167 =>
 bd (Tr.opt a0) fun y168 =>
 ck64 ((((y168.2.1.length : Nat) : Int)) - ((1 : Int))) fun x23 =>
 ckI x23 (y167.2.1.length) fun j23 =>
 nm (y167.2.1.getD j23 0) fun y169 =>
 if ((y169 : Nat) : Int) = (((0 : Nat) : Nat) : Int) then
 some false
 else
 some true
 else
 some false
 else
 some false
 else
 some false
 else
 nm (false == false) fun c29 =>
 if c29 = true then
 bd (Tr.opt a0) fun y170 =>
 if (0 : Int) ≤ y170.2.2.2.1 then
 bd (Tr.opt a0) fun y171 =>
 if y171.2.2.2.1 ≤ (1000 : Int) then
 bd (Tr.opt a0) fun y172 =>
 if ((y172.2.1.length : Nat) : Int) = (0 : Int) then
 some true
 else
 bd (Tr.opt a0) fun y173 =>
 bd (Tr.opt a0) fun y174 =>
 ck64 ((((y174.2.1.length : Nat) : Int)) - ((1 : Int))) fun x24 =>
 ckI x24 (y173.2.1.length) fun j24 =>
 nm (y173.2.1.getD j24 0) fun y175 =>
 if ((y175 : Nat) : Int) = (((0 : Nat) : Nat) : Int) then
 some false
 else
 some true
 else
 some false
 else
 some false
 else
 some false
 else
 some false
 else
 some false
 else
 nm (false == false) fun c30 =>
 if c30 = true then
 bd (Tr.opt a0) fun y176 =>
 if Tr.isNil y176.2.2.2.2.2 = true then
 if (1 : Int) < i1 then
 nm (false == true) fun c31 =>
 if c31 = true then
 bd (Tr.opt a0) fun y177 =>
 if ((y177.1 : Nat) : Int) = (((118 : Nat) : Nat) : Int) then
 bd (Tr.opt a0) fun y178 =>
 if (((97 : Nat) : Nat) : Int) ≤ ((y178.2.2.1 : Nat) : Int) then
 bd (Tr.opt a0) fun y179 =>
 if ((y179.2.2.1 : Nat) : Int) ≤ (((122 : Nat) : Nat) : Int) then
 nm (true == true) fun c32 =>
 if c32 = true then
 bd (Tr.opt a0) fun y180 =>
 if (0 : Int) ≤ y180.2.2.2.1 then
 bd (Tr.opt a0) fun y181 =>
 if y181.2.2.2.1 ≤ (1000 : Int) then
 bd (Tr.opt a0) fun y182 =>
 if ((y182.2.1.length : Nat) : Int) = (0 : Int) then
 some true
 else
 bd (Tr.opt a0) fun y183 =>
 bd (Tr.opt a0) fun y184 =>
 ck64 ((((y184.2.1.length : Nat) : Int)) - ((1 : Int))) fun x25 =>
 ckI x25 (y183.2.1.length) fun j25 =>
 nm (y183.2.1.getD j25 0) fun y185 =>
 if ((y185 : Nat) : Int) = (((0 : Nat) : Nat) : Int) then
 some false
 else
 some true
 else
 some false
 else
 some false
 else
 some false
 else
 nm (true == false) fun c33 =>
 if c33 = true then
 bd (Tr.opt a0) fun y186 =>
 if (0 : Int) ≤ y186.2.2.2.1 then
 bd (Tr.opt a0) fun y187 =>
 if y187.2.2.2.1 ≤ (1000 : Int) then
 bd (Tr.opt a0) fun y188 =>
 if ((y188.2.1.length : Nat) : Int) = (0 : Int) then
 some true
 else
 bd (Tr.opt a0) fun y189 =>
 bd (Tr.opt a0) fun y190 =>
 ck64 ((((y190.2.1.length : Nat) : Int)) - ((1 : Int))) fun x26 =>
 ckI x26 (y189.2.1.length) fun j26 =>
 nm (y189.2.1.getD j26 0) fun y191 =>
 if ((y191 : Nat) : Int) = (((0 : Nat) : Nat) : Int) then
 some false
 else
 some true
 else
 some false
 else
 some false
 else
 some false
 else
 nm (true == false) fun c34 =>
 if c34 = true then
 bd (Tr.opt a0) fun y192 =>
 if (0 : Int) ≤ y192.2.2.2.1 then
 bd (Tr.opt a0) fun y193 =>
 if y193.2.2.2.1 ≤ (1000 : Int) then
 bd (Tr.opt a0) fun y194 =>
 if ((y194.2.1.length : Nat) : Int) = (0 : Int) then
 some true
 else
 bd (Tr.opt a0) fun y195 =>
 bd (Tr.opt a0) fun y196 =>
 ck64 ((((y196.2.1.length : Nat) : Int)) - ((1 : Int))) fun x27 =>
 ckI x27 (y195.2.1.length) fun j27 =>
 nm (y195.2.1.getD j27 0) fun y197 =>
 if ((y197 : Nat) : Int) = (((0 : Nat) : Nat) : Int) then
 some false
 else
 some true
 else
 some false
 else
 some false
 else
 some false
 else
 bd (Tr.opt a0) fun y198 =>
 if (((97 : Nat) : Nat) : Int) ≤ ((y198.2.2.1 : Nat) : Int) then
 bd (Tr.opt a0) fun y199 =>
 if ((y199.2.2.1 : Nat) : Int) ≤ (((122 : Nat) : Nat) : Int) then
 nm (false == true) fun c35 =>
 if c35 = true then
 bd (Tr.opt a0) fun y200 =>
 if (0 : Int) ≤ y200.2.2.2.1 then
 bd (Tr.opt a0) fun y201 =>
 if y201.2.2.2.1 ≤ (1000 : Int) then
 bd (Tr.opt a0) fun y202 =>
 if ((y202.2.1.length : Nat) : Int) = (0 : Int) then
 some true
 else
 bd (Tr.opt a0) fun y203 =>
 bd (Tr.opt a0) fun y204 =>
 ck64 ((((y204.2.1.length : Nat) : Int)) - ((1 : Int))) fun x28 =>
 ckI x28 (y203.2.1.length) fun j28 =>
 nm (y203.2.1.getD j28 0) fun y205 =>
 if ((y205 : Nat) : Int) = (((0 : Nat) : Nat) : Int) then
 some false
 else
 some true
 else
 some false
 else
 some false
 else
 some false
 else
 nm (false == false) fun c36 =>
 if c36 = true then
 bd (Tr.opt a0) fun y206 =>
 if (0 : Int) ≤ y206.2.2.2.1 then
 bd (Tr.opt a0) fun y207 =>
 if y207.2.2.2.1 ≤ (1000 : Int) then
 bd (Tr.opt a0) fun y208 =>
 if ((y208.2.1.length : Nat) : Int) = (0 : Int) then
 some true
 else
 bd (Tr.opt a0) fun y209 =>
 bd (Tr.opt a0) fun y210 =>
 ck64 ((((y210.2.1.length : Nat) : Int)) - ((1 : Int))) fun x29 =>
 ckI x29 (y209.2.1.length) fun j29 =>
 nm (y209.2.1.getD j29 0) fun y211 =>
 if ((y211 : Nat) : Int) = (((0 : Nat) : Nat) : Int) then
 some false
 else
 some true
 else
 some false
 else
 some false
 else
 some false
 else
 nm (false == false) fun c37 =>
 if c37 = true then
 bd (Tr.opt a0) fun y212 =>
 if (0 : Int) ≤ y212.2.2.2.1 then
 bd (Tr.opt a0) fun y213 =>
 if y213.2.2.2.1 ≤ (1000 : Int) then
 bd (Tr.opt a0) fun y214 =>
 if ((y214.2.1.length : Nat) : Int) = (0 : Int) then
 some true
 else
 bd (Tr.opt a0) fun y215 =>
 bd (Tr.opt a0) fun y216 =>
 ck64 ((((y216.2.1.length : Nat) : Int)) - ((1 : Int))) fun x30 =>
 ckI x30 (y215.2.1.length) fun j30 =>
 nm (y215.2.1.getD j30 0) fun y217 =>
 if ((y217 : Nat) : Int) = (((0 : Nat) : Nat) : Int) then
 some false
 else
 some true
 else
 some false
 else
 some false
 else
 some false
 else
 some false
 else
 nm (false == false) fun c38 =>
 if c38 = true then
 bd (Tr.opt a0) fun y218 =>
 if ((y218.1 : Nat) : Int) = (((118 : Nat) : Nat) : Int) then
 bd (Tr.opt a0) fun y219 =>
 if (((97 : Nat) : Nat) : Int) ≤ ((y219.2.2.1 : Nat) : Int) then
 bd (Tr.opt a0) fun y220 =>
 if ((y220.2.2.1 : Nat) : Int) ≤ (((122 : Nat) : Nat) : Int) then
 nm (true == true) fun c39 =>
 if c39 = true then
 bd (Tr.opt a0) fun y221 =>
 if (0 : Int) ≤ y221.2.2.2.1 then
 bd (Tr.opt a0) fun y222 =>
 if y222.2.2.2.1 ≤ (1000 : Int) then
 bd (Tr.opt a0) fun y223 =>
 if ((y223.2.1.length : Nat) : Int) = (0 : Int) then
 some true
 else
 bd (Tr.opt a0) fun y224 =>
 bd (Tr.opt a0) fun y225 =>
 ck64 ((((y225.2.1.length : Nat) : Int)) - ((1 : Int))) fun x31 =>
 ckI x31 (y224.2.1.length) fun j31 =>
 nm (y224.2.1.getD j31 0) fun y226 =>
 if ((y226 : Nat) : Int) = (((0 : Nat) : Nat) : Int) then
 some false
 else
 some true
 else
 some false
 else
 some false
 else
 some false
 else
 nm (true == false) fun c40 =>
 if c40 = true then
 bd (Tr.opt a0) fun y227 =>
 if (0 : Int) ≤ y227.2.2.2.1 then
 bd (Tr.opt a0) fun y228 =>
 if y228.2.2.2.1 ≤ (1000 : Int) then
 bd (Tr.opt a0) fun y229 =>
 if ((y229.2.1.length : Nat) : Int) = (0 : Int) then
 some true
 else
 bd (Tr.opt a0) fun y230 =>
 bd (Tr.opt a0) fun y231 =>
 ck64 ((((y231.2.1.length : Nat) : Int)) - ((1 : Int))) fun x32 =>
 ckI x32 (y230.2.1.length) fun j32 =>
 nm (y230.2.1.getD j32 0) fun y232 =>
 if ((y232 : Nat) : Int) = (((0 : Nat) : Nat) : Int) then
 some false
 else
 some true
 else
 some false
 else
 some false
 else
 some false
 else
 nm (true == false) fun c41 =>
 if c41 = true then
 bd (Tr.opt a0) fun y233 =>
 if (0 : Int) ≤ y233.2.2.2.1 then
 bd (Tr.opt a0) fun y234 =>
 if y234.2.2.2.1 ≤ (1000 : Int) then
 bd (Tr.opt a0) fun y235 =>
 if ((y235.2.1.length : Nat) : Int) = (0 : Int) then
 some true
 else
 bd (Tr.opt a0) fun y236 =>
 bd (Tr.opt a0) fun y237 =>
 ck64 ((((y237.2.1.length : Nat) : Int)) - ((1 : Int))) fun x33 =>
 ckI x33 (y236.2.1.length) fun j33 =>
 nm (y236.2.1.getD j33 0) fun y238 =>
 if ((y238 : Nat) : Int) = (((0 : Nat) : Nat) : Int) then
 some false
 else
 some true
 else
 some false
 else
 some false
 else
 some false
 else
 bd (Tr.opt a0) fun y239 =>
 if (((97 : Nat) : Nat) : Int) ≤ ((y239.2.2.1 : Nat) : Int) then
 bd (Tr.opt a0) fun y240 =>
 if ((y240.2.2.1 : Nat) : Int) ≤ (((122 : Nat) : Nat) : Int) then
 nm (false == true) fun c42 =>
 if c42 = true then
 bd (Tr.opt a0) fun y241 =>
 if (0 : Int) ≤ y241.2.2.2.1 then
 bd (Tr.opt a0) fun y242 =>
 if y242.2.2.2.1 ≤ (1000 : Int) then
 bd (Tr.opt a0) fun y243 =>
 if ((y243.2.1.length : Nat) : Int) = (0 : Int) then
 some true
 else
 bd (Tr.opt a0) fun y244 =>
 bd (Tr.opt a0) fun y245 =>
 ck64 ((((y245.2.1.length : Nat) : Int)) - ((1 : Int))) fun x34 =>
 ckI x34 (y244.2.1.length) fun j34 =>
 nm (y244.2.1.getD j34 0) fun y246 =>
 if ((y246 : Nat) : Int) = (((0 : Nat) : Nat) : Int) then
 some false
 else
 some true
 else
 some false
 else
 some false
 else
 some false
 else
 nm (false == false) fun c43 =>
 if c43 = true then
 bd (Tr.opt a0) fun y247 =>
 if (0 : Int) ≤ y247.2.2.2.1 then
 bd (Tr.opt a0) fun y248 =>
 if y248.2.2.2.1 ≤ (1000 : Int) then
 bd (Tr.opt a0) fun y249 =>
 if ((y249.2.1.length : Nat) : Int) = (0 : Int) then
 some true
 else
 bd (Tr.opt a0) fun y250 =>
 bd (Tr.opt a0) fun y251 =>
 ck64 ((((y251.2.1.length : Nat) : Int)) - ((1 : Int))) fun x35 =>
 ckI x35 (y250.2.1.length) fun j35 =>
 nm (y250.2.1.getD j35 0) fun y252 =>
 if ((y252 : Nat) : Int) = (((0 : Nat) : Nat) : Int) then
 some false
 else
 some true
 else
 some false
 else
 some false
 else
 some false
 else
 nm (false == false) fun c44 =>
 if c44 = true then
 bd (Tr.opt a0) fun y253 =>
 if (0 : Int) ≤ y253.2.2.2.1 then
 bd (Tr.opt a0) fun y254 =>
 if y254.2.2.2.1 ≤ (1000 : Int) then
 bd (Tr.opt a0) fun y255 =>
 if ((y255.2.1.length : Nat) : Int) = (0 : Int) then
 some true
 else
 bd (Tr.opt a0) fun y256 =>
 bd (Tr.opt a0) fun y257 =>
 ck64 ((((y257.2.1.length : Nat) : Int)) - ((1 : Int))) fun x36 =>
 ckI x36 (y256.2.1.length) fun j36 =>
 nm (y256.2.1.getD j36 0) fun y258 =>
 if ((y258 : Nat) : Int) = (((0 : Nat) : Nat) : Int) then
 some false
 else
 some true
 else
 some false
 else
 some false
 else
 some false
 else
 some false
 else
 if (1 : Int) < i1 then
 nm (true == true) fun c45 =>
 if c45 = true then
 bd (Tr.opt a0) fun y259 =>
 if ((y259.1 : Nat) : Int) = (((118 : Nat) : Nat) : Int) then
 bd (Tr.opt a0) fun y260 =>
 if (((97 : Nat) : Nat) : Int) ≤ ((y260.2.2.1 : Nat) : Int) then
 bd (Tr.opt a0) fun y261 =>
 if ((y261.2.2.1 : Nat) : Int) ≤ (((122 : Nat) : Nat) : Int) then
 nm (true == true) fun c46 =>
 if c46 = true then
 bd (Tr.opt a0) fun y262 =>
 if (0 : Int) ≤ y262.2.2.2.1 then
 bd (Tr.opt a0) fun y263 =>
 if y263.2.2.2.1 ≤ (1000 : Int) then
 bd (Tr.opt a0) fun y264 =>
 if ((y264.2.1.length : Nat) : Int) = (0 : Int) then
 some true
 else
 bd (Tr.opt a0) fun y265 =>
 bd (Tr.opt a0) fun y266 =>
 ck64 ((((y266.2.1.length : Nat) : Int)) - ((1 : Int))) fun x37 =>
 ckI x37 (y265.2.1.length) fun j37 =>
 nm (y265.2.1.getD j37 0) fun y267 =>
 if ((y267 : Nat) : Int) = (((0 : Nat) : Nat) : Int) then
 some false
 else
 some true
 else
 some false
 else
 some false
 else
 some false
 else
 nm (true == false) fun c47 =>
 if c47 = true then
 bd (Tr.opt a0) fun y268 =>
 if (0 : Int) ≤ y268.2.2.2.1 then
 bd (Tr.opt a0) fun y269 =>
 if y269.2.2.2.1 ≤ (1000 : Int) then
 bd (Tr.opt a0) fun y270 =>
 if ((y270.2.1.length : Nat) : Int) = (0 : Int) then
 some true
 else
 bd (Tr.opt a0) fun y271 =>
 bd (Tr.opt a0) fun y272 =>
 ck64 ((((y272.2.1.length : Nat) : Int)) - ((1 : Int))) fun x38 =>
 ckI x38 (y271.2.1.length) fun j38 =>
 nm (y271.2.1.getD j38 0) fun y273 =>
 if ((y273 : Nat) : Int) = (((0 : Nat) : Nat) : Int) then
 some false
 else
 some true
 else
 some false
 else
 some false
 else
 some false
 else
 nm (true == false) fun c48 =>
 if c48 = true then
 bd (Tr.opt a0) fun y274 =>
 if (0 : Int) ≤ y274.2.2.2.1 then
 bd (Tr.opt a0) fun y275 =>
 if y275.2.2.2.1 ≤ (1000 : Int) then
 bd (Tr.opt a0) fun y276 =>
 if ((y276.2.1.length : Nat) : Int) = (0 : Int) then
 some true
 else
 bd (Tr.opt a0) fun y277 =>
 bd (Tr.opt a0) fun y278 =>
 ck64 ((((y278.2.1.length : Nat) : Int)) - ((1 : Int))) fun x39 =>
 ckI x39 (y277.2.1.length) fun j39 =>
 nm (y277.2.1.getD j39 0) fun y279 =>
 if ((y279 : Nat) : Int) = (((0 : Nat) : Nat) : Int) then
 some false
 else
 some true
 else
 some false
 else
 some false
 else
 some false
 else
 bd (Tr.opt a0) fun y280 =>
 if (((97 : Nat) : Nat) : Int) ≤ ((y280.2.2.1 : Nat) : Int) then
 bd (Tr.opt a0) fun y281 =>
 if ((y281.2.2.1 : Nat) : Int) ≤ (((122 : Nat) : Nat) : Int) then
 nm (false == true) fun c49 =>
 if c49 = true then
 bd (Tr.opt a0) fun y282 =>
 if (0 : Int) ≤ y282.2.2.2.1 then
 bd (Tr.opt a0) fun y283 =>
 if y283.2.2.2.1 ≤ (1000 : Int) then
 bd (Tr.opt a0) fun y284 =>
 if ((y284.2.1.length : Nat) : Int) = (0 : Int) then
 some true
 else
 bd (Tr.opt a0) fun y285 =>
 bd (Tr.opt a0) fun y286 =>
 ck64 ((((y286.2.1.length : Nat) : Int)) - ((1 : Int))) fun x40 =>
 ckI x40 (y285.2.1.length) fun j40 =>
 nm (y285.2.1.getD j40 0) fun y287 =>
 if ((y287 : Nat) : Int) = (((0 : Nat) : Nat) : Int) then
 some false
 else
 some true
 else
 some false
 else
 some false
 else
 some false
 else
 nm (false == false) fun c50 =>
 if c50 = true then
 bd (Tr.opt a0) fun y288 =>
 if (0 : Int) ≤ y288.2.2.2.1 then
 bd (Tr.opt a0) fun y289 =>
 if y289.2.2.2.1 ≤ (1000 : Int) then
 bd (Tr.opt a0) fun y290 =>
 if ((y290.2.1.length : Nat) : Int) = (0 : Int) then
 some true
 else
 bd (Tr.opt a0) fun y291 =>
 bd (Tr.opt a0) fun y292 =>
 ck64 ((((y292.2.1.length : Nat) : Int)) - ((1 : Int))) fun x41 =>
 ckI x41 (y291.2.1.length) fun j41 =>
 nm (y291.2.1.getD j41 0) fun y293 =>
 if ((y293 : Nat) : Int) = (((0 : Nat) : Nat) : Int) then
 some false
 else
 some true
 else
 some false
 else
 some false
 else
 some false
 else
 nm (false == false) fun c51 =>
 if c51 = true then
 bd (Tr.opt a0) fun y294 =>
 if (0 : Int) ≤ y294.2.2.2.1 then
 bd (Tr.opt a0) fun y295 =>
 if y295.2.2.2.1 ≤ (1000 : Int) then
 bd (Tr.opt a0) fun y296 =>
 if ((y296.2.1.length : Nat) : Int) = (0 : Int) then
 some true
 else
 bd (Tr.opt a0) fun y297 =>
 bd (Tr.opt a0) fun y298 =>
 ck64 ((((y298.2.1.length : Nat) : Int)) - ((1 : Int))) fun x42 =>
 ckI x42 (y297.2.1.length) fun j42 =>
 nm (y297.2.1.getD j42 0) fun y299 =>
 if ((y299 : Nat) : Int) = (((0 : Nat) : Nat) : Int) then
 some false
 else
 some true
 else
 some false
 else
 some false
 else
 some false
 else
 some false
 else
 nm (true == false) fun c52 =>
 if c52 = true then
 bd (Tr.opt a0) fun y300 =>
 if ((y300.1 : Nat) : Int) = (((118 : Nat) : Nat) : Int) then
 bd (Tr.opt a0) fun y301 =>
 if (((97 : Nat) : Nat) : Int) ≤ ((y301.2.2.1 : Nat) : Int) then
 bd (Tr.opt a0) fun y302 =>
 if ((y302.2.2.1 : Nat) : Int) ≤ (((122 : Nat) : Nat) : Int) then
 nm (true == true) fun c53 =>
 if c53 = true then
 bd (Tr.opt a0) fun y303 =>
 if (0 : Int) ≤ y303.2.2.2.1 then
 bd (Tr.opt a0) fun y304 =>
 if y304.2.2.2.1 ≤ (1000 : Int) then
 bd (Tr.opt a0) fun y305 =>
 if ((y305.2.1.length : Nat) : Int) = (0 : Int) then
 some true
 else
 bd (Tr.opt a0) fun y306 =>
 bd (Tr.opt a0) fun y307 =>
 ck64 ((((y307.2.1.length : Nat) : Int)) - ((1 : Int))) fun x43 =>
 ckI x43 (y306.2.1.length) fun j43 =>
 nm (y306.2.1.getD j43 0) fun y308 =>
 if ((y308 : Nat) : Int) = (((0 : Nat) : Nat) : Int) then
 some false
 else
 some true
 else
 some false
 else
 some false
 else
 some false
 else
 nm (true == false) fun c54 =>
 if c54 = true then
 bd (Tr.opt a0) fun y309 =>
 if (0 : Int) ≤ y309.2.2.2.1 then
 bd (Tr.opt a0) fun y310 =>
 if y310.2.2.2.1 ≤ (1000 : Int) then
 bd (Tr.opt a0) fun y311 =>
 if ((y311.2.1.length : Nat) : Int) = (0 : Int) then
 some true
 else
 bd (Tr.opt a0) fun y312 =>
 bd (Tr.opt a0) fun y313 =>
 ck64 ((((y313.2.1.length : Nat) : Int)) - ((1 : Int))) fun x44 =>
 ckI x44 (y312.2.1.length) fun j44 =>
 nm (y312.2.1.getD j44 0) fun y314 =>
 if ((y314 : Nat) : Int) = (((0 : Nat) : Nat) : Int) then
 some false
 else
 some true
 else
 some false
 else
 some false
 else
 some false
 else
 nm (true == false) fun c55 =>
 if c55 = true then
 bd (Tr.opt a0) fun y315 =>
 if (0 : Int) ≤ y315.2.2.2.1 then
 bd (Tr.opt a0) fun y316 =>
 if y316.2.2.2.1 ≤ (1000 : Int) then
 bd (Tr.opt a0) fun y317 =>
 if ((y317.2.1.length : Nat) : Int) = (0 : Int) then
 some true
 else
 bd (Tr.opt a0) fun y318 =>
 bd (Tr.opt a0) fun y319 =>
 ck64 ((((y319.2.1.length : Nat) : Int)) - ((1 : Int))) fun x45 =>
 ckI x45 (y318.2.1.length) fun j45 =>
 nm (y318.2.1.getD j45 0) fun y320 =>
 if ((y320 : Nat) : Int) = (((0 : Nat) : Nat) : Int) then
 some false
 else
 some true
 else
 some false
 else
 some false
 else
 some false
 else
 bd (Tr.opt a0) fun y321 =>
 if (((97 : Nat) : Nat) : Int) ≤ ((y321.2.2.1 : Nat) : Int) then
 bd (Tr.opt a0) fun y322 =>
 if ((y322.2.2.1 : Nat) : Int) ≤ (((122 : Nat) : Nat) : Int) then
 nm (false == true) fun c56 =>
 if c56 = true then
 bd (Tr.opt a0) fun y323 =>
 if (0 : Int) ≤ y323.2.2.2.1 then
 bd (Tr.opt a0) fun y324 =>
 if y324.2.2.2.1 ≤ (1000 : Int) then
 bd (Tr.opt a0) fun y325 =>
 if ((y325.2.1.length : Nat) : Int) = (0 : Int) then
 some true
 else
 bd (Tr.opt a0) fun y326 =>
 bd (Tr.opt a0) fun y327 =>
 ck64 ((((y327.2.1.length : Nat) : Int)) - ((1 : Int))) fun x46 =>
 ckI x46 (y326.2.1.length) fun j46 =>
 nm (y326.2.1.getD j46 0) fun y328 =>
 if ((y328 : Nat) : Int) = (((0 : Nat) : Nat) : Int) then
 some false
 else
 some true
 else
 some false
 else
 some false
 else
 some false
 else
 nm (false == false) fun c57 =>
 if c57 = true then
 bd (Tr.opt a0) fun y329 =>
 if (0 : Int) ≤ y329.2.2.2.1 then
 bd (Tr.opt a0) fun y330 =>
 if y330.2.2.2.1 ≤ (1000 : Int) then
 bd (Tr.opt a0) fun y331 =>
 if ((y331.2.1.length : Nat) : Int) = (0 : Int) then
 some true
 else
 bd (Tr.opt a0) fun y332 =>
 bd (Tr.opt a0) fun y333 =>
 ck64 ((((y333.2.1.length : Nat) : Int)) - ((1 : Int))) fun x47 =>
 ckI x47 (y332.2.1.length) fun j47 =>
 nm (y332.2.1.getD j47 0) fun y334 =>
 if ((y334 : Nat) : Int) = (((0 : Nat) : Nat) : Int) then
 some false
 else
 some true
 else
 some false
 else
 some false
 else
 some false
 else
 nm (false == false) fun c58 =>
 if c58 = true then
 bd (Tr.opt a0) fun y335 =>
 if (0 : Int) ≤ y335.2.2.2.1 then
 bd (Tr.opt a0) fun y336 =>
 if y336.2.2.2.1 ≤ (1000 : Int) then
 bd (Tr.opt a0) fun y337 =>
 if ((y337.2.1.length : Nat) : Int) = (0 : Int) then
 some true
 else
 bd (Tr.opt a0) fun y338 =>
 bd (Tr.opt a0) fun y339 =>
 ck64 ((((y339.2.1.length : Nat) : Int)) - ((1 : Int))) fun x48 =>
 ckI x48 (y338.2.1.length) fun j48 =>
 nm (y338.2.1.getD j48 0) fun y340 =>
 if ((y340 : Nat) : Int) = (((0 : Nat) : Nat) : Int) then
 some false
 else
 some true
 else
 some false
 else
 some false
 else
 some false
 else
 some false
 else
 some false
 else
 if (0 : Int) < i1 then
 nm (true == true) fun c59 =>
 if c59 = true then
 bd (Tr.opt a0) fun y341 =>
 if Tr.isNil y341.2.2.2.2.2 = true then
 if (1 : Int) < i1 then
 nm (false == true) fun c60 =>
 if c60 = true then
 bd (Tr.opt a0) fun y342 =>
 if ((y342.1 : Nat) : Int) = (((118 : Nat) : Nat) : Int) then
 bd (Tr.opt a0) fun y343 =>
 if (((97 : Nat) : Nat) : Int) ≤ ((y343.2.2.1 : Nat) : Int) then
 bd (Tr.opt a0) fun y344 =>
 if ((y344.2.2.1 : Nat) : Int) ≤ (((122 : Nat) : Nat) : Int) then
 nm (true == true) fun c61 =>
 if c61 = true then
 bd (Tr.opt a0) fun y345 =>
 if (0 : Int) ≤ y345.2.2.2.1 then
 bd (Tr.opt a0) fun y346 =>
 if y346.2.2.2.1 ≤ (1000 : Int) then
 bd (Tr.opt a0) fun y347 =>
 if ((y347.2.1.length : Nat) : Int) = (0 : Int) then
 some true
 else
 bd (Tr.opt a0) fun y348 =>
 bd (Tr.opt a0) fun y349 =>
 ck64 ((((y349.2.1.length : Nat) : Int)) - ((1 : Int))) fun x49 =>
 ckI x49 (y348.2.1.length) fun j49 =>
 nm (y348.2.1.getD j49 0) fun y350 =>
 if ((y350 : Nat) : Int) = (((0 : Nat) : Nat) : Int) then
 some false
 else
 some true
 else
 some false
 else
 some false
 else
 some false
 else
 nm (true == false) fun c62 =>
 if c62 = true then
 bd (Tr.opt a0) fun y351 =>
 if (0 : Int) ≤ y351.2.2.2.1 then
 bd (Tr.opt a0) fun y352 =>
 if y352.2.2.2.1 ≤ (1000 : Int) then
 bd (Tr.opt a0) fun y353 =>
 if ((y353.2.1.length : Nat) : Int) = (0 : Int) then
 some true
 else
 bd (Tr.opt a0) fun y354 =>
 bd (Tr.opt a0) fun y355 =>
 ck64 ((((y355.2.1.length : Nat) : Int)) - ((1 : Int))) fun x50 =>
 ckI x50 (y354.2.1.length) fun j50 =>
 nm (y354.2.1.getD j50 0) fun y356 =>
 if ((y356 : Nat) : Int) = (((0 : Nat) : Nat) : Int) then
 some false
 else
 some true
 else
 some false
 else
 some false
 else
 some false
 else
 nm (true == false) fun c63 =>
 if c63 = true then
 bd (Tr.opt a0) fun y357 =>
 if (0 : Int) ≤ y357.2.2.2.1 then
 bd (Tr.opt a0) fun y358 =>
 if y358.2.2.2.1 ≤ (1000 : Int) then
 bd (Tr.opt a0) fun y359 =>
 if ((y359.2.1.length : Nat) : Int) = (0 : Int) then
 some true
 else
 bd (Tr.opt a0) fun y360 =>
 bd (Tr.opt a0) fun y361 =>
 ck64 ((((y361.2.1.length : Nat) : Int)) - ((1 : Int))) fun x51 =>
 ckI x51 (y360.2.1.length) fun j51 =>
 nm (y360.2.1.getD j51 0) fun y362 =>
 if ((y362 : Nat) : Int) = (((0 : Nat) : Nat) : Int) then
 some false
 else
 some true
 else
 some false
 else
 some false
 else
 some false
 else
 bd (Tr.opt a0) fun y363 =>
 if (((97 : Nat) : Nat) : Int) ≤ ((y363.2.2.1 : Nat) : Int) then
 bd (Tr.opt a0) fun y364 =>
 if ((y364.2.2.1 : Nat) : Int) ≤ (((122 : Nat) : Nat) : Int) then
 nm (false == true) fun c64 =>
 if c64 = true then
 bd (Tr.opt a0) fun y365 =>
 if (0 : Int) ≤ y365.2.2.2.1 then
 bd (Tr.opt a0) fun y366 =>
 if y366.2.2.2.1 ≤ (1000 : Int) then
 bd (Tr.opt a0) fun y367 =>
 if ((y367.2.1.length : Nat) : Int) = (0 : Int) then
 some true
 else
 bd (Tr.opt a0) fun y368 =>
 bd (Tr.opt a0) fun y369 =>
 ck64 ((((y369.2.1.length : Nat) : Int)) - ((1 : Int))) fun x52 =>
 ckI x52 (y368.2.1.length) fun j52 =>
 nm (y368.2.1.getD j52 0) fun y370 =>
 if ((y370 : Nat) : Int) = (((0 : Nat) : Nat) : Int) then
 some false
 else
 some true
 else
 some false
 else
 some false
 else
 some false
 else
 nm (false == false) fun c65 =>
 if c65 = true then
 bd (Tr.opt a0) fun y371 =>
 if (0 : Int) ≤ y371.2.2.2.1 then
 bd (Tr.opt a0) fun y372 =>
 if y372.2.2.2.1 ≤ (1000 : Int) then
 bd (Tr.opt a0) fun y373 =>
 if ((y373.2.1.length : Nat) : Int) = (0 : Int) then
 some true
 else
 bd (Tr.opt a0) fun y374 =>
 bd (Tr.opt a0) fun y375 =>
 ck64 ((((y375.2.1.length : Nat) : Int)) - ((1 : Int))) fun x53 =>
 ckI x53 (y374.2.1.length) fun j53 =>
 nm (y374.2.1.getD j53 0) fun y376 =>
 if ((y376 : Nat) : Int) = (((0 : Nat) : Nat) : Int) then
 some false
 else
 some true
 else
 some false
 else
 some false
 else
 some false
 else
 nm (false == false) fun c66 =>
 if c66 = true then
 bd (Tr.opt a0) fun y377 =>
 if (0 : Int) ≤ y377.2.2.2.1 then
 bd (Tr.opt a0) fun y378 =>
 if y378.2.2.2.1 ≤ (1000 : Int) then
 bd (Tr.opt a0) fun y379 =>
 if ((y379.2.1.length : Nat) : Int) = (0 : Int) then
 some true
 else
 bd (Tr.opt a0) fun y380 =>
 bd (Tr.opt a0) fun y381 =>
 ck64 ((((y381.2.1.length : Nat) : Int)) - ((1 : Int))) fun x54 =>
 ckI x54 (y380.2.1.length) fun j54 =>
 nm (y380.2.1.getD j54 0) fun y382 =>
 if ((y382 : Nat) : Int) = (((0 : Nat) : Nat) : Int) then
 some false
 else
 some true
 else
 some false
 else
 some false
 else
 some false
 else
 some false
 else
 nm (false == false) fun c67 =>
 if c67 = true then
 bd (Tr.opt a0) fun y383 =>
 if ((y383.1 : Nat) : Int) = (((118 : Nat) : Nat) : Int) then
 bd (Tr.opt a0) fun y384 =>
 if (((97 : Nat) : Nat) : Int) ≤ ((y384.2.2.1 : Nat) : Int) then
 bd (Tr.opt a0) fun y385 =>
 if ((y385.2.2.1 : Nat) : Int) ≤ (((122 : Nat) : Nat) : Int) then
 nm (true == true) fun c68 =>
 if c68 = true then
 bd (Tr.opt a0) fun y386 =>
 if (0 : Int) ≤ y386.2.2.2.1 then
 bd (Tr.opt a0) fun y387 =>
 if y387.2.2.2.1 ≤ (1000 : Int) then
 bd (Tr.opt a0) fun y388 =>
 if ((y388.2.1.length : Nat) : Int) = (0 : Int) then
 some true
 else
 bd (Tr.opt a0) fun y389 =>
 bd (Tr.opt a0) fun y390 =>
 ck64 ((((y390.2.1.length : Nat) : Int)) - ((1 : Int))) fun x55 =>
 ckI x55 (y389.2.1.length) fun j55 =>
 nm (y389.2.1.getD j55 0) fun y391 =>
 if ((y391 : Nat) : Int) = (((0 : Nat) : Nat) : Int) then
 some false
 else
 some true
 else
 some false
 else
 some false
 else
 some false
 else
 nm (true == false) fun c69 =>
 if c69 = true then
 bd (Tr.opt a0) fun y392 =>
 if (0 : Int) ≤ y392.2.2.2.1 then
 bd (Tr.opt a0) fun y393 =>
 if y393.2.2.2.1 ≤ (1000 : Int) then
 bd (Tr.opt a0) fun y394 =>
 if ((y394.2.1.length : Nat) : Int) = (0 : Int) then
 some true
 else
 bd (Tr.opt a0) fun y395 =>
 bd (Tr.opt a0) fun y396 =>
 ck64 ((((y396.2.1.length : Nat) : Int)) - ((1 : Int))) fun x56 =>
 ckI x56 (y395.2.1.length) fun j56 =>
 nm (y395.2.1.getD j56 0) fun y397 =>
 if ((y397 : Nat) : Int) = (((0 : Nat) : Nat) : Int) then
 some false
 else
 some true
 else
 some false
 else
 some false
 else
 some false
 else
 nm (true == false) fun c70 =>
 if c70 = true then
 bd (Tr.opt a0) fun y398 =>
 if (0 : Int) ≤ y398.2.2.2.1 then
 bd (Tr.opt a0) fun y399 =>
 if y399.2.2.2.1 ≤ (1000 : Int) then
 bd (Tr.opt a0) fun y400 =>
 if ((y400.2.1.length : Nat) : Int) = (0 : Int) then
 some true
 else
 bd (Tr.opt a0) fun y401 =>
 bd (Tr.opt a0) fun y402 =>
 ck64 ((((y402.2.1.length : Nat) : Int)) - ((1 : Int))) fun x57 =>
 ckI x57 (y401.2.1.length) fun j57 =>
 nm (y401.2.1.getD j57 0) fun y403 =>
 if ((y403 : Nat) : Int) = (((0 : Nat) : Nat) : Int) then
 some false
 else
 some true
 else
 some false
 else
 some false
 else
 some false
 else
 bd (Tr.opt a0) fun y404 =>
 if (((97 : Nat) : Nat) : Int) ≤ ((y404.2.2.1 : Nat) : Int) then
 bd (Tr.opt a0) fun y405 =>
 if ((y405.2.2.1 : Nat) : Int) ≤ (((122 : Nat) : Nat) : Int) then
 nm (false == true) fun c71 =>
 if c71 = true then
 bd (Tr.opt a0) fun y406 =>
 if (0 : Int) ≤ y406.2.2.2.1 then
 bd (Tr.opt a0) fun y407 =>
 if y407.2.2.2.1 ≤ (1000 : Int) then
 bd (Tr.opt a0) fun y408 =>
 if ((y408.2.1.length : Nat) : Int) = (0 : Int) then
 some true
 else
 bd (Tr.opt a0) fun y409 =>
 bd (Tr.opt a0) fun y410 =>
 ck64 ((((y410.2.1.length : Nat) : Int)) - ((1 : Int))) fun x58 =>
 ckI x58 (y409.2.1.length) fun j58 =>
 nm (y409.2.1.getD j58 0) fun y411 =>
 if ((y411 : Nat) : Int) = (((0 : Nat) : Nat) : Int) then
 some false
 else
 some true
 else
 some false
 else
 some false
 else
 some false
 else
 nm (false == false) fun c72 =>
 if c72 = true then
 bd (Tr.opt a0) fun y412 =>
 if (0 : Int) ≤ y412.2.2.2.1 then
 bd (Tr.opt a0) fun y413 =>
 if y413.2.2.2.1 ≤ (1000 : Int) then
 bd (Tr.opt a0) fun y414 =>
 if ((y414.2.1.length : Nat) : Int) = (0 : Int) then
 some true
 else
 bd (Tr.opt a0) fun y415 =>
 bd (Tr.opt a0) fun y416 =>
 ck64 ((((y416.2.1.length : Nat) : Int)) - ((1 : Int))) fun x59 =>
 ckI x59 (y415.2.1.length) fun j59 =>
 nm (y415.2.1.getD j59 0) fun y417 =>
 if ((y417 : Nat) : Int) = (((0 : Nat) : Nat) : Int) then
 some false
 else
 some true
 else
 some false
 else
 some false
 else
 some false
 else
 nm (false == false) fun c73 =>
 if c73 = true then
 bd (Tr.opt a0) fun y418 =>
 if (0 : Int) ≤ y418.2.2.2.1 then
 bd (Tr.opt a0) fun y419 =>
 if y419.2.2.2.1 ≤ (1000 : Int) then
 bd (Tr.opt a0) fun y420 =>
 if ((y420.2.1.length : Nat) : Int) = (0 : Int) then
 some true
 else
 bd (Tr.opt a0) fun y421 =>
 bd (Tr.opt a0) fun y422 =>
 ck64 ((((y422.2.1.length : Nat) : Int)) - ((1 : Int))) fun x60 =>
 ckI x60 (y421.2.1.length) fun j60 =>
 nm (y421.2.1.getD j60 0) fun y423 =>
 if ((y423 : Nat) : Int) = (((0 : Nat) : Nat) : Int) then
 some false
 else
 some true
 else
 some false
 else
 some false
 else
 some false
 else
 some false
 else
 if (1 : Int) < i1 then
 nm (true == true) fun c74 =>
 if c74 = true then
 bd (Tr.opt a0) fun y424 =>
 if ((y424.1 : Nat) : Int) = (((118 : Nat) : Nat) : Int) then
 bd (Tr.opt a0) fun y425 =>
 if (((97 : Nat) : Nat) : Int) ≤ ((y425.2.2.1 : Nat) : Int) then
 bd (Tr.opt a0) fun y426 =>
 if ((y426.2.2.1 : Nat) : Int) ≤ (((122 : Nat) : Nat) : Int) then
 nm (true == true) fun c75 =>
 if c75 = true then
 bd (Tr.opt a0) fun y427 =>
 if (0 : Int) ≤ y427.2.2.2.1 then
 bd (Tr.opt a0) fun y428 =>
 if y428.2.2.2.1 ≤ (1000 : Int) then
 bd (Tr.opt a0) fun y429 =>
 if ((y429.2.1.length : Nat) : Int) = (0 : Int) then
 some true
 else
 bd (Tr.opt a0) fun y430 =>
 bd (Tr.opt a0) fun y431 =>
 ck64 ((((y431.2.1.length : Nat) : Int)) - ((1 : Int))) fun x61 =>
 ckI x61 (y430.2.1.length) fun j61 =>
 nm (y430.2.1.getD j61 0) fun y432 =>
 if ((y432 : Nat) : Int) = (((0 : Nat) : Nat) : Int) then
 some false
 else
 some true
 else
 some false
 else
 some false
 else
 some false
 else
 nm (true == false) fun c76 =>
 if c76 = true then
 bd (Tr.opt a0) fun y433 =>
 if (0 : Int) ≤ y433.2.2.2.1 then
 bd (Tr.opt a0) fun y434 =>
 if y434.2.2.2.1 ≤ (1000 : Int) then
 bd (Tr.opt a0) fun y435 =>
 if ((y435.2.1.length : Nat) : Int) = (0 : Int) then
 some true
 else
 bd (Tr.opt a0) fun y436 =>
 bd (Tr.opt a0) fun y437 =>
 ck64 ((((y437.2.1.length : Nat) : Int)) - ((1 : Int))) fun x62 =>
 ckI x62 (y436.2.1.length) fun j62 =>
 nm (y436.2.1.getD j62 0) fun y438 =>
 if ((y438 : Nat) : Int) = (((0 : Nat) : Nat) : Int) then
 some false
 else
 some true
 else
 some false
 else
 some false
 else
 some false
 else
 nm (true == false) fun c77 =>
 if c77 = true then
 bd (Tr.opt a0) fun y439 =>
 if (0 : Int) ≤ y439.2.2.2.1 then
 bd (Tr.opt a0) fun y440 =>
 if y440.2.2.2.1 ≤ (1000 : Int) then
 bd (Tr.opt a0) fun y441 =>
 if ((y441.2.1.length : Nat) : Int) = (0 : Int) then
 some true
 else
 bd (Tr.opt a0) fun y442 =>
 bd (Tr.opt a0) fun y443 =>
 ck64 ((((y443.2.1.length : Nat) : Int)) - ((1 : Int))) fun x63 =>
 ckI x63 (y442.2.1.length) fun j63 =>
 nm (y442.2.1.getD j63 0) fun y444 =>
 if ((y444 : Nat) : Int) = (((0 : Nat) : Nat) : Int) then
 some false
 else
 some true
 else
 some false
 else
 some false
 else
 some false
 else
 bd (Tr.opt a0) fun y445 =>
 if (((97 : Nat) : Nat) : Int) ≤ ((y445.2.2.1 : Nat) : Int) then
 bd (Tr.opt a0) fun y446 =>
 if ((y446.2.2.1 : Nat) : Int) ≤ (((122 : Nat) : Nat) : Int) then
 nm (false == true) fun c78 =>
 if c78 = true then
 bd (Tr.opt a0) fun y447 =>
 if (0 : Int) ≤ y447.2.2.2.1 then
 bd (Tr.opt a0) fun y448 =>
 if y448.2.2.2.1 ≤ (1000 : Int) then
 bd (Tr.opt a0) fun y449 =>
 if ((y449.2.1.length : Nat) : Int) = (0 : Int) then
 some true
 else
 bd (Tr.opt a0) fun y450 =>
 bd (Tr.opt a0) fun y451 =>
 ck64 ((((y451.2.1.length : Nat) : Int)) - ((1 : Int))) fun x64 =>
 ckI x64 (y450.2.1.length) fun j64 =>
 nm (y450.2.1.getD j64 0) fun y452 =>
 if ((y452 : Nat) : Int) = (((0 : Nat) : Nat) : Int) then
 some false
 else
 some true
 else
 some false
 else
 some false
 else
 some false
 else
 nm (false == false) fun c79 =>
 if c79 = true then
 bd (Tr.opt a0) fun y453 =>
 if (0 : Int) ≤ y453.2.2.2.1 then
 bd (Tr.opt a0) fun y454 =>
 if y454.2.2.2.1 ≤ (1000 : Int) then
 bd (Tr.opt a0) fun y455 =>
 if ((y455.2.1.length : Nat) : Int) = (0 : Int) then
 some true
 else
 bd (Tr.opt a0) fun y456 =>
 bd (Tr.opt a0) fun y457 =>
 ck64 ((((y457.2.1.length : Nat) : Int)) - ((1 : Int))) fun x65 =>
 ckI x65 (y456.2.1.length) fun j65 =>
 nm (y456.2.1.getD j65 0) fun y458 =>
 if ((y458 : Nat) : Int) = (((0 : Nat) : Nat) : Int) then
 some false
 else
 some true
 else
 some false
 else
 some false
 else
 some false
 else
 nm (false == false) fun c80 =>
 if c80 = true then
 bd (Tr.opt a0) fun y459 =>
 if (0 : Int) ≤ y459.2.2.2.1 then
 bd (Tr.opt a0) fun y460 =>
 if y460.2.2.2.1 ≤ (1000 : Int) then
 bd (Tr.opt a0) fun y461 =>
 if ((y461.2.1.length : Nat) : Int) = (0 : Int) then
 some true
 else
 bd (Tr.opt a0) fun y462 =>
 bd (Tr.opt a0) fun y463 =>
 ck64 ((((y463.2.1.length : Nat) : Int)) - ((1 : Int))) fun x66 =>
 ckI x66 (y462.2.1.length) fun j66 =>
 nm (y462.2.1.getD j66 0) fun y464 =>
 if ((y464 : Nat) : Int) = (((0 : Nat) : Nat) : Int) then
 some false
 else
 some true
 else
 some false
 else
 some false
 else
 some false
 else
 some false
 else
 nm (true == false) fun c81 =>
 if c81 = true then
 bd (Tr.opt a0) fun y465 =>
 if ((y465.1 : Nat) : Int) = (((118 : Nat) : Nat) : Int) then
 bd (Tr.opt a0) fun y466 =>
 if (((97 : Nat) : Nat) : Int) ≤ ((y466.2.2.1 : Nat) : Int) then
 bd (Tr.opt a0) fun y467 =>
 if ((y467.2.2.1 : Nat) : Int) ≤ (((122 : Nat) : Nat) : Int) then
 nm (true == true) fun c82 =>
 if c82 = true then
 bd (Tr.opt a0) fun y468 =>
 if (0 : Int) ≤ y468.2.2.2.1 then
 bd (Tr.opt a0) fun y469 =>
 if y469.2.2.2.1 ≤ (1000 : Int) then
 bd (Tr.opt a0) fun y470 =>
 if ((y470.2.1.length : Nat) : Int) = (0 : Int) then
 some true
 else
 bd (Tr.opt a0) fun y471 =>
 bd (Tr.opt a0) fun y472 =>
 ck64 ((((y472.2.1.length : Nat) : Int)) - ((1 : Int))) fun x67 =>
 ckI x67 (y471.2.1.length) fun j67 =>
 nm (y471.2.1.getD j67 0) fun y473 =>
 if ((y473 : Nat) : Int) = (((0 : Nat) : Nat) : Int) then
 some false
 else
 some true
 else
 some false
 else
 some false
 else
 some false
 else
 nm (true == false) fun c83 =>
 if c83 = true then
 bd (Tr.opt a0) fun y474 =>
 if (0 : Int) ≤ y474.2.2.2.1 then
 bd (Tr.opt a0) fun y475 =>
 if y475.2.2.2.1 ≤ (1000 : Int) then
 bd (Tr.opt a0) fun y476 =>
 if ((y476.2.1.length : Nat) : Int) = (0 : Int) then
 some true
 else
 bd (Tr.opt a0) fun y477 =>
 bd (Tr.opt a0) fun y478 =>
 ck64 ((((y478.2.1.length : Nat) : Int)) - ((1 : Int))) fun x68 =>
 ckI x68 (y477.2.1.length) fun j68 =>
 nm (y477.2.1.getD j68 0) fun y479 =>
 if ((y479 : Nat) : Int) = (((0 : Nat) : Nat) : Int) then
 some false
 else
 some true
 else
 some false
 else
 some false
 else
 some false
 else
 nm (true == false) fun c84 =>
 if c84 = true then
 bd (Tr.opt a0) fun y480 =>
 if (0 : Int) ≤ y480.2.2.2.1 then
 bd (Tr.opt a0) fun y481 =>
 if y481.2.2.2.1 ≤ (1000 : Int) then
 bd (Tr.opt a0) fun y482 =>
 if ((y482.2.1.length : Nat) : Int) = (0 : Int) then
 some true
 else
 bd (Tr.opt a0) fun y483 =>
 bd (Tr.opt a0) fun y484 =>
 ck64 ((((y484.2.1.length : Nat) : Int)) - ((1 : Int))) fun x69 =>
 ckI x69 (y483.2.1.length) fun j69 =>
 nm (y483.2.1.getD j69 0) fun y485 =>
 if ((y485 : Nat) : Int) = (((0 : Nat) : Nat) : Int) then
 some false
 else
 some true
 else
 some false
 else
 some false
 else
 some false
 else
 bd (Tr.opt a0) fun y486 =>
 if (((97 : Nat) : Nat) : Int) ≤ ((y486.2.2.1 : Nat) : Int) then
 bd (Tr.opt a0) fun y487 =>
 if ((y487.2.2.1 : Nat) : Int) ≤ (((122 : Nat) : Nat) : Int) then
 nm (false == true) fun c85 =>
 if c85 = true then
 bd (Tr.opt a0) fun y488 =>
 if (0 : Int) ≤ y488.2.2.2.1 then
 bd (Tr.opt a0) fun y489 =>
 if y489.2.2.2.1 ≤ (1000 : Int) then
 bd (Tr.opt a0) fun y490 =>
 if ((y490.2.1.length : Nat) : Int) = (0 : Int) then
 some true
 else
 bd (Tr.opt a0) fun y491 =>
 bd (Tr.opt a0) fun y492 =>
 ck64 ((((y492.2.1.length : Nat) : Int)) - ((1 : Int))) fun x70 =>
 ckI x70 (y491.2.1.length) fun j70 =>
 nm (y491.2.1.getD j70 0) fun y493 =>
 if ((y493 : Nat) : Int) = (((0 : Nat) : Nat) : Int) then
 some false
 else
 some true
 else
 some false
 else
 some false
 else
 some false
 else
 nm (false == false) fun c86 =>
 if c86 = true then
 bd (Tr.opt a0) fun y494 =>
 if (0 : Int) ≤ y494.2.2.2.1 then
 bd (Tr.opt a0) fun y495 =>
 if y495.2.2.2.1 ≤ (1000 : Int) then
 bd (Tr.opt a0) fun y496 =>
 if ((y496.2.1.length : Nat) : Int) = (0 : Int) then
 some true
 else
 bd (Tr.opt a0) fun y497 =>
 bd (Tr.opt a0) fun y498 =>
 ck64 ((((y498.2.1.length : Nat) : Int)) - ((1 : Int))) fun x71 =>
 ckI x71 (y497.2.1.length) fun j71 =>
 nm (y497.2.1.getD j71 0) fun y499 =>
 if ((y499 : Nat) : Int) = (((0 : Nat) : Nat) : Int) then
 some false
 else
 some true
 else
 some false
 else
 some false
 else
 some false
 else
 nm (false == false) fun c87 =>
 if c87 = true then
 bd (Tr.opt a0) fun y500 =>
 if (0 : Int) ≤ y500.2.2.2.1 then
 bd (Tr.opt a0) fun y501 =>
 if y501.2.2.2.1 ≤ (1000 : Int) then
 bd (Tr.opt a0) fun y502 =>
 if ((y502.2.1.length : Nat) : Int) = (0 : Int) then
 some true
 else
 bd (Tr.opt a0) fun y503 =>
 bd (Tr.opt a0) fun y504 =>
 ck64 ((((y504.2.1.length : Nat) : Int)) - ((1 : Int))) fun x72 =>
 ckI x72 (y503.2.1.length) fun j72 =>
 nm (y503.2.1.getD j72 0) fun y505 =>
 if ((y505 : Nat) : Int) = (((0 : Nat) : Nat) : Int) then
 some false
 else
 some true
 else
 some false
 else
 some false
 else
 some false
 else
 some false
 else
 some false
 else
 nm (true == false) fun c88 =>
 if c88 = true then
 bd (Tr.opt a0) fun y506 =>
 if Tr.isNil y506.2.2.2.2.2 = true then
 if (1 : Int) < i1 then
 nm (false == true) fun c89 =>
 if c89 = true then
 bd (Tr.opt a0) fun y507 =>
 if ((y507.1 : Nat) : Int) = (((118 : Nat) : Nat) : Int) then
 bd (Tr.opt a0) fun y508 =>
 if (((97 : Nat) : Nat) : Int) ≤ ((y508.2.2.1 : Nat) : Int) then
 bd (Tr.opt a0) fun y509 =>
 if ((y509.2.2.1 : Nat) : Int) ≤ (((122 : Nat) : Nat) : Int) then
 nm (true == true) fun c90 =>
 if c90 = true then
 bd (Tr.opt a0) fun y510 =>
 if (0 : Int) ≤ y510.2.2.2.1 then
 bd (Tr.opt a0) fun y511 =>
 if y511.2.2.2.1 ≤ (1000 : Int) then
 bd (Tr.opt a0) fun y512 =>
 if ((y512.2.1.length : Nat) : Int) = (0 : Int) then
 some true
 else
 bd (Tr.opt a0) fun y513 =>
 bd (Tr.opt a0) fun y514 =>
 ck64 ((((y514.2.1.length : Nat) : Int)) - ((1 : Int))) fun x73 =>
 ckI x73 (y513.2.1.length) fun j73 =>
 nm (y513.2.1.getD j73 0) fun y515 =>
 if ((y515 : Nat) : Int) = (((0 : Nat) : Nat) : Int) then
 some false
 else
 some true
 else
 some false
 else
 some false
 else
 some false
 else
 nm (true == false) fun c91 =>
 if c91 = true then
 bd (Tr.opt a0) fun y516 =>
 if (0 : Int) ≤ y516.2.2.2.1 then
 bd (Tr.opt a0) fun y517 =>
 if y517.2.2.2.1 ≤ (1000 : Int) then
 bd (Tr.opt a0) fun y518 =>
 if ((y518.2.1.length : Nat) : Int) = (0 : Int) then
 some true
 else
 bd (Tr.opt a0) fun y519 =>
 bd (Tr.opt a0) fun y520 =>
 ck64 ((((y520.2.1.length : Nat) : Int)) - ((1 : Int))) fun x74 =>
 ckI x74 (y519.2.1.length) fun j74 =>
 nm (y519.2.1.getD j74 0) fun y521 =>
 if ((y521 : Nat) : Int) = (((0 : Nat) : Nat) : Int) then
 some false
 else
 some true
 else
 some false
 else
 some false
 else
 some false
 else
 nm (true == false) fun c92 =>
 if c92 = true then
 bd (Tr.opt a0) fun y522 =>
 if (0 : Int) ≤ y522.2.2.2.1 then
 bd (Tr.opt a0) fun y523 =>
 if y523.2.2.2.1 ≤ (1000 : Int) then
 bd (Tr.opt a0) fun y524 =>
 if ((y524.2.1.length : Nat) : Int) = (0 : Int) then
 some true
 else
 bd (Tr.opt a0) fun y525 =>
 bd (Tr.opt a0) fun y526 =>
 ck64 ((((y526.2.1.length : Nat) : Int)) - ((1 : Int))) fun x75 =>
 ckI x75 (y525.2.1.length) fun j75 =>
 nm (y525.2.1.getD j75 0) fun y527 =>
 if ((y527 : Nat) : Int) = (((0 : Nat) : Nat) : Int) then
 some false
 else
 some true
 else
 some false
 else
 some false
 else
 some false
 else
 bd (Tr.opt a0) fun y528 =>
 if (((97 : Nat) : Nat) : Int) ≤ ((y528.2.2.1 : Nat) : Int) then
 bd (Tr.opt a0) fun y529 =>
 if ((y529.2.2.1 : Nat) : Int) ≤ (((122 : Nat) : Nat) : Int) then
 nm (false == true) fun c93 =>
 if c93 = true then
 bd (Tr.opt a0) fun y530 =>
 if (0 : Int) ≤ y530.2.2.2.1 then
 bd (Tr.opt a0) fun y531 =>
 if y531.2.2.2.1 ≤ (1000 : Int) then
 bd (Tr.opt a0) fun y532 =>
 if ((y532.2.1.length : Nat) : Int) = (0 : Int) then
 some true
 else
 bd (Tr.opt a0) fun y533 =>
 bd (Tr.opt a0) fun y534 =>
 ck64 ((((y534.2.1.length : Nat) : Int)) - ((1 : Int))) fun x76 =>
 ckI x76 (y533.2.1.length) fun j76 =>
 nm (y533.2.1.getD j76 0) fun y535 =>
 if ((y535 : Nat) : Int) = (((0 : Nat) : Nat) : Int) then
 some false
 else
 some true
 else
 some false
 else
 some false
 else
 some false
 else
 nm (false == false) fun c94 =>
 if c94 = true then
 bd (Tr.opt a0) fun y536 =>
 if (0 : Int) ≤ y536.2.2.2.1 then
 bd (Tr.opt a0) fun y537 =>
 if y537.2.2.2.1 ≤ (1000 : Int) then
 bd (Tr.opt a0) fun y538 =>
 if ((y538.2.1.length : Nat) : Int) = (0 : Int) then
 some true
 else
 bd (Tr.opt a0) fun y539 =>
 bd (Tr.opt a0) fun y540 =>
 ck64 ((((y540.2.1.length : Nat) : Int)) - ((1 : Int))) fun x77 =>
 ckI x77 (y539.2.1.length) fun j77 =>
 nm (y539.2.1.getD j77 0) fun y541 =>
 if ((y541 : Nat) : Int) = (((0 : Nat) : Nat) : Int) then
 some false
 else
 some true
 else
 some false
 else
 some false
 else
 some false
 else
 nm (false == false) fun c95 =>
 if c95 = true then
 bd (Tr.opt a0) fun y542 =>
 if (0 : Int) ≤ y542.2.2.2.1 then
 bd (Tr.opt a0) fun y543 =>
 if y543.2.2.2.1 ≤ (1000 : Int) then
 bd (Tr.opt a0) fun y544 =>
 if ((y544.2.1.length : Nat) : Int) = (0 : Int) then
 some true
 else
 bd (Tr.opt a0) fun y545 =>
 bd (Tr.opt a0) fun y546 =>
 ck64 ((((y546.2.1.length : Nat) : Int)) - ((1 : Int))) fun x78 =>
 ckI x78 (y545.2.1.length) fun j78 =>
 nm (y545.2.1.getD j78 0) fun y547 =>
 if ((y547 : Nat) : Int) = (((0 : Nat) : Nat) : Int) then
 some false
 else
 some true
 else
 some false
 else
 some false
 else
 some false
 else
 some false
 else
 nm (false == false) fun c96 =>
 if c96 = true then
 bd (Tr.opt a0) fun y548 =>
 if ((y548.1 : Nat) : Int) = (((118 : Nat) : Nat) : Int) then
 bd (Tr.opt a0) fun y549 =>
 if (((97 : Nat) : Nat) : Int) ≤ ((y549.2.2.1 : Nat) : Int) then
 bd (Tr.opt a0) fun y550 =>
 if ((y550.2.2.1 : Nat) : Int) ≤ (((122 : Nat) : Nat) : Int) then
 nm (true == true) fun c97 =>
 if c97 = true then
 bd (Tr.opt a0) fun y551 =>
 if (0 : Int) ≤ y551.2.2.2.1 then
 bd (Tr.opt a0) fun y552 =>
 if y552.2.2.2.1 ≤ (1000 : Int) then
 bd (Tr.opt a0) fun y553 =>
 if ((y553.2.1.length : Nat) : Int) = (0 : Int) then
 some true
 else
 bd (Tr.opt a0) fun y554 =>
 bd (Tr.opt a0) fun y555 =>
 ck64 ((((y555.2.1.length : Nat) : Int)) - ((1 : Int))) fun x79 =>
 ckI x79 (y554.2.1.length) fun j79 =>
 nm (y554.2.1.getD j79 0) fun y556 =>
 if ((y556 : Nat) : Int) = (((0 : Nat) : Nat) : Int) then
 some false
 else
 some true
 else
 some false
 else
 some false
 else
 some false
 else
 nm (true == false) fun c98 =>
 if c98 = true then
 bd (Tr.opt a0) fun y557 =>
 if (0 : Int) ≤ y557.2.2.2.1 then
 bd (Tr.opt a0) fun y558 =>
 if y558.2.2.2.1 ≤ (1000 : Int) then
 bd (Tr.opt a0) fun y559 =>
 if ((y559.2.1.length : Nat) : Int) = (0 : Int) then
 some true
 else
 bd (Tr.opt a0) fun y560 =>
 bd (Tr.opt a0) fun y561 =>
 ck64 ((((y561.2.1.length : Nat) : Int)) - ((1 : Int))) fun x80 =>
 ckI x80 (y560.2.1.length) fun j80 =>
 nm (y560.2.1.getD j80 0) fun y562 =>
 if ((y562 : Nat) : Int) = (((0 : Nat) : Nat) : Int) then
 some false
 else
 some true
 else
 some false
 else
 some false
 else
 some false
 else
 nm (true == false) fun c99 =>
 if c99 = true then
 bd (Tr.opt a0) fun y563 =>
 if (0 : Int) ≤ y563.2.2.2.1 then
 bd (Tr.opt a0) fun y564 =>
 if y564.2.2.2.1 ≤ (1000 : Int) then
 bd (Tr.opt a0) fun y565 =>
 if ((y565.2.1.length : Nat) : Int) = (0 : Int) then
 some true
 else
 bd (Tr.opt a0) fun y566 =>
 bd (Tr.opt a0) fun y567 =>
 ck64 ((((y567.2.1.length : Nat) : Int)) - ((1 : Int))) fun x81 =>
 ckI x81 (y566.2.1.length) fun j81 =>
 nm (y566.2.1.getD j81 0) fun y568 =>
 if ((y568 : Nat) : Int) = (((0 : Nat) : Nat) : Int) then
 some false
 else
 some true
 else
 some false
 else
 some false
 else
 some false
 else
 bd (Tr.opt a0) fun y569 =>
 if (((97 : Nat) : Nat) : Int) ≤ ((y569.2.2.1 : Nat) : Int) then
 bd (Tr.opt a0) fun y570 =>
 if ((y570.2.2.1 : Nat) : Int) ≤ (((122 : Nat) : Nat) : Int) then
 nm (false == true) fun c100 =>
 if c100 = true then
 bd (Tr.opt a0) fun y571 =>
 if (0 : Int) ≤ y571.2.2.2.1 then
 bd (Tr.opt a0) fun y572 =>
 if y572.2.2.2.1 ≤ (1000 : Int) then
 bd (Tr.opt a0) fun y573 =>
 if ((y573.2.1.length : Nat) : Int) = (0 : Int) then
 some true
 else
 bd (Tr.opt a0) fun y574 =>
 bd (Tr.opt a0) fun y575 =>
 ck64 ((((y575.2.1.length : Nat) : Int)) - ((1 : Int))) fun x82 =>
 ckI x82 (y574.2.1.length) fun j82 =>
 nm (y574.2.1.getD j82 0) fun y576 =>
 if ((y576 : Nat) : Int) = (((0 : Nat) : Nat) : Int) then
 some false
 else
 some true
 else
 some false
 else
 some false
 else
 some false
 else
 nm (false == false) fun c101 =>
 if c101 = true then
 bd (Tr.opt a0) fun y577 =>
 if (0 : Int) ≤ y577.2.2.2.1 then
 bd (Tr.opt a0) fun y578 =>
 if y578.2.2.2.1 ≤ (1000 : Int) then
 bd (Tr.opt a0) fun y579 =>
 if ((y579.2.1.length : Nat) : Int) = (0 : Int) then
 some true
 else
 bd (Tr.opt a0) fun y580 =>
 bd (Tr.opt a0) fun y581 =>
 ck64 ((((y581.2.1.length : Nat) : Int)) - ((1 : Int))) fun x83 =>
 ckI x83 (y580.2.1.length) fun j83 =>
 nm (y580.2.1.getD j83 0) fun y582 =>
 if ((y582 : Nat) : Int) = (((0 : Nat) : Nat) : Int) then
 some false
 else
 some true
 else
 some false
 else
 some false
 else
 some false
 else
 nm (false == false) fun c102 =>
 if c102 = true then
 bd (Tr.opt a0) fun y583 =>
 if (0 : Int) ≤ y583.2.2.2.1 then
 bd (Tr.opt a0) fun y584 =>
 if y584.2.2.2.1 ≤ (1000 : Int) then
 bd (Tr.opt a0) fun y585 =>
 if ((y585.2.1.length : Nat) : Int) = (0 : Int) then
 some true
 else
 bd (Tr.opt a0) fun y586 =>
 bd (Tr.opt a0) fun y587 =>
 ck64 ((((y587.2.1.length : Nat) : Int)) - ((1 : Int))) fun x84 =>
 ckI x84 (y586.2.1.length) fun j84 =>
 nm (y586.2.1.getD j84 0) fun y588 =>
 if ((y588 : Nat) : Int) = (((0 : Nat) : Nat) : Int) then
 some false
 else
 some true
 else
 some false
 else
 some false
 else
 some false
 else
 some false
 else
 if (1 : Int) < i1 then
 nm (true == true) fun c103 =>
 if c103 = true then
 bd (Tr.opt a0) fun y589 =>
 if ((y589.1 : Nat) : Int) = (((118 : Nat) : Nat) : Int) then
 bd (Tr.opt a0) fun y590 =>
 if (((97 : Nat) : Nat) : Int) ≤ ((y590.2.2.1 : Nat) : Int) then
 bd (Tr.opt a0) fun y591 =>
 if ((y591.2.2.1 : Nat) : Int) ≤ (((122 : Nat) : Nat) : Int) then
 nm (true == true) fun c104 =>
 if c104 = true then
 bd (Tr.opt a0) fun y592 =>
 if (0 : Int) ≤ y592.2.2.2.1 then
 bd (Tr.opt a0) fun y593 =>
 if y593.2.2.2.1 ≤ (1000 : Int) then
 bd (Tr.opt a0) fun y594 =>
 if ((y594.2.1.length : Nat) : Int) = (0 : Int) then
 some true
 else
 bd (Tr.opt a0) fun y595 =>
 bd (Tr.opt a0) fun y596 =>
 ck64 ((((y596.2.1.length : Nat) : Int)) - ((1 : Int))) fun x85 =>
 ckI x85 (y595.2.1.length) fun j85 =>
 nm (y595.2.1.getD j85 0) fun y597 =>
 if ((y597 : Nat) : Int) = (((0 : Nat) : Nat) : Int) then
 some false
 else
 some true
 else
 some false
 else
 some false
 else
 some false
 else
 nm (true == false) fun c105 =>
 if c105 = true then
 bd (Tr.opt a0) fun y598 =>
 if (0 : Int) ≤ y598.2.2.2.1 then
 bd (Tr.opt a0) fun y599 =>
 if y599.2.2.2.1 ≤ (1000 : Int) then
 bd (Tr.opt a0) fun y600 =>
 if ((y600.2.1.length : Nat) : Int) = (0 : Int) then
 some true
 else
 bd (Tr.opt a0) fun y601 =>
 bd (Tr.opt a0) fun y602 =>
 ck64 ((((y602.2.1.length : Nat) : Int)) - ((1 : Int))) fun x86 =>
 ckI x86 (y601.2.1.length) fun j86 =>
 nm (y601.2.1.getD j86 0) fun y603 =>
 if ((y603 : Nat) : Int) = (((0 : Nat) : Nat) : Int) then
 some false
 else
 some true
 else
 some false
 else
 some false
 else
 some false
 else
 nm (true == false) fun c106 =>
 if c106 = true then
 bd (Tr.opt a0) fun y604 =>
 if (0 : Int) ≤ y604.2.2.2.1 then
 bd (Tr.opt a0) fun y605 =>
 if y605.2.2.2.1 ≤ (1000 : Int) then
 bd (Tr.opt a0) fun y606 =>
 if ((y606.2.1.length : Nat) : Int) = (0 : Int) then
 some true
 else
 bd (Tr.opt a0) fun y607 =>
 bd (Tr.opt a0) fun y608 =>
 ck64 ((((y608.2.1.length : Nat) : Int)) - ((1 : Int))) fun x87 =>
 ckI x87 (y607.2.1.length) fun j87 =>
 nm (y607.2.1.getD j87 0) fun y609 =>
 if ((y609 : Nat) : Int) = (((0 : Nat) : Nat) : Int) then
 some false
 else
 some true
 else
 some false
 else
 some false
 else
 some false
 else
 bd (Tr.opt a0) fun y610 =>
 if (((97 : Nat) : Nat) : Int) ≤ ((y610.2.2.1 : Nat) : Int) then
 bd (Tr.opt a0) fun y611 =>
 if ((y611.2.2.1 : Nat) : Int) ≤ (((122 : Nat) : Nat) : Int) then
 nm (false == true) fun c107 =>
 if c107 = true then
 bd (Tr.opt a0) fun y612 =>
 if (0 : Int) ≤ y612.2.2.2.1 then
 bd (Tr.opt a0) fun y613 =>
 if y613.2.2.2.1 ≤ (1000 : Int) then
 bd (Tr.opt a0) fun y614 =>
 if ((y614.2.1.length : Nat) : Int) = (0 : Int) then
 some true
 else
 bd (Tr.opt a0) fun y615 =>
 bd (Tr.opt a0) fun y616 =>
 ck64 ((((y616.2.1.length : Nat) : Int)) - ((1 : Int))) fun x88 =>
 ckI x88 (y615.2.1.length) fun j88 =>
 nm (y615.2.1.getD j88 0) fun y617 =>
 if ((y617 : Nat) : Int) = (((0 : Nat) : Nat) : Int) then
 some false
 else
 some true
 else
 some false
 else
 some false
 else
 some false
 else
 nm (false == false) fun c108 =>
 if c108 = true then
 bd (Tr.opt a0) fun y618 =>
 if (0 : Int) ≤ y618.2.2.2.1 then
 bd (Tr.opt a0) fun y619 =>
 if y619.2.2.2.1 ≤ (1000 : Int) then
 bd (Tr.opt a0) fun y620 =>
 if ((y620.2.1.length : Nat) : Int) = (0 : Int) then
 some true
 else
 bd (Tr.opt a0) fun y621 =>
 bd (Tr.opt a0) fun y622 =>
 ck64 ((((y622.2.1.length : Nat) : Int)) - ((1 : Int))) fun x89 =>
 ckI x89 (y621.2.1.length) fun j89 =>
 nm (y621.2.1.getD j89 0) fun y623 =>
 if ((y623 : Nat) : Int) = (((0 : Nat) : Nat) : Int) then
 some false
 else
 some true
 else
 some false
 else
 some false
 else
 some false
 else
 nm (false == false) fun c109 =>
 if c109 = true then
 bd (Tr.opt a0) fun y624 =>
 if (0 : Int) ≤ y624.2.2.2.1 then
 bd (Tr.opt a0) fun y625 =>
 if y625.2.2.2.1 ≤ (1000 : Int) then
 bd (Tr.opt a0) fun y626 =>
 if ((y626.2.1.length : Nat) : Int) = (0 : Int) then
 some true
 else
 bd (Tr.opt a0) fun y627 =>
 bd (Tr.opt a0) fun y628 =>
 ck64 ((((y628.2.1.length : Nat) : Int)) - ((1 : Int))) fun x90 =>
 ckI x90 (y627.2.1.length) fun j90 =>
 nm (y627.2.1.getD j90 0) fun y629 =>
 if ((y629 : Nat) : Int) = (((0 : Nat) : Nat) : Int) then
 some false
 else
 some true
 else
 some false
 else
 some false
 else
 some false
 else
 some false
 else
 nm (true == false) fun c110 =>
 if c110 = true then
 bd (Tr.opt a0) fun y630 =>
 if ((y630.1 : Nat) : Int) = (((118 : Nat) : Nat) : Int) then
 bd (Tr.opt a0) fun y631 =>
 if (((97 : Nat) : Nat) : Int) ≤ ((y631.2.2.1 : Nat) : Int) then
 bd (Tr.opt a0) fun y632 =>
 if ((y632.2.2.1 : Nat) : Int) ≤ (((122 : Nat) : Nat) : Int) then
 nm (true == true) fun c111 =>
 if c111 = true then
 bd (Tr.opt a0) fun y633 =>
 if (0 : Int) ≤ y633.2.2.2.1 then
 bd (Tr.opt a0) fun y634 =>
 if y634.2.2.2.1 ≤ (1000 : Int) then
 bd (Tr.opt a0) fun y635 =>
 if ((y635.2.1.length : Nat) : Int) = (0 : Int) then
 some true
 else
 bd (Tr.opt a0) fun y636 =>
 bd (Tr.opt a0) fun y637 =>
 ck64 ((((y637.2.1.length : Nat) : Int)) - ((1 : Int))) fun x91 =>
 ckI x91 (y636.2.1.length) fun j91 =>
 nm (y636.2.1.getD j91 0) fun y638 =>
 if ((y638 : Nat) : Int) = (((0 : Nat) : Nat) : Int) then
 some false
 else
 some true
 else
 some false
 else
 some false
 else
 some false
 else
 nm (true == false) fun c112 =>
 if c112 = true then
 bd (Tr.opt a0) fun y639 =>
 if (0 : Int) ≤ y639.2.2.2.1 then
 bd (Tr.opt a0) fun y640 =>
 if y640.2.2.2.1 ≤ (1000 : Int) then
 bd (Tr.opt a0) fun y641 =>
 if ((y641.2.1.length : Nat) : Int) = (0 : Int) then
 some true
 else
 bd (Tr.opt a0) fun y642 =>
 bd (Tr.opt a0) fun y643 =>
 ck64 ((((y643.2.1.length : Nat) : Int)) - ((1 : Int))) fun x92 =>
 ckI x92 (y642.2.1.length) fun j92 =>
 nm (y642.2.1.getD j92 0) fun y644 =>
 if ((y644 : Nat) : Int) = (((0 : Nat) : Nat) : Int) then
 some false
 else
 some true
 else
 some false
 else
 some false
 else
 some false
 else
 nm (true == false) fun c113 =>
 if c113 = true then
 bd (Tr.opt a0) fun y645 =>
 if (0 : Int) ≤ y645.2.2.2.1 then
 bd (Tr.opt a0) fun y646 =>
 if y646.2.2.2.1 ≤ (1000 : Int) then
 bd (Tr.opt a0) fun y647 =>
 if ((y647.2.1.length : Nat) : Int) = (0 : Int) then
 some true
 else
 bd (Tr.opt a0) fun y648 =>
 bd (Tr.opt a0) fun y649 =>
 ck64 ((((y649.2.1.length : Nat) : Int)) - ((1 : Int))) fun x93 =>
 ckI x93 (y648.2.1.length) fun j93 =>
 nm (y648.2.1.getD j93 0) fun y650 =>
 if ((y650 : Nat) : Int) = (((0 : Nat) : Nat) : Int) then
 some false
 else
 some true
 else
 some false
 else
 some false
 else
 some false
 else
 bd (Tr.opt a0) fun y651 =>
 if (((97 : Nat) : Nat) : Int) ≤ ((y651.2.2.1 : Nat) : Int) then
 bd (Tr.opt a0) fun y652 =>
 if ((y652.2.2.1 : Nat) : Int) ≤ (((122 : Nat) : Nat) : Int) then
 nm (false == true) fun c114 =>
 if c114 = true then
 bd (Tr.opt a0) fun y653 =>
 if (0 : Int) ≤ y653.2.2.2.1 then
 bd (Tr.opt a0) fun y654 =>
 if y654.2.2.2.1 ≤ (1000 : Int) then
 bd (Tr.opt a0) fun y655 =>
 if ((y655.2.1.length : Nat) : Int) = (0 : Int) then
 some true
 else
 bd (Tr.opt a0) fun y656 =>
 bd (Tr.opt a0) fun y657 =>
 ck64 ((((y657.2.1.length : Nat) : Int)) - ((1 : Int))) fun x94 =>
 ckI x94 (y656.2.1.length) fun j94 =>
 nm (y656.2.1.getD j94 0) fun y658 =>
 if ((y658 : Nat) : Int) = (((0 : Nat) : Nat) : Int) then
 some false
 else
 some true
 else
 some false
 else
 some false
 else
 some false
 else
 nm (false == false) fun c115 =>
 if c115 = true then
 bd (Tr.opt a0) fun y659 =>
 if (0 : Int) ≤ y659.2.2.2.1 then
 bd (Tr.opt a0) fun y660 =>
 if y660.2.2.2.1 ≤ (1000 : Int) then
 bd (Tr.opt a0) fun y661 =>
 if ((y661.2.1.length : Nat) : Int) = (0 : Int) then
 some true
 else
 bd (Tr.opt a0) fun y662 =>
 bd (Tr.opt a0) fun y663 =>
 ck64 ((((y663.2.1.length : Nat) : Int)) - ((1 : Int))) fun x95 =>
 ckI x95 (y662.2.1.length) fun j95 =>
 nm (y662.2.1.getD j95 0) fun y664 =>
 if ((y664 : Nat) : Int) = (((0 : Nat) : Nat) : Int) then
 some false
 else
 some true
 else
 some false
 else
 some false
 else
 some false
 else
 nm (false == false) fun c116 =>
 if c116 = true then
 bd (Tr.opt a0) fun y665 =>
 if (0 : Int) ≤ y665.2.2.2.1 then
 bd (Tr.opt a0) fun y666 =>
 if y666.2.2.2.1 ≤ (1000 : Int) then
 bd (Tr.opt a0) fun y667 =>
 if ((y667.2.1.length : Nat) : Int) = (0 : Int) then
 some true
 else
 bd (Tr.opt a0) fun y668 =>
 bd (Tr.opt a0) fun y669 =>
 ck64 ((((y669.2.1.length : Nat) : Int)) - ((1 : Int))) fun x96 =>
 ckI x96 (y668.2.1.length) fun j96 =>
 nm (y668.2.1.getD j96 0) fun y670 =>
 if ((y670 : Nat) : Int) = (((0 : Nat) : Nat) : Int) then
 some false
 else
 some true
 else
 some false
 else
 some false
 else
 some false
 else
 some false
 else
 some false
 else
 some false
 | .inr _ =>
 some false
def M_strconv_Itoa (fu : Nat) (a0 : Int) : Option (List Nat) := itoaN a0
def M_expr_writer_node_vr : Nat → ((List Nat) × (Int × (Int × Bool))) → List Nat → Tr → Option (((List Nat) × (Int × (Int × Bool))) × List Nat)
  | 0, _, _, _ => none
  | fu + 1, a0, b0, a1 =>
    ck64 (a0.2.1 - ((1 : Int))) fun x1 =>
    nm ((a0.1, (x1, a0.2.2))) fun t1 =>
    bd ((if t1.2.2.2 = true then
    nm ((t1.1, (t1.2.1, (t1.2.2.1, true)))) fun t2 =>
    if t2.2.2.2 = true then
    some (.inr (t2, b0))
    else
    some (.inl (t2, b0))
    else
    if t1.2.1 < (0 : Int) then
    nm ((t1.1, (t1.2.1, (t1.2.2.1, true)))) fun t3 =>
    if t3.2.2.2 = true then
    some (.inr (t3, b0))
    else
    some (.inl (t3, b0))
    else
    bd (M_expr_right fu a1) fun c1 =>
    nm ((t1.1, (t1.2.1, (t1.2.2.1, (!c1))))) fun t4 =>
    if t4.2.2.2 = true then
    some (.inr (t4, b0))
    else
    some (.inl (t4, b0)) : Option ((((List Nat) × (Int × (Int × Bool))) × (List Nat)) ⊕ (((List Nat) × (Int × (Int × Bool))) × (List Nat))))) fun s1 => match s1 with
    | .inl t5 =>
    bd (Tr.opt a1) fun y1 =>
    bd ((if ((y1.1 : Nat) : Int) = (((110 : Nat) : Nat) : Int) then
    some true
    else
    some false : Option Bool)) fun b1 =>
    if b1 = true then
    bd (Tr.opt a1) fun y2 =>
    bd (M_expr_writer_digits_vr fu t5.1 t5.2 y2.2.1) fun (y3, t6) =>
    some (y3, t6)
    else
    bd ((if ((y1.1 : Nat) : Int) = (((118 : Nat) : Nat) : Int) then
    some true
    else
    some false : Option Bool)) fun b2 =>
    if b2 = true then
    bd (Tr.opt a1) fun y4 =>
    bd (M_expr_writer_put_vr fu t5.1 t5.2 [y4.2.2.1]) fun (y5, t7) =>
    some (y5, t7)
    else
    bd ((if ((y1.1 : Nat) : Int) = (((126 : Nat) : Nat) : Int) then
    some true
    else
    some false : Option Bool)) fun b3 =>
    if b3 = true then
    bd (M_expr_writer_put_vr fu t5.1 t5.2 [45]) fun (y6, t8) =>
    bd (Tr.opt a1) fun y7 =>
    bd (M_expr_writer_within_vr (M_expr_writer_node_vr fu) fu y6 t8 y7.2.2.2.2.1 (2 : Int)) fun (y8, t9) =>
    some (y8, t9)
    else
    bd ((if ((y1.1 : Nat) : Int) = (((94 : Nat) : Nat) : Int) then
    some true
    else
    some false : Option Bool)) fun b4 =>
    if b4 = true then
    bd (Tr.opt a1) fun y9 =>
    bd (M_expr_writer_within_vr (M_expr_writer_node_vr fu) fu t5.1 t5.2 y9.2.2.2.2.1 (0 : Int)) fun (y10, t10) =>
    bd (Tr.opt a1) fun y11 =>
    bd (M_strconv_Itoa fu y11.2.2.2.1) fun t11 =>
    ck (([94]).length + t11.length ≤ 9223372036854775807) <|
    nm (([94]) ++ t11) fun t12 =>
    bd (M_expr_writer_put_vr fu y10 t10 t12) fun (y12, t13) =>
    some (y12, t13)
    else
    bd ((if ((y1.1 : Nat) : Int) = (((47 : Nat) : Nat) : Int) then
    some true
    else
    some false : Option Bool)) fun b5 =>
    if b5 = true then
    bd (Tr.opt a1) fun y13 =>
    bd (M_expr_writer_within_vr (M_expr_writer_node_vr fu) fu t5.1 t5.2 y13.2.2.2.2.1 (2 : Int)) fun (y14, t14) =>
    bd (M_expr_writer_put_vr fu y14 t14 [47]) fun (y15, t15) =>
    bd (Tr.opt a1) fun y16 =>
    bd (M_expr_writer_digits_vr fu y15 t15 y16.2.1) fun (y17, t16) =>
    some (y17, t16)
    else
    bd ((if ((y1.1 : Nat) : Int) = (((42 : Nat) : Nat) : Int) then
    some true
    else
    some false : Option Bool)) fun b6 =>
    if b6 = true then
    bd (Tr.opt a1) fun y18 =>
    bd (M_expr_writer_within_vr (M_expr_writer_node_vr fu) fu t5.1 t5.2 y18.2.2.2.2.1 (2 : Int)) fun (y19, t17) =>
    bd (M_expr_writer_put_vr fu y19 t17 [42]) fun (y20, t18) =>
    bd (Tr.opt a1) fun y21 =>
    bd (M_expr_writer_within_vr (M_expr_writer_node_vr fu) fu y20 t18 y21.2.2.2.2.2 (1 : Int)) fun (y22, t19) =>
    some (y22, t19)
    else
    bd (Tr.opt a1) fun y23 =>
    bd (M_expr_writer_within_vr (M_expr_writer_node_vr fu) fu t5.1 t5.2 y23.2.2.2.2.1 (3 : Int)) fun (y24, t20) =>
    bd (Tr.opt a1) fun y25 =>
    bd (M_expr_writer_put_vr fu y24 t20 [y25.1]) fun (y26, t21) =>
    bd (Tr.opt a1) fun y27 =>
    bd (M_expr_writer_within_vr (M_expr_writer_node_vr fu) fu y26 t21 y27.2.2.2.2.2 (2 : Int)) fun (y28, t22) =>
    some (y28, t22)
    | .inr t23 =>
    some (t23.1, t23.2)
def M_expr_Text (fu : Nat) (a0 : Tr) : Option (List Nat) :=
 if Tr.isNil a0 = true then
 some []
 else
 bd (M_expr_writer_node_vr fu (([], ((4096 : Int), (0, false)))) ([] : List Nat) a0) fun (y1, t1) =>
 if y1.2.2.2 = true then
 some []
 else
 some t1
def M_law23_awake (fu : Nat)  : Option Bool :=
 bd (M_expr_Parse fu [32, 40, 32, 120, 43, 49, 32, 41, 32, 94, 50, 42, 121, 32] (1 : Int)) fun (q1, x1, x2) =>
 bd (M_expr_Parse fu [120, 47, 121] (3 : Int)) fun (q2, x3, x4) =>
 if x2 = (0 : Int) then
 if x1 = (14 : Int) then
 bd (M_expr_Text fu q1) fun t1 =>
 if t1 = [40, 120, 43, 49, 41, 94, 50, 42, 121] then
 if x4 = (2 : Int) then
 if x3 = (2 : Int) then
 some true
 else
 some false
 else
 some false
 else
 some false
 else
 some false
 else
 some false
def M_law23_theirs : Nat → Tr → Int → Option Tr
  | 0, _, _ => none
  | fu + 1, a0, a1 =>
    if Tr.isNil a0 = true then
    some Tr.nil
    else
    if a1 ≤ (0 : Int) then
    some Tr.nil
    else
    bd (Tr.opt a0) fun y1 =>
    bd (Tr.opt a0) fun y2 =>
    bd (Tr.opt a0) fun y3 =>
    bd (Tr.opt a0) fun y4 =>
    bd (Tr.opt a0) fun y5 =>
    ck64 (a1 - ((1 : Int))) fun x1 =>
    bd (M_law23_theirs fu y5.2.2.2.2.1 x1) fun q1 =>
    bd (Tr.opt a0) fun y6 =>
    ck64 (a1 - ((1 : Int))) fun x2 =>
    bd (M_law23_theirs fu y6.2.2.2.2.2 x2) fun q2 =>
    some ((Tr.un (y1.1, y2.2.1, y3.2.2.1, y4.2.2.2.1, q1, q2)))
def B_ref01_Same_0 (fu : Nat) (a0 : List Nat) (a1 : List Nat) : (Int → Option (Unit ⊕ Unit)) → Int → Option (Unit ⊕ Unit) := fun L i1 =>
 if i1 < ((a0.length : Nat) : Int) then
 ckI i1 (a0.length) fun j1 =>
 nm (a0.getD j1 0) fun y1 =>
 ckI i1 (a1.length) fun j2 =>
 nm (a1.getD j2 0) fun y2 =>
 if ((y1 : Nat) : Int) = ((y2 : Nat) : Int) then
 ck64 (i1 + ((1 : Int))) fun x1 =>
 L x1
 else
 some (.inr ())
 else
 some (.inl ())
def M_ref01_Same (fu : Nat) (a0 : List Nat) (a1 : List Nat) : Option Bool :=
 if ((a0.length : Nat) : Int) = ((a1.length : Nat) : Int) then
 bd (loopN (B_ref01_Same_0 fu a0 a1) fu (0 : Int)) fun s1 => match s1 with
 | .inl _ =>
 some true
 | .inr _ =>
 some false
 else
 some false
def M_ref23_Same : Nat → Tr → Tr → Option Bool
  | 0, _, _ => none
  | fu + 1, a0, a1 =>
    if Tr.isNil a0 = true then
    if Tr.isNil a0 = true then
    if Tr.isNil a1 = true then
    some true
    else
    some false
    else
    some false
    else
    if Tr.isNil a1 = true then
    if Tr.isNil a0 = true then
    if Tr.isNil a1 = true then
    some true
    else
    some false
    else
    some false
    else
    bd (Tr.opt a0) fun y1 =>
    bd (Tr.opt a1) fun y2 =>
    if ((y1.1 : Nat) : Int) = ((y2.1 : Nat) : Int) then
    bd (Tr.opt a0) fun y3 =>
    bd (Tr.opt a1) fun y4 =>
    if ((y3.2.2.1 : Nat) : Int) = ((y4.2.2.1 : Nat) : Int) then
    bd (Tr.opt a0) fun y5 =>
    bd (Tr.opt a1) fun y6 =>
    if y5.2.2.2.1 = y6.2.2.2.1 then
    bd (Tr.opt a0) fun y7 =>
    bd (Tr.opt a1) fun y8 =>
    bd (M_ref01_Same fu y7.2.1 y8.2.1) fun c1 =>
    if c1 = true then
    bd (Tr.opt a0) fun y9 =>
    bd (Tr.opt a1) fun y10 =>
    bd (M_ref23_Same fu y9.2.2.2.2.1 y10.2.2.2.2.1) fun c2 =>
    if c2 = true then
    bd (Tr.opt a0) fun y11 =>
    bd (Tr.opt a1) fun y12 =>
    bd (M_ref23_Same fu y11.2.2.2.2.2 y12.2.2.2.2.2) fun c3 =>
    some c3
    else
    some false
    else
    some false
    else
    some false
    else
    some false
    else
    some false
def M_law23_ExprBack (fu : Nat) (a0 : List Nat) (a1 : Int) : Option Bool :=
 bd (M_law23_awake fu) fun c1 =>
 bd (M_expr_Parse fu a0 a1) fun (q1, x1, x2) =>
 if x2 = (0 : Int) then
 bd (M_expr_Text fu q1) fun t1 =>
 bd (M_expr_Parse fu t1 (100 : Int)) fun (q2, x3, x4) =>
 if c1 = true then
 if x1 = ((a0.length : Nat) : Int) then
 if (0 : Int) < ((t1.length : Nat) : Int) then
 if ((t1.length : Nat) : Int) ≤ ((a0.length : Nat) : Int) then
 if x4 = (0 : Int) then
 if x3 = ((t1.length : Nat) : Int) then
 bd (M_expr_Text fu q2) fun t2 =>
 if t2 = t1 then
 bd (M_law23_theirs fu q1 (4200 : Int)) fun q3 =>
 bd (M_law23_theirs fu q2 (4200 : Int)) fun q4 =>
 bd (M_ref23_Same fu q3 q4) fun c2 =>
 some c2
 else
 some false
 else
 some false
 else
 some false
 else
 some false
 else
 some false
 else
 some false
 else
 some false
 else
 if c1 = true then
 if Tr.isNil q1 = true then
 if (0 : Int) ≤ x1 then
 nm (max (((a0.length : Nat) : Int)) ((0 : Int))) fun x5 =>
 if x1 ≤ x5 then
 if x1 ≤ (4096 : Int) then
 some true
 else
 some false
 else
 some false
 else
 some false
 else
 some false
 else
 some false
end
section
set_option maxRecDepth 100000
def sL : Code → Code | .seq a _ => a | c => c
def sR : Code → Code | .seq _ b => b | c => c
def sB : Code → Code | .block _ c => c | .loop c => c | c => c
def cT : Code → Code | .cond _ a _ => a | c => c
def cF : Code → Code | .cond _ _ b => b | c => c
def ro : Code → List Oper | .region _ ops _ => ops.toList | _ => []
def rd : Code → Nat | .region i _ _ => i | _ => 0
noncomputable def tB : Code := match Tryd.f10.body with | some c => c | none => .skip
noncomputable def t3 : Code := sL (sB (sR tB))
noncomputable def tc : Code := sR (sB (sR tB))
noncomputable def t5 : Code := sL (cF tc)
noncomputable def tc2 : Code := sR (cF tc)
noncomputable def t67 : Code := cT tc2
theorem tBody : Tryd.f10.body = some (.seq (.region 0 (ro (sL tB)).toArray false) (.block 0 (.seq (.region 3 (ro t3).toArray false) (.cond (.tmp 8) (cT tc) (.seq (.region 5 (ro t5).toArray false) (.cond (.tmp 10) t67 (cF tc2))))))) := by kernel_rfl
def opsK (l : List Oper) : List (Option Tmp × Op × Option (Nat × Bool)) := l.map fun o => (o.dst, o.op, o.guard)
theorem k0 : opsK (ro (sL tB)) = [(some 6, .call ⟨.builtin .recover, #[], #[]⟩, none)] := by kernel_rfl
theorem k3 : opsK (ro t3) = [(some 8, .binOp .eql 20 (.tmp 6) (.const .nilIface) 20, none)] := by kernel_rfl
theorem k5 : opsK (ro t5) = [(some 9, .typeAssert (.tmp 6) 20 33 true, none), (some 10, .extract (.tmp 9) 1, none), (some 11, .extract (.tmp 9) 0, none)] := by kernel_rfl
theorem k4 : cT tc = .region 4 (ro (cT tc)).toArray false := by kernel_rfl
theorem k4' : opsK (ro (cT tc)) = [(some 3, .assign (.tmp 6), none)] := by kernel_rfl
def anT : An := ⟨[], [], [], [(7, [])], [], [], []⟩
noncomputable def cfT : Cf := ⟨tt, [], anT, 9, ex, [], [], [], [], []⟩
noncomputable def o6 : List Oper := ro (sL t67)
noncomputable def o7 : List Oper := ro (sR t67)
theorem k67 : t67 = .seq (.region 6 o6.toArray false) (.region 7 o7.toArray true) := by kernel_rfl
abbrev cx1 : Sg := ⟨0, [(0, 0, .vs 0 .tr), (1, 0, .vs 1 .i), (2, 0, .vs 2 .i)], []⟩
abbrev KE := TypeId × Tr × TypeId × Int × TypeId × Int
def kE (σ : Sg) : Option KE := match fndO σ.ob 0 with
  | some (.var .tr E0 y0) => (match fndO (delo σ.ob 0) 1 with
    | some (.var .i E1 y1) => (match fndO (delo (delo σ.ob 0) 1) 2 with
      | some (.var .i E2 y2) => some (E0, y0, E1, y1, E2, y2)
      | _ => none)
    | _ => none)
  | _ => none
abbrev ob3 (z0 : Tr) (z1 z2 : Int) (E0 E1 E2 : TypeId) : List (Nat × Od) := [(0, .var .tr E0 z0), (1, .var .i E1 z1), (2, .var .i E2 z2)]
theorem tA (x z1 z2 : Int) (z0 : Tr) (E0 E1 E2 : TypeId) : regD cfT cx1 6 o6 false ⟨3, [(11, 0, .d (.w1 .i) x), (0, 0, .vs 0 .tr), (1, 0, .vs 1 .i), (2, 0, .vs 2 .i)], ob3 z0 z1 z2 E0 E1 E2⟩ (fun _ _ => none) (fun σ => regD cfT cx1 7 o7 true σ (fun _ _ => none) kE) = some (E0, Tr.nil, E1, x, E2, 2) := by kernel_rfl
theorem n6 : (o6.all fun o => okDst 14 o.dst) = true := by kernel_rfl
theorem n7 : (o7.all fun o => okDst 14 o.dst) = true := by kernel_rfl
theorem u33 : ∃ fs, Tryd.prog.underlying 33 = some (.struct fs) := by
  obtain ⟨_, _, ⟨fs, h, _⟩, _⟩ := (ttok 33 ⟨.w1 .i, .st 0, 8⟩ (by kernel_rfl)).2.2.2
  exact ⟨fs, h⟩
theorem opsK1 {l : List Oper} {d : Option Tmp} {op : Op} {g : Option (Nat × Bool)} (h : opsK l = [(d, op, g)]) : ∃ o, l = [o] ∧ o.dst = d ∧ o.op = op ∧ o.guard = g := by
  unfold opsK at h
  rcases l with _ | ⟨o, _ | ⟨_, _⟩⟩ <;> simp only [List.map_cons, List.map_nil, List.cons.injEq, Prod.mk.injEq, and_true, reduceCtorEq, and_false] at h
  exact ⟨o, rfl, h.1, h.2.1, h.2.2⟩
theorem opsK3 {l : List Oper} {d d2 d3 : Option Tmp} {op op2 op3 : Op} {g g2 g3 : Option (Nat × Bool)} (h : opsK l = [(d, op, g), (d2, op2, g2), (d3, op3, g3)]) : ∃ o o2 o3, l = [o, o2, o3] ∧ (o.dst = d ∧ o.op = op ∧ o.guard = g) ∧ (o2.dst = d2 ∧ o2.op = op2 ∧ o2.guard = g2) ∧ o3.dst = d3 ∧ o3.op = op3 ∧ o3.guard = g3 := by
  unfold opsK at h
  rcases l with _ | ⟨o, _ | ⟨o2, _ | ⟨o3, _ | ⟨_, _⟩⟩⟩⟩ <;> simp only [List.map_cons, List.map_nil, List.cons.injEq, Prod.mk.injEq, and_true, reduceCtorEq, and_false] at h
  exact ⟨o, o2, o3, rfl, h.1, h.2.1, h.2.2⟩
theorem if20 : Tryd.prog.underlying 20 = some (.interface (Tryd.prog.methodsAt 20)) := by kernel_rfl
theorem wu {ops : Array Oper} {env : Env} {o : Oper} (h : o.guard = none) : wantedE ops env o = true := by unfold wantedE; rw [h]
section
variable {we : World} {Se : Nat → Prop} {F : List MF} {G : List FF} {env : Env}
abbrev QT (we : World) (Se : Nat → Prop) (F : List MF) (G : List FF) : Qs := fun e _ w => e = .normal ∧ St we Se F G w
theorem rest_nil (h5 : env 6 = .nilIface) : T Tryd.prog (Nd.of 14) we Se F G (.block 0 (.seq (.region 3 (ro t3).toArray false) (.cond (.tmp 8) (cT tc) (.seq (.region 5 (ro t5).toArray false) (.cond (.tmp 10) t67 (cF tc2)))))) (QT we Se F G) env := by
  refine T_block (T_seq ?_)
  obtain ⟨o, hl, hd, hop, hg⟩ := opsK1 k3
  rw [hl]
  refine T_region (TL_op (wu hg) (by rw [hd]; rfl) fun w hw => OpR.of_value (v := .bool true) (w' := w) ?_ ?_)
  · simp [execOp, hop, ev, h5, eqGuard, run_eql_nil_nil (w := w) 20 if20]
  · refine TL_then ?_ w hw
    rw [hd]
    refine T_cond_true rfl ?_
    rw [k4]
    obtain ⟨o, hl, hd, hop, hg⟩ := opsK1 k4'
    rw [hl]
    refine T_region (TL_op (wu hg) (by rw [hd]; rfl) fun w hw => OpR.of_value (w' := w) (by simp [execOp, hop]; rfl) ?_)
    exact TL_nil (fun w hw => ⟨rfl, hw⟩) w hw
theorem rest67 {v0 v1 v2 : Value} {E0 E1 E2 : TypeId} {z0 : Tr} {x z1 z2 : Int} (h0 : env 0 = v0) (h1 : env 1 = v1) (h2 : env 2 = v2) (hx : InR x) (h10 : env 11 = .agg #[.int .i64 x]) {w : World} (hw : St we Se (mP (Ty.tr).rep.c E0 v0 z0 :: mP (Ty.i).rep.c E1 v1 z1 :: mP (Ty.i).rep.c E2 v2 z2 :: F) G w) : Wp Tryd.prog (Nd.of 14) t67 (QT we Se (mP (Ty.tr).rep.c E0 v0 Tr.nil :: mP (Ty.i).rep.c E1 v1 x :: mP (Ty.i).rep.c E2 v2 (2 : Int) :: F) G) env w := by
  have hC : ∀ s ∈ cfT.cs, SigOK Tryd.prog s := fun _ h => absurd h List.not_mem_nil
  have hX : XOK Tryd.prog cfT := .of exok rfl
  obtain ⟨b0, hv0, _⟩ := hw.openP 0 rfl
  obtain ⟨b1, hv1, _⟩ := hw.openP 1 rfl
  obtain ⟨b2, hv2, _⟩ := hw.openP 2 rfl
  have hR : Rel Tryd.prog ⟨we, Se, F, G⟩ cx1 ⟨3, [(11, 0, .d (.w1 .i) x), (0, 0, .vs 0 .tr), (1, 0, .vs 1 .i), (2, 0, .vs 2 .i)], ob3 z0 z1 z2 E0 E1 E2⟩ env w := by
    refine ⟨⟨fun e he => ?_, fun _ h => absurd h List.not_mem_nil, fun e he o ho => ?_, fun e he o ho => ?_⟩, fun o => if o = 0 then v0 else if o = 1 then v1 else v2, ?_⟩
    · simp only [ob3, List.mem_cons, List.not_mem_nil, or_false] at he
      rcases he with rfl | rfl | rfl
      · exact (by decide : (0 : Nat) < 3)
      · exact (by decide : (1 : Nat) < 3)
      · exact (by decide : (2 : Nat) < 3)
    · simp only [List.mem_cons, List.not_mem_nil, or_false] at he
      rcases he with rfl | rfl | rfl | rfl
      · cases ho
      · cases ho; exact (by decide : (0 : Nat) < 3)
      · cases ho; exact (by decide : (1 : Nat) < 3)
      · cases ho; exact (by decide : (2 : Nat) < 3)
    · simp only [cx1, List.mem_cons, List.not_mem_nil, or_false] at he
      rcases he with rfl | rfl | rfl
      · cases ho; exact (by decide : (0 : Nat) < 3)
      · cases ho; exact (by decide : (1 : Nat) < 3)
      · cases ho; exact (by decide : (2 : Nat) < 3)
    refine hw.weak fun S w ha => ⟨?_, ⟨h0, b0, hv0⟩, ⟨h1, b1, hv1⟩, ⟨h2, b2, hv2⟩, ?_, ?_, ?_, ha⟩
    · show (fV (eW eI) x (env 11)).p S w
      rw [h10]; exact ⟨[.int .i64 x], rfl, rfl, hx.1, hx.2⟩
    · exact ⟨h0, b0, hv0⟩
    · exact ⟨h1, b1, hv1⟩
    · exact ⟨h2, b2, hv2⟩
  rw [k67]
  intro a g1 g2 g3
  refine wpIn_seq (wpIn_mono (region_s (N := Nd.of 14) (Q := fun e env w => e = .normal ∧ Wp Tryd.prog (Nd.of 14) (.region 7 o7.toArray true) (QT we Se (mP (Ty.tr).rep.c E0 v0 Tr.nil :: mP (Ty.i).rep.c E1 v1 x :: mP (Ty.i).rep.c E2 v2 (2 : Int) :: F) G) env w) mord ttok elok hC hX (fun _ _ h => by cases h) (fun σ1 hk env1 w1 hs1 hR1 => ⟨rfl, ?_⟩) n6 (tA x z1 z2 z0 E0 E1 E2) hR a g1 g2 g3) ?_)
  · refine region_s (N := Nd.of 14) mord ttok elok hC hX (fun _ _ h => by cases h) (fun σ2 hk2 env2 w2 hs2 hR2 => ⟨rfl, ?_⟩) n7 hk hR1
    unfold kE at hk2
    split at hk2
    · next E0' y0 ho0 =>
      split at hk2
      · next E1' y1 ho1 =>
        split at hk2
        · next E2' y2 ho2 =>
          cases hk2
          obtain ⟨hB, vs, hst⟩ := hR2
          have hst2 : St we Se ([mP (Ty.tr).rep.c E0 (vs 0) Tr.nil, mP (Ty.i).rep.c E1 (vs 1) x, mP (Ty.i).rep.c E2 (vs 2) (2 : Int)] ++ (MS vs (delo (delo (delo σ2.ob 0) 1) 2) ++ F)) (RS Tryd.prog vs env2 σ2.rg ++ (RS Tryd.prog vs env2 cx1.rg ++ G)) w2 := hst.perm ((os_perm ho0).trans (((os_perm ho1).trans ((os_perm ho2).cons _)).cons _))
          obtain ⟨S, _, hΓ⟩ := hst2.ex
          have hc := All.left (All.right (Γ := RS Tryd.prog vs env2 σ2.rg) hΓ)
          have e0 : vs 0 = v0 := (hc.1.1).symm.trans (((hs2 _ (List.mem_cons_self ..)).trans (hs1 _ (List.mem_cons_self ..))).trans h0)
          have e1 : vs 1 = v1 := (hc.2.1.1).symm.trans (((hs2 (1, 0, .vs 1 .i) (by simp [cx1])).trans (hs1 (1, 0, .vs 1 .i) (by simp [cx1]))).trans h1)
          have e2 : vs 2 = v2 := (hc.2.2.1.1).symm.trans (((hs2 (2, 0, .vs 2 .i) (by simp [cx1])).trans (hs1 (2, 0, .vs 2 .i) (by simp [cx1]))).trans h2)
          rw [e0, e1, e2] at hst2
          exact (St.dropM hst2).weak fun S w ha => All.right (All.right ha)
        · cases hk2
      · cases hk2
    · cases hk2
  · rintro e a' w' ⟨q1, q2, rfl, q3⟩
    exact q3 a' q1 q2 rfl
theorem rest_pan {v0 v1 v2 : Value} {E0 E1 E2 : TypeId} {z0 : Tr} {x z1 z2 : Int} (h0 : env 0 = v0) (h1 : env 1 = v1) (h2 : env 2 = v2) (hx : InR x) (h5 : env 6 = .iface 33 (.agg #[.int .i64 x])) : T Tryd.prog (Nd.of 14) we Se (mP (Ty.tr).rep.c E0 v0 z0 :: mP (Ty.i).rep.c E1 v1 z1 :: mP (Ty.i).rep.c E2 v2 z2 :: F) G (.block 0 (.seq (.region 3 (ro t3).toArray false) (.cond (.tmp 8) (cT tc) (.seq (.region 5 (ro t5).toArray false) (.cond (.tmp 10) t67 (cF tc2)))))) (QT we Se (mP (Ty.tr).rep.c E0 v0 Tr.nil :: mP (Ty.i).rep.c E1 v1 x :: mP (Ty.i).rep.c E2 v2 (2 : Int) :: F) G) env := by
  refine T_block (T_seq ?_)
  obtain ⟨o, hl, hd, hop, hg⟩ := opsK1 k3
  rw [hl]
  refine T_region (TL_op (wu hg) (by rw [hd]; rfl) fun w hw => OpR.of_value (v := .bool false) (w' := w) ?_ ?_)
  · simp [execOp, hop, ev, h5, eqGuard, run_eql_held_nil (w := w) 20 33 _ if20]
  · refine TL_then ?_ w hw
    rw [hd]
    refine T_cond_false rfl (T_seq ?_)
    obtain ⟨o1, o2, o3, hl, ⟨hd1, hop1, hg1⟩, ⟨hd2, hop2, hg2⟩, hd3, hop3, hg3⟩ := opsK3 k5
    obtain ⟨fs, hu⟩ := u33
    rw [hl]
    have e5 : put env (some 8) (.bool false) 6 = .iface 33 (.agg #[.int .i64 x]) := h5
    refine T_region (TL_op (wu hg1) (by rw [hd1]; rfl) fun w hw => OpR.of_value (v := .tuple #[.agg #[.int .i64 x], .bool true]) (w' := w) (by simp [execOp, hop1, ev, e5, Instr.typeAssert, run_underlying hu]) ?_)
    rw [hd1]
    refine TL_op (wu hg2) (by rw [hd2]; rfl) (fun w hw => OpR.of_value (v := .bool true) (w' := w) (by simp [execOp, hop2, ev, Instr.extract, put, L]) ?_) w hw
    rw [hd2]
    have e8 : put (put (put env (some 8) (.bool false)) (some 9) (.tuple #[.agg #[.int .i64 x], .bool true])) (some 10) (.bool true) 9 = .tuple #[.agg #[.int .i64 x], .bool true] := rfl
    refine TL_op (wu hg3) (by rw [hd3]; rfl) (fun w hw => OpR.of_value (v := .agg #[.int .i64 x]) (w' := w) (by simp [execOp, hop3, ev, e8, Instr.extract]) ?_) w hw
    rw [hd3]
    refine TL_then ?_ w hw
    refine T_cond_true rfl ?_
    intro w hw a g1 g2 g3
    refine wpIn_mono (rest67 (env := envOf a) (by rw [g3]; exact h0) (by rw [g3]; exact h1) (by rw [g3]; exact h2) hx (by rw [g3]; rfl) hw a g1 g2 rfl) ?_
    rintro e a' w' ⟨q1, q2, rfl, q3⟩
    exact ⟨q1, q2, rfl, q3⟩
end
theorem told_run {o : Oper} (hop : o.op = .call ⟨.builtin .recover, #[], #[]⟩) (a : Act) (w : World) : (execOp a.eval o).run Tryd.prog w = .ok .recover w := by simp [execOp, hop, resolve, invoke, builtin]
theorem told_act {u v w y : Value} {a : Act} (ha : a = (⟨#[u, v, w] ++ Array.replicate (14 - #[u, v, w].size) undef, []⟩ : Act).put (some 6) y) : a.tmps.size = 14 ∧ a.defers = [] ∧ envOf a 6 = y ∧ envOf a 0 = u ∧ envOf a 1 = v ∧ envOf a 2 = w := by
  subst ha
  refine ⟨by simp [Act.put], rfl, ?_, ?_, ?_, ?_⟩ <;> simp [Act.put, envOf]
theorem hok_expr_Parse_1 : HOC Tryd.prog 10 33 2 := by
  have hn : Tryd.f10.ntmps = 14 := by kernel_rfl
  have hr0 : Tryd.f10.results = #[] := by kernel_rfl
  have hres : ∀ (a : Act) (w : World), (results Tryd.f10 a.tmps).run Tryd.prog w = .ok (.tuple #[]) w := fun a w => by simp [results]
  obtain ⟨o, hl, hd, hop, hg⟩ := opsK1 k0
  refine ⟨by kernel_rfl, fun v0 v1 v2 we Se F G w hst => ?_, fun v0 v1 v2 E0 E1 E2 z0 z1 z2 x we Se F G w hx hst => ?_⟩
  · refine callsDIn_of_wpSIn (n := 0) Tryd.func10 tBody trivial fun c₀ cs hu => wpSIn_seq ?_
    rw [hl]
    refine wpSIn_region ?_
    have hrec : recoverD (c₀ :: cs) = none := by simp [recoverD, hu]
    show wpOpsSIn _ _ _ [o].toArray _ [0] _ _ _
    unfold wpOpsSIn
    simp only [List.getElem?_toArray, List.getElem?_cons_zero]
    refine ⟨fun _ _ => trivial, ?_⟩
    rw [if_pos (by simp [Region.wanted, hg]), told_run hop]
    simp only [hrec, hd, hn]
    unfold wpOpsSIn
    generalize ha : Act.put _ _ _ = a
    obtain ⟨h1, h2, h5, h00, h01, h02⟩ := told_act ha.symm
    refine wpSIn_of_wpIn rfl ?_
    refine wpIn_mono (rest_nil (F := F) (G := G) (we := we) (Se := Se) (env := envOf a) h5 w hst a h1 h2 rfl) ?_
    rintro e a' w' ⟨q1, q2, rfl, q3⟩
    exact ⟨q2, _, by rw [← hu], _, hres _ _, ⟨_, rfl⟩, rfl, q3⟩
  · refine callsDIn_of_wpSIn (n := 0) Tryd.func10 tBody trivial fun c₀ cs hu => wpSIn_seq ?_
    rw [hl]
    refine wpSIn_region ?_
    have hrec : recoverD (c₀ :: cs) = some (.iface 33 (.agg #[.int .i64 x]), { c₀ with mode := .panicking [{ v := .iface 33 (.agg #[.int .i64 x]), recovered := true }] } :: cs) := by simp [recoverD, hu, chOf]
    show wpOpsSIn _ _ _ [o].toArray _ [0] _ _ _
    unfold wpOpsSIn
    simp only [List.getElem?_toArray, List.getElem?_cons_zero]
    refine ⟨fun _ _ => trivial, ?_⟩
    rw [if_pos (by simp [Region.wanted, hg]), told_run hop]
    simp only [hrec, hd, hn]
    unfold wpOpsSIn
    generalize ha : Act.put _ _ _ = a
    obtain ⟨h1, h2, h5, h00, h01, h02⟩ := told_act ha.symm
    refine wpSIn_of_wpIn rfl ?_
    refine wpIn_mono (rest_pan (F := F) (G := G) (we := we) (Se := Se) (env := envOf a) h00 h01 h02 hx h5 w hst a h1 h2 rfl) ?_
    rintro e a' w' ⟨q1, q2, rfl, q3⟩
    exact ⟨q2, _, rfl, _, hres _ _, ⟨_, rfl⟩, rfl, q3⟩
end
section
set_option maxRecDepth 100000
def s_expr_parser_next_io (fu : Nat) : Sig := ⟨12, [.var (.p .tx (.p .i (.p .i .i))) 36], [.d .ch, .d .b, .var (.p .tx (.p .i (.p .i .i))) 36], fun x => M_expr_parser_next_io fu x.1, 1⟩
theorem g_expr_parser_next_io (fu : Nat) : SigOK Tryd.prog (s_expr_parser_next_io fu) := sgb (fu := fu) ⟨[], [], [(1, ⟨⟨[(0, .var (.p .tx (.p .i (.p .i .i))) 36)], []⟩, ⟨[], [(.x 0, ⟨[(0, .var (.p .tx (.p .i (.p .i .i))) 36)], []⟩)]⟩⟩)], [], [], [], []⟩ Tryd.func12 (cN) (by kernel_rfl) fun pn x => by kernel_rfl
def s_expr_parser_digits_io (fu : Nat) : PSig := ⟨⟨32, [.var (.p .tx (.p .i (.p .i .i))) 36], [.d .tx, .var (.p .tx (.p .i (.p .i .i))) 36], fun _ => none, 1⟩, fun x => M_expr_parser_digits_io fu x.1⟩
theorem g_expr_parser_digits_io (fu : Nat) : POK Tryd.prog (s_expr_parser_digits_io fu) := gQ (fu := fu) ⟨[], [(262149, ⟨[], [(.n, ⟨[(3, .d .i), (24, .d .tx), (28, .d .i), (29, .d .ch), (36, .d .tx), (40, .d .i), (41, .d .ch), (48, .d .i), (49, .d .i), (50, .d .b), (51, .d .b), (0, .var (.p .tx (.p .i (.p .i .i))) 36)], [(21, .al 0), (22, .al 0), (25, .al 0), (26, .al 0), (30, .kb true), (33, .al 0), (34, .al 0), (37, .al 0), (38, .al 0), (42, .kb true), (45, .al 0), (46, .al 0), (59, .kb true)]⟩), (.x 0, ⟨[(3, .d .i), (0, .var (.p .tx (.p .i (.p .i .i))) 36)], []⟩)]⟩)], [(3, ⟨⟨[(0, .var (.p .tx (.p .i (.p .i .i))) 36)], []⟩, ⟨[], [(.x 0, ⟨[(0, .var (.p .tx (.p .i (.p .i .i))) 36)], []⟩)]⟩⟩)], [], [], [], []⟩ Tryd.func32 (cC (g_expr_parser_next_io fu) <| cN) (pN) (vN) (by kernel_rfl) fun pn x => by kernel_rfl
def s_nat_at (fu : Nat) : Sig := ⟨61, [.d (.l .u), .d .i], [.d .u], fun x => M_nat_at fu x.1 x.2.1, 0⟩
theorem g_nat_at (fu : Nat) : SigOK Tryd.prog (s_nat_at fu) := sg (fu := fu) ⟨[], [], [], [], [], [], []⟩ Tryd.func61 (cN) (by kernel_rfl) fun x => by kernel_rfl
def s_nat_Add_1 (fu : Nat) : Sig := ⟨59, [.d .i, .d .u, .q (.l .u), .q (.l .u)], [.d .u, .d .u], fun x => M_nat_Add_1 fu x.1 x.2.1 x.2.2.1 x.2.2.2.1, 0⟩
theorem g_nat_Add_1 (fu : Nat) : SigOK Tryd.prog (s_nat_Add_1 fu) := sg (fu := fu) ⟨[], [], [], [], [], [], []⟩ Tryd.func59 (cC (g_nat_at fu) <| cN) (by kernel_rfl) fun x => by kernel_rfl
def s_nat_carried (fu : Nat) : Sig := ⟨58, [.d .i, .fn [.i, .u] [.u, .u]], [.own .u 57, .d .u], fun x => M_nat_carried fu x.1 (fun z0 z1 => x.2.1 (z0, z1, ())), 0⟩
theorem g_nat_carried (fu : Nat) : SigOK Tryd.prog (s_nat_carried fu) := sg (fu := fu) ⟨[], [], [(4, ⟨⟨[(7, .d .u), (13, .d .i), (6, .own .u 57)], []⟩, ⟨[], [(.x 0, ⟨[(7, .d .u), (6, .own .u 57)], []⟩)]⟩⟩)], [], [], [], []⟩ Tryd.func58 (cN) (by kernel_rfl) fun x => by kernel_rfl
def s_nat_plain (fu : Nat) : Sig := ⟨33, [.d (.l .u)], [.d (.l .u)], fun x => M_nat_plain fu x.1, 0⟩
theorem g_nat_plain (fu : Nat) : SigOK Tryd.prog (s_nat_plain fu) := sg (fu := fu) ⟨[], [], [(1, ⟨⟨[(0, .d (.l .u))], []⟩, ⟨[], [(.x 0, ⟨[(0, .d (.l .u))], []⟩)]⟩⟩)], [], [], [], []⟩ Tryd.func33 (cN) (by kernel_rfl) fun x => by kernel_rfl
def s_nat_plain_own (fu : Nat) : Sig := ⟨33, [.own .u 57], [.own .u 57], fun x => M_nat_plain_own fu x.1, 0⟩
theorem g_nat_plain_own (fu : Nat) : SigOK Tryd.prog (s_nat_plain_own fu) := sg (fu := fu) ⟨[], [], [(1, ⟨⟨[(0, .own .u 57)], []⟩, ⟨[], [(.x 0, ⟨[(0, .own .u 57)], []⟩)]⟩⟩)], [], [], [], []⟩ Tryd.func33 (cN) (by kernel_rfl) fun x => by kernel_rfl
def s_nat_Add (fu : Nat) : Sig := ⟨41, [.d (.l .u), .d (.l .u)], [.own .u 57], fun x => M_nat_Add fu x.1 x.2.1, 0⟩
theorem g_nat_Add (fu : Nat) : SigOK Tryd.prog (s_nat_Add fu) := sg (fu := fu) ⟨[], [], [], [], [], [], []⟩ Tryd.func41 (cC (g_nat_plain_own fu) <| cC (g_nat_plain fu) <| cC (g_nat_carried fu) <| cC (g_nat_Add_1 fu) <| cN) (by kernel_rfl) fun x => by kernel_rfl
def s_math_bits_Mul64 (fu : Nat) : Sig := ⟨63, [.d .u, .d .u], [.d .u, .d .u], fun x => M_math_bits_Mul64 fu x.1 x.2.1, 0⟩
theorem g_math_bits_Mul64 (fu : Nat) : SigOK Tryd.prog (s_math_bits_Mul64 fu) := sg (fu := fu) ⟨[], [], [], [], [], [], []⟩ Tryd.func63 (cN) (by kernel_rfl) fun x => by kernel_rfl
def s_nat_row_1 (fu : Nat) : Sig := ⟨62, [.d .i, .d .u, .q (.l .u), .q .u], [.d .u, .d .u], fun x => M_nat_row_1 fu x.1 x.2.1 x.2.2.1 x.2.2.2.1, 0⟩
theorem g_nat_row_1 (fu : Nat) : SigOK Tryd.prog (s_nat_row_1 fu) := sg (fu := fu) ⟨[], [], [], [], [], [], []⟩ Tryd.func62 (cC (g_math_bits_Mul64 fu) <| cN) (by kernel_rfl) fun x => by kernel_rfl
def s_nat_row (fu : Nat) : Sig := ⟨42, [.d (.l .u), .d .u], [.own .u 57], fun x => M_nat_row fu x.1 x.2.1, 0⟩
theorem g_nat_row (fu : Nat) : SigOK Tryd.prog (s_nat_row fu) := sg (fu := fu) ⟨[], [], [], [], [], [], []⟩ Tryd.func42 (cC (g_nat_carried fu) <| cC (g_nat_row_1 fu) <| cN) (by kernel_rfl) fun x => by kernel_rfl
def s_nat_Parse (fu : Nat) : Sig := ⟨31, [.d .tx], [.own .u 57, .d .i], fun x => M_nat_Parse fu x.1, 0⟩
theorem g_nat_Parse (fu : Nat) : SigOK Tryd.prog (s_nat_Parse fu) := sg (fu := fu) ⟨[], [(131076, ⟨[], [(.n, ⟨[], []⟩), (.r, ⟨[], [(2, .nil), (3, .ci 2)]⟩)]⟩), (393223, ⟨[4], [(.n, ⟨[(26, .d (.l .ch)), (27, .d .i), (29, .d .b)], []⟩)]⟩)], [(5, ⟨⟨[(4, .own .u 57), (28, .d .i)], []⟩, ⟨[], [(.x 0, ⟨[(4, .own .u 57)], []⟩), (.r, ⟨[], [(2, .nil), (3, .ci 2)]⟩)]⟩⟩)], [], [], [], []⟩ Tryd.func31 (cC (g_nat_Add fu) <| cC (g_nat_row fu) <| cN) (by kernel_rfl) fun x => by kernel_rfl
def s_expr_parser_number_io (fu : Nat) : PSig := ⟨⟨24, [.var (.p .tx (.p .i (.p .i .i))) 36], [.d (.l .u), .var (.p .tx (.p .i (.p .i .i))) 36], fun _ => none, 1⟩, fun x => M_expr_parser_number_io fu x.1⟩
theorem g_expr_parser_number_io (fu : Nat) : POK Tryd.prog (s_expr_parser_number_io fu) := gQ (fu := fu) ⟨[], [], [], [], [], [], []⟩ Tryd.func24 (cC (g_nat_Parse fu) <| cN) (pC (g_expr_parser_digits_io fu) <| pN) (vN) (by kernel_rfl) fun pn x => by kernel_rfl
def s_strings_Contains (fu : Nat) : Sig := ⟨22, [.d .tx, .d .tx], [.d .b], fun x => M_strings_Contains fu x.1 x.2.1, 0⟩
theorem g_strings_Contains (fu : Nat) : SigOK Tryd.prog (s_strings_Contains fu) := sig_strings_Contains
def s_expr_parser_take_io (fu : Nat) : Sig := ⟨15, [.var (.p .tx (.p .i (.p .i .i))) 36, .d .tx], [.d .ch, .d .b, .var (.p .tx (.p .i (.p .i .i))) 36], fun x => M_expr_parser_take_io fu x.1 x.2.1, 1⟩
theorem g_expr_parser_take_io (fu : Nat) : SigOK Tryd.prog (s_expr_parser_take_io fu) := sgb (fu := fu) ⟨[], [], [], [], [], [], []⟩ Tryd.func15 (cC (g_expr_parser_next_io fu) <| cC (g_strings_Contains fu) <| cN) (by kernel_rfl) fun pn x => by kernel_rfl
def r_expr_parser_sum_io (R : ((List Nat) × (Int × (Int × Int))) → Option (PX ⊕ (Tr × ((List Nat) × (Int × (Int × Int)))))) : PSig := ⟨⟨11, [.var (.p .tx (.p .i (.p .i .i))) 36], [.d .tr, .var (.p .tx (.p .i (.p .i .i))) 36], fun _ => none, 1⟩, fun x => R x.1⟩
def s_expr_parser_atom_io (R : ((List Nat) × (Int × (Int × Int))) → Option (PX ⊕ (Tr × ((List Nat) × (Int × (Int × Int)))))) (fu : Nat) : PSig := ⟨⟨29, [.var (.p .tx (.p .i (.p .i .i))) 36], [.d .tr, .var (.p .tx (.p .i (.p .i .i))) 36], fun _ => none, 1⟩, fun x => M_expr_parser_atom_io R fu x.1⟩
theorem g_expr_parser_atom_io (R : ((List Nat) × (Int × (Int × Int))) → Option (PX ⊕ (Tr × ((List Nat) × (Int × (Int × Int)))))) (hR : POK Tryd.prog (r_expr_parser_sum_io R)) (fu : Nat) : POK Tryd.prog (s_expr_parser_atom_io R fu) := gQ (fu := fu) ⟨[], [(196612, ⟨[0], [(.n, ⟨[(13, .d .b)], []⟩)]⟩), (327686, ⟨[0], [(.n, ⟨[(27, .d .b)], []⟩)]⟩)], [], [], [], [], []⟩ Tryd.func29 (cC (g_expr_parser_next_io fu) <| cC (g_expr_parser_take_io fu) <| cN) (pC (g_expr_parser_number_io fu) <| pC hR <| pN) (vN) (by kernel_rfl) fun pn x => by kernel_rfl
def s_strconv_Atoi (fu : Nat) : Sig := ⟨40, [.d .tx], [.d .i, .d .er], fun x => M_strconv_Atoi fu x.1, 0⟩
theorem g_strconv_Atoi (fu : Nat) : SigOK Tryd.prog (s_strconv_Atoi fu) := sig_strconv_Atoi
def s_expr_parser_exponent_io (fu : Nat) : PSig := ⟨⟨30, [.var (.p .tx (.p .i (.p .i .i))) 36], [.d .i, .var (.p .tx (.p .i (.p .i .i))) 36], fun _ => none, 1⟩, fun x => M_expr_parser_exponent_io fu x.1⟩
theorem g_expr_parser_exponent_io (fu : Nat) : POK Tryd.prog (s_expr_parser_exponent_io fu) := gQ (fu := fu) ⟨[], [], [], [], [], [], []⟩ Tryd.func30 (cC (g_strconv_Atoi fu) <| cC (g_expr_parser_next_io fu) <| cN) (pC (g_expr_parser_digits_io fu) <| pN) (vN) (by kernel_rfl) fun pn x => by kernel_rfl
def s_expr_parser_power_io (R : ((List Nat) × (Int × (Int × Int))) → Option (PX ⊕ (Tr × ((List Nat) × (Int × (Int × Int)))))) (fu : Nat) : PSig := ⟨⟨23, [.var (.p .tx (.p .i (.p .i .i))) 36], [.d .tr, .var (.p .tx (.p .i (.p .i .i))) 36], fun _ => none, 1⟩, fun x => M_expr_parser_power_io R fu x.1⟩
theorem g_expr_parser_power_io (R : ((List Nat) × (Int × (Int × Int))) → Option (PX ⊕ (Tr × ((List Nat) × (Int × (Int × Int)))))) (hR : POK Tryd.prog (r_expr_parser_sum_io R)) (fu : Nat) : POK Tryd.prog (s_expr_parser_power_io R fu) := gQ (fu := fu) ⟨[], [], [], [], [], [], []⟩ Tryd.func23 (cC (g_expr_parser_take_io fu) <| cN) (pC (g_expr_parser_atom_io R hR fu) <| pC (g_expr_parser_exponent_io fu) <| pN) (vN) (by kernel_rfl) fun pn x => by kernel_rfl
def s_expr_parser_product_io (R : ((List Nat) × (Int × (Int × Int))) → Option (PX ⊕ (Tr × ((List Nat) × (Int × (Int × Int)))))) (fu : Nat) : PSig := ⟨⟨16, [.var (.p .tx (.p .i (.p .i .i))) 36], [.d .tr, .var (.p .tx (.p .i (.p .i .i))) 36], fun _ => none, 1⟩, fun x => M_expr_parser_product_io R fu x.1⟩
theorem g_expr_parser_product_io (R : ((List Nat) × (Int × (Int × Int))) → Option (PX ⊕ (Tr × ((List Nat) × (Int × (Int × Int)))))) (hR : POK Tryd.prog (r_expr_parser_sum_io R)) (fu : Nat) : POK Tryd.prog (s_expr_parser_product_io R fu) := gQ (fu := fu) ⟨[], [], [(2, ⟨⟨[(3, .d .tr), (0, .var (.p .tx (.p .i (.p .i .i))) 36)], []⟩, ⟨[], [(.r, ⟨[(2, .d .tr), (0, .var (.p .tx (.p .i (.p .i .i))) 36)], []⟩), (.p (0, 0), ⟨[], []⟩)]⟩⟩)], [], [], [], []⟩ Tryd.func16 (cC (g_expr_parser_take_io fu) <| cN) (pC (g_expr_parser_number_io fu) <| pC (g_expr_parser_power_io R hR fu) <| pN) (vN) (by kernel_rfl) fun pn x => by kernel_rfl
def s_expr_parser_sum_io (fu : Nat) : PSig := r_expr_parser_sum_io (M_expr_parser_sum_io fu)
theorem g_expr_parser_sum_io : ∀ fu : Nat, POK Tryd.prog (s_expr_parser_sum_io fu)
  | 0 => pg0 (by kernel_rfl) fun _ => rfl
  | fu + 1 => gQ (fu := fu) ⟨[], [(196615, ⟨[], [(.n, ⟨[(3, .d .tr), (0, .var (.p .tx (.p .i (.p .i .i))) 36)], []⟩), (.p (0, 0), ⟨[], []⟩)]⟩)], [(7, ⟨⟨[(3, .d .tr), (6, .d .ch), (7, .d .b), (0, .var (.p .tx (.p .i (.p .i .i))) 36)], []⟩, ⟨[], [(.x 0, ⟨[(3, .d .tr), (0, .var (.p .tx (.p .i (.p .i .i))) 36)], []⟩), (.p (0, 0), ⟨[], []⟩)]⟩⟩)], [], [], [], []⟩ Tryd.func11 (cC (g_expr_parser_take_io fu) <| cN) (pC (g_expr_parser_product_io (M_expr_parser_sum_io fu) (g_expr_parser_sum_io fu) fu) <| pN) (vN) (by kernel_rfl) fun pn x => by kernel_rfl
def s_expr_Parse (fu : Nat) : Sig := ⟨6, [.d .tx, .d .i], [.d .tr, .d .i, .d .i], fun x => M_expr_Parse fu x.1 x.2.1, 0⟩
theorem g_expr_Parse (fu : Nat) : SigOK Tryd.prog (s_expr_Parse fu) := sgc (fu := fu) ⟨[23], [(131075, ⟨[4, 5, 6], [(.n, ⟨[(8, .d .b)], []⟩)]⟩)], [], [], [], [], []⟩ hok_expr_Parse_1 Tryd.func6 (cC (g_expr_parser_next_io fu) <| cN) (pC (g_expr_parser_sum_io fu) <| pN) (vN) (by kernel_rfl) fun x => by kernel_rfl
def s_expr_writer_put_vr (fu : Nat) : VSig := ⟨19, (.p (.l .ch) (.p .i (.p .i .b))), 43, .ch, 5, 4, 0, [.tx], fun z ys x => M_expr_writer_put_vr fu z ys x.1⟩
theorem g_expr_writer_put_vr (fu : Nat) : VOK Tryd.prog (s_expr_writer_put_vr fu) := gV (fu := fu) ⟨[], [], [], [], [22], [], []⟩ Tryd.func19 (cN) (pN) (vN) (by kernel_rfl) fun pn z ys x => by kernel_rfl
def s_slices_Reverse_byte_byte_io (fu : Nat) : Sig := ⟨44, [.own .ch 5], [.own .ch 5], fun x => M_slices_Reverse_byte_byte_io fu x.1, 1⟩
theorem g_slices_Reverse_byte_byte_io (fu : Nat) : SigOK Tryd.prog (s_slices_Reverse_byte_byte_io fu) := sgb (fu := fu) ⟨[], [], [(1, ⟨⟨[(2, .d .i), (3, .d .i), (0, .own .ch 5)], []⟩, ⟨[], [(.x 0, ⟨[(0, .own .ch 5)], []⟩)]⟩⟩)], [(3, [])], [], [], []⟩ Tryd.func44 (cN) (by kernel_rfl) fun pn x => by kernel_rfl
def s_nat_digits (fu : Nat) : Sig := ⟨35, [.d .u, .d .b], [.d .tx], fun x => M_nat_digits fu x.1 x.2.1, 0⟩
theorem g_nat_digits (fu : Nat) : SigOK Tryd.prog (s_nat_digits fu) := sg (fu := fu) ⟨[], [], [(2, ⟨⟨[(0, .d .u), (5, .own .ch 5)], []⟩, ⟨[], [(.x 0, ⟨[(5, .own .ch 5)], []⟩)]⟩⟩)], [], [], [], []⟩ Tryd.func35 (cC (g_slices_Reverse_byte_byte_io fu) <| cN) (by kernel_rfl) fun x => by kernel_rfl
def s_math_bits_Len64 (fu : Nat) : Sig := ⟨68, [.d .u], [.d .i], fun x => M_math_bits_Len64 fu x.1, 0⟩
set_option maxRecDepth 100000 in
set_option maxHeartbeats 1000000 in
theorem c_math_bits_Len64 (fu : Nat) (a0 : Nat) (qa0 : InU a0) (r0 : Int) (H : M_math_bits_Len64 fu a0 = some r0) : Fn Tryd.prog 68 [uv a0].toArray [] (fun _ : Unit => iv (r0)) (fun _ => []) (fun _ => InR r0) := by
 unfold M_math_bits_Len64 at H
 refine Fn_intro Tryd.func68 rfl rfl fun we Se rest => T_seq <| T_region <| TL_ad 1 [(2, iv 0)] rfl <| TL_nil <| T_seq ?_
 obtain ⟨s1, hL, Hc⟩ := bd_s H
 refine T_X [(.n, JQ we Se (G := Nat × Int) (fun (d1, i1) => (⟨[], [], [(0, uv d1), (2, iv (i1))]⟩ : Inv)) (fun (d1, i1) => (d1, i1) = s1 ∧ InU d1 ∧ InR i1))] ?_ ⟨?_, trivial⟩
 ·replace H := hL
  refine T_seq <| T_region <| TL_ad 1 [(3, uv a0)] rfl <| TL_geq rfl rfl rfl rfl (fun h1 => ?_) (fun h1 => ?_)
  ·replace H := if_t h1 H
   refine TL_nil <| T_cond_true rfl <| T_seq <| T_region <| TL_ad 1 [(5, uv a0)] rfl ?_
   obtain ⟨m1, hm1, H⟩ := nm_s H
   refine TL_val rfl rfl (r_shr (c := ((m1 : Nat) : Int)) rfl rfl (Int.natCast_nonneg _) (wu_y hm1 (n_shr_u (a := a0)))) <| TL_ad 1 [(0, uv m1)] rfl <| TL_nil <| T_region <| TL_ad 1 [(2, iv 32)] rfl <| TL_nil ?_
   exact JQ_mk (m1, 32) (And.intro (Option.some.inj H) (And.intro (udiv_r qa0 hm1) (show InR (32) by decide))) rfl (fun w h => St.weak h (fun S w h => trivial))
  replace H := if_f h1 H
  refine TL_nil <| T_cond_false rfl <| T_skip ?_
  exact JQ_mk (a0, 0) (And.intro (Option.some.inj H) (And.intro qa0 (show InR (0) by decide))) rfl (fun w h => St.weak h (fun S w h => trivial))
 refine JQ_el' ?_
 rintro ⟨d1, i1⟩ ⟨hs, hr1, hr2⟩ rest
 subst hs
 replace H := Hc
 clear hL
 refine JG_to rfl <| T_seq ?_
 obtain ⟨s2, hL, Hc⟩ := bd_s H
 refine T_X [(.n, JQ we Se (G := Nat × Int) (fun (d2, i2) => (⟨[], [], [(0, uv d2), (2, iv (i2))]⟩ : Inv)) (fun (d2, i2) => (d2, i2) = s2 ∧ InU d2 ∧ InR i2))] ?_ ⟨?_, trivial⟩
 ·replace H := hL
  refine T_seq <| T_region <| TL_ad 1 [(7, uv d1)] rfl <| TL_geq rfl rfl rfl rfl (fun h2 => ?_) (fun h2 => ?_)
  ·replace H := if_t h2 H
   refine TL_nil <| T_cond_true rfl <| T_seq <| T_region <| TL_ad 1 [(9, uv d1)] rfl ?_
   obtain ⟨m2, hm2, H⟩ := nm_s H
   refine TL_val rfl rfl (r_shr (c := ((m2 : Nat) : Int)) rfl rfl (Int.natCast_nonneg _) (wu_y hm2 (n_shr_u (a := d1)))) <| TL_ad 1 [(0, uv m2)] rfl <| TL_nil <| T_region <| TL_ad 1 [(11, iv (i1))] rfl ?_
   obtain ⟨x1, hx1, hrx1, H⟩ := ck64_s H
   refine TL_val rfl rfl (r_add (c := x1) rfl rfl (w_x hx1 hrx1)) <| TL_ad 1 [(2, iv (x1))] rfl <| TL_nil ?_
   exact JQ_mk (m2, x1) (And.intro (Option.some.inj H) (And.intro (udiv_r hr1 hm2) hrx1)) rfl (fun w h => St.weak h (fun S w h => trivial))
  replace H := if_f h2 H
  refine TL_nil <| T_cond_false rfl <| T_skip ?_
  exact JQ_mk (d1, i1) (And.intro (Option.some.inj H) (And.intro hr1 hr2)) rfl (fun w h => St.weak h (fun S w h => trivial))
 refine JQ_el' ?_
 rintro ⟨d2, i2⟩ ⟨hs, hr3, hr4⟩ rest
 subst hs
 replace H := Hc
 clear hL
 refine JG_to rfl <| T_seq <| T_seq <| T_region <| TL_ad 1 [(13, uv d2)] rfl <| TL_geq rfl rfl rfl rfl (fun h3 => ?_) (fun h3 => ?_)
 ·replace H := if_t h3 H
  refine TL_nil <| T_cond_true rfl <| T_seq <| T_region <| TL_ad 1 [(15, uv d2)] rfl ?_
  obtain ⟨m3, hm3, H⟩ := nm_s H
  refine TL_val rfl rfl (r_shr (c := ((m3 : Nat) : Int)) rfl rfl (Int.natCast_nonneg _) (wu_y hm3 (n_shr_u (a := d2)))) <| TL_ad 1 [(0, uv m3)] rfl <| TL_nil <| T_region <| TL_ad 1 [(17, iv (i2))] rfl ?_
  obtain ⟨x2, hx2, hrx2, H⟩ := ck64_s H
  refine TL_val rfl rfl (r_add (c := x2) rfl rfl (w_x hx2 hrx2)) <| TL_ad 1 [(2, iv (x2))] rfl <| TL_nil <| T_seq <| T_region <| TL_ad 2 [(20, uv m3), (19, iv (x2))] rfl ?_
  obtain ⟨m4, hm4, H⟩ := nm_s H
  refine TL_val rfl rfl (r_conv (c := ((m4 : Nat) : Int)) Tryd.underlying57 Tryd.underlying5 rfl (wu_x hm4 (wu8 _))) ?_
  obtain ⟨m5, hm5, H⟩ := nm_s H
  refine TL_val rfl rfl (r_len8 (z := m5) Tryd.underlying9 rfl (by kernel_rfl) rfl (mod8_r hm4) hm5) <| TL_val rfl rfl (r_conv (c := ((m5 : Nat) : Int)) Tryd.underlying5 Tryd.underlying3 rfl (w64 (b_r (bitLen8_r (mod8_r hm4) hm5)))) ?_
  obtain ⟨x3, hx3, hrx3, H⟩ := ck64_s H
  refine TL_val rfl rfl (r_add (c := x3) rfl rfl (w_x hx3 hrx3)) <| TL_ad 1 [(2, iv (x3))] rfl <| TL_nil <| T_ret ?_
  obtain rfl := inj1 H
  exact Ret1 () Tryd.results68 rfl hrx3 (fun S w h => trivial)
 replace H := if_f h3 H
 refine TL_nil <| T_cond_false rfl <| T_skip <| T_seq <| T_region <| TL_ad 2 [(20, uv d2), (19, iv (i2))] rfl ?_
 obtain ⟨m6, hm6, H⟩ := nm_s H
 refine TL_val rfl rfl (r_conv (c := ((m6 : Nat) : Int)) Tryd.underlying57 Tryd.underlying5 rfl (wu_x hm6 (wu8 _))) ?_
 obtain ⟨m7, hm7, H⟩ := nm_s H
 refine TL_val rfl rfl (r_len8 (z := m7) Tryd.underlying9 rfl (by kernel_rfl) rfl (mod8_r hm6) hm7) <| TL_val rfl rfl (r_conv (c := ((m7 : Nat) : Int)) Tryd.underlying5 Tryd.underlying3 rfl (w64 (b_r (bitLen8_r (mod8_r hm6) hm7)))) ?_
 obtain ⟨x4, hx4, hrx4, H⟩ := ck64_s H
 refine TL_val rfl rfl (r_add (c := x4) rfl rfl (w_x hx4 hrx4)) <| TL_ad 1 [(2, iv (x4))] rfl <| TL_nil <| T_ret ?_
 obtain rfl := inj1 H
 exact Ret1 () Tryd.results68 rfl hrx4 (fun S w h => trivial)
theorem g_math_bits_Len64 (fu : Nat) : SigOK Tryd.prog (s_math_bits_Len64 fu) := sig_ui (by kernel_rfl) fun x r hx h => c_math_bits_Len64 fu x hx r h
def s_math_bits_LeadingZeros64 (fu : Nat) : Sig := ⟨64, [.d .u], [.d .i], fun x => M_math_bits_LeadingZeros64 fu x.1, 0⟩
theorem g_math_bits_LeadingZeros64 (fu : Nat) : SigOK Tryd.prog (s_math_bits_LeadingZeros64 fu) := sg (fu := fu) ⟨[], [], [], [], [], [], []⟩ Tryd.func64 (cC (g_math_bits_Len64 fu) <| cN) (by kernel_rfl) fun x => by kernel_rfl
def s_math_bits_Div64 (fu : Nat) : Sig := ⟨43, [.d .u, .d .u, .d .u], [.d .u, .d .u], fun x => M_math_bits_Div64 fu x.1 x.2.1 x.2.2.1, 0⟩
theorem g_math_bits_Div64 (fu : Nat) : SigOK Tryd.prog (s_math_bits_Div64 fu) := sg (fu := fu) ⟨[], [], [(17, ⟨⟨[(15, .d .u), (16, .d .u)], []⟩, ⟨[], [(.x 0, ⟨[(15, .d .u)], []⟩)]⟩⟩), (24, ⟨⟨[(16, .d .u), (18, .d .u)], []⟩, ⟨[], [(.x 2, ⟨[(18, .d .u)], []⟩)]⟩⟩)], [], [], [], []⟩ Tryd.func43 (cC (g_math_bits_LeadingZeros64 fu) <| cN) (by kernel_rfl) fun x => by kernel_rfl
def s_nat_short (fu : Nat) : Sig := ⟨34, [.d (.l .u), .d .u], [.own .u 57, .d .u], fun x => M_nat_short fu x.1 x.2.1, 0⟩
theorem g_nat_short (fu : Nat) : SigOK Tryd.prog (s_nat_short fu) := sg (fu := fu) ⟨[], [], [(3, ⟨⟨[(7, .d .u), (8, .d .i), (6, .own .u 57)], []⟩, ⟨[], [(.x 0, ⟨[(7, .d .u), (6, .own .u 57)], []⟩)]⟩⟩)], [], [], [], []⟩ Tryd.func34 (cC (g_nat_plain_own fu) <| cC (g_nat_plain fu) <| cC (g_math_bits_Div64 fu) <| cN) (by kernel_rfl) fun x => by kernel_rfl
def s_slices_Reverse_string_string_io (fu : Nat) : Sig := ⟨36, [.own .tx 9], [.own .tx 9], fun x => M_slices_Reverse_string_string_io fu x.1, 1⟩
theorem g_slices_Reverse_string_string_io (fu : Nat) : SigOK Tryd.prog (s_slices_Reverse_string_string_io fu) := sgb (fu := fu) ⟨[], [], [(1, ⟨⟨[(2, .d .i), (3, .d .i), (0, .own .tx 9)], []⟩, ⟨[], [(.x 0, ⟨[(0, .own .tx 9)], []⟩)]⟩⟩)], [(3, [])], [], [], []⟩ Tryd.func36 (cN) (by kernel_rfl) fun pn x => by kernel_rfl
def s_strings_Join (fu : Nat) : Sig := ⟨37, [.d (.l .tx), .d .tx], [.d .tx], fun x => M_strings_Join fu x.1 x.2.1, 0⟩
theorem g_strings_Join (fu : Nat) : SigOK Tryd.prog (s_strings_Join fu) := sig_join (by kernel_rfl) Tryd.strings_Join_none Tryd.strings_Join
def s_nat_Text (fu : Nat) : Sig := ⟨25, [.d (.l .u)], [.d .tx], fun x => M_nat_Text fu x.1, 0⟩
theorem g_nat_Text (fu : Nat) : SigOK Tryd.prog (s_nat_Text fu) := sg (fu := fu) ⟨[], [], [(3, ⟨⟨[(0, .d (.l .u)), (3, .own .tx 9)], []⟩, ⟨[], [(.x 0, ⟨[(3, .own .tx 9)], []⟩)]⟩⟩)], [], [], [], []⟩ Tryd.func25 (cC (g_nat_plain_own fu) <| cC (g_nat_plain fu) <| cC (g_nat_short fu) <| cC (g_nat_digits fu) <| cC (g_slices_Reverse_string_string_io fu) <| cC (g_strings_Join fu) <| cN) (by kernel_rfl) fun x => by kernel_rfl
def s_expr_writer_digits_vr (fu : Nat) : VSig := ⟨18, (.p (.l .ch) (.p .i (.p .i .b))), 43, .ch, 5, 4, 0, [(.l .u)], fun z ys x => M_expr_writer_digits_vr fu z ys x.1⟩
theorem g_expr_writer_digits_vr (fu : Nat) : VOK Tryd.prog (s_expr_writer_digits_vr fu) := gV (fu := fu) ⟨[], [], [], [], [], [], []⟩ Tryd.func18 (cC (g_nat_Text fu) <| cN) (pN) (vC (g_expr_writer_put_vr fu) <| vN) (by kernel_rfl) fun pn z ys x => by kernel_rfl
def s_expr_level (fu : Nat) : Sig := ⟨26, [.d .tr], [.d .i], fun x => M_expr_level fu x.1, 0⟩
theorem g_expr_level (fu : Nat) : SigOK Tryd.prog (s_expr_level fu) := sg (fu := fu) ⟨[], [], [], [], [], [], []⟩ Tryd.func26 (cN) (by kernel_rfl) fun x => by kernel_rfl
def r_expr_writer_node_vr (R : ((List Nat) × (Int × (Int × Bool))) → List Nat → Tr → Option (((List Nat) × (Int × (Int × Bool))) × List Nat)) : VSig := ⟨13, (.p (.l .ch) (.p .i (.p .i .b))), 43, .ch, 5, 4, 0, [.tr], fun z ys x => R z ys x.1⟩
def s_expr_writer_within_vr (R : ((List Nat) × (Int × (Int × Bool))) → List Nat → Tr → Option (((List Nat) × (Int × (Int × Bool))) × List Nat)) (fu : Nat) : VSig := ⟨20, (.p (.l .ch) (.p .i (.p .i .b))), 43, .ch, 5, 4, 0, [.tr, .i], fun z ys x => M_expr_writer_within_vr R fu z ys x.1 x.2.1⟩
theorem g_expr_writer_within_vr (R : ((List Nat) × (Int × (Int × Bool))) → List Nat → Tr → Option (((List Nat) × (Int × (Int × Bool))) × List Nat)) (hR : VOK Tryd.prog (r_expr_writer_node_vr R)) (fu : Nat) : VOK Tryd.prog (s_expr_writer_within_vr R fu) := gV (fu := fu) ⟨[], [(262149, ⟨[], [(.n, ⟨[(0, .vr (.p (.l .ch) (.p .i (.p .i .b))) 43 .ch 5 4 0)], []⟩)]⟩)], [], [], [], [], []⟩ Tryd.func20 (cC (g_expr_level fu) <| cN) (pN) (vC (g_expr_writer_put_vr fu) <| vC hR <| vN) (by kernel_rfl) fun pn z ys x => by kernel_rfl
def s_expr_right (fu : Nat) : Sig := ⟨17, [.d .tr], [.d .b], fun x => M_expr_right fu x.1, 0⟩
theorem g_expr_right (fu : Nat) : SigOK Tryd.prog (s_expr_right fu) := sg (fu := fu) ⟨[], [(262164, ⟨[], [(.n, ⟨[(4, .d .i), (3, .var trT 50)], []⟩), (.r, ⟨[], [(2, .kb false)]⟩)]⟩), (393223, ⟨[3], [(.n, ⟨[(0, .d .tr), (15, .d .b)], []⟩)]⟩), (524297, ⟨[3], [(.n, ⟨[(22, .d .b)], []⟩)]⟩), (655371, ⟨[3], [(.n, ⟨[(29, .d .b)], []⟩)]⟩), (786445, ⟨[3], [(.n, ⟨[(36, .d .b)], []⟩)]⟩), (1310741, ⟨[3], [(.n, ⟨[(5, .d .b)], []⟩)]⟩)], [], [], [], [], []⟩ Tryd.func17 (cN) (by kernel_rfl) fun x => by kernel_rfl
def s_strconv_Itoa (fu : Nat) : Sig := ⟨21, [.d .i], [.d .tx], fun x => M_strconv_Itoa fu x.1, 0⟩
theorem g_strconv_Itoa (fu : Nat) : SigOK Tryd.prog (s_strconv_Itoa fu) := sig_strconv_Itoa
def s_expr_writer_node_vr (fu : Nat) : VSig := r_expr_writer_node_vr (M_expr_writer_node_vr fu)
theorem g_expr_writer_node_vr : ∀ fu : Nat, VOK Tryd.prog (s_expr_writer_node_vr fu)
  | 0 => vg0 (by kernel_rfl) fun _ _ _ => rfl
  | fu + 1 => gV (fu := fu) ⟨[], [(131076, ⟨[], [(.n, ⟨[(0, .vr (.p (.l .ch) (.p .i (.p .i .b))) 43 .ch 5 4 0)], []⟩), (.r, ⟨[(0, .vr (.p (.l .ch) (.p .i (.p .i .b))) 43 .ch 5 4 0)], []⟩)]⟩), (524297, ⟨[0], [(.n, ⟨[(58, .d .b)], []⟩)]⟩), (655371, ⟨[0], [(.n, ⟨[(66, .d .b)], []⟩)]⟩), (786445, ⟨[0], [(.n, ⟨[(76, .d .b)], []⟩)]⟩), (983056, ⟨[0], [(.n, ⟨[(86, .d .b)], []⟩)]⟩), (1179667, ⟨[0], [(.n, ⟨[(102, .d .b)], []⟩)]⟩), (1441815, ⟨[0], [(.n, ⟨[(118, .d .b)], []⟩)]⟩)], [], [], [], [], []⟩ Tryd.func13 (cC (g_expr_right fu) <| cC (g_strconv_Itoa fu) <| cN) (pN) (vC (g_expr_writer_digits_vr fu) <| vC (g_expr_writer_put_vr fu) <| vC (g_expr_writer_within_vr (M_expr_writer_node_vr fu) (g_expr_writer_node_vr fu) fu) <| vN) (by kernel_rfl) fun pn z ys x => by kernel_rfl
def s_expr_Text (fu : Nat) : Sig := ⟨7, [.d .tr], [.d .tx], fun x => M_expr_Text fu x.1, 0⟩
theorem g_expr_Text (fu : Nat) : SigOK Tryd.prog (s_expr_Text fu) := gF (fu := fu) ⟨[], [], [], [], [], [], [(6, 0, 5), (7, 0, 5)]⟩ Tryd.func7 (cN) (pN) (vC (g_expr_writer_node_vr fu) <| vN) (by kernel_rfl) fun x => by kernel_rfl
def s_law23_awake (fu : Nat) : Sig := ⟨5, [], [.d .b], fun x => M_law23_awake fu, 0⟩
theorem g_law23_awake (fu : Nat) : SigOK Tryd.prog (s_law23_awake fu) := sg (fu := fu) ⟨[], [], [], [], [], [], []⟩ Tryd.func5 (cC (g_expr_Parse fu) <| cC (g_expr_Text fu) <| cN) (by kernel_rfl) fun x => by kernel_rfl
def s_law23_theirs (fu : Nat) : Sig := ⟨9, [.d .tr, .d .i], [.d .tr], fun x => M_law23_theirs fu x.1 x.2.1, 0⟩
theorem g_law23_theirs : ∀ fu : Nat, SigOK Tryd.prog (s_law23_theirs fu)
  | 0 => sg0 (by kernel_rfl) fun _ => rfl
  | fu + 1 => sg (fu := fu) ⟨[], [], [], [], [], [], []⟩ Tryd.func9 (cC (g_law23_theirs fu) <| cN) (by kernel_rfl) fun x => by kernel_rfl
def s_ref01_Same (fu : Nat) : Sig := ⟨14, [.d (.l .u), .d (.l .u)], [.d .b], fun x => M_ref01_Same fu x.1 x.2.1, 0⟩
theorem g_ref01_Same (fu : Nat) : SigOK Tryd.prog (s_ref01_Same fu) := sg (fu := fu) ⟨[], [], [(4, ⟨⟨[(5, .d .i)], []⟩, ⟨[], [(.x 0, ⟨[], []⟩), (.r, ⟨[], [(4, .kb false)]⟩)]⟩⟩)], [], [], [], []⟩ Tryd.func14 (cN) (by kernel_rfl) fun x => by kernel_rfl
def s_ref23_Same (fu : Nat) : Sig := ⟨8, [.d .tr, .d .tr], [.d .b], fun x => M_ref23_Same fu x.1 x.2.1, 0⟩
theorem g_ref23_Same : ∀ fu : Nat, SigOK Tryd.prog (s_ref23_Same fu)
  | 0 => sg0 (by kernel_rfl) fun _ => rfl
  | fu + 1 => sg (fu := fu) ⟨[], [], [], [], [], [], []⟩ Tryd.func8 (cC (g_ref23_Same fu) <| cC (g_ref01_Same fu) <| cN) (by kernel_rfl) fun x => by kernel_rfl
def s_law23_ExprBack (fu : Nat) : Sig := ⟨3, [.d .tx, .d .i], [.d .b], fun x => M_law23_ExprBack fu x.1 x.2.1, 0⟩
theorem g_law23_ExprBack (fu : Nat) : SigOK Tryd.prog (s_law23_ExprBack fu) := sg (fu := fu) ⟨[], [], [], [], [], [], []⟩ Tryd.func3 (cC (g_law23_awake fu) <| cC (g_expr_Parse fu) <| cC (g_expr_Text fu) <| cC (g_ref23_Same fu) <| cC (g_law23_theirs fu) <| cN) (by kernel_rfl) fun x => by kernel_rfl
end
def nv : List Nat → Nat
  | [] => 0
  | x :: r => x + 18446744073709551616 * nv r
def digs : Nat → Nat → List Nat
  | 0, _ => []
  | k + 1, n => n % 18446744073709551616 :: digs k (n / 18446744073709551616)
def toLf : Nat → Nat → List Nat
  | 0, _ => []
  | f + 1, n => if n = 0 then [] else n % 18446744073709551616 :: toLf f (n / 18446744073709551616)
def toL (n : Nat) : List Nat := toLf n n
def trimL : List Nat → List Nat
  | [] => []
  | x :: r => match trimL r with
    | [] => if x = 0 then [] else [x]
    | y :: s => x :: y :: s
theorem Limbs.nil : Limbs [] := fun x hx => absurd hx List.not_mem_nil
theorem Limbs.cons {x : Nat} {r : List Nat} (h : x < 18446744073709551616) (hr : Limbs r) : Limbs (x :: r) := fun y hy => by
  rcases List.mem_cons.1 hy with rfl | hy
  · exact h
  · exact hr y hy
theorem Limbs.head {x : Nat} {r : List Nat} (h : Limbs (x :: r)) : x < 18446744073709551616 := h x (List.mem_cons_self ..)
theorem Limbs.tail {x : Nat} {r : List Nat} (h : Limbs (x :: r)) : Limbs r := fun y hy => h y (List.mem_cons_of_mem _ hy)
theorem Limbs.append {a b : List Nat} (ha : Limbs a) (hb : Limbs b) : Limbs (a ++ b) := fun x hx => by
  rcases List.mem_append.1 hx with h | h
  · exact ha x h
  · exact hb x h
theorem Limbs.take {a : List Nat} (h : Limbs a) (k : Nat) : Limbs (a.take k) := fun x hx => h x (List.mem_of_mem_take hx)
theorem Limbs.getD {a : List Nat} (h : Limbs a) (k : Nat) : a.getD k 0 < 18446744073709551616 := by
  rw [List.getD_eq_getElem?_getD]
  by_cases hk : k < a.length
  · rw [List.getElem?_eq_getElem hk]; exact h _ (List.getElem_mem hk)
  · rw [List.getElem?_eq_none (by omega)]; exact Nat.zero_lt_succ _
theorem nv_nil : nv [] = 0 := rfl
theorem nv_cons (x : Nat) (r : List Nat) : nv (x :: r) = x + 18446744073709551616 * nv r := rfl
theorem nv_append : ∀ (a b : List Nat), nv (a ++ b) = nv a + 18446744073709551616 ^ a.length * nv b
  | [], b => by simp [nv]
  | x :: a, b => by
    rw [List.cons_append, nv_cons, nv_append a b, nv_cons, List.length_cons, Nat.pow_succ, Nat.mul_add]
    rw [Nat.mul_comm (18446744073709551616 ^ a.length) 18446744073709551616, Nat.mul_assoc, Nat.add_assoc]
theorem nv_replicate : ∀ k, nv (List.replicate k 0) = 0
  | 0 => rfl
  | k + 1 => by rw [List.replicate_succ, nv_cons, nv_replicate k]
theorem nv_lt : ∀ {l : List Nat}, Limbs l → nv l < 18446744073709551616 ^ l.length
  | [], _ => by simp [nv]
  | x :: r, h => by
    have h1 := h.head
    have h2 := nv_lt h.tail
    rw [nv_cons, List.length_cons, Nat.pow_succ]
    omega
theorem nv_snoc (l : List Nat) (x : Nat) : nv (l ++ [x]) = nv l + 18446744073709551616 ^ l.length * x := by
  rw [nv_append, nv_cons, nv_nil]; simp
theorem digs_length : ∀ k n, (digs k n).length = k
  | 0, _ => rfl
  | k + 1, n => by rw [digs, List.length_cons, digs_length]
theorem digs_limbs : ∀ k n, Limbs (digs k n)
  | 0, _ => Limbs.nil
  | k + 1, n => Limbs.cons (Nat.mod_lt _ (by decide)) (digs_limbs k _)
theorem nv_digs : ∀ k n, nv (digs k n) = n % 18446744073709551616 ^ k
  | 0, n => by simp [digs, nv, Nat.mod_one]
  | k + 1, n => by
    rw [digs, nv_cons, nv_digs k, Nat.pow_succ, Nat.mul_comm (18446744073709551616 ^ k), Nat.mod_mul]
theorem digs_nv : ∀ {l : List Nat}, Limbs l → digs l.length (nv l) = l
  | [], _ => rfl
  | x :: r, h => by
    have h1 := h.head
    rw [List.length_cons, digs, nv_cons, Nat.add_mul_mod_self_left, Nat.mod_eq_of_lt h1, Nat.add_mul_div_left _ _ (by decide), Nat.div_eq_of_lt h1, Nat.zero_add, digs_nv h.tail]
theorem digs_snoc : ∀ k n, digs (k + 1) n = digs k n ++ [n / 18446744073709551616 ^ k % 18446744073709551616]
  | 0, n => by simp [digs]
  | k + 1, n => by
    rw [digs, digs_snoc k, digs, List.cons_append, Nat.div_div_eq_div_mul, ← Nat.pow_succ']
theorem toLf_limbs : ∀ f n, Limbs (toLf f n)
  | 0, _ => Limbs.nil
  | f + 1, n => by
    rw [toLf]; split
    · exact Limbs.nil
    · exact Limbs.cons (Nat.mod_lt _ (by decide)) (toLf_limbs f _)
theorem toL_limbs (n : Nat) : Limbs (toL n) := toLf_limbs n n
theorem nv_toLf : ∀ f n, n ≤ f → nv (toLf f n) = n
  | 0, n, h => by rw [toLf, nv_nil]; omega
  | f + 1, n, h => by
    rw [toLf]; split
    · rename_i h0; rw [nv_nil, h0]
    · rename_i h0
      have hlt : n / 18446744073709551616 ≤ f := by
        have := Nat.div_lt_self (n := n) (k := 18446744073709551616) (by omega) (by decide); omega
      rw [nv_cons, nv_toLf f _ hlt, Nat.mod_add_div]
theorem nv_toL (n : Nat) : nv (toL n) = n := nv_toLf n n (Nat.le_refl _)
theorem toLf_eq : ∀ f f' n, n ≤ f → n ≤ f' → toLf f n = toLf f' n
  | 0, f', n, h, h' => by
    have : n = 0 := by omega
    subst this
    cases f' <;> simp [toLf]
  | f + 1, 0, n, h, h' => by
    have : n = 0 := by omega
    subst this
    simp [toLf]
  | f + 1, f' + 1, n, h, h' => by
    rw [toLf, toLf]; split
    · rfl
    · rename_i h0
      have := Nat.div_lt_self (n := n) (k := 18446744073709551616) (by omega) (by decide)
      rw [toLf_eq f f' _ (by omega) (by omega)]
theorem toL_zero : toL 0 = [] := rfl
theorem toL_pos {n : Nat} (h : 0 < n) : toL n = n % 18446744073709551616 :: toL (n / 18446744073709551616) := by
  have e : toL n = toLf ((n - 1) + 1) n := by unfold toL; congr 1; omega
  have := Nat.div_lt_self (n := n) (k := 18446744073709551616) h (by decide)
  rw [e, toLf, if_neg (by omega)]
  congr 1
  exact toLf_eq _ _ _ (by omega) (by omega)
theorem toL_small {n : Nat} (h0 : 0 < n) (h : n < 18446744073709551616) : toL n = [n] := by grind [toL_pos, toL_zero, Nat.mod_eq_of_lt, Nat.div_eq_of_lt]
theorem toL_nil {n : Nat} : toL n = [] ↔ n = 0 := by
  constructor
  · intro h; rw [← nv_toL n, h]; rfl
  · rintro rfl; rfl
theorem toL_len_pos {n : Nat} (h : 0 < n) : 0 < (toL n).length := by rw [toL_pos h, List.length_cons]; omega
theorem toL_length : ∀ (k n : Nat), (toL n).length ≤ k ↔ n < 18446744073709551616 ^ k
  | 0, n => by
    rw [Nat.le_zero, List.length_eq_zero_iff, toL_nil]; simp; 
  | k + 1, n => by
    by_cases h : n = 0
    · subst h; simp [toL_zero]; exact Nat.pow_pos (by decide)
    · rw [toL_pos (by omega), List.length_cons, Nat.add_le_add_iff_right, toL_length k, Nat.div_lt_iff_lt_mul (by decide), Nat.pow_succ]
theorem toL_last {n : Nat} (h : 0 < n) : (toL n).getD ((toL n).length - 1) 0 ≠ 0 := by
  intro h0
  have hp := toL_len_pos h
  have e := digs_nv (toL_limbs n)
  rw [nv_toL] at e
  obtain ⟨k, hk⟩ : ∃ k, (toL n).length = k + 1 := ⟨(toL n).length - 1, by omega⟩
  have h1 := (toL_length k n).2
  rw [hk, digs_snoc] at e
  rw [← e] at h0
  rw [show (digs k n ++ [n / 18446744073709551616 ^ k % 18446744073709551616]).length - 1 = (digs k n).length by simp] at h0
  simp at h0
  have h2 : n < 18446744073709551616 ^ (k + 1) := (toL_length (k + 1) n).1 (by omega)
  have h3 : n / 18446744073709551616 ^ k < 18446744073709551616 := by rw [Nat.div_lt_iff_lt_mul (Nat.pow_pos (by decide))]; rwa [Nat.pow_succ, Nat.mul_comm] at h2
  rw [Nat.mod_eq_of_lt h3] at h0
  have h4 : n < 18446744073709551616 ^ k := by
    rcases Nat.div_eq_zero_iff.1 h0 with h | h
    · have := Nat.pow_pos (n := k) (show 0 < 18446744073709551616 by decide); omega
    · exact h
  have := h1 h4
  omega
theorem trimL_of_last : ∀ (l : List Nat) (k : Nat), k + 1 = l.length → l.getD k 0 ≠ 0 → trimL l = l
  | [], _, h, _ => by simp at h
  | [x], 0, _, h => by simp at h; simp [trimL, h]
  | [x], k + 1, h, _ => by simp at h
  | x :: y :: r, 0, h, _ => by simp at h
  | x :: y :: r, k + 1, h, h0 => by
    have := trimL_of_last (y :: r) k (by simpa using h) (by simpa using h0)
    simp only [trimL] at this ⊢
    rw [this]
theorem trimL_eq : ∀ {l : List Nat}, Limbs l → trimL l = toL (nv l)
  | [], _ => rfl
  | x :: r, h => by
    have ih := trimL_eq h.tail
    have hx := h.head
    rw [trimL, ih, nv_cons]
    by_cases hr : nv r = 0
    · rw [hr, toL_zero]
      by_cases h0 : x = 0
      · simp [h0, toL_zero]
      · simp only [h0, if_false, Nat.mul_zero, Nat.add_zero]; rw [toL_small (by omega) hx]
    · have e1 := toL_pos (n := nv r) (by omega)
      have e2 := toL_pos (n := x + 18446744073709551616 * nv r) (by omega)
      rw [Nat.add_mul_mod_self_left, Nat.mod_eq_of_lt hx, Nat.add_mul_div_left _ _ (by decide), Nat.div_eq_of_lt hx, Nat.zero_add] at e2
      rw [e2, e1]
theorem toL_of_last {l : List Nat} (hl : Limbs l) (h : l = [] ∨ l.getD (l.length - 1) 0 ≠ 0) : toL (nv l) = l := by
  rw [← trimL_eq hl]
  rcases h with rfl | h
  · rfl
  · cases hn : l.length with
    | zero => rw [List.eq_nil_of_length_eq_zero hn]; rfl
    | succ k => exact trimL_of_last l k hn.symm (by rw [hn] at h; exact h)
theorem getD_nv : ∀ {l : List Nat}, Limbs l → ∀ k, l.getD k 0 = nv l / 18446744073709551616 ^ k % 18446744073709551616
  | [], _, k => by simp [nv]
  | x :: r, h, 0 => by
    rw [List.getD_cons_zero, nv_cons, Nat.pow_zero, Nat.div_one, Nat.add_mul_mod_self_left, Nat.mod_eq_of_lt h.head]
  | x :: r, h, k + 1 => by
    rw [List.getD_cons_succ, getD_nv h.tail k, nv_cons, Nat.pow_succ', ← Nat.div_div_eq_div_mul, Nat.add_mul_div_left _ _ (by decide), Nat.div_eq_of_lt h.head, Nat.zero_add]
theorem set_mid {α : Type} {l : List α} {k n : Nat} {z x : α} (hl : l.length = k) (hk : k < n) : (l ++ List.replicate (n - k) z).set k x = (l ++ [x]) ++ List.replicate (n - (k + 1)) z := by
  obtain ⟨m, hm⟩ : ∃ m, n - k = m + 1 := ⟨n - k - 1, by omega⟩
  rw [hm, List.replicate_succ, List.set_append_right _ _ (by omega), hl, Nat.sub_self, List.set_cons_zero, List.append_assoc]
  congr 2
  rw [show n - (k + 1) = m by omega]
  rfl
def carS (step : Nat → Nat → Nat × Nat) : Nat → List Nat × Nat
  | 0 => ([], 0)
  | k + 1 => ((carS step k).1 ++ [(step k (carS step k).2).1], (step k (carS step k).2).2)
theorem carS_length (step : Nat → Nat → Nat × Nat) : ∀ k, (carS step k).1.length = k
  | 0 => rfl
  | k + 1 => by rw [carS, List.length_append, carS_length step k]; rfl
def addS (a b : List Nat) (k c : Nat) : Nat × Nat := ((a.getD k 0 + b.getD k 0 + c) % 18446744073709551616, (a.getD k 0 + b.getD k 0 + c) / 18446744073709551616)
theorem addS_carry {a b : List Nat} {k c : Nat} (ha : Limbs a) (hb : Limbs b) (hc : c ≤ 1) : (addS a b k c).2 ≤ 1 := by grind [addS, Limbs.getD]
theorem nv_take_succ (l : List Nat) : ∀ k, nv (l.take (k + 1)) = nv (l.take k) + 18446744073709551616 ^ k * l.getD k 0 := by
  induction l with
  | nil => intro k; simp [nv]
  | cons x r ih =>
    intro k
    cases k with
    | zero => simp [nv]
    | succ k =>
      rw [List.take_succ_cons, nv_cons, ih k, List.take_succ_cons, nv_cons, List.getD_cons_succ, Nat.pow_succ, Nat.mul_add]
      rw [Nat.mul_comm (18446744073709551616 ^ k) 18446744073709551616, Nat.mul_assoc, Nat.add_assoc]
theorem addS_inv (a b : List Nat) : ∀ k, nv (carS (addS a b) k).1 + 18446744073709551616 ^ k * (carS (addS a b) k).2 = nv (a.take k) + nv (b.take k) ∧ Limbs (carS (addS a b) k).1
  | 0 => ⟨by simp [carS, nv], Limbs.nil⟩
  | k + 1 => by
    obtain ⟨ih, il⟩ := addS_inv a b k
    rw [carS, nv_take_succ, nv_take_succ, nv_snoc, carS_length]
    refine ⟨?_, il.append (Limbs.cons (Nat.mod_lt _ (by decide)) Limbs.nil)⟩
    generalize hc : (carS (addS a b) k).2 = c at *
    simp only [addS]
    have e := Nat.mod_add_div (a.getD k 0 + b.getD k 0 + c) 18446744073709551616
    generalize (a.getD k 0 + b.getD k 0 + c) % 18446744073709551616 = r at *
    generalize (a.getD k 0 + b.getD k 0 + c) / 18446744073709551616 = q at *
    rw [Nat.pow_succ]
    generalize 18446744073709551616 ^ k = p at *
    have e2 : p * r + p * 18446744073709551616 * q = p * (a.getD k 0) + p * (b.getD k 0) + p * c := by
      rw [Nat.mul_assoc, ← Nat.mul_add, e, Nat.mul_add, Nat.mul_add]
    omega
theorem addS_val {a b : List Nat} {n : Nat} (ha : a.length ≤ n) (hb : b.length ≤ n) : nv ((carS (addS a b) n).1 ++ [(carS (addS a b) n).2]) = nv a + nv b := by grind [nv_snoc, carS_length, addS_inv, List.take_of_length_le]
theorem div_step (x B k : Nat) (hB : 0 < B) : x / B ^ k = B * (x / B ^ (k + 1)) + x / B ^ k % B := by grind [Nat.div_add_mod, Nat.div_div_eq_div_mul, Nat.pow_succ]
def subS (a b : List Nat) (k c : Nat) : Nat × Nat := ((a.getD k 0 + 18446744073709551616 - b.getD k 0 - c) % 18446744073709551616, if a.getD k 0 < b.getD k 0 + c then 1 else 0)
theorem subS_carry (a b : List Nat) (k c : Nat) : (subS a b k c).2 ≤ 1 := by
  simp only [subS]; split <;> omega
theorem subS_inv {a b : List Nat} (ha : Limbs a) (hb : Limbs b) : ∀ k, nv (carS (subS a b) k).1 + nv (b.take k) = nv (a.take k) + 18446744073709551616 ^ k * (carS (subS a b) k).2 ∧ Limbs (carS (subS a b) k).1 ∧ (carS (subS a b) k).2 ≤ 1
  | 0 => ⟨by simp [carS, nv], Limbs.nil, Nat.zero_le _⟩
  | k + 1 => by
    obtain ⟨ih, il, ic⟩ := subS_inv ha hb k
    rw [carS, nv_take_succ, nv_take_succ, nv_snoc, carS_length]
    refine ⟨?_, il.append (Limbs.cons (Nat.mod_lt _ (by decide)) Limbs.nil), subS_carry a b k _⟩
    generalize hc : (carS (subS a b) k).2 = c at *
    simp only [subS]
    have h1 := ha.getD k
    have h2 := hb.getD k
    generalize a.getD k 0 = x at *
    generalize b.getD k 0 = y at *
    rw [Nat.pow_succ]
    generalize 18446744073709551616 ^ k = p at *
    have e : (x + 18446744073709551616 - y - c) % 18446744073709551616 + y + c = x + 18446744073709551616 * (if x < y + c then 1 else 0) := by
      split <;> omega
    generalize (x + 18446744073709551616 - y - c) % 18446744073709551616 = r at *
    generalize (if x < y + c then 1 else 0 : Nat) = q at *
    have e2 : p * r + p * y + p * c = p * x + p * 18446744073709551616 * q := by
      rw [Nat.mul_assoc, ← Nat.mul_add, ← Nat.mul_add, e, Nat.mul_add]
    omega
def rowS (a : List Nat) (x : Nat) (k c : Nat) : Nat × Nat := ((a.getD k 0 * x + c) % 18446744073709551616, (a.getD k 0 * x + c) / 18446744073709551616)
theorem mul_lt_words {a x c : Nat} (ha : a < 18446744073709551616) (hx : x < 18446744073709551616) (hc : c < 18446744073709551616) : (a * x + c) / 18446744073709551616 < 18446744073709551616 := by
  have : a * x ≤ 18446744073709551615 * 18446744073709551615 := Nat.mul_le_mul (by omega) (by omega)
  omega
theorem rowS_carry {a : List Nat} {x k c : Nat} (ha : Limbs a) (hx : x < 18446744073709551616) (hc : c < 18446744073709551616) : (rowS a x k c).2 < 18446744073709551616 := mul_lt_words (ha.getD k) hx hc
theorem rowS_inv (a : List Nat) (x : Nat) : ∀ k, nv (carS (rowS a x) k).1 + 18446744073709551616 ^ k * (carS (rowS a x) k).2 = nv (a.take k) * x ∧ Limbs (carS (rowS a x) k).1
  | 0 => ⟨by simp [carS, nv], Limbs.nil⟩
  | k + 1 => by
    obtain ⟨ih, il⟩ := rowS_inv a x k
    rw [carS, nv_take_succ, nv_snoc, carS_length]
    refine ⟨?_, il.append (Limbs.cons (Nat.mod_lt _ (by decide)) Limbs.nil)⟩
    generalize hc : (carS (rowS a x) k).2 = c at *
    simp only [rowS]
    have e := Nat.mod_add_div (a.getD k 0 * x + c) 18446744073709551616
    generalize (a.getD k 0 * x + c) % 18446744073709551616 = r at *
    generalize (a.getD k 0 * x + c) / 18446744073709551616 = q at *
    rw [Nat.pow_succ]
    generalize 18446744073709551616 ^ k = p at *
    have e2 : p * r + p * 18446744073709551616 * q = p * (a.getD k 0 * x) + p * c := by
      rw [Nat.mul_assoc, ← Nat.mul_add, e, Nat.mul_add]
    rw [Nat.add_mul, Nat.mul_assoc p (a.getD k 0) x]
    omega
theorem rowS_row {a : List Nat} {x : Nat} (hc : (carS (rowS a x) a.length).2 < 18446744073709551616) : (carS (rowS a x) a.length).1 ++ [(carS (rowS a x) a.length).2] = digs (a.length + 1) (nv a * x) := by
  obtain ⟨h1, h2⟩ := rowS_inv a x a.length
  have hl : Limbs ((carS (rowS a x) a.length).1 ++ [(carS (rowS a x) a.length).2]) := h2.append (Limbs.cons hc Limbs.nil)
  have hn : nv ((carS (rowS a x) a.length).1 ++ [(carS (rowS a x) a.length).2]) = nv a * x := by rw [nv_snoc, carS_length, h1, List.take_of_length_le (Nat.le_refl _)]
  have := digs_nv hl
  rw [hn, List.length_append, carS_length] at this
  exact this.symm
theorem m32 {a b : Nat} (ha : a < 4294967296) (hb : b < 4294967296) : a * b ≤ 18446744065119617025 := Nat.mul_le_mul (show a ≤ 4294967295 by omega) (show b ≤ 4294967295 by omega)
theorem mul64_b {x y : Nat} (hx : x < 18446744073709551616) (hy : y < 18446744073709551616) : (x % 4294967296) * (y % 4294967296) ≤ 18446744065119617025 ∧ (x / 2 ^ 32) * (y % 4294967296) ≤ 18446744065119617025 ∧
    (x % 4294967296) * (y / 2 ^ 32) ≤ 18446744065119617025 ∧ (x / 2 ^ 32) * (y / 2 ^ 32) ≤ 18446744065119617025 :=
  ⟨m32 (by omega) (by omega), m32 (by omega) (by omega), m32 (by omega) (by omega), m32 (by omega) (by omega)⟩
theorem mul64_eq (x y : Nat) : x * y = 18446744073709551616 * ((x / 2 ^ 32) * (y / 2 ^ 32)) + 4294967296 * ((x / 2 ^ 32) * (y % 4294967296)) + 4294967296 * ((x % 4294967296) * (y / 2 ^ 32)) + (x % 4294967296) * (y % 4294967296) := by
  have h1 : x = 4294967296 * (x / 2 ^ 32) + x % 4294967296 := by omega
  have h2 : y = 4294967296 * (y / 2 ^ 32) + y % 4294967296 := by omega
  generalize x / 2 ^ 32 = x1 at *
  generalize y / 2 ^ 32 = y1 at *
  generalize x % 4294967296 = x0 at *
  generalize y % 4294967296 = y0 at *
  subst h1 h2
  rw [Nat.add_mul, Nat.mul_add, Nat.mul_add, Nat.mul_assoc, Nat.mul_assoc, Nat.mul_left_comm x1 4294967296 y1, Nat.mul_left_comm x0 4294967296 y1]
  omega
section
abbrev Tx := List Nat
abbrev Rd (α : Type) := Tx ⊕ (α × Tx)
def isDg (c : Nat) : Bool := decide (48 ≤ c) && decide (c ≤ 57)
def isLt (c : Nat) : Bool := decide (97 ≤ c) && decide (c ≤ 122)
def skp : Tx → Tx
  | [] => []
  | c :: r => if c = 32 then skp r else c :: r
def dwS : Tx → Tx
  | [] => []
  | c :: r => if isDg c then dwS r else c :: r
def nbS : Tx → Tx
  | [] => []
  | c :: r => if c = 48 then r else if isDg c then dwS r else c :: r
def dv (ds : Tx) : Nat := ds.foldl (fun n c => 10 * n + (c - 48)) 0
def numS (l : Tx) : Rd Tx := if (nbS (skp l)).length = (skp l).length then .inl (skp l) else .inr ((skp l).take ((skp l).length - (nbS (skp l)).length), nbS (skp l))
def expS (l : Tx) : Rd Int := match numS l with
  | .inl b => .inl b
  | .inr (d, r) => if dv d ≤ 1000 then .inr ((dv d : Int), r) else .inl (skp l)
def nNode (m : List Nat) : Tr := .mk 110 m 0 0 .nil .nil
def atmS (S : Tx → Rd Tr) (can : Bool) (l : Tx) : Rd Tr := match skp l with
  | [] => .inl []
  | c :: r => if isDg c then (match numS (c :: r) with
      | .inl b => .inl b
      | .inr (d, r) => .inr (nNode (toL (dv d)), r))
    else if isLt c then .inr (.mk 118 [] c 0 .nil .nil, r)
    else if c = 40 ∧ can = true then (match S r with
      | .inl b => .inl b
      | .inr (t, r2) => (match skp r2 with
        | [] => .inl []
        | c2 :: r3 => if c2 = 41 then .inr (t, r3) else .inl (c2 :: r3)))
    else .inl (c :: r)
def powS (S : Tx → Rd Tr) (can : Bool) (l : Tx) : Rd Tr := match atmS S can l with
  | .inl b => .inl b
  | .inr (t, r) => (match skp r with
    | [] => .inr (t, [])
    | c :: r2 => if c = 94 then (match expS r2 with
        | .inl b => .inl b
        | .inr (n, r3) => .inr (.mk 94 [] 0 n t .nil, r3))
      else .inr (t, c :: r2))
def prodL (S : Tx → Rd Tr) (can : Bool) : Nat → Tr → Tx → Rd Tr
  | 0, t, l => .inr (t, l)
  | n + 1, t, l => match skp l with
    | [] => .inr (t, [])
    | c :: r => if c = 42 then (match powS S can r with
        | .inl b => .inl b
        | .inr (u, r2) => prodL S can n (.mk 42 [] 0 0 t u) r2)
      else if c = 47 then (match numS r with
        | .inl b => .inl b
        | .inr (d, r2) => prodL S can n (.mk 47 (toL (dv d)) 0 0 t .nil) r2)
      else .inr (t, c :: r)
def prodS (S : Tx → Rd Tr) (can : Bool) (l : Tx) : Rd Tr := match powS S can l with
  | .inl b => .inl b
  | .inr (t, r) => prodL S can (r.length + 1) t r
def sumL (S : Tx → Rd Tr) (can : Bool) : Nat → Tr → Tx → Rd Tr
  | 0, t, l => .inr (t, l)
  | n + 1, t, l => match skp l with
    | [] => .inr (t, [])
    | c :: r => if c = 43 ∨ c = 45 then (match prodS S can r with
        | .inl b => .inl b
        | .inr (u, r2) => sumL S can n (.mk c [] 0 0 t u) r2)
      else .inr (t, c :: r)
def sumS (S : Tx → Rd Tr) (can : Bool) (l : Tx) : Rd Tr := match skp l with
  | [] => (match prodS S can [] with
    | .inl b => .inl b
    | .inr (t, r) => sumL S can (r.length + 1) t r)
  | c :: r => if c = 45 then (match prodS S can r with
      | .inl b => .inl b
      | .inr (t, r2) => sumL S can (r2.length + 1) (.mk 126 [] 0 0 t .nil) r2)
    else (match prodS S can (c :: r) with
      | .inl b => .inl b
      | .inr (t, r2) => sumL S can (r2.length + 1) t r2)
def sumD : Nat → Tx → Rd Tr
  | 0 => sumS (fun _ => .inl []) false
  | r + 1 => sumS (sumD r) true
def parseS (s : Tx) (depth : Int) : Tr × Int × Int :=
  if depth < 0 then (.nil, 0, 1) else if 100 < depth then (.nil, 0, 1) else if 4096 < s.length then (.nil, 4096, 2)
  else match sumD depth.toNat s with
    | .inl b => (.nil, ((s.length - b.length : Nat) : Int), 2)
    | .inr (t, r) => (match skp r with
      | [] => (t, (s.length : Int), 0)
      | c :: r2 => (.nil, ((s.length - (r2.length + 1) : Nat) : Int), 2))
theorem skp_suf : ∀ l : Tx, skp l <:+ l
  | [] => List.suffix_refl _
  | c :: r => by
    unfold skp
    split
    · exact (skp_suf r).trans (List.suffix_cons c r)
    · exact List.suffix_refl _
theorem dwS_suf : ∀ l : Tx, dwS l <:+ l
  | [] => List.suffix_refl _
  | c :: r => by
    unfold dwS
    split
    · exact (dwS_suf r).trans (List.suffix_cons c r)
    · exact List.suffix_refl _
theorem nbS_suf : ∀ l : Tx, nbS l <:+ l
  | [] => List.suffix_refl _
  | c :: r => by
    by_cases h1 : c = 48
    · rw [nbS, if_pos h1]; exact List.suffix_cons c r
    · by_cases h2 : isDg c = true
      · rw [nbS, if_neg h1, if_pos h2]; exact (dwS_suf r).trans (List.suffix_cons c r)
      · rw [nbS, if_neg h1, if_neg h2]; exact List.suffix_refl _
theorem skp_skp : ∀ l : Tx, skp (skp l) = skp l
  | [] => rfl
  | c :: r => by
    by_cases h : c = 32
    · have : skp (c :: r) = skp r := by rw [skp, if_pos h]
      rw [this]; exact skp_skp r
    · have : skp (c :: r) = c :: r := by rw [skp, if_neg h]
      rw [this, this]
def ShS {α : Type} (l : Tx) (z : Rd α) : Prop := match z with
  | .inl b => b <:+ l
  | .inr (_, r) => r <:+ l ∧ r.length < l.length
theorem ShS.of {α : Type} {l l' : Tx} {z : Rd α} (h : ShS l' z) (k : l' <:+ l) : ShS l z := by
  unfold ShS at h ⊢
  have hl := k.length_le
  split at h
  · exact h.trans k
  · exact ⟨h.1.trans k, by omega⟩
theorem sh_num (l : Tx) : ShS l (numS l) := by
  unfold numS
  have h1 := skp_suf l
  have h2 := nbS_suf (skp l)
  have h3 := h1.length_le
  have h4 := h2.length_le
  split
  · exact h1
  · exact ⟨h2.trans h1, by omega⟩
theorem sh_expo (l : Tx) : ShS l (expS l) := by
  unfold expS
  have h := sh_num l
  split
  · next b e => rw [e] at h; exact h
  · next d r e =>
    rw [e] at h
    split
    · exact h
    · exact skp_suf l
section
variable {S : Tx → Rd Tr} {can : Bool}
theorem sh_atom (hS : can = true → ∀ l, ShS l (S l)) (l : Tx) : ShS l (atmS S can l) := by
  have h0 := skp_suf l
  unfold atmS
  split
  · next e => rw [e] at h0; exact h0
  · next c r e =>
    rw [e] at h0
    have hl := h0.length_le
    rw [List.length_cons] at hl
    have hr : r <:+ l := (List.suffix_cons c r).trans h0
    split
    · have h := (sh_num (c :: r)).of h0
      split
      · next b e => rw [e] at h; exact h
      · next d r2 e => rw [e] at h; exact h
    · split
      · exact ⟨hr, by omega⟩
      · split
        · next hc =>
          have h := (hS hc.2 r).of hr
          split
          · next b e => rw [e] at h; exact h
          · next t r2 e =>
            rw [e] at h
            have h2 := skp_suf r2
            have h3 := h2.length_le
            have h4 := h.2
            split
            · next e2 => rw [e2] at h2; exact h2.trans h.1
            · next c2 r3 e2 =>
              rw [e2] at h2 h3
              rw [List.length_cons] at h3
              split
              · exact ⟨((List.suffix_cons c2 r3).trans h2).trans h.1, by omega⟩
              · exact h2.trans h.1
        · exact h0
theorem sh_power (hS : can = true → ∀ l, ShS l (S l)) (l : Tx) : ShS l (powS S can l) := by
  have h := sh_atom hS l
  unfold powS
  split
  · next b e => rw [e] at h; exact h
  · next t r e =>
    rw [e] at h
    obtain ⟨h1, h2⟩ := h
    have h3 := skp_suf r
    have h4 := h3.length_le
    split
    · next e2 => rw [e2] at h3; exact ⟨h3.trans h1, by simp only [List.length_nil]; omega⟩
    · next c r2 e2 =>
      rw [e2] at h3 h4
      split
      · have h5 := ((sh_expo r2).of ((List.suffix_cons c r2).trans h3)).of h1
        split
        · next b e3 => rw [e3] at h5; exact h5
        · next n r3 e3 => rw [e3] at h5; exact h5
      · exact ⟨h3.trans h1, by omega⟩
def SlS {α : Type} (l : Tx) (z : Rd α) : Prop := match z with
  | .inl b => b <:+ l
  | .inr (_, r) => r <:+ l
theorem SlS.of {α : Type} {l l' : Tx} {z : Rd α} (h : SlS l' z) (k : l' <:+ l) : SlS l z := by
  unfold SlS at h ⊢
  split at h
  · exact h.trans k
  · exact h.trans k
theorem SlS.sh {α : Type} {l l' : Tx} {z : Rd α} (h : SlS l' z) (k : l' <:+ l) (hl : l'.length < l.length) : ShS l z := by
  unfold SlS at h; unfold ShS
  split at h
  · exact h.trans k
  · exact ⟨h.trans k, by have := h.length_le; omega⟩
theorem sl_prodL (hS : can = true → ∀ l, ShS l (S l)) : ∀ (n : Nat) (t : Tr) (l : Tx), SlS l (prodL S can n t l)
  | 0, t, l => List.suffix_refl _
  | n + 1, t, l => by
    have h0 := skp_suf l
    unfold prodL
    split
    · next e => rw [e] at h0; exact h0
    · next c r e =>
      rw [e] at h0
      have hr : r <:+ l := (List.suffix_cons c r).trans h0
      split
      · have h := (sh_power hS r).of hr
        split
        · next b e => rw [e] at h; exact h
        · next u r2 e => rw [e] at h; exact (sl_prodL hS n _ r2).of h.1
      · split
        · have h := (sh_num r).of hr
          split
          · next b e => rw [e] at h; exact h
          · next u r2 e => rw [e] at h; exact (sl_prodL hS n _ r2).of h.1
        · exact h0
theorem sh_prodS (hS : can = true → ∀ l, ShS l (S l)) (l : Tx) : ShS l (prodS S can l) := by
  have h := sh_power hS l
  unfold prodS
  split
  · next b e => rw [e] at h; exact h
  · next t r e => rw [e] at h; exact (sl_prodL hS _ _ r).sh h.1 h.2
theorem sl_sumL (hS : can = true → ∀ l, ShS l (S l)) : ∀ (n : Nat) (t : Tr) (l : Tx), SlS l (sumL S can n t l)
  | 0, t, l => List.suffix_refl _
  | n + 1, t, l => by
    have h0 := skp_suf l
    unfold sumL
    split
    · next e => rw [e] at h0; exact h0
    · next c r e =>
      rw [e] at h0
      have hr : r <:+ l := (List.suffix_cons c r).trans h0
      split
      · have h := (sh_prodS hS r).of hr
        split
        · next b e => rw [e] at h; exact h
        · next u r2 e => rw [e] at h; exact (sl_sumL hS n _ r2).of h.1
      · exact h0
theorem sh_sumS (hS : can = true → ∀ l, ShS l (S l)) (l : Tx) : ShS l (sumS S can l) := by
  have h0 := skp_suf l
  have fin : ∀ (l' : Tx) (f : Tr → Tr), l' <:+ l → ShS l (match prodS S can l' with
      | .inl b => .inl b
      | .inr (t, r2) => sumL S can (r2.length + 1) (f t) r2) := fun l' f hl' => by
    have h := (sh_prodS hS l').of hl'
    split
    · next b e => rw [e] at h; exact h
    · next t r2 e => rw [e] at h; exact (sl_sumL hS _ _ r2).sh h.1 h.2
  unfold sumS
  split
  · next e => rw [e] at h0; exact fin [] id h0
  · next c r e =>
    rw [e] at h0
    split
    · exact fin r (fun t => .mk 126 [] 0 0 t .nil) ((List.suffix_cons c r).trans h0)
    · exact fin (c :: r) id h0
end
theorem sh_sumD : ∀ (n : Nat) (l : Tx), ShS l (sumD n l)
  | 0, l => sh_sumS (by simp) l
  | n + 1, l => sh_sumS (fun _ => sh_sumD n) l
end
theorem loop_eq {α β : Type} {f : (β → Option α) → β → Option α} (I : β → Prop) (m : β → Nat) (r : α)
    (step : ∀ s L, I s → (∀ s', I s' → m s' < m s → L s' = some r) → f L s = some r) : ∀ (n : Nat) (s : β), I s → m s < n → loopN f n s = some r
  | 0, s, _, h => absurd h (Nat.not_lt_zero _)
  | n + 1, s, hI, h => step s _ hI fun s' hI' hm => loop_eq I m r step n s' hI' (by omega)
theorem nv_take_pred {a : List Nat} {k : Nat} (hk : k + 1 ≤ a.length) (h0 : a.getD k 0 = 0) : nv (a.take k) = nv (a.take (k + 1)) := by
  rw [nv_take_succ, h0]; simp
theorem toL_take_top {a : List Nat} (h : Limbs a) {k : Nat} (hk : k + 1 ≤ a.length) (h0 : a.getD k 0 ≠ 0) : toL (nv (a.take (k + 1))) = a.take (k + 1) := by grind [toL_of_last, Limbs.take, List.length_take]
theorem M_nat_plain_own_eq {fu : Nat} {a : List Nat} (h : Limbs a) (hl : a.length ≤ 17592186044416) (hf : a.length < fu) : M_nat_plain_own fu a = some (toL (nv a)) := by
  unfold M_nat_plain_own
  rw [bd_t (v := toL (nv a))]
  refine loop_eq (fun l => Limbs l ∧ nv l = nv a ∧ l.length ≤ 17592186044416) (fun l => l.length) _ ?_ _ _ ⟨h, rfl, hl⟩ hf
  rintro l L ⟨hL, hn, hk⟩ ih
  unfold B_nat_plain_own_0
  by_cases h0 : 0 < ((l.length : Nat) : Int)
  · obtain ⟨k, hk1⟩ : ∃ k, l.length = k + 1 := ⟨l.length - 1, by omega⟩
    have e1 : ((l.length : Nat) : Int) - 1 = (k : Int) := by omega
    rw [if_pos h0, e1, ck64_t ⟨by omega, by omega⟩, ckI_n (by omega), nm_t]
    by_cases h1 : l.getD k 0 = 0
    · rw [if_pos (by rw [h1]), ck64_t ⟨by omega, by omega⟩, ckN_n, ck_t (by omega), nm_t]
      refine ih _ ⟨hL.take _, ?_, by rw [List.length_take]; omega⟩ (by rw [List.length_take]; omega)
      rw [nv_take_pred (by omega) h1, ← hk1, List.take_length, hn]
    · rw [if_neg (by omega), ← hn]
      have := toL_take_top hL (k := k) (by omega) h1
      rw [← hk1, List.take_length] at this
      rw [this]
  · rw [if_neg h0, ← hn]
    have : l = [] := List.length_eq_zero_iff.1 (by omega)
    rw [this]; rfl
theorem M_nat_plain_eq {fu : Nat} {a : List Nat} (h : Limbs a) (hl : a.length ≤ 17592186044416) (hf : a.length < fu) : M_nat_plain fu a = some (toL (nv a)) := by
  have := M_nat_plain_own_eq h hl hf
  unfold M_nat_plain_own B_nat_plain_own_0 at this
  unfold M_nat_plain B_nat_plain_0
  exact this
theorem and32 (x : Nat) : x &&& 4294967295 = x % 4294967296 := Nat.and_two_pow_sub_one_eq_mod x 32
theorem min32 : min (((32 : Nat) : Int)).toNat 64 = 32 := by decide
theorem M_math_bits_Mul64_eq {fu x y : Nat} (hx : x < 18446744073709551616) (hy : y < 18446744073709551616) : M_math_bits_Mul64 fu x y = some (x * y / 18446744073709551616, x * y % 18446744073709551616) := by
  unfold M_math_bits_Mul64
  simp only [nm, and32, min32]
  obtain ⟨b1, b2, b3, b4⟩ := mul64_b hx hy
  have e := mul64_eq x y
  generalize hA : (x % 4294967296) * (y % 4294967296) = A at *
  generalize hB : (x / 2 ^ 32) * (y % 4294967296) = B at *
  generalize hC : (x % 4294967296) * (y / 2 ^ 32) = C at *
  generalize hD : (x / 2 ^ 32) * (y / 2 ^ 32) = D at *
  have hz : x * y < 18446744073709551616 * 18446744073709551616 := Nat.mul_lt_mul'' hx hy
  generalize x * y = z at *
  congr 2
  omega
theorem M_nat_carried_eq {fu n : Nat} {f : Int → Nat → Option (Nat × Nat)} {step : Nat → Nat → Nat × Nat} (hn : n ≤ 17179869184) (hf : n < fu)
    (h : ∀ k, k < n → f (k : Int) (carS step k).2 = some (step k (carS step k).2)) : M_nat_carried fu n f = some (carS step n) := by
  unfold M_nat_carried
  rw [ckN_n, ck_t (by omega), nm_t, bd_t (v := ((carS step n).2, (carS step n).1))]
  refine loop_eq (fun s : Nat × Int × List Nat => ∃ k : Nat, k ≤ n ∧ s = ((carS step k).2, (k : Int), (carS step k).1 ++ List.replicate (n - k) 0)) (fun s => n - s.2.1.toNat) _ ?_ _ _ ⟨0, by omega, rfl⟩ (by simpa using hf)
  rintro s L ⟨k, hk, rfl⟩ ih
  unfold B_nat_carried_0
  simp only [List.length_replicate]
  by_cases h1 : (k : Int) < (n : Int)
  · have hl : (carS step k).1.length = k := carS_length step k
    rw [if_pos h1, bd_t (h k (by omega)), ckI_n (by simp [hl]; omega), nm_t, ck64_t ⟨by omega, by omega⟩]
    refine ih _ ⟨k + 1, by omega, ?_⟩ (by show n - ((k : Int) + 1).toNat < n - ((k : Int)).toNat; omega)
    rw [set_mid hl (by omega)]; rfl
  · rw [if_neg h1]
    obtain rfl : k = n := by omega
    simp
theorem M_nat_at_eq {fu k : Nat} (a : List Nat) (hl : a.length ≤ 9223372036854775807) : M_nat_at fu a (k : Int) = some (a.getD k 0) := by grind [M_nat_at, ckI_n, nm_t, List.getElem?_eq_none]
theorem M_nat_Add_eq {fu : Nat} {a b : List Nat} (ha : Limbs a) (hb : Limbs b) (hla : a.length ≤ 8589934592) (hlb : b.length ≤ 8589934592) (hf : max a.length b.length + 1 < fu) :
    M_nat_Add fu a b = some (toL (nv a + nv b)) := by
  unfold M_nat_Add
  have e : max ((a.length : Nat) : Int) ((b.length : Nat) : Int) = ((max a.length b.length : Nat) : Int) := by omega
  have hc : ∀ k, (carS (addS a b) k).2 ≤ 1 := by
    intro k
    induction k with
    | zero => exact Nat.zero_le _
    | succ k ih => exact addS_carry ha hb ih
  rw [nm_t, e, bd_t (M_nat_carried_eq (step := addS a b) (by omega) (by omega) ?_)]
  · have hl := carS_length (addS a b) (max a.length b.length)
    show ck _ _ = _
    rw [ck_t (by simp [hl]; omega), nm_t, bd_t (M_nat_plain_own_eq ?_ (by simp [hl]; omega) (by simp [hl]; omega)), addS_val (by omega) (by omega)]
    exact (addS_inv a b _).2.append (Limbs.cons (by have := hc (max a.length b.length); omega) Limbs.nil)
  · intro k hk
    unfold M_nat_Add_1
    rw [bd_t (M_nat_at_eq a (by omega)), bd_t (M_nat_at_eq b (by omega)), ck_t (hc k)]; rfl
theorem rowS_c {a : List Nat} {x : Nat} (ha : Limbs a) (hx : x < 18446744073709551616) : ∀ k, (carS (rowS a x) k).2 < 18446744073709551616
  | 0 => Nat.zero_lt_succ _
  | k + 1 => rowS_carry ha hx (rowS_c ha hx k)
theorem row_words {a x c : Nat} (ha : a < 18446744073709551616) (hx : x < 18446744073709551616) (hc : c < 18446744073709551616) :
    ((a * x % 18446744073709551616 + c) % 18446744073709551616, (a * x / 18446744073709551616 + (a * x % 18446744073709551616 + c) / 18446744073709551616) % 18446744073709551616) = ((a * x + c) % 18446744073709551616, (a * x + c) / 18446744073709551616) := by
  have := mul_lt_words ha hx hc
  generalize a * x = z at *
  congr 1 <;> omega
theorem M_nat_row_eq {fu : Nat} {a : List Nat} {x : Nat} (ha : Limbs a) (hx : x < 18446744073709551616) (hla : a.length ≤ 8589934592) (hf : a.length < fu) : M_nat_row fu a x = some (digs (a.length + 1) (nv a * x)) := by
  unfold M_nat_row
  rw [bd_t (M_nat_carried_eq (step := rowS a x) (by omega) hf ?_)]
  · have hl := carS_length (rowS a x) a.length
    simp only []
    rw [ck_t (by simp [hl]; omega), nm_t, rowS_row (rowS_c ha hx _)]
  · intro k hk
    unfold M_nat_row_1
    rw [ckI_n hk, nm_t, bd_t (M_math_bits_Mul64_eq (ha.getD k) hx)]
    simp only [nm, Nat.add_zero]
    exact congrArg some (row_words (ha.getD k) hx (rowS_c ha hx k))
def blf : Nat → Nat → Nat
  | 0, _ => 0
  | f + 1, n => if n = 0 then 0 else blf f (n / 2) + 1
def bl (n : Nat) : Nat := blf n n
theorem blf_eq : ∀ f f' n, n ≤ f → n ≤ f' → blf f n = blf f' n
  | 0, f', n, h, h' => by
    obtain rfl : n = 0 := by omega
    cases f' <;> rfl
  | f + 1, 0, n, h, h' => by
    obtain rfl : n = 0 := by omega
    rfl
  | f + 1, f' + 1, n, h, h' => by
    unfold blf
    split
    · rfl
    · rw [blf_eq f f' (n / 2) (by omega) (by omega)]
theorem bl_pos {n : Nat} (h : 0 < n) : bl n = bl (n / 2) + 1 := by
  obtain ⟨m, rfl⟩ : ∃ m, n = m + 1 := ⟨n - 1, by omega⟩
  show (if m + 1 = 0 then 0 else blf m ((m + 1) / 2) + 1) = _
  rw [if_neg (by omega), blf_eq m ((m + 1) / 2) ((m + 1) / 2) (by omega) (Nat.le_refl _)]; rfl
theorem bl_shift : ∀ (k : Nat) {n : Nat}, 2 ^ k ≤ n → bl n = bl (n / 2 ^ k) + k
  | 0, n, h => by simp
  | k + 1, n, h => by
    have h2 : 0 < 2 ^ k := Nat.two_pow_pos k
    rw [Nat.pow_succ] at h
    rw [bl_pos (by omega), bl_shift k (n := n / 2) (by omega), Nat.div_div_eq_div_mul, Nat.pow_succ, Nat.mul_comm 2]
    omega
theorem bl_le {n k : Nat} (h : n < 2 ^ k) : bl n ≤ k := by
  induction k generalizing n with
  | zero =>
    obtain rfl : n = 0 := by omega
    exact Nat.le_refl _
  | succ k ih =>
    rcases Nat.eq_zero_or_pos n with rfl | h0
    · exact Nat.zero_le _
    · rw [bl_pos h0]
      have := ih (n := n / 2) (by rw [Nat.pow_succ] at h; omega)
      omega
theorem lt_bl (n : Nat) : n < 2 ^ bl n := by
  induction n using Nat.strongRecOn with
  | ind n ih =>
    rcases Nat.eq_zero_or_pos n with rfl | h0
    · decide
    · rw [bl_pos h0, Nat.pow_succ]
      have := ih (n / 2) (by omega)
      omega
theorem bitLen_bl : ∀ {n : Nat}, n < 256 → Lib.bitLen n = bl n := by decide +kernel
theorem M_math_bits_Len64_eq {fu x : Nat} (hx : x < 18446744073709551616) : M_math_bits_Len64 fu x = some ((bl x : Nat) : Int) := by
  unfold M_math_bits_Len64
  have e16 : min ((16 : Int)).toNat 64 = 16 := by decide
  have e8 : min ((8 : Int)).toNat 64 = 8 := by decide
  have e32 : min ((32 : Int)).toNat 64 = 32 := by decide
  simp only [nm, e32, e16, e8]
  have last : ∀ (d : Nat) (i : Int), d < 65536 → 0 ≤ i → i ≤ 48 → (if (256 : Int) ≤ ((d : Nat) : Int) then ck64 (i + 8) fun x2 => ck64 (x2 + ((Lib.bitLen (d / 2 ^ 8 % 256) : Nat) : Int)) fun x3 => some x3 else ck64 (i + ((Lib.bitLen (d % 256) : Nat) : Int)) fun x4 => some x4) = some (i + ((bl d : Nat) : Int)) := by
    intro d i hd h0 h1
    by_cases h : 256 ≤ d
    · have b := bl_le (n := d / 2 ^ 8) (k := 8) (by omega)
      rw [if_pos (by omega), ck64_t ⟨by omega, by omega⟩, Nat.mod_eq_of_lt (by omega), bitLen_bl (by omega), ck64_t ⟨by omega, by omega⟩, bl_shift 8 (n := d) (by omega)]
      congr 1; omega
    · have b := bl_le (n := d) (k := 8) (by omega)
      rw [if_neg (by omega), Nat.mod_eq_of_lt (by omega), bitLen_bl (by omega), ck64_t ⟨by omega, by omega⟩]
  have mid : ∀ (d : Nat) (i : Int), d < 4294967296 → 0 ≤ i → i ≤ 32 → (bd (if (65536 : Int) ≤ ((d : Nat) : Int) then ck64 (i + 16) fun x1 => some (d / 2 ^ 16, x1) else some (d, i)) fun (d2, i2) => if (256 : Int) ≤ ((d2 : Nat) : Int) then ck64 (i2 + 8) fun x2 => ck64 (x2 + ((Lib.bitLen (d2 / 2 ^ 8 % 256) : Nat) : Int)) fun x3 => some x3 else ck64 (i2 + ((Lib.bitLen (d2 % 256) : Nat) : Int)) fun x4 => some x4) = some (i + ((bl d : Nat) : Int)) := by
    intro d i hd h0 h1
    by_cases h : 65536 ≤ d
    · rw [if_pos (by omega), ck64_t ⟨by omega, by omega⟩, bd_t rfl]
      simp only []
      rw [last _ _ (by omega) (by omega) (by omega), bl_shift 16 (n := d) (by omega)]
      congr 1; omega
    · rw [if_neg (by omega), bd_t rfl]
      exact last _ _ (by omega) (by omega) (by omega)
  by_cases h : 4294967296 ≤ x
  · rw [if_pos (by omega), bd_t rfl]
    simp only []
    rw [mid _ _ (by omega) (by omega) (by omega), bl_shift 32 (n := x) (by omega)]
    congr 1; omega
  · rw [if_neg (by omega), bd_t rfl]
    simp only []
    rw [mid _ _ (by omega) (by omega) (by omega)]
    congr 1; omega
theorem M_ref01_Same_eq {fu : Nat} {a b : List Nat} (hla : a.length ≤ 1099511627776) (hf : a.length < fu) : M_ref01_Same fu a b = some (decide (a = b)) := by
  unfold M_ref01_Same
  by_cases hl : a.length = b.length
  · rw [if_pos (by omega), bd_t (v := if a = b then .inl () else .inr ())]
    · by_cases h : a = b
      · rw [if_pos h, decide_eq_true h]
      · rw [if_neg h, decide_eq_false h]
    · refine loop_eq (fun i : Int => ∃ k : Nat, i = (k : Int) ∧ k ≤ a.length ∧ a.take k = b.take k) (fun i => a.length - i.toNat) _ ?_ _ _ ⟨0, rfl, by omega, rfl⟩ (by show a.length - 0 < fu; omega)
      rintro i L ⟨k, rfl, hk, ht⟩ ih
      unfold B_ref01_Same_0
      by_cases h1 : k < a.length
      · rw [if_pos (by omega), ckI_n h1, nm_t, ckI_n (by omega), nm_t]
        by_cases h2 : a.getD k 0 = b.getD k 0
        · rw [if_pos (by omega), ck64_t ⟨by omega, by omega⟩]
          refine ih _ ⟨k + 1, by omega, by omega, ?_⟩ (by show a.length - ((k : Int) + 1).toNat < a.length - (k : Int).toNat; omega)
          rw [List.take_add_one, List.take_add_one, ht, getD_some 0 h1, getD_some 0 (by omega : k < b.length), h2]
        · rw [if_neg (by omega), if_neg (fun h => h2 (by rw [h]))]
      · rw [if_neg (by omega)]
        obtain rfl : k = a.length := by omega
        rw [List.take_length, List.take_of_length_le (by omega)] at ht
        rw [if_pos ht]
  · rw [if_neg (by omega), decide_eq_false (fun h => hl (by rw [h]))]
theorem z_bd {R S : Type} {v : S} {k : S → Option R} : bd (some v) k = k v := rfl
theorem z_nm {R S : Type} {v : S} {k : S → Option R} : nm v k = k v := rfl
theorem dv_snoc (l : Tx) (c : Nat) : dv (l ++ [c]) = 10 * dv l + (c - 48) := by unfold dv; rw [List.foldl_append]; rfl
theorem isDg_iff {c : Nat} : isDg c = true ↔ 48 ≤ c ∧ c ≤ 57 := by simp [isDg]
def Dg (l : Tx) : Prop := ∀ c ∈ l, isDg c = true
theorem Dg.left {a b : Tx} (h : Dg (a ++ b)) : Dg a := fun c hc => h c (List.mem_append_left _ hc)
theorem dv_lt : ∀ (n : Nat) (l : Tx), l.length = n → Dg l → dv l < 10 ^ n
  | 0, l, hn, h => by rw [List.length_eq_zero_iff.1 hn]; decide
  | n + 1, l, hn, h => by
    have hne : l ≠ [] := fun e => by rw [e] at hn; simp at hn
    obtain ⟨a, c, rfl⟩ : ∃ a c, l = a ++ [c] := ⟨l.dropLast, l.getLast hne, (List.dropLast_concat_getLast hne).symm⟩
    have h1 := dv_lt n a (by rw [List.length_append] at hn; simp at hn; exact hn) h.left
    have h2 := isDg_iff.1 (h c (by simp))
    rw [dv_snoc, Nat.pow_succ]; omega
theorem dv_64 (l : Tx) (h : Dg l) : dv l < 18446744073709551616 ^ l.length := Nat.lt_of_lt_of_le (dv_lt _ l rfl h) (Nat.pow_le_pow_left (by decide) _)
theorem toL_dv_len (l : Tx) (h : Dg l) : (toL (dv l)).length ≤ l.length := (toL_length _ _).2 (dv_64 l h)
theorem nv_one1 (x : Nat) : nv [x] = x := by simp [nv]
def Nz (l : Tx) : Prop := l ≠ [] ∧ (l.headD 0 = 48 → l.length = 1)
theorem M_nat_Parse_dv {fu : Nat} {ds : Tx} (h : Dg ds) (hz : Nz ds) (hl : ds.length ≤ 4096) (hf : 5000 ≤ fu) : M_nat_Parse fu ds = some (toL (dv ds), 0) := by
  have loop : ∀ (r : Tx) (a : Tx) (n : Nat), a ++ r = ds → r.length < n → loopN (B_nat_Parse_0 fu ds) n (toL (dv a), ((a.length : Nat) : Int)) = some (.inl (toL (dv ds))) := by
    intro r
    induction r with
    | nil =>
      intro a n ha hn
      obtain ⟨n, rfl⟩ : ∃ m, n = m + 1 := ⟨n - 1, by omega⟩
      rw [List.append_nil] at ha
      subst ha
      rw [loopN_t]
      unfold B_nat_Parse_0
      simp only []
      rw [if_neg (by omega), z_bd]
      rfl
    | cons c r ih =>
      intro a n ha hn
      obtain ⟨n, rfl⟩ : ∃ m, n = m + 1 := ⟨n - 1, by omega⟩
      have hc := isDg_iff.1 (h c (by rw [← ha]; simp))
      have hlen : a.length < ds.length := by rw [← ha, List.length_append, List.length_cons]; omega
      have hget : ds.getD a.length 0 = c := by rw [← ha]; simp
      have hda : Dg a := by rw [← ha] at h; exact h.left
      have hta := toL_dv_len a hda
      have hp := dv_64 a hda
      rw [loopN_t]
      generalize hL : loopN (B_nat_Parse_0 fu ds) n = L
      unfold B_nat_Parse_0
      simp only []
      rw [if_pos (by omega), z_bd]
      simp only [if_true]
      rw [ckI_n hlen, z_nm, hget, if_neg (by omega), if_neg (by omega), bd_t (M_nat_row_eq (toL_limbs _) (by decide) (by omega) (by omega)), z_nm]
      have hm : (c + 256 - 48) % 256 = c - 48 := by omega
      rw [hm, nv_toL]
      have hx : Limbs [c - 48] := fun x hx => by rw [List.mem_singleton.1 hx]; omega
      rw [bd_t (M_nat_Add_eq (digs_limbs _ _) hx (by rw [digs_length]; omega) (by simp) (by rw [digs_length]; simp; omega)), nv_digs, nv_one1, ck64_t ⟨by omega, by omega⟩]
      have hb : dv a * 10 % 18446744073709551616 ^ ((toL (dv a)).length + 1) = dv a * 10 := by
        refine Nat.mod_eq_of_lt ?_
        have h1 : dv a < 18446744073709551616 ^ (toL (dv a)).length := (toL_length _ _).1 (Nat.le_refl _)
        rw [Nat.pow_succ]
        generalize 18446744073709551616 ^ (toL (dv a)).length = q at h1
        omega
      rw [hb]
      have e1 : dv a * 10 + (c - 48) = dv (a ++ [c]) := by rw [dv_snoc]; omega
      rw [e1]
      have := ih (a ++ [c]) n (by rw [← ha]; simp) (by simp at hn; omega)
      rw [List.length_append] at this
      rw [← hL]
      exact this
  unfold M_nat_Parse
  have h0 : 0 < ds.length := List.length_pos_iff.2 hz.1
  have hl2 := loop ds [] fu rfl (by omega)
  rw [if_neg (by omega), if_neg (by omega)]
  have hg : ds.getD 0 0 = ds.headD 0 := by cases ds <;> rfl
  rw [show ((0 : Int)) = ((0 : Nat) : Int) from rfl, ckI_n h0, z_nm, hg]
  by_cases h48 : ds.headD 0 = 48
  · rw [if_pos (by rw [h48]), if_neg (by have := hz.2 h48; omega), z_bd]
    simp only []
    rw [show loopN (B_nat_Parse_0 fu ds) fu ([], ((0 : Nat) : Int)) = _ from hl2, z_bd]
  · rw [if_neg (by omega), z_bd]
    simp only []
    rw [show loopN (B_nat_Parse_0 fu ds) fu ([], ((0 : Nat) : Int)) = _ from hl2, z_bd]
theorem dv_mono (l : Tx) (c : Nat) (n : Nat) : n ≤ (c :: l).foldl (fun n c => 10 * n + (c - 48)) n := by
  induction l generalizing c n with
  | nil => simp only [List.foldl_cons, List.foldl_nil]; omega
  | cons d l ih =>
    rw [List.foldl_cons]
    have := ih d (10 * n + (c - 48))
    omega
theorem dv_fold (l : Tx) (n : Nat) : n ≤ l.foldl (fun n c => 10 * n + (c - 48)) n := by
  cases l with
  | nil => exact Nat.le_refl _
  | cons c l => exact dv_mono l c n
theorem parse_small : ∀ (l : Tx) (n : Nat), Dg l → l.foldl (fun n c => 10 * n + (c - 48)) n < 18446744073709551616 → Lib.parseUint10 n (l.map UInt8.ofNat) = .ok (l.foldl (fun n c => 10 * n + (c - 48)) n)
  | [], n, _, _ => rfl
  | c :: l, n, h, hs => by
    have hc := isDg_iff.1 (h c (List.mem_cons_self ..))
    have hcn : (UInt8.ofNat c).toNat = c := by rw [UInt8.toNat_ofNat']; omega
    rw [List.foldl_cons] at hs ⊢
    have hm := dv_fold l (10 * n + (c - 48))
    rw [List.map_cons]
    unfold Lib.parseUint10
    rw [hcn, if_pos hc, if_neg (by omega), if_neg (by omega)]
    rw [show n * 10 + (c - 48) = 10 * n + (c - 48) by omega]
    exact parse_small l _ (fun x hx => h x (List.mem_cons_of_mem _ hx)) hs
theorem parse_ok : ∀ (l : List UInt8) (n u : Nat), Lib.parseUint10 n l = .ok u → u = (l.map UInt8.toNat).foldl (fun n c => 10 * n + (c - 48)) n
  | [], n, u, h => by
    unfold Lib.parseUint10 at h; cases h; rfl
  | c :: l, n, u, h => by
    unfold Lib.parseUint10 at h
    split at h
    · split at h
      · cases h
      · split at h
        · cases h
        · rw [List.map_cons, List.foldl_cons, parse_ok l _ u h, show n * 10 + (c.toNat - 48) = 10 * n + (c.toNat - 48) by omega]
    · cases h
theorem map_back {l : Tx} (h : Dg l) : (l.map UInt8.ofNat).map UInt8.toNat = l := by
  rw [List.map_map]
  conv => rhs; rw [← List.map_id l]
  refine List.map_congr_left fun c hc => ?_
  have := isDg_iff.1 (h c hc)
  show (UInt8.ofNat c).toNat = c
  rw [UInt8.toNat_ofNat']; omega
theorem atoi_dv {ds : Tx} (h : Dg ds) (hz : Nz ds) : (dv ds ≤ 1000 ∧ atoiE ds = ((dv ds : Int), false)) ∨ (1000 < dv ds ∧ (∀ v, atoiE ds = (v, false) → 1000 < v)) := by
  have hp : ∀ c r, ds = c :: r → Lib.atoiAll (ds.map UInt8.ofNat) = Lib.signless (Lib.parseMag (ds.map UInt8.ofNat)) := fun c r e => by
    subst e
    have hc := isDg_iff.1 (h c (List.mem_cons_self ..))
    have hcn : (UInt8.ofNat c).toNat = c := by rw [UInt8.toNat_ofNat']; omega
    exact Lib.atoiAll_plain _ _ (by rw [hcn]; omega) (by rw [hcn]; omega)
  cases hd : ds with
  | nil => exact absurd hd hz.1
  | cons c r =>
    have hp := hp c r hd
    rw [← hd]
    have hne : ds.map UInt8.ofNat ≠ [] := by rw [hd]; simp
    have hm : Lib.parseMag (ds.map UInt8.ofNat) = Lib.parseUint10 0 (ds.map UInt8.ofNat) := by unfold Lib.parseMag; rw [if_neg hne]
    unfold atoiE
    rw [hp, hm]
    by_cases hs : dv ds ≤ 1000
    · left
      refine ⟨hs, ?_⟩
      rw [parse_small ds 0 h (by unfold dv at hs; omega)]
      unfold Lib.signless
      have : ¬ 9223372036854775808 ≤ dv ds := by omega
      unfold dv at this
      simp only [this, if_false]
      rfl
    · right
      refine ⟨by omega, fun v => ?_⟩
      cases hu : Lib.parseUint10 0 (ds.map UInt8.ofNat) with
      | ok u =>
        have := parse_ok _ _ _ hu
        rw [map_back h] at this
        have hu2 : u = dv ds := this
        unfold Lib.signless
        simp only []
        split
        · next e => split at e <;> cases e; intro e2; cases e2; omega
        · intro e; cases e
        · intro e; cases e
      | range => intro e; cases e
      | _ => intro e; cases e
section
def pp (s l : Tx) : Int := ((s.length - l.length : Nat) : Int)
def enP {α β : Type} (s : Tx) (od : β) : Rd α → PX ⊕ (α × (Tx × (Int × β)))
  | .inl b => .inl (33, pp s b)
  | .inr (x, r) => .inr (x, (s, (pp s r, od)))
section
variable {s l k r : Tx} {c fu : Nat}
theorem suf_get (h : c :: r <:+ s) : s.getD (s.length - (c :: r).length) 0 = c := by
  obtain ⟨t, rfl⟩ := h
  rw [List.length_append, show t.length + (c :: r).length - (c :: r).length = t.length by omega]
  simp
theorem suf_lt (h : c :: r <:+ s) : s.length - (c :: r).length < s.length := by
  have := h.length_le
  rw [List.length_cons] at *
  omega
theorem suf_drop (h : l <:+ s) : s.drop (s.length - l.length) = l := by
  obtain ⟨t, rfl⟩ := h
  rw [List.length_append, show t.length + l.length - l.length = t.length by omega]
  simp
theorem pp_succ (h : c :: r <:+ s) : pp s (c :: r) + 1 = pp s r := by
  have := h.length_le
  rw [List.length_cons] at this
  unfold pp
  rw [List.length_cons]; omega
theorem pp_nil : pp s [] = (s.length : Int) := rfl
theorem pp_lt (h : c :: r <:+ s) : pp s (c :: r) < (s.length : Int) := by
  have := suf_lt h; unfold pp; omega
theorem pp_rng (hs : s.length ≤ 4096) : 0 ≤ pp s l ∧ pp s l ≤ 4096 := by unfold pp; omega
theorem pp_inj (h : l <:+ s) (h2 : k <:+ s) : pp s l = pp s k ↔ l.length = k.length := by
  have := h.length_le
  have := h2.length_le
  unfold pp; omega
theorem pp_ckI {R : Type} {f : Nat → Option R} (h : c :: r <:+ s) : ckI (pp s (c :: r)) s.length f = f (s.length - (c :: r).length) := ckI_n (suf_lt h)
theorem suf_tail (h : c :: r <:+ s) : r <:+ s := (List.suffix_cons c r).trans h
theorem pp_64 {R : Type} {f : Int → Option R} (hs : s.length ≤ 4096) (h : c :: r <:+ s) : ck64 (pp s (c :: r) + 1) f = f (pp s r) := by
  rw [pp_succ h, ck64_t]
  have := pp_rng (l := r) hs
  exact ⟨by omega, by omega⟩
end
theorem ifdig (c : Nat) {R : Type} (a b : Option R) : (if (((48 : Nat) : Nat) : Int) ≤ ((c : Nat) : Int) then (if ((c : Nat) : Int) ≤ (((57 : Nat) : Nat) : Int) then a else b) else b) = if isDg c = true then a else b := by
  unfold isDg
  by_cases h1 : 48 ≤ c
  · rw [if_pos (by omega)]
    by_cases h2 : c ≤ 57
    · rw [if_pos (by omega), if_pos (by simp [h1, h2])]
    · rw [if_neg (by omega), if_neg (by simp [h2])]
  · rw [if_neg (by omega), if_neg (by simp [h1])]
theorem ifltr (c : Nat) {R : Type} (a b : Option R) : (if (((97 : Nat) : Nat) : Int) ≤ ((c : Nat) : Int) then (if ((c : Nat) : Int) ≤ (((122 : Nat) : Nat) : Int) then a else b) else b) = if isLt c = true then a else b := by
  unfold isLt
  by_cases h1 : 97 ≤ c
  · rw [if_pos (by omega)]
    by_cases h2 : c ≤ 122
    · rw [if_pos (by omega), if_pos (by simp [h1, h2])]
    · rw [if_neg (by omega), if_neg (by simp [h2])]
  · rw [if_neg (by omega), if_neg (by simp [h1])]
section
variable {s : Tx} {fu : Nat} {od : Int × Int}
theorem px_next_loop (hs : s.length ≤ 4096) : ∀ (l : Tx) (n : Nat), l <:+ s → l.length < n → loopN (B_expr_parser_next_io_0 fu) n (s, (pp s l, od)) = some (s, (pp s (skp l), od))
  | [], n, hl, hn => by
    obtain ⟨n, rfl⟩ : ∃ m, n = m + 1 := ⟨n - 1, by omega⟩
    rw [loopN_t]
    unfold B_expr_parser_next_io_0
    simp only []
    rw [if_neg (by rw [pp_nil]; omega)]; rfl
  | c :: r, n, hl, hn => by
    obtain ⟨n, rfl⟩ : ∃ m, n = m + 1 := ⟨n - 1, by omega⟩
    have ih := px_next_loop hs r n (suf_tail hl) (by rw [List.length_cons] at hn; omega)
    rw [loopN_t]
    generalize loopN (B_expr_parser_next_io_0 fu) n = L at ih
    unfold B_expr_parser_next_io_0
    simp only []
    rw [if_pos (pp_lt hl), pp_ckI hl, z_nm, suf_get hl]
    by_cases hc : c = 32
    · rw [if_pos (by rw [hc]), pp_64 hs hl, z_nm, ih, skp, if_pos hc]
    · rw [if_neg (by omega), skp, if_neg hc]
theorem px_next_n (hs : s.length ≤ 4096) (hf : 5000 ≤ fu) {l : Tx} (hl : l <:+ s) (hk : skp l = []) : M_expr_parser_next_io fu (s, (pp s l, od)) = some (0, false, (s, (pp s [], od))) := by
  unfold M_expr_parser_next_io
  have h1 := hl.length_le
  rw [bd_t (px_next_loop hs l fu hl (by omega)), hk]
  simp only []
  rw [if_pos pp_nil]
theorem px_next_c (hs : s.length ≤ 4096) (hf : 5000 ≤ fu) {l : Tx} (hl : l <:+ s) {c : Nat} {r : Tx} (hk : skp l = c :: r) : M_expr_parser_next_io fu (s, (pp s l, od)) = some (c, true, (s, (pp s (c :: r), od))) := by
  unfold M_expr_parser_next_io
  have h1 := hl.length_le
  have h2 := (skp_suf l).trans hl
  rw [hk] at h2
  rw [bd_t (px_next_loop hs l fu hl (by omega)), hk]
  simp only []
  rw [if_neg (by have := pp_lt h2; omega), pp_ckI h2, z_nm, suf_get h2]
theorem px_next (hs : s.length ≤ 4096) (hf : 5000 ≤ fu) {l : Tx} (hl : l <:+ s) : ∃ c b, M_expr_parser_next_io fu (s, (pp s l, od)) = some (c, b, (s, (pp s (skp l), od))) := by
  cases hk : skp l with
  | nil => exact ⟨_, _, px_next_n hs hf hl hk⟩
  | cons c r => exact ⟨_, _, px_next_c hs hf hl hk⟩
theorem contains_one {fu : Nat} (p : Tx) (c : Nat) : M_strings_Contains fu p [c] = some (p.any fun b => Nat.beq b c) := by
  unfold M_strings_Contains containsN
  rw [ck_t (by simp)]; rfl
theorem px_take_e (hs : s.length ≤ 4096) (hf : 5000 ≤ fu) {l p : Tx} (hl : l <:+ s) (hk : skp l = []) : M_expr_parser_take_io fu (s, (pp s l, od)) p = some (0, false, (s, (pp s [], od))) := by
  unfold M_expr_parser_take_io
  rw [bd_t (px_next_n hs hf hl hk)]; rfl
theorem px_take_n (hs : s.length ≤ 4096) (hf : 5000 ≤ fu) {l p : Tx} (hl : l <:+ s) {c : Nat} {r : Tx} (hk : skp l = c :: r) (hp : p.any (fun b => Nat.beq b c) = false) : M_expr_parser_take_io fu (s, (pp s l, od)) p = some (0, false, (s, (pp s (c :: r), od))) := by
  unfold M_expr_parser_take_io
  rw [bd_t (px_next_c hs hf hl hk)]
  simp only []
  rw [if_neg (by decide), bd_t (contains_one p c), hp]; rfl
theorem px_take_y (hs : s.length ≤ 4096) (hf : 5000 ≤ fu) {l p : Tx} (hl : l <:+ s) {c : Nat} {r : Tx} (hk : skp l = c :: r) (hp : p.any (fun b => Nat.beq b c) = true) : M_expr_parser_take_io fu (s, (pp s l, od)) p = some (c, true, (s, (pp s r, od))) := by
  unfold M_expr_parser_take_io
  have h2 := (skp_suf l).trans hl
  rw [hk] at h2
  rw [bd_t (px_next_c hs hf hl hk)]
  simp only []
  rw [if_neg (by decide), bd_t (contains_one p c), hp, if_neg (by decide), pp_64 hs h2]; rfl
theorem any1 {a c : Nat} (h : c ≠ a) : [a].any (fun b => Nat.beq b c) = false := by
  cases hb : Nat.beq a c
  · simp only [List.any_cons, List.any_nil, hb, Bool.or_false]
  · exact absurd (Nat.eq_of_beq_eq_true hb).symm h
theorem any1t {a : Nat} : [a].any (fun b => Nat.beq b a) = true := by simp
theorem any2 {a b c : Nat} (h : c ≠ a) (h2 : c ≠ b) : [a, b].any (fun b => Nat.beq b c) = false := by
  cases hb : Nat.beq a c
  · cases hb2 : Nat.beq b c
    · simp only [List.any_cons, List.any_nil, hb, hb2, Bool.or_false]
    · exact absurd (Nat.eq_of_beq_eq_true hb2).symm h2
  · exact absurd (Nat.eq_of_beq_eq_true hb).symm h
theorem dwS_loop (hs : s.length ≤ 4096) {k : Tx} {c0 : Nat} {r0 : Tx} (hk : c0 :: r0 <:+ s) (h0 : c0 ≠ 48) : ∀ (l : Tx) (n : Nat), l <:+ s → l.length < (c0 :: r0).length → l.length < n →
    loopN (B_expr_parser_digits_io_0 fu (s, (pp s (c0 :: r0), od))) n (s, (pp s l, od)) = some (s, (pp s (dwS l), od))
  | [], n, hl, hlt, hn => by
    obtain ⟨n, rfl⟩ : ∃ m, n = m + 1 := ⟨n - 1, by omega⟩
    rw [loopN_t]
    unfold B_expr_parser_digits_io_0
    simp only []
    rw [if_neg (by rw [pp_nil]; omega)]; rfl
  | c :: r, n, hl, hlt, hn => by
    obtain ⟨n, rfl⟩ : ∃ m, n = m + 1 := ⟨n - 1, by omega⟩
    have ih := dwS_loop hs (k := k) hk h0 r n (suf_tail hl) (by rw [List.length_cons] at hlt; omega) (by rw [List.length_cons] at hn; omega)
    rw [loopN_t]
    generalize loopN (B_expr_parser_digits_io_0 fu (s, (pp s (c0 :: r0), od))) n = L at ih
    unfold B_expr_parser_digits_io_0
    simp only []
    rw [if_pos (pp_lt hl), pp_ckI hl, z_nm, suf_get hl]
    by_cases h1 : 48 ≤ c
    · rw [if_pos (by omega), pp_ckI hl, z_nm, suf_get hl]
      by_cases h2 : c ≤ 57
      · rw [if_pos (by omega), if_neg (by rw [pp_inj hl hk]; omega), pp_ckI hk, z_nm, suf_get hk, if_neg (by omega), z_bd]
        simp only []
        rw [pp_64 hs hl, z_nm, ih, dwS, if_pos (by simp [isDg, h1, h2])]
      · rw [if_neg (by omega), z_bd, dwS, if_neg (by simp [isDg, h2])]
    · rw [if_neg (by omega), z_bd, dwS, if_neg (by simp [isDg, h1])]
theorem nbS_loop (hs : s.length ≤ 4096) : ∀ (k : Tx) (n : Nat), k <:+ s → k.length + 1 < n →
    loopN (B_expr_parser_digits_io_0 fu (s, (pp s k, od))) n (s, (pp s k, od)) = some (s, (pp s (nbS k), od))
  | [], n, hl, hn => by
    obtain ⟨n, rfl⟩ : ∃ m, n = m + 1 := ⟨n - 1, by omega⟩
    rw [loopN_t]
    unfold B_expr_parser_digits_io_0
    simp only []
    rw [if_neg (by rw [pp_nil]; omega)]; rfl
  | c :: r, n, hl, hn => by
    obtain ⟨n, rfl⟩ : ∃ m, n = m + 1 := ⟨n - 1, by omega⟩
    rw [List.length_cons] at hn
    have hr := suf_tail hl
    have ih : loopN (B_expr_parser_digits_io_0 fu (s, (pp s (c :: r), od))) n (s, (pp s r, od)) = some (s, (pp s (if c = 48 then r else dwS r), od)) := by
      by_cases h0 : c = 48
      · rw [if_pos h0]
        subst h0
        obtain ⟨n, rfl⟩ : ∃ m, n = m + 1 := ⟨n - 1, by omega⟩
        rw [loopN_t]
        unfold B_expr_parser_digits_io_0
        simp only []
        cases r with
        | nil => rw [if_neg (by rw [pp_nil]; omega)]; rfl
        | cons d r2 =>
          rw [if_pos (pp_lt hr), pp_ckI hr, z_nm, suf_get hr]
          by_cases h1 : 48 ≤ d
          · rw [if_pos (by omega), pp_ckI hr, z_nm, suf_get hr]
            by_cases h2 : d ≤ 57
            · rw [if_pos (by omega), if_neg (by rw [pp_inj hr hl]; simp only [List.length_cons]; omega), pp_ckI hl, z_nm, suf_get hl, if_pos rfl, z_bd]
            · rw [if_neg (by omega), z_bd]
          · rw [if_neg (by omega), z_bd]
      · rw [if_neg h0]
        exact dwS_loop hs (k := r) hl h0 r n hr (by simp) (by omega)
    rw [loopN_t]
    generalize loopN (B_expr_parser_digits_io_0 fu (s, (pp s (c :: r), od))) n = L at ih
    unfold B_expr_parser_digits_io_0
    simp only []
    rw [if_pos (pp_lt hl), pp_ckI hl, z_nm, suf_get hl]
    by_cases h1 : 48 ≤ c
    · rw [if_pos (by omega), pp_ckI hl, z_nm, suf_get hl]
      by_cases h2 : c ≤ 57
      · rw [if_pos (by omega), if_pos (c := True) trivial, z_bd]
        simp only []
        rw [pp_64 hs hl, z_nm, ih, nbS]
        by_cases h0 : c = 48
        · rw [if_pos h0, if_pos h0]
        · rw [if_neg h0, if_neg h0, if_pos (by simp [isDg, h1, h2])]
      · rw [if_neg (by omega), z_bd, nbS, if_neg (by omega), if_neg (by simp [isDg, h2])]
    · rw [if_neg (by omega), z_bd, nbS, if_neg (by omega), if_neg (by simp [isDg, h1])]
theorem px_digits (hs : s.length ≤ 4096) (hf : 5000 ≤ fu) {l : Tx} (hl : l <:+ s) : M_expr_parser_digits_io fu (s, (pp s l, od)) = some (enP s od (numS l)) := by
  unfold M_expr_parser_digits_io numS
  obtain ⟨c0, b0, hnx⟩ := px_next (od := od) hs hf hl
  rw [bd_t hnx]
  simp only []
  have h2 := (skp_suf l).trans hl
  generalize skp l = k at h2
  have h3 := h2.length_le
  have h4 := (nbS_suf k).trans h2
  have h5 := (nbS_suf k).length_le
  rw [bd_t (nbS_loop hs k fu h2 (by omega))]
  simp only []
  by_cases he : (nbS k).length = k.length
  · rw [if_pos ((pp_inj h4 h2).2 he), if_pos he]; rfl
  · rw [if_neg (fun e => he ((pp_inj h4 h2).1 e)), if_neg he]
    unfold pp
    rw [ckN_n, ckN_n, ck_t ⟨by omega, by omega⟩, z_nm, suf_drop h2]
    have : s.length - (nbS k).length - (s.length - k.length) = k.length - (nbS k).length := by omega
    rw [this]; rfl
end
theorem dwS_dg : ∀ l : Tx, Dg (l.take (l.length - (dwS l).length))
  | [] => fun c hc => by simp at hc
  | c :: r => by
    have h := (dwS_suf r).length_le
    rw [dwS]
    by_cases hc : isDg c = true
    · rw [if_pos hc, List.length_cons, show r.length + 1 - (dwS r).length = (r.length - (dwS r).length) + 1 by omega, List.take_succ_cons]
      intro x hx
      rcases List.mem_cons.1 hx with rfl | hx
      · exact hc
      · exact dwS_dg r x hx
    · rw [if_neg hc, Nat.sub_self]
      intro x hx
      simp at hx
theorem numS_ok {l d r : Tx} (h : numS l = .inr (d, r)) : Dg d ∧ Nz d ∧ d.length ≤ l.length ∧ r <:+ skp l := by
  unfold numS at h
  have h0 := (skp_suf l).length_le
  split at h
  · cases h
  · next hne =>
    cases h
    refine ⟨?_, ?_, by rw [List.length_take]; omega, nbS_suf _⟩
    · cases hk : skp l with
      | nil => intro c hc; simp at hc
      | cons c r =>
        rw [hk] at hne
        have h := (dwS_suf r).length_le
        rw [nbS] at hne ⊢
        by_cases h1 : c = 48
        · rw [if_pos h1, List.length_cons, show r.length + 1 - r.length = 1 by omega]
          intro x hx
          simp at hx
          rw [hx, h1]; rfl
        · rw [if_neg h1] at hne ⊢
          by_cases h2 : isDg c = true
          · rw [if_pos h2, List.length_cons, show r.length + 1 - (dwS r).length = (r.length - (dwS r).length) + 1 by omega, List.take_succ_cons]
            intro x hx
            rcases List.mem_cons.1 hx with rfl | hx
            · exact h2
            · exact dwS_dg r x hx
          · rw [if_neg h2] at hne; exact absurd rfl hne
    · cases hk : skp l with
      | nil => rw [hk] at hne; exact absurd rfl hne
      | cons c r =>
        rw [hk] at hne
        have h := (dwS_suf r).length_le
        rw [nbS] at hne ⊢
        by_cases h1 : c = 48
        · rw [if_pos h1, List.length_cons, show r.length + 1 - r.length = 1 by omega]
          exact ⟨by simp, fun _ => by simp⟩
        · rw [if_neg h1] at hne ⊢
          by_cases h2 : isDg c = true
          · rw [if_pos h2, List.length_cons, show r.length + 1 - (dwS r).length = (r.length - (dwS r).length) + 1 by omega, List.take_succ_cons]
            exact ⟨by simp, fun h => absurd (by simpa using h) h1⟩
          · rw [if_neg h2] at hne; exact absurd rfl hne
section
variable {s : Tx} {fu : Nat} {od : Int × Int}
def numV (l : Tx) : Rd (List Nat) := match numS l with
  | .inl b => .inl b
  | .inr (d, r) => .inr (toL (dv d), r)
theorem px_number (hs : s.length ≤ 4096) (hf : 10000 ≤ fu) {l : Tx} (hl : l <:+ s) : M_expr_parser_number_io fu (s, (pp s l, od)) = some (enP s od (numV l)) := by
  unfold M_expr_parser_number_io numV
  rw [bd_t (px_digits hs (by omega) hl)]
  have h1 := hl.length_le
  cases hn : numS l with
  | inl b => rfl
  | inr q =>
    obtain ⟨d, r⟩ := q
    obtain ⟨g1, g2, g3, _⟩ := numS_ok hn
    simp only [enP]
    rw [bd_t (M_nat_Parse_dv g1 g2 (by omega) (by omega))]
    rfl
theorem numS_skp (l : Tx) : numS (skp l) = numS l := by unfold numS; rw [skp_skp]
theorem px_exponent (hs : s.length ≤ 4096) (hf : 10000 ≤ fu) {l : Tx} (hl : l <:+ s) : M_expr_parser_exponent_io fu (s, (pp s l, od)) = some (enP s od (expS l)) := by
  unfold M_expr_parser_exponent_io expS
  have h2 := (skp_suf l).trans hl
  obtain ⟨c0, b0, hnx⟩ := px_next (od := od) hs (by omega : 5000 ≤ fu) hl
  rw [bd_t hnx]
  simp only []
  rw [bd_t (px_digits hs (by omega) h2), numS_skp]
  have h1 := hl.length_le
  cases hn : numS l with
  | inl b => rfl
  | inr q =>
    obtain ⟨d, r⟩ := q
    obtain ⟨g1, g2, g3, _⟩ := numS_ok hn
    simp only [enP]
    unfold M_strconv_Atoi atoiN
    rw [ck_t (by omega), z_bd]
    rcases atoi_dv g1 g2 with ⟨a1, a2⟩ | ⟨a1, a2⟩
    · rw [a2, if_pos a1]
      simp only [Bool.not_false, if_true]
      rw [if_neg (show ¬ (1000 : Int) < (dv d : Int) by omega)]
    · rw [if_neg (show ¬ dv d ≤ 1000 by omega)]
      cases hv : atoiE d with
      | mk v b =>
        cases b
        · have := a2 v hv
          simp only [Bool.not_false, if_true]
          rw [if_pos this]
        · rfl
end
end
section
section
variable {s : Tx} {fu : Nat} {o d : Nat} {S : Tx → Rd Tr} {can : Bool} {R : (Tx × (Int × (Int × Int))) → Option (PX ⊕ (Tr × (Tx × (Int × (Int × Int)))))}
def Kn (s : Tx) (o d : Nat) (S : Tx → Rd Tr) (can : Bool) (R : (Tx × (Int × (Int × Int))) → Option (PX ⊕ (Tr × (Tx × (Int × (Int × Int)))))) : Prop :=
  (can = true ↔ o ≠ d) ∧ o ≤ 100 ∧ (∀ l, ShS l (S l)) ∧ (can = true → ∀ l, l <:+ s → R (s, (pp s l, ((((o + 1 : Nat) : Int)), (d : Int)))) = some (enP s (((o + 1 : Nat) : Int), (d : Int)) (S l)))
theorem px_atom (hs : s.length ≤ 4096) (hf : 10000 ≤ fu) (hK : Kn s o d S can R) {l : Tx} (hl : l <:+ s) : M_expr_parser_atom_io R fu (s, (pp s l, ((o : Int), (d : Int)))) = some (enP s ((o : Int), (d : Int)) (atmS S can l)) := by
  obtain ⟨hc1, ho, hS, hR⟩ := hK
  unfold M_expr_parser_atom_io atmS
  have h2 := (skp_suf l).trans hl
  cases hk : skp l with
  | nil =>
    rw [bd_t (px_next_n hs (by omega) hl hk)]
    rfl
  | cons c r =>
    rw [hk] at h2
    rw [bd_t (px_next_c hs (by omega) hl hk)]
    try simp only []
    rw [if_pos (c := True) trivial, ifdig, if_pos (c := True) trivial, ifltr]
    by_cases hd : isDg c = true
    · rw [if_pos hd, if_pos hd, z_bd, if_pos (by trivial), bd_t (px_number hs hf h2)]
      unfold numV
      cases hn : numS (c :: r) with
      | inl b => rfl
      | inr q => rfl
    · rw [if_neg hd, if_neg hd, z_bd]
      try simp only []
      rw [if_neg (by decide)]
      by_cases hlt : isLt c = true
      · rw [if_pos hlt, if_pos hlt, z_bd]
        try simp only []
        rw [if_pos (by trivial), pp_64 hs h2]; rfl
      · rw [if_neg hlt, if_neg hlt, z_bd]
        try simp only []
        rw [if_neg (by decide)]
        by_cases h40 : c = 40
        · rw [if_pos (by rw [h40])]
          by_cases hod : o = d
          · have : can = false := by
              cases hcan : can
              · rfl
              · exact absurd hod (hc1.1 hcan)
            rw [if_pos (by rw [hod]), if_neg (by simp [this])]; rfl
          · have hcan : can = true := hc1.2 hod
            have hr := suf_tail h2
            rw [if_neg (by omega), if_pos ⟨h40, hcan⟩, pp_64 hs h2, z_nm]
            try simp only []
            rw [ck64_t ⟨by omega, by omega⟩, z_nm]
            have e1 : ((o : Int)) + 1 = (((o + 1 : Nat)) : Int) := by omega
            rw [e1, bd_t (hR hcan r hr)]
            have hsh := hS r
            cases hSr : S r with
            | inl b => rfl
            | inr q =>
              obtain ⟨t, r2⟩ := q
              rw [hSr] at hsh
              have h3 := hsh.1.trans hr
              simp only [enP]
              have h4 := (skp_suf r2).trans h3
              cases hk2 : skp r2 with
              | nil =>
                rw [bd_t (px_take_e hs (by omega) h3 hk2)]; rfl
              | cons c2 r3 =>
                by_cases h41 : c2 = 41
                · subst h41
                  rw [bd_t (px_take_y hs (by omega) h3 hk2 any1t)]
                  try simp only []
                  rw [if_neg (by decide), ck64_t ⟨by omega, by omega⟩, z_nm, if_pos (by trivial)]
                  have e2 : (((o + 1 : Nat)) : Int) - 1 = (o : Int) := by omega
                  rw [e2]
                · rw [bd_t (px_take_n hs (by omega) h3 hk2 (any1 h41))]
                  simp only [if_neg h41]
                  rfl
        · rw [if_neg (by omega), if_neg (by simp [h40])]; rfl
end
end
section
section
variable {s : Tx} {fu : Nat} {o d : Nat} {S : Tx → Rd Tr} {can : Bool} {R : (Tx × (Int × (Int × Int))) → Option (PX ⊕ (Tr × (Tx × (Int × (Int × Int)))))}
theorem px_power (hs : s.length ≤ 4096) (hf : 10000 ≤ fu) (hK : Kn s o d S can R) {l : Tx} (hl : l <:+ s) : M_expr_parser_power_io R fu (s, (pp s l, ((o : Int), (d : Int)))) = some (enP s ((o : Int), (d : Int)) (powS S can l)) := by
  unfold M_expr_parser_power_io powS
  have hsh := sh_atom (can := can) (fun _ => hK.2.2.1) l
  rw [bd_t (px_atom hs hf hK hl)]
  cases ha : atmS S can l with
  | inl b => rfl
  | inr q =>
    obtain ⟨t, r⟩ := q
    rw [ha] at hsh
    have h3 := hsh.1.trans hl
    simp only [enP]
    have h4 := (skp_suf r).trans h3
    cases hk : skp r with
    | nil => rw [bd_t (px_take_e hs (by omega) h3 hk)]; rfl
    | cons c r2 =>
      rw [hk] at h4
      by_cases h94 : c = 94
      · subst h94
        rw [bd_t (px_take_y hs (by omega) h3 hk any1t)]
        try simp only []
        rw [if_pos (by trivial), if_pos (by trivial), bd_t (px_exponent hs hf (suf_tail h4))]
        cases he : expS r2 with
        | inl b => rfl
        | inr q => rfl
      · rw [bd_t (px_take_n hs (by omega) h3 hk (any1 h94))]
        simp only [if_neg h94]
        rfl
end
end
section
section
variable {s : Tx} {fu : Nat} {o d : Nat} {S : Tx → Rd Tr} {can : Bool} {R : (Tx × (Int × (Int × Int))) → Option (PX ⊕ (Tr × (Tx × (Int × (Int × Int)))))}
def enL (s : Tx) (od : Int × Int) : Rd Tr → (Tr × (Tx × (Int × (Int × Int)))) ⊕ (PX × Unit)
  | .inl b => .inr ((33, pp s b), ())
  | .inr (x, r) => .inl (x, (s, (pp s r, od)))
theorem px_prodL (hs : s.length ≤ 4096) (hf : 10000 ≤ fu) (hK : Kn s o d S can R) : ∀ (m : Nat) (t : Tr) (l : Tx) (n : Nat), l <:+ s → l.length < m → m < n →
    loopN (B_expr_parser_product_io_0 fu R) n (t, (s, (pp s l, ((o : Int), (d : Int))))) = some (enL s ((o : Int), (d : Int)) (prodL S can m t l))
  | 0, t, l, n, hl, hm, hn => by omega
  | m + 1, t, l, n, hl, hm, hn => by
    obtain ⟨n, rfl⟩ : ∃ m, n = m + 1 := ⟨n - 1, by omega⟩
    have ih := fun t l h1 h2 => px_prodL hs hf hK m t l n h1 h2 (by omega)
    rw [loopN_t]
    generalize loopN (B_expr_parser_product_io_0 fu R) n = L at ih
    unfold B_expr_parser_product_io_0 prodL
    try simp only []
    have h2 := (skp_suf l).trans hl
    have h3 := (skp_suf l).length_le
    cases hk : skp l with
    | nil => rw [bd_t (px_take_e hs (by omega) hl hk)]; rfl
    | cons c r =>
      rw [hk] at h2 h3
      rw [List.length_cons] at h3
      have hr := suf_tail h2
      by_cases h42 : c = 42
      · subst h42
        rw [bd_t (px_take_y hs (by omega) hl hk (by rfl))]
        try simp only []
        rw [if_neg (by decide), if_pos (by trivial), if_pos (by trivial), bd_t (px_power hs hf hK hr)]
        have hsh := sh_power (can := can) (fun _ => hK.2.2.1) r
        cases hp : powS S can r with
        | inl b => rfl
        | inr q =>
          obtain ⟨u, r2⟩ := q
          rw [hp] at hsh
          exact ih _ r2 (hsh.1.trans hr) (by have := hsh.2; omega)
      · by_cases h47 : c = 47
        · subst h47
          rw [bd_t (px_take_y hs (by omega) hl hk (by rfl))]
          try simp only []
          rw [if_neg (by decide), if_neg (by decide), if_neg h42, if_pos (by trivial), bd_t (px_number hs hf hr)]
          have hsh := sh_num r
          unfold numV
          cases hp : numS r with
          | inl b => rfl
          | inr q =>
            obtain ⟨u, r2⟩ := q
            rw [hp] at hsh
            exact ih _ r2 (hsh.1.trans hr) (by have := hsh.2; omega)
        · rw [bd_t (px_take_n hs (by omega) hl hk (any2 h42 h47))]
          simp only [if_neg h42, if_neg h47]
          rfl
theorem px_prod (hs : s.length ≤ 4096) (hf : 10000 ≤ fu) (hK : Kn s o d S can R) {l : Tx} (hl : l <:+ s) : M_expr_parser_product_io R fu (s, (pp s l, ((o : Int), (d : Int)))) = some (enP s ((o : Int), (d : Int)) (prodS S can l)) := by
  unfold M_expr_parser_product_io prodS
  have hsh := sh_power (can := can) (fun _ => hK.2.2.1) l
  have hll := hl.length_le
  rw [bd_t (px_power hs hf hK hl)]
  cases ha : powS S can l with
  | inl b => rfl
  | inr q =>
    obtain ⟨t, r⟩ := q
    rw [ha] at hsh
    simp only [enP]
    rw [bd_t (px_prodL hs hf hK (r.length + 1) t r fu (hsh.1.trans hl) (by omega) (by have := hsh.2; omega))]
    cases prodL S can (r.length + 1) t r with
    | inl b => rfl
    | inr q => rfl
end
end
end Go.Proofs.YtbaoeefdjpaomaaDoor
