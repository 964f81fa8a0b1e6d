/- What a proof needs: rules of walking, mirrors of functions and their plain laws. No condition. -/
import Derived.Test.YtmggkmchbdanfaaGreatZm5
set_option linter.unusedVariables false
set_option linter.unusedSimpArgs false
namespace Go.Proofs.YtmggkmchbdanfaaGreat
section
set_option maxRecDepth 100000
def B_ref01_Same_0 (fu : Nat) (a0 : List Nat) (a1 : List Nat) : (Int → Option (Unit ⊕ Unit)) → Int → Option (Unit ⊕ Unit) := fun L i1 =>
 if i1 < ((a0.length : Nat) : Int) then
 ckI i1 (a0.length) fun j1 =>
 nm (a0.getD j1 0) fun y1 =>
 ckI i1 (a1.length) fun j2 =>
 nm (a1.getD j2 0) fun y2 =>
 if ((y1 : Nat) : Int) = ((y2 : Nat) : Int) then
 ck64 (i1 + ((1 : Int))) fun x1 =>
 L x1
 else
 some (.inr ())
 else
 some (.inl ())
def M_ref01_Same (fu : Nat) (a0 : List Nat) (a1 : List Nat) : Option Bool :=
 if ((a0.length : Nat) : Int) = ((a1.length : Nat) : Int) then
 bd (loopN (B_ref01_Same_0 fu a0 a1) fu (0 : Int)) fun s1 => match s1 with
 | .inl _ =>
 some true
 | .inr _ =>
 some false
 else
 some false
def M_ref02_Same (fu : Nat) (a0 : Zr) (a1 : Zr) : Option Bool :=
 nm (a0.1 == a1.1) fun c1 =>
 if c1 = true then
 bd (M_ref01_Same fu a0.2 a1.2) fun c2 =>
 some c2
 else
 some false
def M_ref03_Same (fu : Nat) (a0 : Zr × (List Nat)) (a1 : Zr × (List Nat)) : Option Bool :=
 bd (M_ref02_Same fu a0.1 a1.1) fun c1 =>
 if c1 = true then
 bd (M_ref01_Same fu a0.2 a1.2) fun c2 =>
 some c2
 else
 some false
def B_ref20_Same_0 (fu : Nat) (a0 : List (Zr × (List Nat))) (a1 : List (Zr × (List Nat))) : (Int → Option (Unit ⊕ Unit)) → Int → Option (Unit ⊕ Unit) := fun L i1 =>
 if i1 < ((a0.length : Nat) : Int) then
 ckI i1 (a0.length) fun j1 =>
 nm (a0.getD j1 (((false, []), []))) fun y1 =>
 ckI i1 (a1.length) fun j2 =>
 nm (a1.getD j2 (((false, []), []))) fun y2 =>
 bd (M_ref03_Same fu y1 y2) fun c1 =>
 if ((!c1)) = true then
 some (.inr ())
 else
 ck64 (i1 + ((1 : Int))) fun x1 =>
 L x1
 else
 some (.inl ())
def M_ref20_Same (fu : Nat) (a0 : List (Zr × (List Nat))) (a1 : List (Zr × (List Nat))) : Option Bool :=
 if ((a0.length : Nat) : Int) = ((a1.length : Nat) : Int) then
 bd (loopN (B_ref20_Same_0 fu a0 a1) fu (0 : Int)) fun s1 => match s1 with
 | .inl _ =>
 some true
 | .inr _ =>
 some false
 else
 some false
def B_ref21_Same_0 (fu : Nat) (a0 : List (List (Zr × (List Nat)))) (a1 : List (List (Zr × (List Nat)))) : (Int → Option (Unit ⊕ Unit)) → Int → Option (Unit ⊕ Unit) := fun L i1 =>
 if i1 < ((a0.length : Nat) : Int) then
 ckI i1 (a0.length) fun j1 =>
 nm (a0.getD j1 []) fun y1 =>
 ckI i1 (a1.length) fun j2 =>
 nm (a1.getD j2 []) fun y2 =>
 bd (M_ref20_Same fu y1 y2) fun c1 =>
 if ((!c1)) = true then
 some (.inr ())
 else
 ck64 (i1 + ((1 : Int))) fun x1 =>
 L x1
 else
 some (.inl ())
def M_ref21_Same (fu : Nat) (a0 : List (List (Zr × (List Nat)))) (a1 : List (List (Zr × (List Nat)))) : Option Bool :=
 if ((a0.length : Nat) : Int) = ((a1.length : Nat) : Int) then
 bd (loopN (B_ref21_Same_0 fu a0 a1) fu (0 : Int)) fun s1 => match s1 with
 | .inl _ =>
 some true
 | .inr _ =>
 some false
 else
 some false
def M_law21_same (fu : Nat) (a0 : List (List (Zr × (List Nat)))) (a1 : List (List (Zr × (List Nat)))) : Option Bool :=
 bd (M_ref21_Same fu a0 a1) fun c1 =>
 some c1
def M_nat_at (fu : Nat) (a0 : List Nat) (a1 : Int) : Option Nat :=
 if a1 < ((a0.length : Nat) : Int) then
 ckI a1 (a0.length) fun j1 =>
 nm (a0.getD j1 0) fun y1 =>
 some y1
 else
 some (0 : Nat)
def M_nat_Add_1 (fu : Nat) (a0 : Int) (a1 : Nat) (a2 : List Nat) (a3 : List Nat) : Option (Nat × Nat) :=
 bd (M_nat_at fu a2 a0) fun m1 =>
 bd (M_nat_at fu a3 a0) fun m2 =>
 ck (a1 ≤ 1) <|
 nm ((m1 + m2 + a1) % 18446744073709551616) fun m3 =>
 nm ((m1 + m2 + a1) / 18446744073709551616) fun m4 =>
 some (m3, m4)
def B_nat_carried_0 (fu : Nat) (a1 : Int → Nat → Option (Nat × Nat)) (t1 : List Nat) : ((Nat × Int × (List Nat)) → Option (Nat × (List Nat))) → (Nat × Int × (List Nat)) → Option (Nat × (List Nat)) := fun L (d1, i1, t2) =>
 if i1 < ((t1.length : Nat) : Int) then
 bd (a1 i1 d1) fun (m1, m2) =>
 ckI i1 (t2.length) fun j2 =>
 nm (t2.set j2 m1) fun t3 =>
 ck64 (i1 + ((1 : Int))) fun x1 =>
 L (m2, x1, t3)
 else
 some (d1, t2)
def M_nat_carried (fu : Nat) (a0 : Int) (a1 : Int → Nat → Option (Nat × Nat)) : Option ((List Nat) × Nat) :=
 ckN a0 fun j1 =>
 ck (8 * j1 ≤ 281474976710656) <|
 nm (List.replicate j1 0) fun t1 =>
 bd (loopN (B_nat_carried_0 fu a1 t1) fu (((0 : Nat), (0 : Int), t1))) fun (d2, t4) =>
 some (t4, d2)
def B_nat_plain_0 (fu : Nat)  : ((List Nat) → Option (List Nat)) → (List Nat) → Option (List Nat) := fun L t1 =>
 if (0 : Int) < ((t1.length : Nat) : Int) then
 ck64 ((((t1.length : Nat) : Int)) - ((1 : Int))) fun x1 =>
 ckI x1 (t1.length) fun j1 =>
 nm (t1.getD j1 0) fun y1 =>
 if ((y1 : Nat) : Int) = (((0 : Nat) : Nat) : Int) then
 ck64 ((((t1.length : Nat) : Int)) - ((1 : Int))) fun x2 =>
 ckN x2 fun j2 =>
 ck (j2 ≤ t1.length) <|
 nm (t1.take j2) fun t2 =>
 L t2
 else
 some t1
 else
 some t1
def M_nat_plain (fu : Nat) (a0 : List Nat) : Option (List Nat) :=
 bd (loopN (B_nat_plain_0 fu ) fu a0) fun t3 =>
 some t3
def B_nat_plain_own_0 (fu : Nat)  : ((List Nat) → Option (List Nat)) → (List Nat) → Option (List Nat) := fun L t1 =>
 if (0 : Int) < ((t1.length : Nat) : Int) then
 ck64 ((((t1.length : Nat) : Int)) - ((1 : Int))) fun x1 =>
 ckI x1 (t1.length) fun j1 =>
 nm ((t1.getD j1 0)) fun m1 =>
 if ((m1 : Nat) : Int) = (((0 : Nat) : Nat) : Int) then
 ck64 ((((t1.length : Nat) : Int)) - ((1 : Int))) fun x2 =>
 ckN x2 fun j2 =>
 ck (j2 ≤ t1.length) <|
 nm (t1.take j2) fun t2 =>
 L t2
 else
 some t1
 else
 some t1
def M_nat_plain_own (fu : Nat) (a0 : List Nat) : Option (List Nat) :=
 bd (loopN (B_nat_plain_own_0 fu ) fu a0) fun t3 =>
 some t3
def M_nat_Add (fu : Nat) (a0 : List Nat) (a1 : List Nat) : Option (List Nat) :=
 nm (max (((a0.length : Nat) : Int)) (((a1.length : Nat) : Int))) fun x1 =>
 bd (M_nat_carried fu x1 (fun zx0 zx1 => M_nat_Add_1 fu zx0 zx1 a0 a1)) fun (t1, m1) =>
 ck ((t1.length + ([m1]).length) * 8 ≤ 140737488355328) <|
 nm (t1 ++ ([m1])) fun t2 =>
 bd (M_nat_plain_own fu t2) fun t3 =>
 some t3
def M_cmp_isNaN_int (fu : Nat) (a0 : Int) : Option Bool :=
 if a0 = a0 then
 some false
 else
 some true
def M_cmp_Compare_int (fu : Nat) (a0 : Int) (a1 : Int) : Option Int :=
 bd (M_cmp_isNaN_int fu a0) fun c1 =>
 bd (M_cmp_isNaN_int fu a1) fun c2 =>
 if c1 = true then
 if c2 = true then
 some (0 : Int)
 else
 some (-1 : Int)
 else
 if c2 = true then
 some (1 : Int)
 else
 if a0 < a1 then
 some (-1 : Int)
 else
 if a1 < a0 then
 some (1 : Int)
 else
 some (0 : Int)
def M_cmp_isNaN_uint64 (fu : Nat) (a0 : Nat) : Option Bool :=
 if ((a0 : Nat) : Int) = ((a0 : Nat) : Int) then
 some false
 else
 some true
def M_cmp_Compare_uint64 (fu : Nat) (a0 : Nat) (a1 : Nat) : Option Int :=
 bd (M_cmp_isNaN_uint64 fu a0) fun c1 =>
 bd (M_cmp_isNaN_uint64 fu a1) fun c2 =>
 if c1 = true then
 if c2 = true then
 some (0 : Int)
 else
 some (-1 : Int)
 else
 if c2 = true then
 some (1 : Int)
 else
 if ((a0 : Nat) : Int) < ((a1 : Nat) : Int) then
 some (-1 : Int)
 else
 if ((a1 : Nat) : Int) < ((a0 : Nat) : Int) then
 some (1 : Int)
 else
 some (0 : Int)
def B_nat_Cmp_0 (fu : Nat) (t1 : List Nat) (t2 : List Nat) : (Int → Option (Unit ⊕ Int)) → Int → Option (Unit ⊕ Int) := fun L i1 =>
 if (0 : Int) ≤ i1 then
 ckI i1 (t1.length) fun j1 =>
 nm (t1.getD j1 0) fun y1 =>
 ckI i1 (t2.length) fun j2 =>
 nm (t2.getD j2 0) fun y2 =>
 if ((y1 : Nat) : Int) = ((y2 : Nat) : Int) then
 ck64 (i1 - ((1 : Int))) fun x2 =>
 L x2
 else
 ckI i1 (t1.length) fun j3 =>
 nm (t1.getD j3 0) fun y3 =>
 ckI i1 (t2.length) fun j4 =>
 nm (t2.getD j4 0) fun y4 =>
 bd (M_cmp_Compare_uint64 fu y3 y4) fun x3 =>
 some (.inr x3)
 else
 some (.inl ())
def M_nat_Cmp (fu : Nat) (a0 : List Nat) (a1 : List Nat) : Option Int :=
 bd (M_nat_plain fu a0) fun t1 =>
 bd (M_nat_plain fu a1) fun t2 =>
 if ((t1.length : Nat) : Int) = ((t2.length : Nat) : Int) then
 ck64 ((((t1.length : Nat) : Int)) - ((1 : Int))) fun x1 =>
 bd (loopN (B_nat_Cmp_0 fu t1 t2) fu x1) fun s1 => match s1 with
 | .inl _ =>
 some (0 : Int)
 | .inr i2 =>
 some i2
 else
 bd (M_cmp_Compare_int fu (((t1.length : Nat) : Int)) (((t2.length : Nat) : Int))) fun x4 =>
 some x4
def M_slices_Clone_uint64_uint64 (fu : Nat) (a0 : List Nat) : Option (List Nat) :=
 ck (a0.length ≤ 17592186044416) <|
 some a0
def M_nat_Norm (fu : Nat) (a0 : List Nat) : Option (List Nat) :=
 bd (M_nat_plain fu a0) fun t1 =>
 bd (M_slices_Clone_uint64_uint64 fu t1) fun t2 =>
 some t2
def M_nat_Shl_1 (fu : Nat) (a0 : Int) (a1 : Nat) (a2 : List Nat) (a3 : Int) : Option (Nat × Nat) :=
 ckI a0 (a2.length) fun j1 =>
 nm (a2.getD j1 0) fun y1 =>
 ck ((64 : Int) ≠ 0) <|
 nm (Int.tmod a3 ((64 : Int))) fun x1 =>
 ck (0 ≤ x1) <|
 nm (y1 * 2 ^ (min (x1 : Int).toNat 64) % 18446744073709551616) fun m1 =>
 nm (m1 ||| a1) fun m2 =>
 ckI a0 (a2.length) fun j2 =>
 nm (a2.getD j2 0) fun y2 =>
 nm (y2 / 2 ^ (min (((1 : Nat)) : Int).toNat 64)) fun m3 =>
 ck ((64 : Int) ≠ 0) <|
 nm (Int.tmod a3 ((64 : Int))) fun x2 =>
 ck64 (((63 : Int)) - x2) fun x3 =>
 ck (0 ≤ x3) <|
 nm (m3 / 2 ^ (min (x3 : Int).toNat 64)) fun m4 =>
 some (m2, m4)
def M_nat_moved (fu : Nat) (a0 : List Nat) (a1 : Int) : Option (List Nat) :=
 ckN a1 fun j1 =>
 ck (8 * j1 ≤ 281474976710656) <|
 nm (List.replicate j1 0) fun t1 =>
 ck ((t1.length + a0.length) * 8 ≤ 140737488355328) <|
 nm (t1 ++ a0) fun t2 =>
 some t2
def M_nat_Shl (fu : Nat) (a0 : List Nat) (a1 : Int) : Option ((List Nat) × Int) :=
 if a1 < (0 : Int) then
 some (([], (1 : Int)))
 else
 if (262144 : Int) < a1 then
 some (([], (1 : Int)))
 else
 bd (M_nat_carried fu (((a0.length : Nat) : Int)) (fun zx0 zx1 => M_nat_Shl_1 fu zx0 zx1 a0 a1)) fun (t1, m1) =>
 ck ((t1.length + ([m1]).length) * 8 ≤ 140737488355328) <|
 nm (t1 ++ ([m1])) fun t2 =>
 ck ((64 : Int) ≠ 0) <|
 ck64 (Int.tdiv a1 ((64 : Int))) fun x1 =>
 bd (M_nat_moved fu t2 x1) fun t3 =>
 bd (M_nat_plain_own fu t3) fun t4 =>
 some ((t4, (0 : Int)))
def M_nat_Shr_1 (fu : Nat) (a0 : Int) (a1 : Nat) (a2 : List Nat) (a3 : Int) : Option (Nat × Nat) :=
 ckI a0 (a2.length) fun j1 =>
 nm (a2.getD j1 0) fun y1 =>
 ck (0 ≤ a3) <|
 nm (y1 / 2 ^ (min (a3 : Int).toNat 64)) fun m1 =>
 ck64 (a0 + ((1 : Int))) fun x1 =>
 bd (M_nat_at fu a2 x1) fun m2 =>
 nm (m2 * 2 ^ (min (((1 : Nat)) : Int).toNat 64) % 18446744073709551616) fun m3 =>
 ck64 (((63 : Int)) - a3) fun x2 =>
 ck (0 ≤ x2) <|
 nm (m3 * 2 ^ (min (x2 : Int).toNat 64) % 18446744073709551616) fun m4 =>
 nm (m1 ||| m4) fun m5 =>
 some ((m5, (0 : Nat)))
def M_nat_Shr (fu : Nat) (a0 : List Nat) (a1 : Int) : Option (List Nat) :=
 nm (max a1 ((0 : Int))) fun x1 =>
 ck ((64 : Int) ≠ 0) <|
 ck64 (Int.tdiv x1 ((64 : Int))) fun x2 =>
 if ((a0.length : Nat) : Int) ≤ x2 then
 some []
 else
 ck ((64 : Int) ≠ 0) <|
 ck64 (Int.tdiv x1 ((64 : Int))) fun x3 =>
 ckN x3 fun j1 =>
 ck (j1 ≤ a0.length) <|
 nm (a0.drop j1) fun t1 =>
 ck ((64 : Int) ≠ 0) <|
 nm (Int.tmod x1 ((64 : Int))) fun x4 =>
 bd (M_nat_carried fu (((t1.length : Nat) : Int)) (fun zx0 zx1 => M_nat_Shr_1 fu zx0 zx1 t1 x4)) fun (t2, m1) =>
 bd (M_nat_plain_own fu t2) fun t3 =>
 some t3
def M_math_bits_Len64 (fu : Nat) (a0 : Nat) : Option Int :=
 bd ((if (4294967296 : Int) ≤ ((a0 : Nat) : Int) then
 nm (a0 / 2 ^ (min ((32 : Int)).toNat 64)) fun m1 =>
 some (m1, 32)
 else
 some (a0, 0) : Option (Nat × Int))) fun (d1, i1) =>
 bd ((if (65536 : Int) ≤ ((d1 : Nat) : Int) then
 nm (d1 / 2 ^ (min ((16 : Int)).toNat 64)) fun m2 =>
 ck64 (i1 + 16) fun x1 =>
 some (m2, x1)
 else
 some (d1, i1) : Option (Nat × Int))) fun (d2, i2) =>
 if (256 : Int) ≤ ((d2 : Nat) : Int) then
 nm (d2 / 2 ^ (min ((8 : Int)).toNat 64)) fun m3 =>
 ck64 (i2 + 8) fun x2 =>
 nm (m3 % 256) fun m4 =>
 nm (Lib.bitLen m4) fun m5 =>
 ck64 (x2 + (((m5 : Nat) : Int))) fun x3 =>
 some x3
 else
 nm (d2 % 256) fun m6 =>
 nm (Lib.bitLen m6) fun m7 =>
 ck64 (i2 + (((m7 : Nat) : Int))) fun x4 =>
 some x4
def M_math_bits_LeadingZeros64 (fu : Nat) (a0 : Nat) : Option Int :=
 bd (M_math_bits_Len64 fu a0) fun x1 =>
 ck64 (((64 : Int)) - x1) fun x2 =>
 some x2
def B_math_bits_Div64_0 (fu : Nat) (m5 : Nat) (m6 : Nat) (m12 : Nat) : ((Nat × Nat) → Option Nat) → (Nat × Nat) → Option Nat := fun L (d1, d2) =>
 if (((4294967296 : Nat) : Nat) : Int) ≤ ((d1 : Nat) : Int) then
 nm ((d1 + 18446744073709551616 - ((1 : Nat))) % 18446744073709551616) fun m17 =>
 nm ((d2 + m5) % 18446744073709551616) fun m18 =>
 if (((4294967296 : Nat) : Nat) : Int) ≤ ((m18 : Nat) : Int) then
 some m17
 else
 L (m17, m18)
 else
 nm ((d1 * m6) % 18446744073709551616) fun m19 =>
 nm ((((4294967296 : Nat)) * d2) % 18446744073709551616) fun m20 =>
 nm ((m20 + m12) % 18446744073709551616) fun m21 =>
 if ((m21 : Nat) : Int) < ((m19 : Nat) : Int) then
 nm ((d1 + 18446744073709551616 - ((1 : Nat))) % 18446744073709551616) fun m22 =>
 nm ((d2 + m5) % 18446744073709551616) fun m23 =>
 if (((4294967296 : Nat) : Nat) : Int) ≤ ((m23 : Nat) : Int) then
 some m22
 else
 L (m22, m23)
 else
 some d1
def B_math_bits_Div64_1 (fu : Nat) (m5 : Nat) (m6 : Nat) (m13 : Nat) : ((Nat × Nat) → Option Nat) → (Nat × Nat) → Option Nat := fun L (d4, d5) =>
 if (((4294967296 : Nat) : Nat) : Int) ≤ ((d5 : Nat) : Int) then
 nm ((d5 + 18446744073709551616 - ((1 : Nat))) % 18446744073709551616) fun m31 =>
 nm ((d4 + m5) % 18446744073709551616) fun m32 =>
 if (((4294967296 : Nat) : Nat) : Int) ≤ ((m32 : Nat) : Int) then
 some m31
 else
 L (m32, m31)
 else
 nm ((d5 * m6) % 18446744073709551616) fun m33 =>
 nm ((((4294967296 : Nat)) * d4) % 18446744073709551616) fun m34 =>
 nm ((m34 + m13) % 18446744073709551616) fun m35 =>
 if ((m35 : Nat) : Int) < ((m33 : Nat) : Int) then
 nm ((d5 + 18446744073709551616 - ((1 : Nat))) % 18446744073709551616) fun m36 =>
 nm ((d4 + m5) % 18446744073709551616) fun m37 =>
 if (((4294967296 : Nat) : Nat) : Int) ≤ ((m37 : Nat) : Int) then
 some m36
 else
 L (m37, m36)
 else
 some d5
def M_math_bits_Div64 (fu : Nat) (a0 : Nat) (a1 : Nat) (a2 : Nat) : Option (Nat × Nat) :=
 if ((a2 : Nat) : Int) = (((0 : Nat) : Nat) : Int) then
 none
 else
 if ((a2 : Nat) : Int) ≤ ((a0 : Nat) : Int) then
 none
 else
 if ((a0 : Nat) : Int) = (((0 : Nat) : Nat) : Int) then
 ck (a2 ≠ 0) <|
 nm (a1 / a2) fun m1 =>
 ck (a2 ≠ 0) <|
 nm (a1 % a2) fun m2 =>
 some (m1, m2)
 else
 bd (M_math_bits_LeadingZeros64 fu a2) fun x1 =>
 nm (uns x1) fun m3 =>
 nm (a2 * 2 ^ (min (m3 : Int).toNat 64) % 18446744073709551616) fun m4 =>
 nm (m4 / 2 ^ (min (((32 : Nat)) : Int).toNat 64)) fun m5 =>
 nm (m4 &&& ((4294967295 : Nat))) fun m6 =>
 nm (a0 * 2 ^ (min (m3 : Int).toNat 64) % 18446744073709551616) fun m7 =>
 nm ((((64 : Nat)) + 18446744073709551616 - m3) % 18446744073709551616) fun m8 =>
 nm (a1 / 2 ^ (min (m8 : Int).toNat 64)) fun m9 =>
 nm (m7 ||| m9) fun m10 =>
 nm (a1 * 2 ^ (min (m3 : Int).toNat 64) % 18446744073709551616) fun m11 =>
 nm (m11 / 2 ^ (min (((32 : Nat)) : Int).toNat 64)) fun m12 =>
 nm (m11 &&& ((4294967295 : Nat))) fun m13 =>
 ck (m5 ≠ 0) <|
 nm (m10 / m5) fun m14 =>
 nm ((m14 * m5) % 18446744073709551616) fun m15 =>
 nm ((m10 + 18446744073709551616 - m15) % 18446744073709551616) fun m16 =>
 bd (loopN (B_math_bits_Div64_0 fu m5 m6 m12) fu (m14, m16)) fun d3 =>
 nm ((m10 * ((4294967296 : Nat))) % 18446744073709551616) fun m24 =>
 nm ((m24 + m12) % 18446744073709551616) fun m25 =>
 nm ((d3 * m4) % 18446744073709551616) fun m26 =>
 nm ((m25 + 18446744073709551616 - m26) % 18446744073709551616) fun m27 =>
 ck (m5 ≠ 0) <|
 nm (m27 / m5) fun m28 =>
 nm ((m28 * m5) % 18446744073709551616) fun m29 =>
 nm ((m27 + 18446744073709551616 - m29) % 18446744073709551616) fun m30 =>
 bd (loopN (B_math_bits_Div64_1 fu m5 m6 m13) fu (m30, m28)) fun d6 =>
 nm ((d3 * ((4294967296 : Nat))) % 18446744073709551616) fun m38 =>
 nm ((m38 + d6) % 18446744073709551616) fun m39 =>
 nm ((m27 * ((4294967296 : Nat))) % 18446744073709551616) fun m40 =>
 nm ((m40 + m13) % 18446744073709551616) fun m41 =>
 nm ((d6 * m4) % 18446744073709551616) fun m42 =>
 nm ((m41 + 18446744073709551616 - m42) % 18446744073709551616) fun m43 =>
 nm (m43 / 2 ^ (min (m3 : Int).toNat 64)) fun m44 =>
 some (m39, m44)
def M_math_bits_Mul64 (fu : Nat) (a0 : Nat) (a1 : Nat) : Option (Nat × Nat) :=
 nm (a0 &&& ((4294967295 : Nat))) fun m1 =>
 nm (a0 / 2 ^ (min (((32 : Nat)) : Int).toNat 64)) fun m2 =>
 nm (a1 &&& ((4294967295 : Nat))) fun m3 =>
 nm (a1 / 2 ^ (min (((32 : Nat)) : Int).toNat 64)) fun m4 =>
 nm ((m1 * m3) % 18446744073709551616) fun m5 =>
 nm ((m2 * m3) % 18446744073709551616) fun m6 =>
 nm (m5 / 2 ^ (min (((32 : Nat)) : Int).toNat 64)) fun m7 =>
 nm ((m6 + m7) % 18446744073709551616) fun m8 =>
 nm (m8 &&& ((4294967295 : Nat))) fun m9 =>
 nm (m8 / 2 ^ (min (((32 : Nat)) : Int).toNat 64)) fun m10 =>
 nm ((m1 * m4) % 18446744073709551616) fun m11 =>
 nm ((m9 + m11) % 18446744073709551616) fun m12 =>
 nm ((m2 * m4) % 18446744073709551616) fun m13 =>
 nm ((m13 + m10) % 18446744073709551616) fun m14 =>
 nm (m12 / 2 ^ (min (((32 : Nat)) : Int).toNat 64)) fun m15 =>
 nm ((m14 + m15) % 18446744073709551616) fun m16 =>
 nm ((a0 * a1) % 18446744073709551616) fun m17 =>
 some (m16, m17)
def B_nat_guess_0 (fu : Nat) (a2 : Nat) (a3 : Nat) (a4 : Nat) : ((Nat × Nat) → Option Nat) → (Nat × Nat) → Option Nat := fun L (d1, d2) =>
 bd (M_math_bits_Mul64 fu d1 a4) fun (m3, m4) =>
 if ((m3 : Nat) : Int) < ((d2 : Nat) : Int) then
 some d1
 else
 if ((m3 : Nat) : Int) = ((d2 : Nat) : Int) then
 if ((m4 : Nat) : Int) ≤ ((a2 : Nat) : Int) then
 some d1
 else
 nm ((d1 + 18446744073709551616 - ((1 : Nat))) % 18446744073709551616) fun m5 =>
 ck ((0 : Nat) ≤ 1) <|
 nm ((d2 + a3 + ((0 : Nat))) % 18446744073709551616) fun m6 =>
 nm ((d2 + a3 + ((0 : Nat))) / 18446744073709551616) fun m7 =>
 if (((0 : Nat) : Nat) : Int) < ((m7 : Nat) : Int) then
 some m5
 else
 L (m5, m6)
 else
 nm ((d1 + 18446744073709551616 - ((1 : Nat))) % 18446744073709551616) fun m8 =>
 ck ((0 : Nat) ≤ 1) <|
 nm ((d2 + a3 + ((0 : Nat))) % 18446744073709551616) fun m9 =>
 nm ((d2 + a3 + ((0 : Nat))) / 18446744073709551616) fun m10 =>
 if (((0 : Nat) : Nat) : Int) < ((m10 : Nat) : Int) then
 some m8
 else
 L (m8, m9)
def M_nat_guess (fu : Nat) (a0 : Nat) (a1 : Nat) (a2 : Nat) (a3 : Nat) (a4 : Nat) : Option Nat :=
 if ((a3 : Nat) : Int) ≤ ((a0 : Nat) : Int) then
 some (18446744073709551615 : Nat)
 else
 bd (M_math_bits_Div64 fu a0 a1 a3) fun (m1, m2) =>
 bd (loopN (B_nat_guess_0 fu a2 a3 a4) fu (m1, m2)) fun d3 =>
 some d3
def M_nat_Sub_1 (fu : Nat) (a0 : Int) (a1 : Nat) (a2 : List Nat) (a3 : List Nat) : Option (Nat × Nat) :=
 bd (M_nat_at fu a2 a0) fun m1 =>
 bd (M_nat_at fu a3 a0) fun m2 =>
 ck (a1 ≤ 1) <|
 nm ((m1 + 18446744073709551616 - m2 - a1) % 18446744073709551616) fun m3 =>
 nm (if m1 < m2 + a1 then 1 else 0) fun m4 =>
 some (m3, m4)
def M_nat_Sub (fu : Nat) (a0 : List Nat) (a1 : List Nat) : Option ((List Nat) × Int) :=
 nm (max (((a0.length : Nat) : Int)) (((a1.length : Nat) : Int))) fun x1 =>
 bd (M_nat_carried fu x1 (fun zx0 zx1 => M_nat_Sub_1 fu zx0 zx1 a0 a1)) fun (t1, m1) =>
 if (((0 : Nat) : Nat) : Int) < ((m1 : Nat) : Int) then
 some (([], (1 : Int)))
 else
 bd (M_nat_plain_own fu t1) fun t2 =>
 some ((t2, (0 : Int)))
def M_nat_less (fu : Nat) (a0 : List Nat) (a1 : List Nat) : Option (List Nat) :=
 bd (M_nat_Sub fu a0 a1) fun (t1, x1) =>
 some t1
def M_nat_row_1 (fu : Nat) (a0 : Int) (a1 : Nat) (a2 : List Nat) (a3 : Nat) : Option (Nat × Nat) :=
 ckI a0 (a2.length) fun j1 =>
 nm (a2.getD j1 0) fun y1 =>
 bd (M_math_bits_Mul64 fu y1 a3) fun (m1, m2) =>
 ck ((0 : Nat) ≤ 1) <|
 nm ((m2 + a1 + ((0 : Nat))) % 18446744073709551616) fun m3 =>
 nm ((m2 + a1 + ((0 : Nat))) / 18446744073709551616) fun m4 =>
 nm ((m1 + m4) % 18446744073709551616) fun m5 =>
 some (m3, m5)
def M_nat_row (fu : Nat) (a0 : List Nat) (a1 : Nat) : Option (List Nat) :=
 bd (M_nat_carried fu (((a0.length : Nat) : Int)) (fun zx0 zx1 => M_nat_row_1 fu zx0 zx1 a0 a1)) fun (t1, m1) =>
 ck ((t1.length + ([m1]).length) * 8 ≤ 140737488355328) <|
 nm (t1 ++ ([m1])) fun t2 =>
 some t2
def B_nat_short_0 (fu : Nat) (a0 : List Nat) (a1 : Nat) : ((Nat × Int × (List Nat)) → Option (Nat × (List Nat))) → (Nat × Int × (List Nat)) → Option (Nat × (List Nat)) := fun L (d1, i1, t2) =>
 if (0 : Int) ≤ i1 then
 ckI i1 (a0.length) fun j2 =>
 nm (a0.getD j2 0) fun y1 =>
 bd (M_math_bits_Div64 fu d1 y1 a1) fun (m1, m2) =>
 ckI i1 (t2.length) fun j3 =>
 nm (t2.set j3 m1) fun t3 =>
 ck64 (i1 - ((1 : Int))) fun x2 =>
 L (m2, x2, t3)
 else
 some (d1, t2)
def M_nat_short (fu : Nat) (a0 : List Nat) (a1 : Nat) : Option ((List Nat) × Nat) :=
 ckN (((a0.length : Nat) : Int)) fun j1 =>
 ck (8 * j1 ≤ 281474976710656) <|
 nm (List.replicate j1 0) fun t1 =>
 ck64 ((((a0.length : Nat) : Int)) - ((1 : Int))) fun x1 =>
 bd (loopN (B_nat_short_0 fu a0 a1) fu (((0 : Nat), x1, t1))) fun (d2, t4) =>
 bd (M_nat_plain_own fu t4) fun t5 =>
 some (t5, d2)
def B_nat_Div_1 (fu : Nat) (t10 : List Nat) : ((Int × Int × Nat × (List Nat)) → Option (Int × Int × Nat × (List Nat))) → (Int × Int × Nat × (List Nat)) → Option (Int × Int × Nat × (List Nat)) := fun L (i2, i3, d1, t15) =>
 bd (M_nat_row fu t10 d1) fun t16 =>
 bd (M_nat_Cmp fu t16 t15) fun x19 =>
 if (0 : Int) < x19 then
 nm ((d1 + 18446744073709551616 - ((1 : Nat))) % 18446744073709551616) fun m6 =>
 L (i2, i3, m6, t15)
 else
 some (i2, i3, d1, t15)
def B_nat_Div_0 (fu : Nat) (x3 : Int) (t6 : List Nat) : (((List Nat) × Int × (List Nat) × (List Nat)) → Option ((List Nat) × (List Nat))) → ((List Nat) × Int × (List Nat) × (List Nat)) → Option ((List Nat) × (List Nat)) := fun L (t10, i1, t11, t12) =>
 if (0 : Int) ≤ i1 then
 ck64 (i1 + (((t6.length : Nat) : Int))) fun x10 =>
 ckI x10 (t11.length) fun j5 =>
 nm ((t11.getD j5 0)) fun m2 =>
 ck64 (i1 + (((t6.length : Nat) : Int))) fun x11 =>
 ck64 (x11 - ((1 : Int))) fun x12 =>
 ckI x12 (t11.length) fun j6 =>
 nm ((t11.getD j6 0)) fun m3 =>
 ck64 (i1 + (((t6.length : Nat) : Int))) fun x13 =>
 ck64 (x13 - ((2 : Int))) fun x14 =>
 ckI x14 (t11.length) fun j7 =>
 nm ((t11.getD j7 0)) fun m4 =>
 ck64 ((((t6.length : Nat) : Int)) - ((1 : Int))) fun x15 =>
 ckI x15 (t10.length) fun j8 =>
 nm (t10.getD j8 0) fun y3 =>
 ck64 ((((t6.length : Nat) : Int)) - ((2 : Int))) fun x16 =>
 ckI x16 (t10.length) fun j9 =>
 nm (t10.getD j9 0) fun y4 =>
 bd (M_nat_guess fu m2 m3 m4 y3 y4) fun m5 =>
 ck64 (i1 + (((t6.length : Nat) : Int))) fun x17 =>
 ck64 (x17 + ((1 : Int))) fun x18 =>
 ckN i1 fun j10 =>
 ckN x18 fun j11 =>
 ck (j10 ≤ j11 ∧ j11 ≤ t11.length) <|
 nm (List.take (j11 - j10) (List.drop j10 t11)) fun t13 =>
 ck (((([] : List Nat)).length + t13.length) * 8 ≤ 140737488355328) <|
 nm ((([] : List Nat)) ++ t13) fun t14 =>
 bd (loopN (B_nat_Div_1 fu t10) fu ((x3, ((t6.length : Nat) : Int), m5, t14))) fun (i4, i5, d2, t17) =>
 ckI i1 (t12.length) fun j12 =>
 nm (t12.set j12 d2) fun t18 =>
 ckN i1 fun j13 =>
 ck (j13 ≤ t11.length) <|
 bd (M_nat_row fu t10 d2) fun t19 =>
 bd (M_nat_less fu t17 t19) fun t20 =>
 ck64 (i5 + ((1 : Int))) fun x20 =>
 ckN x20 fun j14 =>
 ck ((t20.length + j14) * 8 ≤ 140737488355328) <|
 nm (t20 ++ List.replicate j14 0) fun t21 =>
 ck64 (i5 + ((1 : Int))) fun x21 =>
 ckN x21 fun j15 =>
 ck (j15 ≤ t21.length) <|
 nm (t21.take j15) fun t22 =>
 nm (cpyAt j13 (t11.length - j13) t11 t22) fun t23 =>
 ck64 (i1 - ((1 : Int))) fun x22 =>
 L (t10, x22, t23, t18)
 else
 some (t11, t12)
def M_nat_Div (fu : Nat) (a0 : List Nat) (a1 : List Nat) : Option ((List Nat) × (List Nat) × Int) :=
 bd (M_nat_plain fu a0) fun t1 =>
 bd (M_nat_plain fu a1) fun t2 =>
 bd ((if ((t2.length : Nat) : Int) = (0 : Int) then
 some true
 else
 some false : Option Bool)) fun b1 =>
 if b1 = true then
 some (([], [], (3 : Int)))
 else
 bd ((bd (M_nat_Cmp fu t1 t2) fun x1 =>
 if x1 < (0 : Int) then
 some true
 else
 some false : Option Bool)) fun b2 =>
 if b2 = true then
 bd (M_nat_Norm fu t1) fun t3 =>
 some (([], t3, (0 : Int)))
 else
 if ((t2.length : Nat) : Int) = (1 : Int) then
 ckI ((0 : Int)) (t2.length) fun j1 =>
 nm (t2.getD j1 0) fun y1 =>
 bd (M_nat_short fu t1 y1) fun (t4, m1) =>
 bd (M_nat_plain_own fu [m1]) fun t5 =>
 some ((t4, t5, (0 : Int)))
 else
 ck64 ((((t2.length : Nat) : Int)) - ((1 : Int))) fun x2 =>
 ckI x2 (t2.length) fun j2 =>
 nm (t2.getD j2 0) fun y2 =>
 bd (M_math_bits_LeadingZeros64 fu y2) fun x3 =>
 bd (M_nat_Shl fu t2 x3) fun (t6, x4) =>
 bd (M_nat_Shl fu t1 x3) fun (t7, x5) =>
 ck64 ((((t1.length : Nat) : Int)) + ((1 : Int))) fun x6 =>
 ck64 (x6 - (((t7.length : Nat) : Int))) fun x7 =>
 ckN x7 fun j3 =>
 ck ((t7.length + j3) * 8 ≤ 140737488355328) <|
 nm (t7 ++ List.replicate j3 0) fun t8 =>
 ck64 ((((t8.length : Nat) : Int)) - (((t6.length : Nat) : Int))) fun x8 =>
 ckN x8 fun j4 =>
 ck (8 * j4 ≤ 281474976710656) <|
 nm (List.replicate j4 0) fun t9 =>
 ck64 ((((t9.length : Nat) : Int)) - ((1 : Int))) fun x9 =>
 bd (loopN (B_nat_Div_0 fu x3 t6) fu (t6, x9, t8, t9)) fun (t24, t25) =>
 bd (M_nat_plain_own fu t25) fun t26 =>
 bd (M_nat_Shr fu t24 x3) fun t27 =>
 some ((t26, t27, (0 : Int)))
def M_zint_made (fu : Nat) (a0 : Bool) (a1 : List Nat) : Option Zr :=
 bd (M_nat_Norm fu a1) fun t1 =>
 if a0 = true then
 if (0 : Int) < ((t1.length : Nat) : Int) then
 some (true, t1)
 else
 some (false, t1)
 else
 some (false, t1)
def M_zint_Div (fu : Nat) (a0 : Zr) (a1 : Zr) : Option (Zr × Zr × Int) :=
 bd (M_nat_Div fu a0.2 a1.2) fun (t1, t2, x1) =>
 if x1 = (0 : Int) then
 bd ((if a0.1 = true then
 if (0 : Int) < ((t2.length : Nat) : Int) then
 bd (M_nat_Add fu t1 [(1 : Nat)]) fun t3 =>
 bd (M_nat_Sub fu a1.2 t2) fun (t4, x2) =>
 some (t3, t4)
 else
 some (t1, t2)
 else
 some (t1, t2) : Option ((List Nat) × (List Nat)))) fun (t5, t6) =>
 nm (!(a0.1 == a1.1)) fun c1 =>
 bd (M_zint_made fu c1 t5) fun y1 =>
 bd (M_zint_made fu false t6) fun y2 =>
 some ((y1, y2, (0 : Int)))
 else
 some (((false, []), (false, []), x1))
def M_zint_Norm (fu : Nat) (a0 : Zr) : Option Zr :=
 bd (M_zint_made fu a0.1 a0.2) fun y1 =>
 some y1
def M_zint_Sign (fu : Nat) (a0 : Zr) : Option Int :=
 bd (M_zint_Norm fu a0) fun y1 =>
 if y1.1 = true then
 ck64 (((0 : Int)) - ((2 : Int))) fun x1 =>
 ck64 (x1 + ((1 : Int))) fun x2 =>
 some x2
 else
 if (0 : Int) < ((y1.2.length : Nat) : Int) then
 ck64 (((0 : Int)) + ((1 : Int))) fun x3 =>
 some x3
 else
 some (0 : Int)
def M_zint_Exact (fu : Nat) (a0 : Zr) (a1 : Zr) : Option (Zr × Int) :=
 bd (M_zint_Div fu a0 a1) fun (y1, y2, x1) =>
 bd ((if x1 = (0 : Int) then
 some false
 else
 some true : Option Bool)) fun b1 =>
 if b1 = true then
 some (((false, []), x1))
 else
 bd (M_zint_Sign fu y2) fun x2 =>
 if x2 = (0 : Int) then
 some ((y1, (0 : Int)))
 else
 some (((false, []), (4 : Int)))
def B_zint_Gcd_0 (fu : Nat)  : (((List Nat) × (List Nat)) → Option (List Nat)) → ((List Nat) × (List Nat)) → Option (List Nat) := fun L (t3, t4) =>
 if (0 : Int) < ((t4.length : Nat) : Int) then
 bd (M_nat_Div fu t3 t4) fun (t5, t6, x1) =>
 L (t4, t6)
 else
 some t3
def M_zint_Gcd (fu : Nat) (a0 : Zr) (a1 : Zr) : Option Zr :=
 bd (M_nat_Norm fu a0.2) fun t1 =>
 bd (M_nat_Norm fu a1.2) fun t2 =>
 bd (loopN (B_zint_Gcd_0 fu ) fu (t1, t2)) fun t7 =>
 bd (M_zint_made fu false t7) fun y1 =>
 some y1
def M_zint_Neg (fu : Nat) (a0 : Zr) : Option Zr :=
 bd (M_zint_made fu (!a0.1) a0.2) fun y1 =>
 some y1
def M_rat_Make (fu : Nat) (a0 : Zr) (a1 : Zr) : Option ((Zr × (List Nat)) × Int) :=
 bd (M_zint_Sign fu a1) fun x1 =>
 if x1 = (0 : Int) then
 some ((((false, []), []), (3 : Int)))
 else
 bd (M_zint_Gcd fu a0 a1) fun y1 =>
 bd (M_zint_Exact fu a0 y1) fun (y2, x2) =>
 bd (M_zint_Exact fu a1 y1) fun (y3, x3) =>
 if y3.1 = true then
 bd (M_zint_Neg fu y2) fun y4 =>
 some (((y4, y3.2), (0 : Int)))
 else
 some (((y2, y3.2), (0 : Int)))
def B_nat_school_1 (fu : Nat) (i1 : Int) (t3 : List Nat) (t4 : List Nat) (i2 : Int) (t5 : List Nat) : ((Nat × Int × (List Nat) × (List Nat)) → Option (List Nat)) → (Nat × Int × (List Nat) × (List Nat)) → Option (List Nat) := fun L (d1, i3, t6, t7) =>
 bd ((if i3 < ((t5.length : Nat) : Int) then
 some ((t3, i1, t4, i2, i1, ((t5.length : Nat) : Int), true))
 else
 some ((t3, i1, t4, i2, i1, ((t5.length : Nat) : Int), false)) : Option ((List Nat) × Int × (List Nat) × Int × Int × Int × Bool))) fun (t8, i4, t9, i5, i6, i7, b2) =>
 if b2 = true then
 ckI i3 (t7.length) fun j3 =>
 nm ((t7.getD j3 0)) fun m1 =>
 ck64 (i4 + i3) fun x3 =>
 ck64 (i4 + i3) fun x4 =>
 ckI x4 (t6.length) fun j4 =>
 nm ((t6.getD j4 0)) fun m2 =>
 ck (d1 ≤ 1) <|
 nm ((m2 + m1 + d1) % 18446744073709551616) fun m3 =>
 nm ((m2 + m1 + d1) / 18446744073709551616) fun m4 =>
 ckI x3 (t6.length) fun j5 =>
 nm (t6.set j5 m3) fun t10 =>
 ck64 (i3 + ((1 : Int))) fun x5 =>
 L (m4, x5, t10, t7)
 else
 some t6
def B_nat_school_0 (fu : Nat) (a0 : List Nat) (a1 : List Nat) : ((Int × (List Nat)) → Option (List Nat)) → (Int × (List Nat)) → Option (List Nat) := fun L (i1, t2) =>
 bd ((if i1 < ((a1.length : Nat) : Int) then
 some ((a0, a1, ((a1.length : Nat) : Int), true))
 else
 some ((a0, a1, ((a1.length : Nat) : Int), false)) : Option ((List Nat) × (List Nat) × Int × Bool))) fun (t3, t4, i2, b1) =>
 if b1 = true then
 ckI i1 (t4.length) fun j2 =>
 nm (t4.getD j2 0) fun y1 =>
 bd (M_nat_row fu t3 y1) fun t5 =>
 bd (loopN (B_nat_school_1 fu i1 t3 t4 i2 t5) fu (((0 : Nat), (0 : Int), t2, t5))) fun t11 =>
 ck64 (i1 + ((1 : Int))) fun x6 =>
 L (x6, t11)
 else
 some t2
def M_nat_school (fu : Nat) (a0 : List Nat) (a1 : List Nat) : Option (List Nat) :=
 ck64 ((((a0.length : Nat) : Int)) + (((a1.length : Nat) : Int))) fun x1 =>
 ck64 (x1 + ((1 : Int))) fun x2 =>
 ckN x2 fun j1 =>
 ck (8 * j1 ≤ 281474976710656) <|
 nm (List.replicate j1 0) fun t1 =>
 bd (loopN (B_nat_school_0 fu a0 a1) fu (((0 : Int), t1))) fun t12 =>
 bd (M_nat_plain_own fu t12) fun t13 =>
 some t13
def M_nat_Mul : Nat → (List Nat) → (List Nat) → Option (List Nat)
  | 0, _, _ => none
  | fu + 1, a0, a1 =>
    bd (M_nat_plain fu a0) fun t1 =>
    bd (M_nat_plain fu a1) fun t2 =>
    nm (min (((t1.length : Nat) : Int)) (((t2.length : Nat) : Int))) fun x1 =>
    if x1 < (8 : Int) then
    bd (M_nat_school fu t1 t2) fun t3 =>
    some t3
    else
    nm (max (((t1.length : Nat) : Int)) (((t2.length : Nat) : Int))) fun x2 =>
    ck ((2 : Int) ≠ 0) <|
    ck64 (Int.tdiv x2 ((2 : Int))) fun x3 =>
    nm (min x3 (((t1.length : Nat) : Int))) fun x4 =>
    ckN x4 fun j1 =>
    ck (j1 ≤ t1.length) <|
    nm (t1.take j1) fun t4 =>
    bd (M_nat_plain fu t4) fun t5 =>
    nm (min x3 (((t1.length : Nat) : Int))) fun x5 =>
    ckN x5 fun j2 =>
    ck (j2 ≤ t1.length) <|
    nm (t1.drop j2) fun t6 =>
    nm (min x3 (((t2.length : Nat) : Int))) fun x6 =>
    ckN x6 fun j3 =>
    ck (j3 ≤ t2.length) <|
    nm (t2.take j3) fun t7 =>
    bd (M_nat_plain fu t7) fun t8 =>
    nm (min x3 (((t2.length : Nat) : Int))) fun x7 =>
    ckN x7 fun j4 =>
    ck (j4 ≤ t2.length) <|
    nm (t2.drop j4) fun t9 =>
    bd (M_nat_Mul fu t5 t8) fun t10 =>
    bd (M_nat_Mul fu t6 t9) fun t11 =>
    bd (M_nat_Add fu t5 t6) fun t12 =>
    bd (M_nat_Add fu t8 t9) fun t13 =>
    bd (M_nat_Mul fu t12 t13) fun t14 =>
    bd (M_nat_less fu t14 t10) fun t15 =>
    bd (M_nat_less fu t15 t11) fun t16 =>
    bd (M_nat_moved fu t16 x3) fun t17 =>
    bd (M_nat_Add fu t10 t17) fun t18 =>
    ck64 (((2 : Int)) * x3) fun x8 =>
    bd (M_nat_moved fu t11 x8) fun t19 =>
    bd (M_nat_Add fu t18 t19) fun t20 =>
    some t20
def M_zint_Mul (fu : Nat) (a0 : Zr) (a1 : Zr) : Option Zr :=
 nm (!(a0.1 == a1.1)) fun c1 =>
 bd (M_nat_Mul fu a0.2 a1.2) fun t1 =>
 bd (M_zint_made fu c1 t1) fun y1 =>
 some y1
def M_zint_Add (fu : Nat) (a0 : Zr) (a1 : Zr) : Option Zr :=
 nm (a0.1 == a1.1) fun c1 =>
 if c1 = true then
 bd (M_nat_Add fu a0.2 a1.2) fun t1 =>
 bd (M_zint_made fu a0.1 t1) fun y1 =>
 some y1
 else
 bd ((bd (M_nat_Cmp fu a0.2 a1.2) fun x1 =>
 if x1 < (0 : Int) then
 some (a1, a0)
 else
 some (a0, a1) : Option (Zr × Zr))) fun (t2, t3) =>
 bd (M_nat_Sub fu t2.2 t3.2) fun (t4, x2) =>
 bd (M_zint_made fu t2.1 t4) fun y2 =>
 some y2
def M_zint_Sub (fu : Nat) (a0 : Zr) (a1 : Zr) : Option Zr :=
 bd (M_zint_Neg fu a1) fun y1 =>
 bd (M_zint_Add fu a0 y1) fun y2 =>
 some y2
def M_zpoly_Norm_1 (fu : Nat) (a0 : Int) (a1 : Zr) : Option Zr :=
 bd (M_zint_Norm fu a1) fun y1 =>
 some y1
def B_zpoly_each_api_Int_api_Int_0 (fu : Nat) (a0 : List Zr) (a1 : Int → Zr → Option Zr) : ((Int × (List Zr)) → Option (List Zr)) → (Int × (List Zr)) → Option (List Zr) := fun L (i1, t2) =>
 bd ((if i1 < ((a0.length : Nat) : Int) then
 some ((a0, ((a0.length : Nat) : Int), true))
 else
 some ((a0, ((a0.length : Nat) : Int), false)) : Option ((List Zr) × Int × Bool))) fun (t3, i2, b1) =>
 if b1 = true then
 ckI i1 (t3.length) fun j2 =>
 nm (t3.getD j2 (false, [])) fun y1 =>
 bd (a1 i1 y1) fun y2 =>
 ckI i1 (t2.length) fun j3 =>
 nm (t2.set j3 y2) fun t4 =>
 ck64 (i1 + ((1 : Int))) fun x1 =>
 L (x1, t4)
 else
 some t2
def M_zpoly_each_api_Int_api_Int (fu : Nat) (a0 : List Zr) (a1 : Int → Zr → Option Zr) : Option (List Zr) :=
 ckN (((a0.length : Nat) : Int)) fun j1 =>
 ck (32 * j1 ≤ 281474976710656) <|
 nm (List.replicate j1 (false, [])) fun t1 =>
 bd (loopN (B_zpoly_each_api_Int_api_Int_0 fu a0 a1) fu (((0 : Int), t1))) fun t5 =>
 some t5
def B_zpoly_Norm_0 (fu : Nat)  : ((List Zr) → Option (List Zr)) → (List Zr) → Option (List Zr) := fun L t1 =>
 if (0 : Int) < ((t1.length : Nat) : Int) then
 ck64 ((((t1.length : Nat) : Int)) - ((1 : Int))) fun x1 =>
 ckI x1 (t1.length) fun j1 =>
 nm (t1.getD j1 (false, [])) fun y1 =>
 bd (M_zint_Sign fu y1) fun x2 =>
 if x2 = (0 : Int) then
 ck64 ((((t1.length : Nat) : Int)) - ((1 : Int))) fun x3 =>
 ckN x3 fun j2 =>
 ck (j2 ≤ t1.length) <|
 nm (t1.take j2) fun t2 =>
 L t2
 else
 some t1
 else
 some t1
def M_zpoly_Norm (fu : Nat) (a0 : List Zr) : Option (List Zr) :=
 bd (loopN (B_zpoly_Norm_0 fu ) fu a0) fun t3 =>
 bd (M_zpoly_each_api_Int_api_Int fu t3 (fun zx0 zx1 => M_zpoly_Norm_1 fu zx0 zx1)) fun t4 =>
 some t4
def B_zpoly_Div_1 (fu : Nat) (i1 : Int) (t4 : List Zr) : ((Int × (List Zr) × (List Zr) × (List Zr) × Zr) → Option ((List Zr) × (List Zr) × (List Zr))) → (Int × (List Zr) × (List Zr) × (List Zr) × Zr) → Option ((List Zr) × (List Zr) × (List Zr)) := fun L (i2, t8, t9, t10, t11) =>
 bd ((if i2 < ((t4.length : Nat) : Int) then
 some ((i1, ((t4.length : Nat) : Int), true))
 else
 some ((i1, ((t4.length : Nat) : Int), false)) : Option (Int × Int × Bool))) fun (i3, i4, b1) =>
 if b1 = true then
 ckI i2 (t8.length) fun j5 =>
 nm ((t8.getD j5 (false, []))) fun y4 =>
 ck64 (i3 + i2) fun x9 =>
 ck64 (i3 + i2) fun x10 =>
 ckI x10 (t9.length) fun j6 =>
 nm ((t9.getD j6 (false, []))) fun y5 =>
 bd (M_zint_Mul fu t11 y4) fun y6 =>
 bd (M_zint_Sub fu y5 y6) fun y7 =>
 ckI x9 (t9.length) fun j7 =>
 nm (t9.set j7 y7) fun t12 =>
 ck64 (i2 + ((1 : Int))) fun x11 =>
 L (x11, t8, t12, t10, t11)
 else
 some (t8, t9, t10)
def B_zpoly_Div_0 (fu : Nat)  : ((Int × (List Zr) × (List Zr) × (List Zr)) → Option (((List Zr) × (List Zr)) ⊕ Int)) → (Int × (List Zr) × (List Zr) × (List Zr)) → Option (((List Zr) × (List Zr)) ⊕ Int) := fun L (i1, t4, t5, t6) =>
 if (0 : Int) ≤ i1 then
 ck64 (i1 + (((t4.length : Nat) : Int))) fun x5 =>
 ck64 (x5 - ((1 : Int))) fun x6 =>
 ckI x6 (t5.length) fun j2 =>
 nm ((t5.getD j2 (false, []))) fun y1 =>
 ck64 ((((t4.length : Nat) : Int)) - ((1 : Int))) fun x7 =>
 ckI x7 (t4.length) fun j3 =>
 nm ((t4.getD j3 (false, []))) fun y2 =>
 bd (M_zint_Exact fu y1 y2) fun (y3, x8) =>
 if x8 = (0 : Int) then
 ckI i1 (t6.length) fun j4 =>
 nm (t6.set j4 y3) fun t7 =>
 bd (loopN (B_zpoly_Div_1 fu i1 t4) fu (((0 : Int), t4, t5, t7, y3))) fun (t13, t14, t15) =>
 ck64 (i1 - ((1 : Int))) fun x12 =>
 L (x12, t13, t14, t15)
 else
 some (.inr x8)
 else
 some (.inl (t5, t6))
def M_zpoly_Div (fu : Nat) (a0 : List Zr) (a1 : List Zr) : Option ((List Zr) × Int) :=
 bd (M_zpoly_Norm fu a0) fun t1 =>
 bd (M_zpoly_Norm fu a1) fun t2 =>
 if ((t2.length : Nat) : Int) = (0 : Int) then
 some (([], (3 : Int)))
 else
 bd ((if (0 : Int) < ((t1.length : Nat) : Int) then
 if ((t1.length : Nat) : Int) < ((t2.length : Nat) : Int) then
 some (.inr ())
 else
 some (.inl ())
 else
 some (.inl ()) : Option (Unit ⊕ Unit))) fun s1 => match s1 with
 | .inl _ =>
 (ck64 ((((t1.length : Nat) : Int)) - (((t2.length : Nat) : Int))) fun x1 =>
 ck64 (x1 + ((1 : Int))) fun x2 =>
 nm (max x2 ((0 : Int))) fun x3 =>
 ckN x3 fun j1 =>
 ck (32 * j1 ≤ 281474976710656) <|
 nm (List.replicate j1 (false, [])) fun t3 =>
 ck64 ((((t3.length : Nat) : Int)) - ((1 : Int))) fun x4 =>
 bd (loopN (B_zpoly_Div_0 fu ) fu (x4, t2, t1, t3)) fun s2 => match s2 with
 | .inl (t16, t17) =>
 bd (M_zpoly_Norm fu t16) fun t18 =>
 if (0 : Int) < ((t18.length : Nat) : Int) then
 some (([], (4 : Int)))
 else
 bd (M_zpoly_Norm fu t17) fun t19 =>
 some ((t19, (0 : Int)))
 | .inr i5 =>
 some ([], i5))
 | .inr _ =>
 some (([], (4 : Int)))
def B_zfac_often_0 (fu : Nat) (a1 : List Zr) : ((Int × (List Zr) × Int) → Option Int) → (Int × (List Zr) × Int) → Option Int := fun L (i1, t2, i2) =>
 if i2 = (0 : Int) then
 ck64 (i1 + ((1 : Int))) fun x2 =>
 bd (M_zpoly_Div fu t2 a1) fun (t3, x3) =>
 L (x2, t3, x3)
 else
 some i1
def M_zfac_often (fu : Nat) (a0 : List Zr) (a1 : List Zr) : Option Int :=
 bd (M_zpoly_Div fu a0 a1) fun (t1, x1) =>
 bd (loopN (B_zfac_often_0 fu a1) fu (((0 : Int), t1, x1))) fun i3 =>
 some i3
def B_prime_Is_0 (fu : Nat) (a0 : Int) : ((Bool × Int) → Option Bool) → (Bool × Int) → Option Bool := fun L (b2, i1) =>
 if b2 = true then
 ck64 (i1 * i1) fun x1 =>
 if x1 ≤ a0 then
 ck (i1 ≠ 0) <|
 nm (Int.tmod a0 i1) fun x2 =>
 if x2 = (0 : Int) then
 some false
 else
 ck64 (i1 + ((1 : Int))) fun x3 =>
 L (b2, x3)
 else
 some b2
 else
 some b2
def M_prime_Is (fu : Nat) (a0 : Int) : Option Bool :=
 bd ((if (2 : Int) ≤ a0 then
 if a0 ≤ (65521 : Int) then
 some true
 else
 some false
 else
 some false : Option Bool)) fun b1 =>
 bd (loopN (B_prime_Is_0 fu a0) fu ((b1, (2 : Int)))) fun b3 =>
 some b3
def M_zint_Of (fu : Nat) (a0 : Int) : Option Zr :=
 if a0 < (0 : Int) then
 nm (uns a0) fun m1 =>
 nm ((18446744073709551616 - m1) % 18446744073709551616) fun m2 =>
 bd (M_zint_made fu true [m2]) fun y1 =>
 some y1
 else
 nm (uns a0) fun m3 =>
 bd (M_zint_made fu false [m3]) fun y2 =>
 some y2
def M_nat_Bits (fu : Nat) (a0 : List Nat) : Option Int :=
 bd (M_nat_plain fu a0) fun t1 =>
 if ((t1.length : Nat) : Int) = (0 : Int) then
 some (0 : Int)
 else
 ck64 ((((t1.length : Nat) : Int)) - ((1 : Int))) fun x1 =>
 ck64 (((64 : Int)) * x1) fun x2 =>
 ck64 ((((t1.length : Nat) : Int)) - ((1 : Int))) fun x3 =>
 ckI x3 (t1.length) fun j1 =>
 nm (t1.getD j1 0) fun y1 =>
 bd (M_math_bits_Len64 fu y1) fun x4 =>
 ck64 (x2 + x4) fun x5 =>
 some x5
def B_zint_Pow_0 (fu : Nat)  : ((Int × Zr × Zr) → Option Zr) → (Int × Zr × Zr) → Option Zr := fun L (i1, t1, t2) =>
 if (0 : Int) < i1 then
 nm (andI i1 ((1 : Int))) fun x3 =>
 if x3 = (1 : Int) then
 bd (M_zint_Mul fu t2 t1) fun y3 =>
 if (1 : Int) < i1 then
 bd (M_zint_Mul fu t1 t1) fun y4 =>
 nm (Int.fdiv i1 (2 ^ (min (((1 : Nat)) : Int).toNat 64))) fun x4 =>
 L (x4, y4, y3)
 else
 nm (Int.fdiv i1 (2 ^ (min (((1 : Nat)) : Int).toNat 64))) fun x5 =>
 L (x5, t1, y3)
 else
 if (1 : Int) < i1 then
 bd (M_zint_Mul fu t1 t1) fun y5 =>
 nm (Int.fdiv i1 (2 ^ (min (((1 : Nat)) : Int).toNat 64))) fun x6 =>
 L (x6, y5, t2)
 else
 nm (Int.fdiv i1 (2 ^ (min (((1 : Nat)) : Int).toNat 64))) fun x7 =>
 L (x7, t1, t2)
 else
 some t2
def M_zint_Pow (fu : Nat) (a0 : Zr) (a1 : Int) : Option (Zr × Int) :=
 bd ((if a1 < (0 : Int) then
 some true
 else
 if (65536 : Int) < a1 then
 some true
 else
 some false : Option Bool)) fun b1 =>
 if b1 = true then
 some (((false, []), (1 : Int)))
 else
 bd (M_nat_Bits fu a0.2) fun x1 =>
 ck64 (x1 * a1) fun x2 =>
 if (262144 : Int) < x2 then
 some (((false, []), (6 : Int)))
 else
 bd (M_zint_Of fu (1 : Int)) fun y1 =>
 bd (M_zint_Norm fu a0) fun y2 =>
 bd (loopN (B_zint_Pow_0 fu ) fu (a1, y2, y1)) fun t3 =>
 some ((t3, (0 : Int)))
def M_hensel_Power (fu : Nat) (a0 : Int) (a1 : Int) : Option (Zr × Int) :=
 bd (M_prime_Is fu a0) fun c1 =>
 if ((!c1)) = true then
 some (((false, []), (1 : Int)))
 else
 if a1 < (1 : Int) then
 some (((false, []), (1 : Int)))
 else
 if (1000 : Int) < a1 then
 some (((false, []), (1 : Int)))
 else
 bd (M_zint_Of fu a0) fun y1 =>
 bd (M_zint_Pow fu y1 a1) fun (y2, x1) =>
 some (y2, x1)
def B_hensel_rests_0 (fu : Nat) (a0 : List Zr) (a1 : Zr) (a2 : Zr → Zr → Option (Zr × Int)) : ((Int × (List Zr)) → Option (List Zr)) → (Int × (List Zr)) → Option (List Zr) := fun L (i1, t2) =>
 bd ((if i1 < ((a0.length : Nat) : Int) then
 some ((a1, a0, ((a0.length : Nat) : Int), true))
 else
 some ((a1, a0, ((a0.length : Nat) : Int), false)) : Option (Zr × (List Zr) × Int × Bool))) fun (t3, t4, i2, b1) =>
 if b1 = true then
 ckI i1 (t4.length) fun j2 =>
 nm (t4.getD j2 (false, [])) fun y1 =>
 bd (a2 y1 t3) fun (y2, x2) =>
 ckI i1 (t2.length) fun j3 =>
 nm (t2.set j3 y2) fun t5 =>
 ck64 (i1 + ((1 : Int))) fun x3 =>
 L (x3, t5)
 else
 some t2
def M_hensel_rests (fu : Nat) (a0 : List Zr) (a1 : Zr) (a2 : Zr → Zr → Option (Zr × Int)) : Option ((List Zr) × Int) :=
 bd (M_zint_Sign fu a1) fun x1 =>
 if x1 ≤ (0 : Int) then
 some (([], (1 : Int)))
 else
 ckN (((a0.length : Nat) : Int)) fun j1 =>
 ck (32 * j1 ≤ 281474976710656) <|
 nm (List.replicate j1 (false, [])) fun t1 =>
 bd (loopN (B_hensel_rests_0 fu a0 a1 a2) fu (((0 : Int), t1))) fun t6 =>
 bd (M_zpoly_Norm fu t6) fun t7 =>
 some ((t7, (0 : Int)))
def M_prime_Rest (fu : Nat) (a0 : Zr) (a1 : Zr) : Option (Zr × Int) :=
 bd (M_zint_Sign fu a1) fun x1 =>
 if x1 ≤ (0 : Int) then
 some (((false, []), (1 : Int)))
 else
 bd (M_zint_Div fu a0 a1) fun (y1, y2, x2) =>
 some ((y2, (0 : Int)))
def M_hensel_Red (fu : Nat) (a0 : List Zr) (a1 : Zr) : Option ((List Zr) × Int) :=
 bd (M_hensel_rests fu a0 a1 (fun zx0 zx1 => M_prime_Rest fu zx0 zx1)) fun (t1, x1) =>
 some (t1, x1)
def M_hensel_red (fu : Nat) (a0 : List Zr) (a1 : Zr) : Option (List Zr) :=
 bd (M_hensel_Red fu a0 a1) fun (t1, x1) =>
 some t1
def M_fp_Check (fu : Nat) (a0 : Int) : Option Int :=
 bd (M_prime_Is fu a0) fun c1 =>
 if ((!c1)) = true then
 some (1 : Int)
 else
 some (0 : Int)
def M_fp_Red (fu : Nat) (a0 : Int) (a1 : Int) : Option Int :=
 if a1 < (1 : Int) then
 some (0 : Int)
 else
 ck (a1 ≠ 0) <|
 nm (Int.tmod a0 a1) fun x1 =>
 if x1 < (0 : Int) then
 ck64 (x1 + a1) fun x2 =>
 some x2
 else
 some x1
def B_fp_Inv_0 (fu : Nat)  : ((Int × Int × Int × Int) → Option (Int ⊕ Unit)) → (Int × Int × Int × Int) → Option (Int ⊕ Unit) := fun L (i1, i2, i3, i4) =>
 if i2 = (0 : Int) then
 some (.inr ())
 else
 if i2 = (1 : Int) then
 some (.inl i4)
 else
 ck (i2 ≠ 0) <|
 ck64 (Int.tdiv i1 i2) fun x3 =>
 ck64 (x3 * i2) fun x4 =>
 ck64 (i1 - x4) fun x5 =>
 ck64 (x3 * i4) fun x6 =>
 ck64 (i3 - x6) fun x7 =>
 L (i2, x5, i4, x7)
def M_fp_Inv (fu : Nat) (a0 : Int) (a1 : Int) : Option (Int × Int) :=
 bd (M_fp_Check fu a1) fun x1 =>
 if x1 = (0 : Int) then
 bd (M_fp_Red fu a0 a1) fun x2 =>
 bd (loopN (B_fp_Inv_0 fu ) fu ((a1, x2, (0 : Int), (1 : Int)))) fun s1 => match s1 with
 | .inl i5 =>
 bd (M_fp_Red fu i5 a1) fun x8 =>
 some ((x8, (0 : Int)))
 | .inr _ =>
 some (((0 : Int), (3 : Int)))
 else
 some (((0 : Int), x1))
def B_fpoly_plain_0 (fu : Nat) (a0 : List Int) (a1 : Int) : ((Int × (List Int)) → Option (List Int)) → (Int × (List Int)) → Option (List Int) := fun L (i1, t2) =>
 if i1 < ((a0.length : Nat) : Int) then
 ckI i1 (a0.length) fun j2 =>
 nm (a0.getD j2 0) fun y1 =>
 bd (M_fp_Red fu y1 a1) fun x1 =>
 ckI i1 (t2.length) fun j3 =>
 nm (t2.set j3 x1) fun t3 =>
 ck64 (i1 + ((1 : Int))) fun x2 =>
 L (x2, t3)
 else
 some t2
def B_fpoly_plain_1 (fu : Nat)  : ((List Int) → Option (List Int)) → (List Int) → Option (List Int) := fun L t5 =>
 if (0 : Int) < ((t5.length : Nat) : Int) then
 ck64 ((((t5.length : Nat) : Int)) - ((1 : Int))) fun x3 =>
 ckI x3 (t5.length) fun j4 =>
 nm ((t5.getD j4 0)) fun x4 =>
 if x4 = (0 : Int) then
 ck64 ((((t5.length : Nat) : Int)) - ((1 : Int))) fun x5 =>
 ckN x5 fun j5 =>
 ck (j5 ≤ t5.length) <|
 nm (t5.take j5) fun t6 =>
 L t6
 else
 some t5
 else
 some t5
def M_fpoly_plain (fu : Nat) (a0 : List Int) (a1 : Int) : Option (List Int) :=
 ckN (((a0.length : Nat) : Int)) fun j1 =>
 ck (8 * j1 ≤ 281474976710656) <|
 nm (List.replicate j1 0) fun t1 =>
 bd (loopN (B_fpoly_plain_0 fu a0 a1) fu (((0 : Int), t1))) fun t4 =>
 bd (loopN (B_fpoly_plain_1 fu ) fu t4) fun t7 =>
 some t7
def B_fpoly_divided_1 (fu : Nat) (a1 : List Int) (i1 : Int) (x10 : Int) : (((List Int) × Int × Int × Int × (List Int) × (List Int)) → Option ((List Int) × Int × Int × (List Int) × (List Int))) → ((List Int) × Int × Int × Int × (List Int) × (List Int)) → Option ((List Int) × Int × Int × (List Int) × (List Int)) := fun L (t6, i2, i3, i4, t7, t8) =>
 bd ((if i4 < ((a1.length : Nat) : Int) then
 some ((i1, x10, a1, ((a1.length : Nat) : Int), true))
 else
 some ((i1, x10, a1, ((a1.length : Nat) : Int), false)) : Option (Int × Int × (List Int) × Int × Bool))) fun (i5, i6, t9, i7, b1) =>
 if b1 = true then
 ckI i4 (t9.length) fun j5 =>
 nm (t9.getD j5 0) fun y2 =>
 ck64 (i5 + i4) fun x11 =>
 ck64 (i5 + i4) fun x12 =>
 ckI x12 (t7.length) fun j6 =>
 nm ((t7.getD j6 0)) fun x13 =>
 ck64 (i2 - i6) fun x14 =>
 ck64 (x14 * y2) fun x15 =>
 ck64 (x13 + x15) fun x16 =>
 ck (i2 ≠ 0) <|
 nm (Int.tmod x16 i2) fun x17 =>
 ckI x11 (t7.length) fun j7 =>
 nm (t7.set j7 x17) fun t10 =>
 ck64 (i4 + ((1 : Int))) fun x18 =>
 L (t6, i2, i3, x18, t10, t8)
 else
 some (t6, i2, i3, t7, t8)
def B_fpoly_divided_0 (fu : Nat) (a1 : List Int) (a2 : Int) (x3 : Int) : ((Int × (List Int) × (List Int)) → Option ((List Int) × (List Int))) → (Int × (List Int) × (List Int)) → Option ((List Int) × (List Int)) := fun L (i1, t3, t4) =>
 if (0 : Int) ≤ i1 then
 ck64 (i1 + (((a1.length : Nat) : Int))) fun x6 =>
 ck64 (x6 - ((1 : Int))) fun x7 =>
 ckI x7 (t3.length) fun j3 =>
 nm ((t3.getD j3 0)) fun x8 =>
 ck64 (x8 * x3) fun x9 =>
 ck (a2 ≠ 0) <|
 nm (Int.tmod x9 a2) fun x10 =>
 ckI i1 (t4.length) fun j4 =>
 nm (t4.set j4 x10) fun t5 =>
 bd (loopN (B_fpoly_divided_1 fu a1 i1 x10) fu ((a1, a2, x3, (0 : Int), t3, t5))) fun (t11, i8, i9, t12, t13) =>
 ck64 (i1 - ((1 : Int))) fun x19 =>
 L (x19, t12, t13)
 else
 some (t3, t4)
def M_fpoly_divided (fu : Nat) (a0 : List Int) (a1 : List Int) (a2 : Int) : Option ((List Int) × (List Int)) :=
 ck (((([] : List Int)).length + a0.length) * 8 ≤ 140737488355328) <|
 nm ((([] : List Int)) ++ a0) fun t1 =>
 ck64 ((((t1.length : Nat) : Int)) - (((a1.length : Nat) : Int))) fun x1 =>
 if x1 < (0 : Int) then
 some ([], t1)
 else
 ck64 ((((a1.length : Nat) : Int)) - ((1 : Int))) fun x2 =>
 ckI x2 (a1.length) fun j1 =>
 nm (a1.getD j1 0) fun y1 =>
 bd (M_fp_Inv fu y1 a2) fun (x3, x4) =>
 ck64 (x1 + ((1 : Int))) fun x5 =>
 ckN x5 fun j2 =>
 ck (8 * j2 ≤ 281474976710656) <|
 nm (List.replicate j2 0) fun t2 =>
 bd (loopN (B_fpoly_divided_0 fu a1 a2 x3) fu (x1, t1, t2)) fun (t14, t15) =>
 bd (M_fpoly_plain fu t15 a2) fun t16 =>
 bd (M_fpoly_plain fu t14 a2) fun t17 =>
 some (t16, t17)
def B_fpoly_product_1 (fu : Nat) (i1 : Int) (t3 : List Int) (i2 : Int) (t4 : List Int) (i3 : Int) (y1 : Int) : ((Int × (List Int)) → Option (List Int)) → (Int × (List Int)) → Option (List Int) := fun L (i4, t5) =>
 bd ((if i4 < ((t3.length : Nat) : Int) then
 some ((t3, i2, i1, y1, t4, i3, i1, t3, ((t3.length : Nat) : Int), true))
 else
 some ((t3, i2, i1, y1, t4, i3, i1, t3, ((t3.length : Nat) : Int), false)) : Option ((List Int) × Int × Int × Int × (List Int) × Int × Int × (List Int) × Int × Bool))) fun (t6, i5, i6, i7, t7, i8, i9, t8, i10, b2) =>
 if b2 = true then
 ckI i4 (t8.length) fun j3 =>
 nm (t8.getD j3 0) fun y2 =>
 ck64 (i6 + i4) fun x2 =>
 ck64 (i6 + i4) fun x3 =>
 ckI x3 (t5.length) fun j4 =>
 nm ((t5.getD j4 0)) fun x4 =>
 ck64 (i7 * y2) fun x5 =>
 ck64 (x4 + x5) fun x6 =>
 ck (i5 ≠ 0) <|
 nm (Int.tmod x6 i5) fun x7 =>
 ckI x2 (t5.length) fun j5 =>
 nm (t5.set j5 x7) fun t9 =>
 ck64 (i4 + ((1 : Int))) fun x8 =>
 L (x8, t9)
 else
 some t5
def B_fpoly_product_0 (fu : Nat) (a0 : List Int) (a1 : List Int) (a2 : Int) : ((Int × (List Int)) → Option (List Int)) → (Int × (List Int)) → Option (List Int) := fun L (i1, t2) =>
 bd ((if i1 < ((a0.length : Nat) : Int) then
 some ((a1, a2, a0, ((a0.length : Nat) : Int), true))
 else
 some ((a1, a2, a0, ((a0.length : Nat) : Int), false)) : Option ((List Int) × Int × (List Int) × Int × Bool))) fun (t3, i2, t4, i3, b1) =>
 if b1 = true then
 ckI i1 (t4.length) fun j2 =>
 nm (t4.getD j2 0) fun y1 =>
 bd (loopN (B_fpoly_product_1 fu i1 t3 i2 t4 i3 y1) fu (((0 : Int), t2))) fun t10 =>
 ck64 (i1 + ((1 : Int))) fun x9 =>
 L (x9, t10)
 else
 some t2
def M_fpoly_product (fu : Nat) (a0 : List Int) (a1 : List Int) (a2 : Int) : Option (List Int) :=
 ck64 ((((a0.length : Nat) : Int)) + (((a1.length : Nat) : Int))) fun x1 =>
 ckN x1 fun j1 =>
 ck (8 * j1 ≤ 281474976710656) <|
 nm (List.replicate j1 0) fun t1 =>
 bd (loopN (B_fpoly_product_0 fu a0 a1 a2) fu (((0 : Int), t1))) fun t11 =>
 bd (M_fpoly_plain fu t11 a2) fun t12 =>
 some t12
def B_fpoly_sum_0 (fu : Nat) (a1 : List Int) (a2 : Int) (a3 : Int) : ((Int × (List Int)) → Option (List Int)) → (Int × (List Int)) → Option (List Int) := fun L (i1, t3) =>
 bd ((if i1 < ((a1.length : Nat) : Int) then
 some ((a2, a3, a1, ((a1.length : Nat) : Int), true))
 else
 some ((a2, a3, a1, ((a1.length : Nat) : Int), false)) : Option (Int × Int × (List Int) × Int × Bool))) fun (i2, i3, t4, i4, b1) =>
 if b1 = true then
 ckI i1 (t4.length) fun j2 =>
 nm (t4.getD j2 0) fun y1 =>
 ckI i1 (t3.length) fun j3 =>
 nm ((t3.getD j3 0)) fun x2 =>
 ck64 (i2 * y1) fun x3 =>
 ck64 (x2 + x3) fun x4 =>
 ckI i1 (t3.length) fun j4 =>
 nm (t3.set j4 x4) fun t5 =>
 ck64 (i1 + ((1 : Int))) fun x5 =>
 L (x5, t5)
 else
 some t3
def M_fpoly_sum (fu : Nat) (a0 : List Int) (a1 : List Int) (a2 : Int) (a3 : Int) : Option (List Int) :=
 nm (max (((a0.length : Nat) : Int)) (((a1.length : Nat) : Int))) fun x1 =>
 ckN x1 fun j1 =>
 ck (8 * j1 ≤ 281474976710656) <|
 nm (List.replicate j1 0) fun t1 =>
 nm (cpy t1 a0) fun t2 =>
 bd (loopN (B_fpoly_sum_0 fu a1 a2 a3) fu (((0 : Int), t2))) fun t6 =>
 bd (M_fpoly_plain fu t6 a3) fun t7 =>
 some t7
def B_fpoly_next_0 (fu : Nat) (a1 : List (List Int)) (a2 : Int) : (((List Int) × Int × (List (List Int)) × (List (List Int))) → Option ((List (List Int)) × (List (List Int)))) → ((List Int) × Int × (List (List Int)) × (List (List Int))) → Option ((List (List Int)) × (List (List Int))) := fun L (t3, i1, t4, t5) =>
 bd ((if i1 < (3 : Int) then
 some (a2, a1, true)
 else
 some (a2, a1, false) : Option (Int × (List (List Int)) × Bool))) fun (i2, t6, b1) =>
 if b1 = true then
 ckI i1 (3) fun j3 =>
 ckI i1 (3) fun j4 =>
 nm (t6.getD j4 []) fun y2 =>
 bd (M_fpoly_product fu t3 y2 i2) fun t7 =>
 ck64 (i2 - ((1 : Int))) fun x1 =>
 bd (M_fpoly_sum fu (t4.getD j3 []) t7 x1 i2) fun t8 =>
 ckI i1 (3) fun j5 =>
 nm (t4.set j5 t8) fun t9 =>
 ck64 (i1 + ((1 : Int))) fun x2 =>
 L (t3, x2, t9, t5)
 else
 some (t4, t5)
def M_fpoly_next (fu : Nat) (a0 : List (List Int)) (a1 : List (List Int)) (a2 : Int) : Option (List (List Int)) :=
 ckI ((0 : Int)) (3) fun j1 =>
 ckI ((0 : Int)) (3) fun j2 =>
 nm (a1.getD j2 []) fun y1 =>
 bd (M_fpoly_divided fu (a0.getD j1 []) y1 a2) fun (t1, t2) =>
 bd (loopN (B_fpoly_next_0 fu a1 a2) fu ((t1, (0 : Int), a0, (List.replicate 3 [])))) fun (t10, t11) =>
 some t10
def M_fpoly_scaled (fu : Nat) (a0 : List Int) (a1 : Int) (a2 : Int) : Option (List Int) :=
 bd (M_fp_Inv fu a1 a2) fun (x1, x2) =>
 bd (M_fpoly_product fu a0 [x1] a2) fun t1 =>
 some t1
def B_fpoly_Bezout_0 (fu : Nat) (a2 : Int) : (((List (List Int)) × (List (List Int))) → Option (List (List Int))) → ((List (List Int)) × (List (List Int))) → Option (List (List Int)) := fun L (t3, t4) =>
 ckI ((0 : Int)) (3) fun j1 =>
 if (0 : Int) < ((((t4.getD j1 [])).length : Nat) : Int) then
 bd (M_fpoly_next fu t3 t4 a2) fun t5 =>
 L (t4, t5)
 else
 some t3
def B_fpoly_Bezout_1 (fu : Nat) (a2 : Int) (y1 : Int) : ((Int × (List (List Int))) → Option (List (List Int))) → (Int × (List (List Int))) → Option (List (List Int)) := fun L (i1, t7) =>
 if i1 < (3 : Int) then
 ckI i1 (3) fun j5 =>
 bd (M_fpoly_scaled fu (t7.getD j5 []) y1 a2) fun t8 =>
 ckI i1 (3) fun j6 =>
 nm (t7.set j6 t8) fun t9 =>
 ck64 (i1 + ((1 : Int))) fun x3 =>
 L (x3, t9)
 else
 some t7
def M_fpoly_Bezout (fu : Nat) (a0 : List Int) (a1 : List Int) (a2 : Int) : Option ((List Int) × (List Int) × (List Int) × Int) :=
 bd (M_fp_Check fu a2) fun x1 =>
 if x1 = (0 : Int) then
 bd (M_fpoly_plain fu a0 a2) fun t1 =>
 bd (M_fpoly_plain fu a1 a2) fun t2 =>
 bd (loopN (B_fpoly_Bezout_0 fu a2) fu (([t1, [(1 : Int)], []], [t2, [], [(1 : Int)]]))) fun t6 =>
 ckI ((0 : Int)) (3) fun j2 =>
 bd ((if (0 : Int) < ((((t6.getD j2 [])).length : Nat) : Int) then
 some true
 else
 some false : Option Bool)) fun b1 =>
 if b1 = true then
 ckI ((0 : Int)) (3) fun j3 =>
 ck64 ((((((t6.getD j2 [])).length : Nat) : Int)) - ((1 : Int))) fun x2 =>
 ckI x2 (((t6.getD j3 [])).length) fun j4 =>
 nm (((t6.getD j3 [])).getD j4 0) fun y1 =>
 bd (loopN (B_fpoly_Bezout_1 fu a2 y1) fu (((0 : Int), t6))) fun t10 =>
 ckI ((0 : Int)) (3) fun j7 =>
 ckI ((1 : Int)) (3) fun j8 =>
 ckI ((2 : Int)) (3) fun j9 =>
 some (((t10.getD j7 []), (t10.getD j8 []), (t10.getD j9 []), (0 : Int)))
 else
 ckI ((0 : Int)) (3) fun j10 =>
 ckI ((1 : Int)) (3) fun j11 =>
 ckI ((2 : Int)) (3) fun j12 =>
 some (((t6.getD j10 []), (t6.getD j11 []), (t6.getD j12 []), (0 : Int)))
 else
 some ([], [], [], x1)
def M_fpoly_Gcd (fu : Nat) (a0 : List Int) (a1 : List Int) (a2 : Int) : Option ((List Int) × Int) :=
 bd (M_fpoly_Bezout fu a0 a1 a2) fun (t1, t2, t3, x1) =>
 some (t1, x1)
def M_fpoly_Mul (fu : Nat) (a0 : List Int) (a1 : List Int) (a2 : Int) : Option ((List Int) × Int) :=
 bd (M_fp_Check fu a2) fun x1 =>
 if x1 = (0 : Int) then
 bd (M_fpoly_plain fu a0 a2) fun t1 =>
 bd (M_fpoly_plain fu a1 a2) fun t2 =>
 bd (M_fpoly_product fu t1 t2 a2) fun t3 =>
 some ((t3, (0 : Int)))
 else
 some ([], x1)
def M_fpoly_Sub (fu : Nat) (a0 : List Int) (a1 : List Int) (a2 : Int) : Option ((List Int) × Int) :=
 bd (M_fp_Check fu a2) fun x1 =>
 if x1 = (0 : Int) then
 bd (M_fpoly_plain fu a0 a2) fun t1 =>
 bd (M_fpoly_plain fu a1 a2) fun t2 =>
 ck64 (a2 - ((1 : Int))) fun x2 =>
 bd (M_fpoly_sum fu t1 t2 x2 a2) fun t3 =>
 some ((t3, (0 : Int)))
 else
 some ([], x1)
def M_hensel_equal (fu : Nat) (a0 : List Int) (a1 : List Int) (a2 : Int) : Option Bool :=
 bd (M_fpoly_Sub fu a0 a1 a2) fun (t1, x1) =>
 if ((t1.length : Nat) : Int) = (0 : Int) then
 some true
 else
 some false
def B_hensel_plain_0 (fu : Nat) (a0 : List Int) (a1 : Int) : (Int → Option (Unit ⊕ Unit)) → Int → Option (Unit ⊕ Unit) := fun L i1 =>
 if i1 < ((a0.length : Nat) : Int) then
 ckI i1 (a0.length) fun j1 =>
 nm (a0.getD j1 0) fun y1 =>
 if y1 < (0 : Int) then
 some (.inr ())
 else
 if a1 ≤ y1 then
 some (.inr ())
 else
 ck64 (i1 + ((1 : Int))) fun x1 =>
 L x1
 else
 some (.inl ())
def M_hensel_plain (fu : Nat) (a0 : List Int) (a1 : Int) : Option Bool :=
 bd (loopN (B_hensel_plain_0 fu a0 a1) fu (0 : Int)) fun s1 => match s1 with
 | .inl _ =>
 if (1 : Int) < ((a0.length : Nat) : Int) then
 ck64 ((((a0.length : Nat) : Int)) - ((1 : Int))) fun x2 =>
 ckI x2 (a0.length) fun j2 =>
 nm (a0.getD j2 0) fun y2 =>
 if y2 = (1 : Int) then
 some true
 else
 some false
 else
 some false
 | .inr _ =>
 some false
def B_hensel_product_0 (fu : Nat) (a0 : List (List Int)) (a1 : Int) : (((List Int) × Int) → Option (List Int)) → ((List Int) × Int) → Option (List Int) := fun L (t1, i1) =>
 if i1 < ((a0.length : Nat) : Int) then
 ckI i1 (a0.length) fun j1 =>
 nm (a0.getD j1 []) fun y1 =>
 bd (M_fpoly_Mul fu t1 y1 a1) fun (t2, x1) =>
 ck64 (i1 + ((1 : Int))) fun x2 =>
 L (t2, x2)
 else
 some t1
def M_hensel_product (fu : Nat) (a0 : List (List Int)) (a1 : Int) : Option (List Int) :=
 bd (loopN (B_hensel_product_0 fu a0 a1) fu (([(1 : Int)], (0 : Int)))) fun t3 =>
 some t3
def M_zint_Small (fu : Nat) (a0 : Zr) : Option (Int × Bool) :=
 bd (M_zint_Norm fu a0) fun y1 =>
 bd ((if ((y1.2.length : Nat) : Int) = (0 : Int) then
 some true
 else
 some false : Option Bool)) fun b1 =>
 if b1 = true then
 some (((0 : Int), true))
 else
 bd ((if (1 : Int) < ((y1.2.length : Nat) : Int) then
 some true
 else
 some false : Option Bool)) fun b2 =>
 if b2 = true then
 some (((0 : Int), false))
 else
 bd ((if y1.1 = true then
 ckI ((0 : Int)) (y1.2.length) fun j1 =>
 nm (y1.2.getD j1 0) fun y2 =>
 if ((y2 : Nat) : Int) ≤ (((9223372036854775808 : Nat) : Nat) : Int) then
 some true
 else
 some false
 else
 some false : Option Bool)) fun b3 =>
 if b3 = true then
 ckI ((0 : Int)) (y1.2.length) fun j2 =>
 nm (y1.2.getD j2 0) fun y3 =>
 nm ((18446744073709551616 - y3) % 18446744073709551616) fun m1 =>
 nm (sgn m1) fun x1 =>
 some (x1, true)
 else
 if y1.1 = true then
 some (((0 : Int), false))
 else
 ckI ((0 : Int)) (y1.2.length) fun j3 =>
 nm (y1.2.getD j3 0) fun y4 =>
 if (((9223372036854775807 : Nat) : Nat) : Int) < ((y4 : Nat) : Int) then
 some (((0 : Int), false))
 else
 ckI ((0 : Int)) (y1.2.length) fun j4 =>
 nm (y1.2.getD j4 0) fun y5 =>
 nm (sgn y5) fun x2 =>
 some (x2, true)
def M_prime_Mod (fu : Nat) (a0 : Zr) (a1 : Int) : Option (Int × Int) :=
 bd (M_zint_Of fu a1) fun y1 =>
 bd (M_prime_Rest fu a0 y1) fun (y2, x1) =>
 if x1 = (0 : Int) then
 bd (M_zint_Small fu y2) fun (x2, c1) =>
 some ((x2, (0 : Int)))
 else
 some (((0 : Int), x1))
def M_zpoly_Mod_1 (fu : Nat) (a0 : Int) (a1 : Zr) (a2 : Int) : Option Int :=
 bd (M_prime_Mod fu a1 a2) fun (x1, x2) =>
 some x1
def B_zpoly_each_api_Int_int_0 (fu : Nat) (a0 : List Zr) (a1 : Int → Zr → Option Int) : ((Int × (List Int)) → Option (List Int)) → (Int × (List Int)) → Option (List Int) := fun L (i1, t2) =>
 bd ((if i1 < ((a0.length : Nat) : Int) then
 some ((a0, ((a0.length : Nat) : Int), true))
 else
 some ((a0, ((a0.length : Nat) : Int), false)) : Option ((List Zr) × Int × Bool))) fun (t3, i2, b1) =>
 if b1 = true then
 ckI i1 (t3.length) fun j2 =>
 nm (t3.getD j2 (false, [])) fun y1 =>
 bd (a1 i1 y1) fun x1 =>
 ckI i1 (t2.length) fun j3 =>
 nm (t2.set j3 x1) fun t4 =>
 ck64 (i1 + ((1 : Int))) fun x2 =>
 L (x2, t4)
 else
 some t2
def M_zpoly_each_api_Int_int (fu : Nat) (a0 : List Zr) (a1 : Int → Zr → Option Int) : Option (List Int) :=
 ckN (((a0.length : Nat) : Int)) fun j1 =>
 ck (8 * j1 ≤ 281474976710656) <|
 nm (List.replicate j1 0) fun t1 =>
 bd (loopN (B_zpoly_each_api_Int_int_0 fu a0 a1) fu (((0 : Int), t1))) fun t5 =>
 some t5
def B_zpoly_Mod_0 (fu : Nat)  : ((List Int) → Option (List Int)) → (List Int) → Option (List Int) := fun L t2 =>
 if (0 : Int) < ((t2.length : Nat) : Int) then
 ck64 ((((t2.length : Nat) : Int)) - ((1 : Int))) fun x1 =>
 ckI x1 (t2.length) fun j1 =>
 nm ((t2.getD j1 0)) fun x2 =>
 if x2 = (0 : Int) then
 ck64 ((((t2.length : Nat) : Int)) - ((1 : Int))) fun x3 =>
 ckN x3 fun j2 =>
 ck (j2 ≤ t2.length) <|
 nm (t2.take j2) fun t3 =>
 L t3
 else
 some t2
 else
 some t2
def M_zpoly_Mod (fu : Nat) (a0 : List Zr) (a1 : Int) : Option ((List Int) × Int) :=
 if a1 < (1 : Int) then
 some (([], (1 : Int)))
 else
 bd (M_zpoly_each_api_Int_int fu a0 (fun zx0 zx1 => M_zpoly_Mod_1 fu zx0 zx1 a1)) fun t1 =>
 bd (loopN (B_zpoly_Mod_0 fu ) fu t1) fun t4 =>
 some ((t4, (0 : Int)))
def B_hensel_right_1 (fu : Nat) (i2 : Int) (y1 : List Int) (t6 : List (List Int)) : (Int → Option (Unit ⊕ Unit)) → Int → Option (Unit ⊕ Unit) := fun L i4 =>
 if i4 < ((t6.length : Nat) : Int) then
 ckI i4 (t6.length) fun j3 =>
 nm (t6.getD j3 []) fun y2 =>
 bd (M_fpoly_Gcd fu y1 y2 i2) fun (t7, x2) =>
 if ((t7.length : Nat) : Int) = (1 : Int) then
 ck64 (i4 + ((1 : Int))) fun x3 =>
 L x3
 else
 some (.inr ())
 else
 some (.inl ())
def B_hensel_right_0 (fu : Nat) (a0 : List Zr) (a1 : List (List Int)) (a2 : Int) : ((Int × (List Int)) → Option ((List Int) ⊕ Unit)) → (Int × (List Int)) → Option ((List Int) ⊕ Unit) := fun L (i1, t2) =>
 bd ((if i1 < ((a1.length : Nat) : Int) then
 some ((a0, a1, a2, a1, ((a1.length : Nat) : Int), true))
 else
 some ((a0, a1, a2, a1, ((a1.length : Nat) : Int), false)) : Option ((List Zr) × (List (List Int)) × Int × (List (List Int)) × Int × Bool))) fun (t3, t4, i2, t5, i3, b1) =>
 if b1 = true then
 ckI i1 (t5.length) fun j1 =>
 nm (t5.getD j1 []) fun y1 =>
 if ((t3.length : Nat) : Int) < ((y1.length : Nat) : Int) then
 some (.inr ())
 else
 bd (M_hensel_plain fu y1 i2) fun c1 =>
 if ((!c1)) = true then
 some (.inr ())
 else
 ckN i1 fun j2 =>
 ck (j2 ≤ t4.length) <|
 nm (t4.take j2) fun t6 =>
 bd (loopN (B_hensel_right_1 fu i2 y1 t6) fu (0 : Int)) fun s1 => match s1 with
 | .inl _ =>
 ck64 (i1 + ((1 : Int))) fun x4 =>
 L (x4, t2)
 | .inr _ =>
 some (.inr ())
 else
 some (.inl t2)
def M_hensel_right (fu : Nat) (a0 : List Zr) (a1 : List (List Int)) (a2 : Int) : Option Bool :=
 bd (M_zpoly_Mod fu a0 a2) fun (t1, x1) =>
 if ((a0.length : Nat) : Int) = (0 : Int) then
 some false
 else
 if ((t1.length : Nat) : Int) = ((a0.length : Nat) : Int) then
 if ((a0.length : Nat) : Int) < ((a1.length : Nat) : Int) then
 some false
 else
 bd (loopN (B_hensel_right_0 fu a0 a1 a2) fu (((0 : Int), t1))) fun s2 => match s2 with
 | .inl t8 =>
 bd (M_hensel_product fu a1 a2) fun t9 =>
 ck64 ((((t8.length : Nat) : Int)) - ((1 : Int))) fun x5 =>
 ckN x5 fun j4 =>
 ck (j4 ≤ t8.length) <|
 nm (t8.drop j4) fun t10 =>
 bd (M_fpoly_Mul fu t9 t10 a2) fun (t11, x6) =>
 bd (M_hensel_equal fu t11 t8 a2) fun c2 =>
 some c2
 | .inr _ =>
 some false
 else
 some false
def B_hensel_divided_1 (fu : Nat) (a1 : List Zr) (i1 : Int) : (((List Zr) × Zr × Int × (List Zr) × (List Zr)) → Option ((List Zr) × Zr × (List Zr) × (List Zr))) → ((List Zr) × Zr × Int × (List Zr) × (List Zr)) → Option ((List Zr) × Zr × (List Zr) × (List Zr)) := fun L (t6, t7, i2, t8, t9) =>
 bd ((if i2 < ((a1.length : Nat) : Int) then
 some ((i1, a1, ((a1.length : Nat) : Int), true))
 else
 some ((i1, a1, ((a1.length : Nat) : Int), false)) : Option (Int × (List Zr) × Int × Bool))) fun (i3, t10, i4, b1) =>
 if b1 = true then
 ckI i2 (t10.length) fun j4 =>
 nm (t10.getD j4 (false, [])) fun y3 =>
 ck64 (i3 + i2) fun x8 =>
 ck64 (i3 + i2) fun x9 =>
 ckI x9 (t8.length) fun j5 =>
 nm ((t8.getD j5 (false, []))) fun y4 =>
 ckI i3 (t9.length) fun j6 =>
 nm ((t9.getD j6 (false, []))) fun y5 =>
 bd (M_zint_Mul fu y5 y3) fun y6 =>
 bd (M_zint_Sub fu y4 y6) fun y7 =>
 ckI x8 (t8.length) fun j7 =>
 nm (t8.set j7 y7) fun t11 =>
 ck64 (i2 + ((1 : Int))) fun x10 =>
 L (t6, t7, x10, t11, t9)
 else
 some (t6, t7, t8, t9)
def B_hensel_divided_0 (fu : Nat) (a1 : List Zr) (a2 : Zr) : ((Int × (List Zr) × (List Zr)) → Option ((List Zr) × (List Zr))) → (Int × (List Zr) × (List Zr)) → Option ((List Zr) × (List Zr)) := fun L (i1, t3, t4) =>
 if (0 : Int) ≤ i1 then
 ck64 (i1 + (((a1.length : Nat) : Int))) fun x5 =>
 ck64 (x5 - ((1 : Int))) fun x6 =>
 ckI x6 (t3.length) fun j2 =>
 nm ((t3.getD j2 (false, []))) fun y1 =>
 bd (M_prime_Rest fu y1 a2) fun (y2, x7) =>
 ckI i1 (t4.length) fun j3 =>
 nm (t4.set j3 y2) fun t5 =>
 bd (loopN (B_hensel_divided_1 fu a1 i1) fu ((a1, a2, (0 : Int), t3, t5))) fun (t12, t13, t14, t15) =>
 ck64 (i1 - ((1 : Int))) fun x11 =>
 L (x11, t14, t15)
 else
 some (t3, t4)
def M_hensel_divided (fu : Nat) (a0 : List Zr) (a1 : List Zr) (a2 : Zr) : Option ((List Zr) × (List Zr)) :=
 bd (M_hensel_red fu a0 a2) fun t1 =>
 ck64 ((((t1.length : Nat) : Int)) - (((a1.length : Nat) : Int))) fun x1 =>
 ck64 (x1 + ((1 : Int))) fun x2 =>
 nm (max x2 ((0 : Int))) fun x3 =>
 ckN x3 fun j1 =>
 ck (32 * j1 ≤ 281474976710656) <|
 nm (List.replicate j1 (false, [])) fun t2 =>
 ck64 ((((t2.length : Nat) : Int)) - ((1 : Int))) fun x4 =>
 bd (loopN (B_hensel_divided_0 fu a1 a2) fu (x4, t1, t2)) fun (t16, t17) =>
 bd (M_hensel_red fu t17 a2) fun t18 =>
 bd (M_hensel_red fu t16 a2) fun t19 =>
 some (t18, t19)
def M_zpoly_Add_1 (fu : Nat) (a0 : Int) (a1 : Zr) (a2 : List Zr) : Option Zr :=
 if a0 < ((a2.length : Nat) : Int) then
 ckI a0 (a2.length) fun j1 =>
 nm (a2.getD j1 (false, [])) fun y1 =>
 bd (M_zint_Add fu a1 y1) fun y2 =>
 some y2
 else
 some a1
def M_zpoly_Add (fu : Nat) (a0 : List Zr) (a1 : List Zr) : Option (List Zr) :=
 if ((a0.length : Nat) : Int) < ((a1.length : Nat) : Int) then
 bd (M_zpoly_each_api_Int_api_Int fu a1 (fun zx0 zx1 => M_zpoly_Add_1 fu zx0 zx1 a0)) fun t1 =>
 bd (M_zpoly_Norm fu t1) fun t2 =>
 some t2
 else
 bd (M_zpoly_each_api_Int_api_Int fu a0 (fun zx0 zx1 => M_zpoly_Add_1 fu zx0 zx1 a1)) fun t3 =>
 bd (M_zpoly_Norm fu t3) fun t4 =>
 some t4
def B_zpoly_Mul_1 (fu : Nat) (i1 : Int) (t3 : List Zr) (t4 : List Zr) (i2 : Int) : ((Int × (List Zr) × Zr) → Option (List Zr)) → (Int × (List Zr) × Zr) → Option (List Zr) := fun L (i3, t5, t6) =>
 bd ((if i3 < ((t3.length : Nat) : Int) then
 some ((t3, i1, t4, i2, i1, t3, ((t3.length : Nat) : Int), true))
 else
 some ((t3, i1, t4, i2, i1, t3, ((t3.length : Nat) : Int), false)) : Option ((List Zr) × Int × (List Zr) × Int × Int × (List Zr) × Int × Bool))) fun (t7, i4, t8, i5, i6, t9, i7, b2) =>
 if b2 = true then
 ckI i3 (t9.length) fun j3 =>
 nm (t9.getD j3 (false, [])) fun y2 =>
 ck64 (i4 + i3) fun x2 =>
 ck64 (i4 + i3) fun x3 =>
 ckI x3 (t5.length) fun j4 =>
 nm ((t5.getD j4 (false, []))) fun y3 =>
 bd (M_zint_Mul fu t6 y2) fun y4 =>
 bd (M_zint_Add fu y3 y4) fun y5 =>
 ckI x2 (t5.length) fun j5 =>
 nm (t5.set j5 y5) fun t10 =>
 ck64 (i3 + ((1 : Int))) fun x4 =>
 L (x4, t10, t6)
 else
 some t5
def B_zpoly_Mul_0 (fu : Nat) (a0 : List Zr) (a1 : List Zr) : ((Int × (List Zr)) → Option (List Zr)) → (Int × (List Zr)) → Option (List Zr) := fun L (i1, t2) =>
 bd ((if i1 < ((a0.length : Nat) : Int) then
 some ((a1, a0, ((a0.length : Nat) : Int), true))
 else
 some ((a1, a0, ((a0.length : Nat) : Int), false)) : Option ((List Zr) × (List Zr) × Int × Bool))) fun (t3, t4, i2, b1) =>
 if b1 = true then
 ckI i1 (t4.length) fun j2 =>
 nm (t4.getD j2 (false, [])) fun y1 =>
 bd (loopN (B_zpoly_Mul_1 fu i1 t3 t4 i2) fu (((0 : Int), t2, y1))) fun t11 =>
 ck64 (i1 + ((1 : Int))) fun x5 =>
 L (x5, t11)
 else
 some t2
def M_zpoly_Mul (fu : Nat) (a0 : List Zr) (a1 : List Zr) : Option (List Zr) :=
 ck64 ((((a0.length : Nat) : Int)) + (((a1.length : Nat) : Int))) fun x1 =>
 ckN x1 fun j1 =>
 ck (32 * j1 ≤ 281474976710656) <|
 nm (List.replicate j1 (false, [])) fun t1 =>
 bd (loopN (B_zpoly_Mul_0 fu a0 a1) fu (((0 : Int), t1))) fun t12 =>
 bd (M_zpoly_Norm fu t12) fun t13 =>
 some t13
def M_zpoly_Lift_1 (fu : Nat) (a0 : Int) (a1 : Int) : Option Zr :=
 bd (M_zint_Of fu a1) fun y1 =>
 some y1
def B_zpoly_each_int_api_Int_0 (fu : Nat) (a0 : List Int) (a1 : Int → Int → Option Zr) : ((Int × (List Zr)) → Option (List Zr)) → (Int × (List Zr)) → Option (List Zr) := fun L (i1, t2) =>
 if i1 < ((a0.length : Nat) : Int) then
 ckI i1 (a0.length) fun j2 =>
 nm (a0.getD j2 0) fun y1 =>
 bd (a1 i1 y1) fun y2 =>
 ckI i1 (t2.length) fun j3 =>
 nm (t2.set j3 y2) fun t3 =>
 ck64 (i1 + ((1 : Int))) fun x1 =>
 L (x1, t3)
 else
 some t2
def M_zpoly_each_int_api_Int (fu : Nat) (a0 : List Int) (a1 : Int → Int → Option Zr) : Option (List Zr) :=
 ckN (((a0.length : Nat) : Int)) fun j1 =>
 ck (32 * j1 ≤ 281474976710656) <|
 nm (List.replicate j1 (false, [])) fun t1 =>
 bd (loopN (B_zpoly_each_int_api_Int_0 fu a0 a1) fu (((0 : Int), t1))) fun t4 =>
 some t4
def M_zpoly_Lift (fu : Nat) (a0 : List Int) : Option (List Zr) :=
 bd (M_zpoly_each_int_api_Int fu a0 (fun zx0 zx1 => M_zpoly_Lift_1 fu zx0 zx1)) fun t1 =>
 bd (M_zpoly_Norm fu t1) fun t2 =>
 some t2
def M_zpoly_Of (fu : Nat) (a0 : List Int) : Option (List Zr) :=
 bd (M_zpoly_Lift fu a0) fun t1 =>
 some t1
def M_zpoly_Scale_1 (fu : Nat) (a0 : Int) (a1 : Zr) (a2 : Zr) : Option Zr :=
 bd (M_zint_Mul fu a1 a2) fun y1 =>
 some y1
def M_zpoly_Scale (fu : Nat) (a0 : List Zr) (a1 : Zr) : Option (List Zr) :=
 bd (M_zpoly_each_api_Int_api_Int fu a0 (fun zx0 zx1 => M_zpoly_Scale_1 fu zx0 zx1 a1)) fun t1 =>
 bd (M_zpoly_Norm fu t1) fun t2 =>
 some t2
def M_zpoly_Sub (fu : Nat) (a0 : List Zr) (a1 : List Zr) : Option (List Zr) :=
 bd (M_zint_Of fu (-1 : Int)) fun y1 =>
 bd (M_zpoly_Scale fu a1 y1) fun t1 =>
 bd (M_zpoly_Add fu a0 t1) fun t2 =>
 some t2
def M_hensel_pair_up (fu : Nat) (a0 : List (List Zr)) (a1 : List Zr) (a2 : Zr) : Option (List (List Zr)) :=
 ckI ((0 : Int)) (4) fun j1 =>
 nm (a0.getD j1 []) fun y1 =>
 ckI ((1 : Int)) (4) fun j2 =>
 nm (a0.getD j2 []) fun y2 =>
 ckI ((2 : Int)) (4) fun j3 =>
 nm (a0.getD j3 []) fun y3 =>
 ckI ((3 : Int)) (4) fun j4 =>
 nm (a0.getD j4 []) fun y4 =>
 bd (M_zpoly_Mul fu y1 y2) fun t1 =>
 bd (M_zpoly_Sub fu a1 t1) fun t2 =>
 bd (M_hensel_red fu t2 a2) fun t3 =>
 bd (M_zpoly_Mul fu y3 t3) fun t4 =>
 bd (M_hensel_divided fu t4 y2 a2) fun (t5, t6) =>
 bd (M_zpoly_Mul fu y4 t3) fun t7 =>
 bd (M_zpoly_Mul fu t5 y1) fun t8 =>
 bd (M_zpoly_Add fu t7 t8) fun t9 =>
 bd (M_zpoly_Add fu y1 t9) fun t10 =>
 bd (M_hensel_red fu t10 a2) fun t11 =>
 bd (M_zpoly_Add fu y2 t6) fun t12 =>
 bd (M_hensel_red fu t12 a2) fun t13 =>
 bd (M_zpoly_Mul fu y3 t11) fun t14 =>
 bd (M_zpoly_Mul fu y4 t13) fun t15 =>
 bd (M_zpoly_Add fu t14 t15) fun t16 =>
 bd (M_zpoly_Of fu [(1 : Int)]) fun t17 =>
 bd (M_zpoly_Sub fu t16 t17) fun t18 =>
 bd (M_hensel_red fu t18 a2) fun t19 =>
 bd (M_zpoly_Mul fu y3 t19) fun t20 =>
 bd (M_hensel_divided fu t20 t13 a2) fun (t21, t22) =>
 bd (M_zpoly_Sub fu y3 t22) fun t23 =>
 bd (M_hensel_red fu t23 a2) fun t24 =>
 bd (M_zpoly_Mul fu y4 t19) fun t25 =>
 bd (M_zpoly_Mul fu t21 t11) fun t26 =>
 bd (M_zpoly_Add fu t25 t26) fun t27 =>
 bd (M_zpoly_Sub fu y4 t27) fun t28 =>
 bd (M_hensel_red fu t28 a2) fun t29 =>
 some [t11, t13, t24, t29]
def M_zint_line_less (fu : Nat) (a0 : Zr × (Zr × Zr)) (a1 : Zr) (a2 : Zr × (Zr × Zr)) : Option (Zr × (Zr × Zr)) :=
 bd (M_zint_Mul fu a1 a2.1) fun y1 =>
 bd (M_zint_Sub fu a0.1 y1) fun y2 =>
 bd (M_zint_Mul fu a1 a2.2.1) fun y3 =>
 bd (M_zint_Sub fu a0.2.1 y3) fun y4 =>
 bd (M_zint_Mul fu a1 a2.2.2) fun y5 =>
 bd (M_zint_Sub fu a0.2.2 y5) fun y6 =>
 some (y2, y4, y6)
def B_zint_Bezout_0 (fu : Nat)  : (((Zr × (Zr × Zr)) × (Zr × (Zr × Zr))) → Option (Zr × (Zr × Zr))) → ((Zr × (Zr × Zr)) × (Zr × (Zr × Zr))) → Option (Zr × (Zr × Zr)) := fun L (t1, t2) =>
 bd (M_zint_Sign fu t2.1) fun x1 =>
 if x1 = (0 : Int) then
 some t1
 else
 bd (M_zint_Div fu t1.1 t2.1) fun (y7, y8, x2) =>
 bd (M_zint_line_less fu t1 y7 t2) fun y9 =>
 L (t2, y9)
def M_zint_Bezout (fu : Nat) (a0 : Zr) (a1 : Zr) : Option (Zr × Zr × Zr) :=
 bd (M_zint_made fu false a0.2) fun y1 =>
 bd (M_zint_Of fu (1 : Int)) fun y2 =>
 bd (M_zint_Of fu (0 : Int)) fun y3 =>
 bd (M_zint_made fu false a1.2) fun y4 =>
 bd (M_zint_Of fu (0 : Int)) fun y5 =>
 bd (M_zint_Of fu (1 : Int)) fun y6 =>
 bd (loopN (B_zint_Bezout_0 fu ) fu (((y1, y2, y3), (y4, y5, y6)))) fun t3 =>
 bd ((bd (M_zint_Sign fu a0) fun x3 =>
 if x3 < (0 : Int) then
 bd (M_zint_Neg fu t3.2.1) fun y10 =>
 nm ((t3.1, (y10, t3.2.2))) fun t4 =>
 some t4
 else
 some t3 : Option (Zr × (Zr × Zr)))) fun t5 =>
 bd ((bd (M_zint_Sign fu a1) fun x4 =>
 if x4 < (0 : Int) then
 bd (M_zint_Neg fu t5.2.2) fun y11 =>
 nm ((t5.1, (t5.2.1, y11))) fun t6 =>
 some t6
 else
 some t5 : Option (Zr × (Zr × Zr)))) fun t7 =>
 some (t7.1, t7.2.1, t7.2.2)
def M_hensel_one (fu : Nat) (a0 : List Zr) (a1 : Zr) : Option (List Zr) :=
 ck64 ((((a0.length : Nat) : Int)) - ((1 : Int))) fun x1 =>
 ckI x1 (a0.length) fun j1 =>
 nm (a0.getD j1 (false, [])) fun y1 =>
 bd (M_zint_Bezout fu y1 a1) fun (y2, y3, y4) =>
 bd (M_zpoly_Scale fu a0 y3) fun t1 =>
 bd (M_hensel_red fu t1 a1) fun t2 =>
 some t2
def B_hensel_tree_0 (fu : Nat) (a0 : List Zr) (a2 : Int) (a3 : Int) : ((Int × (List (List Zr))) → Option (List (List Zr))) → (Int × (List (List Zr))) → Option (List (List Zr)) := fun L (i1, t16) =>
 if i1 < a3 then
 ck64 (((2 : Int)) * i1) fun x6 =>
 nm (min x6 a3) fun x7 =>
 bd (M_hensel_Power fu a2 x7) fun (y1, x8) =>
 bd (M_hensel_pair_up fu t16 a0 y1) fun t17 =>
 L (x7, t17)
 else
 some t16
def M_hensel_tree : Nat → (List Zr) → (List (List Int)) → Int → Int → Zr → Option (List (List Zr))
  | 0, _, _, _, _, _ => none
  | fu + 1, a0, a1, a2, a3, a4 =>
    if ((a1.length : Nat) : Int) = (1 : Int) then
    bd (M_hensel_one fu a0 a4) fun t1 =>
    some [t1]
    else
    ck ((2 : Int) ≠ 0) <|
    ck64 (Int.tdiv (((a1.length : Nat) : Int)) ((2 : Int))) fun x1 =>
    ck64 ((((a0.length : Nat) : Int)) - ((1 : Int))) fun x2 =>
    ckN x2 fun j1 =>
    ck (j1 ≤ a0.length) <|
    nm (a0.drop j1) fun t2 =>
    bd (M_zpoly_Mod fu t2 a2) fun (t3, x3) =>
    ckN x1 fun j2 =>
    ck (j2 ≤ a1.length) <|
    nm (a1.take j2) fun t4 =>
    bd (M_hensel_product fu t4 a2) fun t5 =>
    bd (M_fpoly_Mul fu t5 t3 a2) fun (t6, x4) =>
    ckN x1 fun j3 =>
    ck (j3 ≤ a1.length) <|
    nm (a1.drop j3) fun t7 =>
    bd (M_hensel_product fu t7 a2) fun t8 =>
    bd (M_fpoly_Bezout fu t6 t8 a2) fun (t9, t10, t11, x5) =>
    bd (M_zpoly_Lift fu t6) fun t12 =>
    bd (M_zpoly_Lift fu t8) fun t13 =>
    bd (M_zpoly_Lift fu t10) fun t14 =>
    bd (M_zpoly_Lift fu t11) fun t15 =>
    bd (loopN (B_hensel_tree_0 fu a0 a2 a3) fu (((1 : Int), [t12, t13, t14, t15]))) fun t18 =>
    ckI ((0 : Int)) (4) fun j4 =>
    ckN x1 fun j5 =>
    ck (j5 ≤ a1.length) <|
    nm (a1.take j5) fun t19 =>
    bd (M_hensel_tree fu (t18.getD j4 []) t19 a2 a3 a4) fun t20 =>
    ckI ((1 : Int)) (4) fun j6 =>
    ckN x1 fun j7 =>
    ck (j7 ≤ a1.length) <|
    nm (a1.drop j7) fun t21 =>
    bd (M_hensel_tree fu (t18.getD j6 []) t21 a2 a3 a4) fun t22 =>
    ck ((t20.length + t22.length) * 24 ≤ 140737488355328) <|
    nm (t20 ++ t22) fun t23 =>
    some t23
def M_hensel_Lift (fu : Nat) (a0 : List Zr) (a1 : List (List Int)) (a2 : Int) (a3 : Int) : Option ((List (List Zr)) × Int) :=
 bd (M_hensel_Power fu a2 a3) fun (y1, x1) =>
 bd (M_zpoly_Norm fu a0) fun t1 =>
 if x1 = (0 : Int) then
 if (65 : Int) < ((t1.length : Nat) : Int) then
 some (([], (6 : Int)))
 else
 bd (M_hensel_right fu t1 a1 a2) fun c1 =>
 if ((!c1)) = true then
 some (([], (1 : Int)))
 else
 if ((a1.length : Nat) : Int) = (0 : Int) then
 some (([], (0 : Int)))
 else
 bd (M_hensel_red fu t1 y1) fun t2 =>
 bd (M_hensel_tree fu t2 a1 a2 a3 y1) fun t3 =>
 some ((t3, (0 : Int)))
 else
 some ([], x1)
def M_hensel_Mul (fu : Nat) (a0 : List Zr) (a1 : List Zr) (a2 : Zr) : Option ((List Zr) × Int) :=
 bd (M_zpoly_Mul fu a0 a1) fun t1 =>
 bd (M_hensel_Red fu t1 a2) fun (t2, x1) =>
 some (t2, x1)
def M_zint_Cmp (fu : Nat) (a0 : Zr) (a1 : Zr) : Option Int :=
 bd (M_zint_Sub fu a0 a1) fun y1 =>
 bd (M_zint_Sign fu y1) fun x1 =>
 some x1
def M_prime_Near (fu : Nat) (a0 : Zr) (a1 : Zr) : Option (Zr × Int) :=
 bd (M_prime_Rest fu a0 a1) fun (y1, x1) =>
 if x1 = (0 : Int) then
 bd (M_zint_Add fu y1 y1) fun y2 =>
 bd (M_zint_Cmp fu y2 a1) fun x2 =>
 if (0 : Int) < x2 then
 bd (M_zint_Sub fu y1 a1) fun y3 =>
 some (y3, x1)
 else
 some (y1, x1)
 else
 some (y1, x1)
def M_hensel_Near (fu : Nat) (a0 : List Zr) (a1 : Zr) : Option ((List Zr) × Int) :=
 bd (M_hensel_rests fu a0 a1 (fun zx0 zx1 => M_prime_Near fu zx0 zx1)) fun (t1, x1) =>
 some (t1, x1)
def B_zpoly_Content_0 (fu : Nat) (t1 : List Zr) : ((Int × (List Zr) × Zr × Zr) → Option ((List Zr) × Zr × Zr)) → (Int × (List Zr) × Zr × Zr) → Option ((List Zr) × Zr × Zr) := fun L (i1, t2, t3, t4) =>
 bd ((if i1 < ((t1.length : Nat) : Int) then
 some ((((t1.length : Nat) : Int), true))
 else
 some ((((t1.length : Nat) : Int), false)) : Option (Int × Bool))) fun (i2, b1) =>
 if b1 = true then
 ckI i1 (t2.length) fun j1 =>
 nm ((t2.getD j1 (false, []))) fun y2 =>
 bd (M_zint_Gcd fu t4 y2) fun y3 =>
 ck64 (i1 + ((1 : Int))) fun x1 =>
 L (x1, t2, t3, y3)
 else
 some (t2, t3, t4)
def M_zpoly_Content (fu : Nat) (a0 : List Zr) : Option Zr :=
 bd (M_zpoly_Norm fu a0) fun t1 =>
 bd (M_zint_Of fu (0 : Int)) fun y1 =>
 bd (loopN (B_zpoly_Content_0 fu t1) fu (((0 : Int), t1, (false, []), y1))) fun (t5, t6, t7) =>
 if (0 : Int) < ((t5.length : Nat) : Int) then
 ck64 ((((t5.length : Nat) : Int)) - ((1 : Int))) fun x2 =>
 ckI x2 (t5.length) fun j2 =>
 nm (((t5.getD j2 (false, []))).1) fun c1 =>
 if c1 = true then
 bd (M_zint_Neg fu t7) fun y4 =>
 some y4
 else
 some t7
 else
 some t7
def M_zpoly_Prim_1 (fu : Nat) (a0 : Int) (a1 : Zr) (a2 : Zr) : Option Zr :=
 bd (M_zint_Exact fu a1 a2) fun (y1, x1) =>
 some y1
def M_zpoly_Prim (fu : Nat) (a0 : List Zr) : Option (List Zr) :=
 bd (M_zpoly_Content fu a0) fun y1 =>
 bd (M_zpoly_Norm fu a0) fun t1 =>
 bd (M_zpoly_each_api_Int_api_Int fu t1 (fun zx0 zx1 => M_zpoly_Prim_1 fu zx0 zx1 y1)) fun t2 =>
 some t2
def B_zfac_candidate_io_0 (fu : Nat) (a1 : List (List Zr)) (a2 : List Int) (a3 : Zr) : (((List Zr) × Int × (List Int)) → Option ((List Zr) × (List Int))) → ((List Zr) × Int × (List Int)) → Option ((List Zr) × (List Int)) := fun L (t2, i1, t3) =>
 bd ((if i1 < ((a2.length : Nat) : Int) then
 some ((a1, a3, ((a2.length : Nat) : Int), true))
 else
 some ((a1, a3, ((a2.length : Nat) : Int), false)) : Option ((List (List Zr)) × Zr × Int × Bool))) fun (t4, t5, i2, b1) =>
 if b1 = true then
 ckI i1 (t3.length) fun j2 =>
 nm ((t3.getD j2 0)) fun x2 =>
 ckI x2 (t4.length) fun j3 =>
 nm (t4.getD j3 []) fun y1 =>
 bd (M_hensel_Mul fu t2 y1 t5) fun (t6, x3) =>
 ck64 (i1 + ((1 : Int))) fun x4 =>
 L (t6, x4, t3)
 else
 some (t2, t3)
def M_zfac_candidate_io (fu : Nat) (a0 : List Zr) (a1 : List (List Zr)) (a2 : List Int) (a3 : Zr) : Option ((List Zr) × (List Int)) :=
 ck64 ((((a0.length : Nat) : Int)) - ((1 : Int))) fun x1 =>
 ckN x1 fun j1 =>
 ck (j1 ≤ a0.length) <|
 nm (a0.drop j1) fun t1 =>
 bd (loopN (B_zfac_candidate_io_0 fu a1 a2 a3) fu ((t1, (0 : Int), a2))) fun (t7, t8) =>
 bd (M_hensel_Near fu t7 a3) fun (t9, x5) =>
 bd (M_zpoly_Prim fu t9) fun t10 =>
 some (t10, t8)
def B_zfac_choices_1 {X Y R : Type} (fu : Nat) (n all : Int) (g : List Int → X → Option (List Int × (X ⊕ Y))) (x : X) (xs : List Int) (L : X → List Int → Int → Int → Int → Int → Int → Option R) (E : X → Int → Int → List Int → Option R) (E2 : Y → List Int → Option R) : Option R :=
 bd (g xs x) fun r => Sum.elim (fun x' =>
  ck64 (n - 1) fun i0 =>
  bd (loopN (fun L i =>
   if 0 ≤ i then
    ckI i r.1.length fun j =>
    nm (r.1.getD j 0) fun y =>
    ck64 (all - n) fun e =>
    ck64 (e + i) fun e =>
    if y = e then ck64 (i - 1) fun i => L i
    else some i
   else some i) fu i0) fun i =>
  if i < 0 then E x' i0 i r.1
  else
   ckI i r.1.length fun j =>
   nm (r.1.getD j 0) fun y =>
   ck64 (y + 1) fun e =>
   ckI i r.1.length fun j =>
   nm (r.1.set j e) fun xs =>
   ck64 (i + 1) fun i1 =>
   bd (loopN (fun L (z : Int × List Int) =>
    if z.1 < n then
     ck64 (z.1 - 1) fun e =>
     ckI e z.2.length fun j =>
     nm (z.2.getD j 0) fun y =>
     ck64 (y + 1) fun e =>
     ckI z.1 z.2.length fun j =>
     nm (z.2.set j e) fun xs =>
     ck64 (z.1 + 1) fun i => L (i, xs)
    else some z.2) fu (i1, xs)) fun xs => L x' xs i1 i e y i0) (fun y => E2 y r.1) r.2
def M_zfac_choices_1 {X Y : Type} (fu : Nat) (n all : Int) (g : List Int → X → Option (List Int × (X ⊕ Y))) (x0 : X) : Option (X ⊕ Y) :=
 ckN n fun m =>
 ck (8 * m ≤ 281474976710656) <|
 nm (List.replicate m 0) fun xs =>
 bd (loopN (fun L (z : List Int × Int) =>
  if z.2 < (xs.length : Int) then
   ckI z.2 z.1.length fun j =>
   nm (z.1.set j z.2) fun xs =>
   ck64 (z.2 + 1) fun i => L (xs, i)
  else some z.1) fu (xs, 0)) fun xs =>
 loopN (fun L (q : X × List Int) => B_zfac_choices_1 fu n all g q.1 q.2 (fun x xs _ _ _ _ _ => L (x, xs)) (fun x _ _ _ => some (.inl x)) fun y _ => some (.inr y)) fu (x0, xs)
def B_slices_Index_int_int_0 (fu : Nat) (a0 : List Int) (a1 : Int) : (Int → Option (Unit ⊕ Int)) → Int → Option (Unit ⊕ Int) := fun L i1 =>
 if i1 < ((a0.length : Nat) : Int) then
 ckI i1 (a0.length) fun j1 =>
 nm (a0.getD j1 0) fun y1 =>
 if a1 = y1 then
 some (.inr i1)
 else
 ck64 (i1 + ((1 : Int))) fun x1 =>
 L x1
 else
 some (.inl ())
def M_slices_Index_int_int (fu : Nat) (a0 : List Int) (a1 : Int) : Option Int :=
 bd (loopN (B_slices_Index_int_int_0 fu a0 a1) fu (0 : Int)) fun s1 => match s1 with
 | .inl _ =>
 some (-1 : Int)
 | .inr i2 =>
 some i2
def B_slices_Index_int_int_io_0 (fu : Nat) (a0 : List Int) (a1 : Int) : (Int → Option (Unit ⊕ Int)) → Int → Option (Unit ⊕ Int) := fun L i1 =>
 if i1 < ((a0.length : Nat) : Int) then
 ckI i1 (a0.length) fun j1 =>
 nm ((a0.getD j1 0)) fun x1 =>
 if a1 = x1 then
 some (.inr i1)
 else
 ck64 (i1 + ((1 : Int))) fun x2 =>
 L x2
 else
 some (.inl ())
def M_slices_Index_int_int_io (fu : Nat) (a0 : List Int) (a1 : Int) : Option (Int × (List Int)) :=
 bd (loopN (B_slices_Index_int_int_io_0 fu a0 a1) fu (0 : Int)) fun s1 => match s1 with
 | .inl _ =>
 some (((-1 : Int), a0))
 | .inr i2 =>
 some (i2, a0)
def M_slices_Contains_int_int (fu : Nat) (a0 : List Int) (a1 : Int) : Option Bool :=
 bd (M_slices_Index_int_int fu a0 a1) fun x1 =>
 if (0 : Int) ≤ x1 then
 some true
 else
 some false
def M_slices_Contains_int_int_io (fu : Nat) (a0 : List Int) (a1 : Int) : Option (Bool × (List Int)) :=
 bd (M_slices_Index_int_int_io fu a0 a1) fun (x1, t1) =>
 if (0 : Int) ≤ x1 then
 some (true, t1)
 else
 some (false, t1)
def B_zfac_without_api_Int_0 (fu : Nat) (a0 : List (List Zr)) (a1 : List Int) : (((List (List Zr)) × Int) → Option (List (List Zr))) → ((List (List Zr)) × Int) → Option (List (List Zr)) := fun L (t1, i1) =>
 bd ((if i1 < ((a0.length : Nat) : Int) then
 some ((a1, a0, ((a0.length : Nat) : Int), true))
 else
 some ((a1, a0, ((a0.length : Nat) : Int), false)) : Option ((List Int) × (List (List Zr)) × Int × Bool))) fun (t2, t3, i2, b1) =>
 if b1 = true then
 ckI i1 (t3.length) fun j1 =>
 nm (t3.getD j1 []) fun y1 =>
 bd (M_slices_Contains_int_int fu t2 i1) fun c1 =>
 if ((!c1)) = true then
 ck ((t1.length + ([y1]).length) * 24 ≤ 140737488355328) <|
 nm (t1 ++ ([y1])) fun t4 =>
 ck64 (i1 + ((1 : Int))) fun x1 =>
 L (t4, x1)
 else
 ck64 (i1 + ((1 : Int))) fun x2 =>
 L (t1, x2)
 else
 some t1
def B_zfac_without_api_Int_io_0 (fu : Nat) (a0 : List (List Zr)) : (((List (List Zr)) × Int × (List Int)) → Option ((List (List Zr)) × (List Int))) → ((List (List Zr)) × Int × (List Int)) → Option ((List (List Zr)) × (List Int)) := fun L (t1, i1, t2) =>
 bd ((if i1 < ((a0.length : Nat) : Int) then
 some ((a0, ((a0.length : Nat) : Int), true))
 else
 some ((a0, ((a0.length : Nat) : Int), false)) : Option ((List (List Zr)) × Int × Bool))) fun (t3, i2, b1) =>
 if b1 = true then
 ckI i1 (t3.length) fun j1 =>
 nm (t3.getD j1 []) fun y1 =>
 bd (M_slices_Contains_int_int_io fu t2 i1) fun (c1, t4) =>
 if ((!c1)) = true then
 ck ((t1.length + ([y1]).length) * 24 ≤ 140737488355328) <|
 nm (t1 ++ ([y1])) fun t5 =>
 ck64 (i1 + ((1 : Int))) fun x1 =>
 L (t5, x1, t4)
 else
 ck64 (i1 + ((1 : Int))) fun x2 =>
 L (t1, x2, t4)
 else
 some (t1, t2)
def M_zfac_without_api_Int_io (fu : Nat) (a0 : List (List Zr)) (a1 : List Int) : Option ((List (List Zr)) × (List Int)) :=
 bd (loopN (B_zfac_without_api_Int_io_0 fu a0) fu (([], (0 : Int), a1))) fun (t6, t7) =>
 some (t6, t7)
def B_zfac_chosen_2 (fu : Nat) (b : (Bool × List Nat)) (ys : List Int) (y : List (Bool × List Nat) × List (List (Bool × List Nat)) × List (List (Bool × List Nat))) : Option (List Int × ((List (Bool × List Nat) × List (List (Bool × List Nat)) × List (List (Bool × List Nat))) ⊕ (List (Bool × List Nat) × List (List (Bool × List Nat)) × List (List (Bool × List Nat))))) :=
 bd (M_zfac_candidate_io fu y.1 y.2.1 ys b) fun c =>
 bd (M_zpoly_Div fu y.1 c.1) fun q =>
 if q.2 = 0 then
  if 1 < (c.1.length : Int) then
   ck ((y.2.2.length + 1) * 24 ≤ 140737488355328) <|
   nm (y.2.2 ++ [c.1]) fun pr =>
   bd (M_zfac_without_api_Int_io fu y.2.1 c.2) fun w =>
   some (w.2, .inr (q.1, w.1, pr))
  else some (c.2, .inl y)
 else some (c.2, .inl y)
def B_zfac_chosen_1 (fu : Nat) (b : (Bool × List Nat)) (x : List (Bool × List Nat) × List (List (Bool × List Nat)) × List (List (Bool × List Nat)) × Int) (L : List (Bool × List Nat) × List (List (Bool × List Nat)) × List (List (Bool × List Nat)) × Int → Option (List (Bool × List Nat) × List (List (Bool × List Nat)) × List (List (Bool × List Nat)))) : Option (List (Bool × List Nat) × List (List (Bool × List Nat)) × List (List (Bool × List Nat))) :=
 ck64 (2 * x.2.2.2) fun d =>
 if d ≤ (x.2.1.length : Int) then
  bd (M_zfac_choices_1 fu x.2.2.2 (x.2.1.length : Int) (B_zfac_chosen_2 fu b) (x.1, x.2.1, x.2.2.1)) fun r => Sum.elim
   (fun y => ck64 (x.2.2.2 + 1) fun i => L (y.1, y.2.1, y.2.2, i))
   (fun y => L (y.1, y.2.1, y.2.2, x.2.2.2)) r
 else some (x.1, x.2.1, x.2.2.1)
def M_zfac_chosen (fu : Nat) (f : List (Bool × List Nat)) (a : List (List (Bool × List Nat))) (b : (Bool × List Nat)) : Option (List (List (Bool × List Nat))) :=
 bd (loopN (fun L x => B_zfac_chosen_1 fu b x L) fu (f, a, [], 1)) fun x =>
 if 1 < (x.1.length : Int) then
  bd (M_zpoly_Prim fu x.1) fun q =>
  ck ((x.2.2.length + 1) * 24 ≤ 140737488355328) <|
  nm (x.2.2 ++ [q]) fun pr => some pr
 else some x.2.2
def B_zpoly_Less_0 (fu : Nat) (t1 : List Zr) (t2 : List Zr) : (Int → Option (Unit ⊕ Bool)) → Int → Option (Unit ⊕ Bool) := fun L i1 =>
 if (0 : Int) ≤ i1 then
 ckI i1 (t1.length) fun j1 =>
 nm ((t1.getD j1 (false, []))) fun y1 =>
 ckI i1 (t2.length) fun j2 =>
 nm ((t2.getD j2 (false, []))) fun y2 =>
 bd (M_zint_Cmp fu y1 y2) fun x2 =>
 if x2 = (0 : Int) then
 ck64 (i1 - ((1 : Int))) fun x3 =>
 L x3
 else
 if x2 < (0 : Int) then
 some (.inr true)
 else
 some (.inr false)
 else
 some (.inl ())
def M_zpoly_Less (fu : Nat) (a0 : List Zr) (a1 : List Zr) : Option Bool :=
 bd (M_zpoly_Norm fu a0) fun t1 =>
 bd (M_zpoly_Norm fu a1) fun t2 =>
 if ((t1.length : Nat) : Int) = ((t2.length : Nat) : Int) then
 ck64 ((((t1.length : Nat) : Int)) - ((1 : Int))) fun x1 =>
 bd (loopN (B_zpoly_Less_0 fu t1 t2) fu x1) fun s1 => match s1 with
 | .inl _ =>
 some false
 | .inr b1 =>
 some b1
 else
 if ((t1.length : Nat) : Int) < ((t2.length : Nat) : Int) then
 some true
 else
 some false
def M_zfac_compare (fu : Nat) (a0 : List Zr) (a1 : List Zr) : Option Int :=
 bd (M_zpoly_Less fu a0 a1) fun c1 =>
 if c1 = true then
 some (-1 : Int)
 else
 bd (M_zpoly_Less fu a1 a0) fun c2 =>
 if c2 = true then
 some (1 : Int)
 else
 some (0 : Int)
def B_zint_Root_1 (fu : Nat) (a1 : Int) (y4 : Zr) : ((Int × Zr × Int × Zr) → Option (Int × Zr × Zr)) → (Int × Zr × Int × Zr) → Option (Int × Zr × Zr) := fun L (i1, t6, i2, t7) =>
 if i2 < a1 then
 bd (M_zint_Mul fu t7 y4) fun y6 =>
 ck64 (i2 + ((1 : Int))) fun x8 =>
 L (i1, t6, x8, y6)
 else
 some (i1, t6, t7)
def B_zint_Root_0 (fu : Nat) (a0 : Zr) (a1 : Int) : ((Zr × Zr × Zr) → Option Zr) → (Zr × Zr × Zr) → Option Zr := fun L (t2, t3, t4) =>
 bd (M_zint_Add fu t3 t4) fun y3 =>
 bd (M_nat_Shr fu y3.2 (1 : Int)) fun t5 =>
 bd (M_zint_made fu false t5) fun y4 =>
 bd (M_zint_Cmp fu y4 t3) fun x7 =>
 if x7 = (0 : Int) then
 some t3
 else
 bd (M_zint_Of fu (1 : Int)) fun y5 =>
 bd (loopN (B_zint_Root_1 fu a1 y4) fu ((a1, a0, (0 : Int), y5))) fun (i3, t8, t9) =>
 bd (M_zint_Cmp fu t9 t8) fun x9 =>
 if x9 ≤ (0 : Int) then
 L (t2, y4, t4)
 else
 L (t2, t3, y4)
def M_zint_Root (fu : Nat) (a0 : Zr) (a1 : Int) : Option (Zr × Int) :=
 if a1 < (1 : Int) then
 some (((false, []), (1 : Int)))
 else
 if (64 : Int) < a1 then
 some (((false, []), (1 : Int)))
 else
 bd (M_zint_Sign fu a0) fun x1 =>
 if x1 < (0 : Int) then
 some (((false, []), (1 : Int)))
 else
 bd (M_zint_Of fu (0 : Int)) fun y1 =>
 bd (M_nat_Bits fu a0.2) fun x2 =>
 ck (a1 ≠ 0) <|
 ck64 (Int.tdiv x2 a1) fun x3 =>
 ck64 (x3 + ((1 : Int))) fun x4 =>
 nm (min x4 ((262144 : Int))) fun x5 =>
 bd (M_nat_Shl fu [(1 : Nat)] x5) fun (t1, x6) =>
 bd (M_zint_made fu false t1) fun y2 =>
 bd (loopN (B_zint_Root_0 fu a0 a1) fu (((false, []), y1, y2))) fun t10 =>
 some ((t10, (0 : Int)))
def M_zsqf_wrong (fu : Nat) (a0 : List Zr) : Option Int :=
 bd (M_zpoly_Norm fu a0) fun t1 =>
 if ((t1.length : Nat) : Int) = (0 : Int) then
 some (8 : Int)
 else
 if (65 : Int) < ((t1.length : Nat) : Int) then
 some (6 : Int)
 else
 some (0 : Int)
def B_zsqf_Bound_0 (fu : Nat) (t1 : List Zr) : ((Int × (List Zr) × Zr × Zr) → Option ((List Zr) × Zr × Zr)) → (Int × (List Zr) × Zr × Zr) → Option ((List Zr) × Zr × Zr) := fun L (i1, t2, t3, t4) =>
 bd ((if i1 < ((t1.length : Nat) : Int) then
 some ((((t1.length : Nat) : Int), true))
 else
 some ((((t1.length : Nat) : Int), false)) : Option (Int × Bool))) fun (i2, b1) =>
 if b1 = true then
 ckI i1 (t2.length) fun j1 =>
 nm ((t2.getD j1 (false, []))) fun y2 =>
 bd (M_zint_Mul fu y2 y2) fun y3 =>
 bd (M_zint_Add fu t4 y3) fun y4 =>
 ck64 (i1 + ((1 : Int))) fun x2 =>
 L (x2, t2, t3, y4)
 else
 some (t2, t3, t4)
def M_zsqf_Bound (fu : Nat) (a0 : List Zr) : Option (Zr × Int) :=
 bd (M_zsqf_wrong fu a0) fun x1 =>
 if x1 = (0 : Int) then
 bd (M_zpoly_Norm fu a0) fun t1 =>
 bd (M_zint_Of fu (-1 : Int)) fun y1 =>
 bd (loopN (B_zsqf_Bound_0 fu t1) fu (((0 : Int), t1, (false, []), y1))) fun (t5, t6, t7) =>
 bd (M_zint_Root fu t7 (2 : Int)) fun (y5, x3) =>
 bd (M_zint_Of fu (1 : Int)) fun y6 =>
 bd (M_zint_Add fu y5 y6) fun y7 =>
 ck64 ((((t5.length : Nat) : Int)) - ((1 : Int))) fun x4 =>
 bd (M_nat_Shl fu y7.2 x4) fun (t8, x5) =>
 bd (M_zint_Norm fu (false, t8)) fun y8 =>
 some ((y8, (0 : Int)))
 else
 some (((false, []), x1))
def B_zfac_enough_0 (fu : Nat) (a1 : Int) (y5 : Zr) : ((Int × Zr) → Option Int) → (Int × Zr) → Option Int := fun L (i1, t1) =>
 bd (M_zint_Cmp fu t1 y5) fun x3 =>
 if x3 ≤ (0 : Int) then
 bd (M_zint_Of fu a1) fun y7 =>
 bd (M_zint_Mul fu t1 y7) fun y8 =>
 ck64 (i1 + ((1 : Int))) fun x4 =>
 L (x4, y8)
 else
 some i1
def M_zfac_enough (fu : Nat) (a0 : List Zr) (a1 : Int) : Option Int :=
 bd (M_zsqf_Bound fu a0) fun (y1, x1) =>
 bd (M_zint_Of fu (2 : Int)) fun y2 =>
 ck64 ((((a0.length : Nat) : Int)) - ((1 : Int))) fun x2 =>
 ckI x2 (a0.length) fun j1 =>
 nm (a0.getD j1 (false, [])) fun y3 =>
 bd (M_zint_Mul fu y1 y3) fun y4 =>
 bd (M_zint_Mul fu y2 y4) fun y5 =>
 bd (M_zint_Of fu a1) fun y6 =>
 bd (loopN (B_zfac_enough_0 fu a1 y5) fu (((1 : Int), y6))) fun i2 =>
 some i2
def M_zfac_great (fu : Nat) (a0 : List Zr) : Option Bool :=
 bd (M_zsqf_Bound fu a0) fun (y1, x1) =>
 bd (M_zint_Of fu (2 : Int)) fun y2 =>
 ck64 ((((a0.length : Nat) : Int)) - ((1 : Int))) fun x2 =>
 ckI x2 (a0.length) fun j1 =>
 nm (a0.getD j1 (false, [])) fun y3 =>
 bd (M_zint_Mul fu y1 y3) fun y4 =>
 bd (M_zint_Mul fu y2 y4) fun y5 =>
 bd (M_nat_Bits fu y5.2) fun x3 =>
 if (1000 : Int) < x3 then
 some true
 else
 some false
def B_ffac_compare_0 (fu : Nat) (a0 : List Int) (a1 : List Int) : (Int → Option (Unit ⊕ Int)) → Int → Option (Unit ⊕ Int) := fun L i1 =>
 if (0 : Int) ≤ i1 then
 ckI i1 (a0.length) fun j1 =>
 nm (a0.getD j1 0) fun y1 =>
 ckI i1 (a1.length) fun j2 =>
 nm (a1.getD j2 0) fun y2 =>
 if y1 < y2 then
 some (.inr (-1 : Int))
 else
 ckI i1 (a0.length) fun j3 =>
 nm (a0.getD j3 0) fun y3 =>
 ckI i1 (a1.length) fun j4 =>
 nm (a1.getD j4 0) fun y4 =>
 if y4 < y3 then
 some (.inr (1 : Int))
 else
 ck64 (i1 - ((1 : Int))) fun x2 =>
 L x2
 else
 some (.inl ())
def M_ffac_compare (fu : Nat) (a0 : List Int) (a1 : List Int) : Option Int :=
 if ((a0.length : Nat) : Int) = ((a1.length : Nat) : Int) then
 ck64 ((((a0.length : Nat) : Int)) - ((1 : Int))) fun x1 =>
 bd (loopN (B_ffac_compare_0 fu a0 a1) fu x1) fun s1 => match s1 with
 | .inl _ =>
 some (0 : Int)
 | .inr i2 =>
 some i2
 else
 ck64 ((((a0.length : Nat) : Int)) - (((a1.length : Nat) : Int))) fun x3 =>
 some x3
def M_flin_Echelon_1 (fu : Nat) (a0 : List Int) (a1 : Int) : Option Bool :=
 ckI a1 (a0.length) fun j1 =>
 nm (a0.getD j1 0) fun y1 =>
 if y1 = (0 : Int) then
 some false
 else
 some true
def B_flin_plain_0 (fu : Nat) (a0 : List Int) (a1 : Int) : ((Int × (List Int)) → Option (List Int)) → (Int × (List Int)) → Option (List Int) := fun L (i1, t2) =>
 if i1 < ((a0.length : Nat) : Int) then
 ckI i1 (a0.length) fun j2 =>
 nm (a0.getD j2 0) fun y1 =>
 bd (M_fp_Red fu y1 a1) fun x1 =>
 ckI i1 (t2.length) fun j3 =>
 nm (t2.set j3 x1) fun t3 =>
 ck64 (i1 + ((1 : Int))) fun x2 =>
 L (x2, t3)
 else
 some t2
def M_flin_plain (fu : Nat) (a0 : List Int) (a1 : Int) : Option (List Int) :=
 ckN (((a0.length : Nat) : Int)) fun j1 =>
 ck (8 * j1 ≤ 281474976710656) <|
 nm (List.replicate j1 0) fun t1 =>
 bd (loopN (B_flin_plain_0 fu a0 a1) fu (((0 : Int), t1))) fun t4 =>
 some t4
def B_flin_right_0 (fu : Nat) (a0 : List (List Int)) : (Int → Option (Unit ⊕ Unit)) → Int → Option (Unit ⊕ Unit) := fun L i1 =>
 bd ((if i1 < ((a0.length : Nat) : Int) then
 some ((a0, a0, ((a0.length : Nat) : Int), true))
 else
 some ((a0, a0, ((a0.length : Nat) : Int), false)) : Option ((List (List Int)) × (List (List Int)) × Int × Bool))) fun (t1, t2, i2, b1) =>
 if b1 = true then
 ckI i1 (t2.length) fun j1 =>
 nm (t2.getD j1 []) fun y1 =>
 if (64 : Int) < ((y1.length : Nat) : Int) then
 some (.inr ())
 else
 ckI ((0 : Int)) (t1.length) fun j2 =>
 nm (t1.getD j2 []) fun y2 =>
 if ((y1.length : Nat) : Int) = ((y2.length : Nat) : Int) then
 ck64 (i1 + ((1 : Int))) fun x2 =>
 L x2
 else
 some (.inr ())
 else
 some (.inl ())
def M_flin_right (fu : Nat) (a0 : List (List Int)) (a1 : Int) : Option Int :=
 bd (M_fp_Check fu a1) fun x1 =>
 if x1 = (0 : Int) then
 if (64 : Int) < ((a0.length : Nat) : Int) then
 some (1 : Int)
 else
 bd (loopN (B_flin_right_0 fu a0) fu (0 : Int)) fun s1 => match s1 with
 | .inl _ =>
 some (0 : Int)
 | .inr _ =>
 some (1 : Int)
 else
 some (1 : Int)
def M_flin_strike (fu : Nat) (xss : List (List Int)) (ix : List Nat) (r : Nat) (a p : Int) (lo n : Nat) : Option (List (List Int)) :=
 bd (loopN (fun L (x : ((List (List Int) × List Nat) × Nat × Nat) × (Nat × Nat) × Nat × Int) =>
  if x.2.2.2 < (n : Int) then
   ckI x.2.2.2 x.2.1.2 fun j =>
   nm (x.1.1.2.getD (x.2.1.1 + j) 0) fun q =>
   ckI a (x.1.1.1.getD q []).length fun j =>
   nm ((x.1.1.1.getD q []).getD j 0) fun y =>
   bd (loopN (fun L (z : ((List (List Int) × List Nat) × Nat × Nat) × (Nat × Nat) × Nat × Nat × Nat × Int) =>
    if z.2.2.2.2.2 < ((x.1.1.1.getD x.2.2.1 []).length : Int) then
     ckI z.2.2.2.2.2 (z.1.1.1.getD z.2.2.2.1 []).length fun j =>
     nm ((z.1.1.1.getD z.2.2.2.1 []).getD j 0) fun v =>
     ckI z.2.2.2.2.2 (z.1.1.1.getD z.2.2.2.2.1 []).length fun j =>
     nm ((z.1.1.1.getD z.2.2.2.2.1 []).getD j 0) fun u =>
     ck64 (p - y) fun e =>
     ck64 (e * v) fun e =>
     ck64 (u + e) fun e =>
     ck (p ≠ 0) <|
     nm (Int.tmod e p) fun e =>
     ckI z.2.2.2.2.2 (z.1.1.1.getD z.2.2.2.2.1 []).length fun j =>
     nm (z.1.1.1.set z.2.2.2.2.1 ((z.1.1.1.getD z.2.2.2.2.1 []).set j e)) fun yss =>
     ck64 (z.2.2.2.2.2 + 1) fun i =>
     L (((yss, z.1.1.2), z.1.2), z.2.1, z.2.2.1, z.2.2.2.1, z.2.2.2.2.1, i)
    else some (z.1, z.2.1, z.2.2.1)) fu (x.1, x.2.1, x.2.2.1, x.2.2.1, q, 0)) fun z =>
   ck64 (x.2.2.2 + 1) fun i =>
   L (z.1, z.2.1, z.2.2, i)
  else some x.1) fu (((xss, ix), lo, n), (lo, n), r, 0)) fun x =>
 ck (x.2.1 = lo ∧ x.2.2 = n ∧ x.1.2 = ix) (some x.1.1)
def B_slices_IndexFunc_int_int_0 (fu : Nat) (a0 : List (List Int)) (a1 : (List Int) → Option Bool) : (Int → Option (Unit ⊕ Int)) → Int → Option (Unit ⊕ Int) := fun L i1 =>
 if i1 < ((a0.length : Nat) : Int) then
 ckI i1 (a0.length) fun j1 =>
 nm (a0.getD j1 []) fun y1 =>
 bd (a1 y1) fun c1 =>
 if c1 = true then
 some (.inr i1)
 else
 ck64 (i1 + ((1 : Int))) fun x1 =>
 L x1
 else
 some (.inl ())
def M_slices_IndexFunc_int_int (fu : Nat) (a0 : List (List Int)) (a1 : (List Int) → Option Bool) : Option Int :=
 bd (loopN (B_slices_IndexFunc_int_int_0 fu a0 a1) fu (0 : Int)) fun s1 => match s1 with
 | .inl _ =>
 some (-1 : Int)
 | .inr i2 =>
 some i2
def M_flin_Echelon (fu : Nat) (rows : List (List Int)) (p : Int) : Option (List (List Int) × Int) :=
 bd (M_flin_right fu rows p) fun e =>
 if e = 0 then
  bd (loopN (fun L (x : (List (List Int) × List Nat) × Int) =>
   if x.2 < (rows.length : Int) then
    ckI x.2 rows.length fun j =>
    nm (rows.getD j []) fun y =>
    bd (M_flin_plain fu y p) fun r =>
    ck ((x.1.2.length + 1) * 24 ≤ 140737488355328) <|
    nm (x.1.1 ++ [r]) fun zss =>
    nm (x.1.2 ++ [x.1.1.length]) fun iz =>
    ck64 (x.2 + 1) fun i => L ((zss, iz), i)
   else some x.1) fu (([], []), 0)) fun x =>
  bd (loopN (fun L (x : (List (List Int) × List Nat) × Int × Int) =>
   if x.2.1 < (x.1.2.length : Int) then
    ckI 0 x.1.2.length fun j =>
    nm (x.1.2.getD j 0) fun r =>
    if x.2.2 < ((x.1.1.getD r []).length : Int) then
     ckN x.2.1 fun j =>
     ck (j ≤ x.1.2.length) <|
     bd (M_slices_IndexFunc_int_int fu (List.take (x.1.2.length - j) (List.drop j (x.1.2.map fun r => x.1.1.getD r []))) fun z => M_flin_Echelon_1 fu z x.2.2) fun i =>
     if i < 0 then ck64 (x.2.2 + 1) fun c => L (x.1, x.2.1, c)
     else
      ck64 (x.2.1 + i) fun a =>
      ck64 (x.2.1 + i) fun b =>
      ckI b x.1.2.length fun j =>
      nm (x.1.2.getD j 0) fun r1 =>
      ckI x.2.1 x.1.2.length fun j =>
      nm (x.1.2.getD j 0) fun r2 =>
      ckI x.2.1 x.1.2.length fun j =>
      nm (x.1.2.set j r1) fun ix =>
      ckI a ix.length fun j =>
      nm (ix.set j r2) fun ix =>
      ckI x.2.1 ix.length fun j =>
      nm (ix.getD j 0) fun r =>
      ckI x.2.2 (x.1.1.getD r []).length fun j =>
      nm ((x.1.1.getD r []).getD j 0) fun y =>
      bd (M_fp_Inv fu y p) fun q =>
      ckI x.2.1 ix.length fun j =>
      nm (ix.getD j 0) fun r =>
      bd (loopN (fun L (z : (List (List Int) × List Nat) × Nat × Int) =>
       if z.2.2 < ((x.1.1.getD r []).length : Int) then
        ckI z.2.2 (z.1.1.getD z.2.1 []).length fun j =>
        nm ((z.1.1.getD z.2.1 []).getD j 0) fun y =>
        ckI x.2.1 z.1.2.length fun j =>
        nm (z.1.2.getD j 0) fun r =>
        ck64 (y * q.1) fun e =>
        ck (p ≠ 0) <|
        nm (Int.tmod e p) fun e =>
        ckI z.2.2 (z.1.1.getD r []).length fun j =>
        nm (z.1.1.set r ((z.1.1.getD r []).set j e)) fun yss =>
        ck64 (z.2.2 + 1) fun i => L ((yss, z.1.2), z.2.1, i)
       else some z.1) fu ((x.1.1, ix), r, 0)) fun m =>
      ckI x.2.1 m.2.length fun j =>
      nm (m.2.getD j 0) fun r =>
      ckN x.2.1 fun j =>
      ck (j ≤ m.2.length) <|
      bd (M_flin_strike fu m.1 m.2 r x.2.2 p 0 j) fun yss =>
      ckI x.2.1 m.2.length fun j =>
      nm (m.2.getD j 0) fun r =>
      ck64 (x.2.1 + 1) fun e =>
      ckN e fun j =>
      ck (j ≤ m.2.length) <|
      bd (M_flin_strike fu yss m.2 r x.2.2 p j (m.2.length - j)) fun yss =>
      ck64 (x.2.1 + 1) fun k =>
      ck64 (x.2.2 + 1) fun c => L ((yss, m.2), k, c)
    else some (x.1, x.2.1)
   else some (x.1, x.2.1)) fu (x, 0, 0)) fun x =>
  ckN x.2 fun j =>
  ck (j ≤ (x.1.2.map fun r => x.1.1.getD r []).length) <|
  nm (List.take j (x.1.2.map fun r => x.1.1.getD r [])) fun ys => some (ys, 0)
 else some ([], e)
def M_flin_lead_1 (fu : Nat) (a0 : Int) : Option Bool :=
 if a0 = (0 : Int) then
 some false
 else
 some true
def B_slices_IndexFunc_int_int_2_0 (fu : Nat) (a0 : List Int) (a1 : Int → Option Bool) : (Int → Option (Unit ⊕ Int)) → Int → Option (Unit ⊕ Int) := fun L i1 =>
 if i1 < ((a0.length : Nat) : Int) then
 ckI i1 (a0.length) fun j1 =>
 nm (a0.getD j1 0) fun y1 =>
 bd (a1 y1) fun c1 =>
 if c1 = true then
 some (.inr i1)
 else
 ck64 (i1 + ((1 : Int))) fun x1 =>
 L x1
 else
 some (.inl ())
def M_slices_IndexFunc_int_int_2 (fu : Nat) (a0 : List Int) (a1 : Int → Option Bool) : Option Int :=
 bd (loopN (B_slices_IndexFunc_int_int_2_0 fu a0 a1) fu (0 : Int)) fun s1 => match s1 with
 | .inl _ =>
 some (-1 : Int)
 | .inr i2 =>
 some i2
def M_flin_lead (fu : Nat) (a0 : List Int) : Option Int :=
 bd (M_slices_IndexFunc_int_int_2 fu a0 (fun zx0 => M_flin_lead_1 fu zx0)) fun x1 =>
 some x1
def M_flin_Null_1 (fu : Nat) (a0 : List Int) (a1 : Int) : Option Bool :=
 bd (M_flin_lead fu a0) fun x1 =>
 if x1 = a1 then
 some true
 else
 some false
def M_slices_ContainsFunc_int_int (fu : Nat) (a0 : List (List Int)) (a1 : (List Int) → Option Bool) : Option Bool :=
 bd (M_slices_IndexFunc_int_int fu a0 a1) fun x1 =>
 if (0 : Int) ≤ x1 then
 some true
 else
 some false
def B_flin_Null_1 (fu : Nat) (i1 : Int) (i2 : Int) (i3 : Int) (t3 : List (List Int)) (i4 : Int) : ((Int × (List (List Int)) × (List Int)) → Option ((List (List Int)) × (List Int))) → (Int × (List (List Int)) × (List Int)) → Option ((List (List Int)) × (List Int)) := fun L (i5, t6, t7) =>
 bd ((if i5 < ((t3.length : Nat) : Int) then
 some ((i2, i3, t3, i1, i4, i1, t3, ((t3.length : Nat) : Int), true))
 else
 some ((i2, i3, t3, i1, i4, i1, t3, ((t3.length : Nat) : Int), false)) : Option (Int × Int × (List (List Int)) × Int × Int × Int × (List (List Int)) × Int × Bool))) fun (i6, i7, t8, t9, i8, i9, t10, i10, b2) =>
 if b2 = true then
 ckI i5 (t10.length) fun j4 =>
 nm (t10.getD j4 []) fun y2 =>
 bd (M_flin_lead fu y2) fun x4 =>
 ckI t9 (y2.length) fun j5 =>
 nm (y2.getD j5 0) fun y3 =>
 ck64 (0 - y3) fun x5 =>
 bd (M_fp_Red fu x5 i7) fun x6 =>
 ckI x4 (t7.length) fun j6 =>
 nm (t7.set j6 x6) fun t11 =>
 ck64 (i5 + ((1 : Int))) fun x7 =>
 L (x7, t6, t11)
 else
 some (t6, t7)
def B_flin_Null_0 (fu : Nat) (a1 : Int) (a2 : Int) (t1 : List (List Int)) : (((List (List Int)) × Int) → Option (List (List Int))) → ((List (List Int)) × Int) → Option (List (List Int)) := fun L (t2, i1) =>
 bd ((if i1 < a1 then
 some (a1, a2, t1, a1, true)
 else
 some (a1, a2, t1, a1, false) : Option (Int × Int × (List (List Int)) × Int × Bool))) fun (i2, i3, t3, i4, b1) =>
 if b1 = true then
 bd (M_slices_ContainsFunc_int_int fu t3 (fun zx0 => M_flin_Null_1 fu zx0 i1)) fun c1 =>
 if c1 = true then
 ck64 (i1 + ((1 : Int))) fun x3 =>
 L (t2, x3)
 else
 ckN i2 fun j2 =>
 ck (8 * j2 ≤ 281474976710656) <|
 nm (List.replicate j2 0) fun t4 =>
 ckI i1 (t4.length) fun j3 =>
 nm (t4.set j3 (1 : Int)) fun t5 =>
 bd (loopN (B_flin_Null_1 fu i1 i2 i3 t3 i4) fu (((0 : Int), t2, t5))) fun (t12, t13) =>
 ck ((t12.length + ([t13]).length) * 24 ≤ 140737488355328) <|
 nm (t12 ++ ([t13])) fun t14 =>
 ck64 (i1 + ((1 : Int))) fun x8 =>
 L (t14, x8)
 else
 some t2
def M_flin_Null (fu : Nat) (a0 : List (List Int)) (a1 : Int) (a2 : Int) : Option ((List (List Int)) × Int) :=
 bd ((bd (M_flin_right fu a0 a2) fun x1 =>
 if x1 = (0 : Int) then
 if a1 < (0 : Int) then
 some (.inr ())
 else
 if (64 : Int) < a1 then
 some (.inr ())
 else
 if (0 : Int) < ((a0.length : Nat) : Int) then
 ckI ((0 : Int)) (a0.length) fun j1 =>
 nm (a0.getD j1 []) fun y1 =>
 if ((y1.length : Nat) : Int) = a1 then
 some (.inl ())
 else
 some (.inr ())
 else
 some (.inl ())
 else
 some (.inr ()) : Option (Unit ⊕ Unit))) fun s1 => match s1 with
 | .inl _ =>
 bd (M_flin_Echelon fu a0 a2) fun (t1, x2) =>
 bd (loopN (B_flin_Null_0 fu a1 a2 t1) fu (([], (0 : Int)))) fun t15 =>
 some ((t15, (0 : Int)))
 | .inr _ =>
 some (([], (1 : Int)))
def M_fpoly_Div (fu : Nat) (a0 : List Int) (a1 : List Int) (a2 : Int) : Option ((List Int) × (List Int) × Int) :=
 bd (M_fp_Check fu a2) fun x1 =>
 if x1 = (0 : Int) then
 bd (M_fpoly_plain fu a1 a2) fun t1 =>
 if ((t1.length : Nat) : Int) = (0 : Int) then
 some (([], [], (3 : Int)))
 else
 bd (M_fpoly_plain fu a0 a2) fun t2 =>
 bd (M_fpoly_divided fu t2 t1 a2) fun (t3, t4) =>
 some ((t3, t4, (0 : Int)))
 else
 some ([], [], x1)
def B_fpoly_PowMod_0 (fu : Nat) (a1 : Zr) (a3 : Int) (t1 : List Int) : (((List Int) × (List Int) × Int) → Option (List Int)) → ((List Int) × (List Int) × Int) → Option (List Int) := fun L (t7, t8, i1) =>
 if (0 : Int) ≤ i1 then
 bd (M_fpoly_product fu t7 t7 a3) fun t9 =>
 bd (M_fpoly_divided fu t9 t1 a3) fun (t10, t11) =>
 ck ((64 : Int) ≠ 0) <|
 ck64 (Int.tdiv i1 ((64 : Int))) fun x5 =>
 ckI x5 (a1.2.length) fun j1 =>
 nm (a1.2.getD j1 0) fun y1 =>
 ck ((64 : Int) ≠ 0) <|
 nm (Int.tmod i1 ((64 : Int))) fun x6 =>
 ck (0 ≤ x6) <|
 nm (y1 / 2 ^ (min (x6 : Int).toNat 64)) fun m1 =>
 nm (m1 &&& ((1 : Nat))) fun m2 =>
 if ((m2 : Nat) : Int) = (((1 : Nat) : Nat) : Int) then
 bd (M_fpoly_product fu t11 t8 a3) fun t12 =>
 bd (M_fpoly_divided fu t12 t1 a3) fun (t13, t14) =>
 ck64 (i1 - ((1 : Int))) fun x7 =>
 L (t14, t8, x7)
 else
 ck64 (i1 - ((1 : Int))) fun x8 =>
 L (t11, t8, x8)
 else
 some t7
def M_fpoly_PowMod (fu : Nat) (a0 : List Int) (a1 : Zr) (a2 : List Int) (a3 : Int) : Option ((List Int) × Int) :=
 bd (M_fp_Check fu a3) fun x1 =>
 if x1 = (0 : Int) then
 bd (M_zint_Sign fu a1) fun x2 =>
 if x2 < (0 : Int) then
 some (([], (1 : Int)))
 else
 bd (M_fpoly_plain fu a2 a3) fun t1 =>
 if ((t1.length : Nat) : Int) = (0 : Int) then
 some (([], (3 : Int)))
 else
 bd (M_fpoly_divided fu [(1 : Int)] t1 a3) fun (t2, t3) =>
 bd (M_fpoly_plain fu a0 a3) fun t4 =>
 bd (M_fpoly_divided fu t4 t1 a3) fun (t5, t6) =>
 bd (M_nat_Bits fu a1.2) fun x3 =>
 ck64 (x3 - ((1 : Int))) fun x4 =>
 bd (loopN (B_fpoly_PowMod_0 fu a1 a3 t1) fu (t3, t6, x4)) fun t15 =>
 some ((t15, (0 : Int)))
 else
 some (([], (1 : Int)))
def M_ffac_fixed (fu : Nat) (f : List Int) (p : Int) : Option (List (List Int)) :=
 ck64 ((f.length : Int) - 1) fun n =>
 ckN n fun m =>
 ck (24 * m ≤ 281474976710656) <|
 nm (List.replicate m 0) fun ix =>
 bd (loopN (fun L (x : (List (List Int) × List Nat) × Int) =>
  if x.2 < (ix.length : Int) then
   ckN n fun m =>
   ck (8 * m ≤ 281474976710656) <|
   nm (List.replicate m 0) fun ys =>
   ckI x.2 x.1.2.length fun j =>
   nm (x.1.1 ++ [ys]) fun xss =>
   nm (x.1.2.set j x.1.1.length) fun ix =>
   ck64 (x.2 + 1) fun i => L ((xss, ix), i)
  else some x.1) fu (([[]], ix), 0)) fun x =>
 bd (M_zint_Of fu p) fun z =>
 bd (M_fpoly_PowMod fu [0, 1] z f p) fun q =>
 bd (loopN (fun L (x : (List (List Int) × List Nat) × List Int × List Int × Int) =>
  if x.2.2.2 < n then
   bd (loopN (fun L (y : (List (List Int) × List Nat) × Int) =>
    if y.2 < (x.2.1.length : Int) then
     ckI y.2 x.2.1.length fun j =>
     nm (x.2.1.getD j 0) fun v =>
     ckI y.2 y.1.2.length fun j =>
     nm (y.1.2.getD j 0) fun r =>
     ckI x.2.2.2 (y.1.1.getD r []).length fun j =>
     nm (y.1.1.set r ((y.1.1.getD r []).set j v)) fun yss =>
     ck64 (y.2 + 1) fun i => L ((yss, y.1.2), i)
    else some y.1) fu (x.1, 0)) fun y =>
   ckI x.2.2.2 y.2.length fun j =>
   nm (y.2.getD j 0) fun r =>
   ckI x.2.2.2 (y.1.getD r []).length fun j =>
   nm ((y.1.getD r []).getD j 0) fun v =>
   ck64 (v - 1) fun e =>
   ckI x.2.2.2 (y.1.getD r []).length fun j =>
   nm (y.1.set r ((y.1.getD r []).set j e)) fun yss =>
   bd (M_fpoly_Mul fu x.2.1 x.2.2.1 p) fun u =>
   bd (M_fpoly_Div fu u.1 f p) fun w =>
   ck64 (x.2.2.2 + 1) fun i => L ((yss, y.2), w.2.1, x.2.2.1, i)
  else some x.1) fu (x, [1], q.1, 0)) fun x =>
 bd (M_flin_Null fu (x.2.map fun r => x.1.getD r []) n p) fun r => some r.1
def M_ffac_by (fu : Nat) (a0 : List Int) (a1 : List Int) (a2 : Int) : Option (List Int) :=
 bd (M_fpoly_Div fu a0 a1 a2) fun (t1, t2, x1) =>
 some t1
def M_ffac_gcd (fu : Nat) (a0 : List Int) (a1 : List Int) (a2 : Int) : Option (List Int) :=
 bd (M_fpoly_Gcd fu a0 a1 a2) fun (t1, x1) =>
 some t1
def M_ffac_parted_1 (fu : Nat) (a0 : Int) (a1 : List Int) (a2 : Int) : Option Int :=
 if a0 < ((a1.length : Nat) : Int) then
 ckI a0 (a1.length) fun j1 =>
 nm (a1.getD j1 0) fun y1 =>
 bd (M_fp_Red fu y1 a2) fun x1 =>
 some x1
 else
 ck64 (a0 - (((a1.length : Nat) : Int))) fun x2 =>
 some x2
def M_fpoly_Add (fu : Nat) (a0 : List Int) (a1 : List Int) (a2 : Int) : Option ((List Int) × Int) :=
 bd (M_fp_Check fu a2) fun x1 =>
 if x1 = (0 : Int) then
 bd (M_fpoly_plain fu a0 a2) fun t1 =>
 bd (M_fpoly_plain fu a1 a2) fun t2 =>
 bd (M_fpoly_sum fu t1 t2 (1 : Int) a2) fun t3 =>
 some ((t3, (0 : Int)))
 else
 some ([], x1)
def M_ffac_trial (fu : Nat) (a0 : List Int) (a1 : Int) (a2 : List Int) (a3 : Int) : Option (List Int) :=
 bd (M_fpoly_Add fu a0 [a1] a3) fun (t1, x1) =>
 if (2 : Int) < a3 then
 ck64 (a3 - ((1 : Int))) fun x2 =>
 ck ((2 : Int) ≠ 0) <|
 ck64 (Int.tdiv x2 ((2 : Int))) fun x3 =>
 bd (M_zint_Of fu x3) fun y1 =>
 bd (M_fpoly_PowMod fu t1 y1 a2 a3) fun (t2, x4) =>
 bd (M_fpoly_Sub fu t2 [(1 : Int)] a3) fun (t3, x5) =>
 some t3
 else
 some t1
def B_ffac_parted_2 (fu : Nat) (a2 : Int) (a3 : List Int) (t3 : List (List Int)) (t4 : Int) (t5 : List Int) (i2 : Int) (i3 : Int) (t7 : List (List Int)) (i4 : Int) (y1 : List Int) : (((List (List Int)) × Int) → Option ((List (List Int)) ⊕ (List (List Int)))) → ((List (List Int)) × Int) → Option ((List (List Int)) ⊕ (List (List Int))) := fun L (t8, i5) =>
 if i5 < ((t8.length : Nat) : Int) then
 if ((t8.length : Nat) : Int) = ((t3.length : Nat) : Int) then
 some (.inl t8)
 else
 bd (M_ffac_parted_1 fu i3 a3 a2) fun x2 =>
 ckI i5 (t8.length) fun j3 =>
 nm ((t8.getD j3 [])) fun t9 =>
 bd (M_ffac_trial fu y1 x2 t9 t4) fun t10 =>
 ckI i5 (t8.length) fun j4 =>
 nm ((t8.getD j4 [])) fun t11 =>
 bd (M_ffac_gcd fu t10 t11 t4) fun t12 =>
 bd ((if (1 : Int) < ((t12.length : Nat) : Int) then
 ckI i5 (t8.length) fun j5 =>
 nm ((t8.getD j5 [])) fun t13 =>
 if ((t12.length : Nat) : Int) < ((t13.length : Nat) : Int) then
 some (t3, t4, t5, i3, y1, t7, i4, i2, true)
 else
 some (t3, t4, t5, i3, y1, t7, i4, i2, false)
 else
 some (t3, t4, t5, i3, y1, t7, i4, i2, false) : Option ((List (List Int)) × Int × (List Int) × Int × (List Int) × (List (List Int)) × Int × Int × Bool))) fun (t14, t15, t16, i6, t17, t18, i7, i8, b2) =>
 if b2 = true then
 ckI i5 (t8.length) fun j6 =>
 nm ((t8.getD j6 [])) fun t19 =>
 bd (M_ffac_by fu t19 t12 t15) fun t20 =>
 ck ((t8.length + ([t20]).length) * 24 ≤ 140737488355328) <|
 nm (t8 ++ ([t20])) fun t21 =>
 ckI i5 (t21.length) fun j7 =>
 nm (t21.set j7 t12) fun t22 =>
 ck64 (i5 + ((1 : Int))) fun x3 =>
 L (t22, x3)
 else
 ck64 (i5 + ((1 : Int))) fun x4 =>
 L (t8, x4)
 else
 some (.inr t8)
def B_ffac_parted_1 (fu : Nat) (a2 : Int) (a3 : List Int) (i1 : Int) (t2 : List (List Int)) : (((List (List Int)) × Int × (List Int) × (List (List Int)) × Int) → Option ((List (List Int)) ⊕ ((List (List Int)) × Int × (List Int) × (List (List Int))))) → ((List (List Int)) × Int × (List Int) × (List (List Int)) × Int) → Option ((List (List Int)) ⊕ ((List (List Int)) × Int × (List Int) × (List (List Int)))) := fun L (t3, t4, t5, t6, i2) =>
 bd ((if i2 < ((t2.length : Nat) : Int) then
 some ((i1, t2, ((t2.length : Nat) : Int), true))
 else
 some ((i1, t2, ((t2.length : Nat) : Int), false)) : Option (Int × (List (List Int)) × Int × Bool))) fun (i3, t7, i4, b1) =>
 if b1 = true then
 ckI i2 (t7.length) fun j2 =>
 nm (t7.getD j2 []) fun y1 =>
 bd (loopN (B_ffac_parted_2 fu a2 a3 t3 t4 t5 i2 i3 t7 i4 y1) fu ((t6, (0 : Int)))) fun s1 => match s1 with
 | .inl t23 =>
 some (.inl t23)
 | .inr t24 =>
 ck64 (i2 + ((1 : Int))) fun x5 =>
 L (t3, t4, t5, t24, x5)
 else
 some (.inr (t3, t4, t5, t6))
def B_ffac_parted_0 (fu : Nat) (a1 : List (List Int)) (a2 : Int) (a3 : List Int) : (((List (List Int)) × Int) → Option (List (List Int))) → ((List (List Int)) × Int) → Option (List (List Int)) := fun L (t1, i1) =>
 ck64 (a2 + (((a3.length : Nat) : Int))) fun x1 =>
 if i1 < x1 then
 ckN ((1 : Int)) fun j1 =>
 ck (j1 ≤ a1.length) <|
 nm (a1.drop j1) fun t2 =>
 bd (loopN (B_ffac_parted_1 fu a2 a3 i1 t2) fu ((a1, a2, a3, t1, (0 : Int)))) fun s2 => match s2 with
 | .inl t25 =>
 some t25
 | .inr (t26, t27, t28, t29) =>
 ck64 (i1 + ((1 : Int))) fun x6 =>
 L (t29, x6)
 else
 some t1
def M_ffac_parted (fu : Nat) (a0 : List Int) (a1 : List (List Int)) (a2 : Int) (a3 : List Int) : Option (List (List Int)) :=
 bd (loopN (B_ffac_parted_0 fu a1 a2 a3) fu (([a0], (0 : Int)))) fun t30 =>
 some t30
def M_fpoly_Monic (fu : Nat) (a0 : List Int) (a1 : Int) : Option ((List Int) × Int) :=
 bd (M_fp_Check fu a1) fun x1 =>
 if x1 = (0 : Int) then
 bd (M_fpoly_plain fu a0 a1) fun t1 =>
 if ((t1.length : Nat) : Int) = (0 : Int) then
 some (([], (0 : Int)))
 else
 ck64 ((((t1.length : Nat) : Int)) - ((1 : Int))) fun x2 =>
 ckI x2 (t1.length) fun j1 =>
 nm ((t1.getD j1 0)) fun x3 =>
 bd (M_fpoly_scaled fu t1 x3 a1) fun t2 =>
 some ((t2, (0 : Int)))
 else
 some ([], x1)
def M_ffac_monic (fu : Nat) (a0 : List Int) (a1 : Int) : Option ((List Int) × Int) :=
 bd (M_fpoly_Monic fu a0 a1) fun (t1, x1) =>
 if x1 = (0 : Int) then
 if ((t1.length : Nat) : Int) = (0 : Int) then
 some (([], (8 : Int)))
 else
 if (65 : Int) < ((t1.length : Nat) : Int) then
 some (([], (6 : Int)))
 else
 some ((t1, (0 : Int)))
 else
 some ([], x1)
def B_fpoly_Deriv_0 (fu : Nat) (a1 : Int) (t1 : List Int) : (((List Int) × Int × (List Int)) → Option (List Int)) → ((List Int) × Int × (List Int)) → Option (List Int) := fun L (t2, i1, t3) =>
 bd ((if i1 < ((t1.length : Nat) : Int) then
 some ((a1, ((t1.length : Nat) : Int), true))
 else
 some ((a1, ((t1.length : Nat) : Int), false)) : Option (Int × Int × Bool))) fun (i2, i3, b1) =>
 if b1 = true then
 ckI i1 (t3.length) fun j1 =>
 nm ((t3.getD j1 0)) fun x2 =>
 if (0 : Int) < i1 then
 ck (i2 ≠ 0) <|
 nm (Int.tmod i1 i2) fun x3 =>
 ck64 (x3 * x2) fun x4 =>
 ck ((t2.length + ([x4]).length) * 8 ≤ 140737488355328) <|
 nm (t2 ++ ([x4])) fun t4 =>
 ck64 (i1 + ((1 : Int))) fun x5 =>
 L (t4, x5, t3)
 else
 ck64 (i1 + ((1 : Int))) fun x6 =>
 L (t2, x6, t3)
 else
 some t2
def M_fpoly_Deriv (fu : Nat) (a0 : List Int) (a1 : Int) : Option ((List Int) × Int) :=
 bd (M_fp_Check fu a1) fun x1 =>
 if x1 = (0 : Int) then
 bd (M_fpoly_plain fu a0 a1) fun t1 =>
 bd (loopN (B_fpoly_Deriv_0 fu a1 t1) fu (([], (0 : Int), t1))) fun t5 =>
 bd (M_fpoly_plain fu t5 a1) fun t6 =>
 some ((t6, (0 : Int)))
 else
 some ([], x1)
def M_fsqf_monic (fu : Nat) (a0 : List Int) (a1 : Int) : Option ((List Int) × Int) :=
 bd (M_fpoly_Monic fu a0 a1) fun (t1, x1) =>
 if x1 = (0 : Int) then
 if ((t1.length : Nat) : Int) = (0 : Int) then
 some (([], (8 : Int)))
 else
 some (t1, x1)
 else
 some (t1, x1)
def M_fsqf_Is (fu : Nat) (a0 : List Int) (a1 : Int) : Option (Bool × Int) :=
 bd (M_fsqf_monic fu a0 a1) fun (t1, x1) =>
 if x1 = (0 : Int) then
 bd (M_fpoly_Deriv fu t1 a1) fun (t2, x2) =>
 bd (M_fpoly_Gcd fu t1 t2 a1) fun (t3, x3) =>
 if ((t3.length : Nat) : Int) = (1 : Int) then
 some ((true, (0 : Int)))
 else
 some ((false, (0 : Int)))
 else
 some (false, x1)
def M_ffac_square (fu : Nat) (a0 : List Int) (a1 : Int) : Option ((List Int) × Int) :=
 bd (M_ffac_monic fu a0 a1) fun (t1, x1) =>
 if x1 = (0 : Int) then
 bd (M_fsqf_Is fu t1 a1) fun (c1, x2) =>
 if ((!c1)) = true then
 some (([], (1 : Int)))
 else
 some ((t1, (0 : Int)))
 else
 some ([], x1)
def M_math_bits_Len (fu : Nat) (a0 : Nat) : Option Int :=
 bd (M_math_bits_Len64 fu a0) fun x1 =>
 some x1
def B_slices_insertionSortCmpFunc_int_io_1 (fu : Nat) (a3 : (List Int) → (List Int) → Option Int) : ((Int × Int × Int × (List (List Int))) → Option (Int × Int × (List (List Int)))) → (Int × Int × Int × (List (List Int))) → Option (Int × Int × (List (List Int))) := fun L (i2, i3, i4, t2) =>
 if i2 < i4 then
 ckI i4 (t2.length) fun j1 =>
 nm ((t2.getD j1 [])) fun t3 =>
 ck64 (i4 - ((1 : Int))) fun x2 =>
 ckI x2 (t2.length) fun j2 =>
 nm ((t2.getD j2 [])) fun t4 =>
 bd (a3 t3 t4) fun x3 =>
 if x3 < (0 : Int) then
 ck64 (i4 - ((1 : Int))) fun x4 =>
 ck64 (i4 - ((1 : Int))) fun x5 =>
 ckI x5 (t2.length) fun j3 =>
 nm ((t2.getD j3 [])) fun t5 =>
 ckI i4 (t2.length) fun j4 =>
 nm ((t2.getD j4 [])) fun t6 =>
 ckI i4 (t2.length) fun j5 =>
 nm (t2.set j5 t5) fun t7 =>
 ckI x4 (t7.length) fun j6 =>
 nm (t7.set j6 t6) fun t8 =>
 ck64 (i4 - ((1 : Int))) fun x6 =>
 L (i2, i3, x6, t8)
 else
 some (i2, i3, t2)
 else
 some (i2, i3, t2)
def B_slices_insertionSortCmpFunc_int_io_0 (fu : Nat) (a1 : Int) (a2 : Int) (a3 : (List Int) → (List Int) → Option Int) : ((Int × (List (List Int))) → Option (List (List Int))) → (Int × (List (List Int))) → Option (List (List Int)) := fun L (i1, t1) =>
 if i1 < a2 then
 bd (loopN (B_slices_insertionSortCmpFunc_int_io_1 fu a3) fu (a1, a2, i1, t1)) fun (i5, i6, t9) =>
 ck64 (i1 + ((1 : Int))) fun x7 =>
 L (x7, t9)
 else
 some t1
def M_slices_insertionSortCmpFunc_int_io (fu : Nat) (a0 : List (List Int)) (a1 : Int) (a2 : Int) (a3 : (List Int) → (List Int) → Option Int) : Option (List (List Int)) :=
 ck64 (a1 + ((1 : Int))) fun x1 =>
 bd (loopN (B_slices_insertionSortCmpFunc_int_io_0 fu a1 a2 a3) fu (x1, a0)) fun t10 =>
 some t10
def B_slices_pdqsortCmpFunc_int_io_0 (fu : Nat) (a4 : (List Int) → (List Int) → Option Int) : ((Int × Int × Int × (List (List Int))) → Option (List (List Int))) → (Int × Int × Int × (List (List Int))) → Option (List (List Int)) := fun L (i1, i2, i3, t1) =>
 ck64 (i2 - i1) fun x1 =>
 if x1 ≤ (12 : Int) then
 bd (M_slices_insertionSortCmpFunc_int_io fu t1 i1 i2 a4) fun t2 =>
 some t2
 else
 if i3 = (0 : Int) then
 none
 else
 none
def M_slices_pdqsortCmpFunc_int_io : Nat → (List (List Int)) → Int → Int → Int → ((List Int) → (List Int) → Option Int) → Option (List (List Int))
  | 0, _, _, _, _, _ => none
  | fu + 1, a0, a1, a2, a3, a4 =>
    bd (loopN (B_slices_pdqsortCmpFunc_int_io_0 fu a4) fu (a1, a2, a3, a0)) fun t3 =>
    some t3
def M_slices_SortFunc_int_int_io (fu : Nat) (a0 : List (List Int)) (a1 : (List Int) → (List Int) → Option Int) : Option (List (List Int)) :=
 nm (uns (((a0.length : Nat) : Int))) fun m1 =>
 bd (M_math_bits_Len fu m1) fun x1 =>
 bd (M_slices_pdqsortCmpFunc_int_io fu a0 (0 : Int) (((a0.length : Nat) : Int)) x1 a1) fun t1 =>
 some t1
def M_ffac_Split (fu : Nat) (a0 : List Int) (a1 : Int) (a2 : List Int) : Option ((List (List Int)) × Int) :=
 bd (M_ffac_square fu a0 a1) fun (t1, x1) =>
 if x1 = (0 : Int) then
 if ((t1.length : Nat) : Int) = (1 : Int) then
 some ([], x1)
 else
 bd (M_ffac_fixed fu t1 a1) fun t2 =>
 nm (min (((a2.length : Nat) : Int)) ((64 : Int))) fun x2 =>
 ckN x2 fun j1 =>
 ck (j1 ≤ a2.length) <|
 nm (a2.take j1) fun t3 =>
 bd (M_ffac_parted fu t1 t2 a1 t3) fun t4 =>
 bd (M_slices_SortFunc_int_int_io fu t4 (fun zx0 zx1 => M_ffac_compare fu zx0 zx1)) fun t5 =>
 some ((t5, (0 : Int)))
 else
 some ([], x1)
def B_prime_Next_0 (fu : Nat)  : (Int → Option Int) → Int → Option Int := fun L i1 =>
 bd (M_prime_Is fu i1) fun c1 =>
 if ((!c1)) = true then
 ck64 (i1 + ((1 : Int))) fun x3 =>
 L x3
 else
 some i1
def M_prime_Next (fu : Nat) (a0 : Int) : Option (Int × Int) :=
 if (65521 : Int) ≤ a0 then
 some (((0 : Int), (5 : Int)))
 else
 nm (max a0 ((1 : Int))) fun x1 =>
 ck64 (x1 + ((1 : Int))) fun x2 =>
 bd (loopN (B_prime_Next_0 fu ) fu x2) fun i2 =>
 some ((i2, (0 : Int)))
def M_short_Good (fu : Nat) (a0 : List Zr) (a1 : Int) : Option (Bool × Int) :=
 bd (M_zsqf_Bound fu a0) fun (y1, x1) =>
 if x1 = (0 : Int) then
 bd (M_prime_Is fu a1) fun c1 =>
 if ((!c1)) = true then
 some ((false, (0 : Int)))
 else
 bd (M_zpoly_Mod fu a0 a1) fun (t1, x2) =>
 bd (M_zpoly_Norm fu a0) fun t2 =>
 if ((t1.length : Nat) : Int) = ((t2.length : Nat) : Int) then
 bd (M_fsqf_Is fu t1 a1) fun (c2, x3) =>
 some ((c2, (0 : Int)))
 else
 some ((false, (0 : Int)))
 else
 some (false, x1)
def B_zfac_local_0 (fu : Nat) (a0 : List Zr) (a1 : List Int) : ((Int × Int × (List (List Int)) × Int × Int) → Option (Int × (List (List Int)))) → (Int × Int × (List (List Int)) × Int × Int) → Option (Int × (List (List Int))) := fun L (i1, i2, t1, i3, i4) =>
 if i4 = (0 : Int) then
 if i2 < (5 : Int) then
 bd (M_short_Good fu a0 i3) fun (c1, x3) =>
 if ((!c1)) = true then
 bd (M_prime_Next fu i3) fun (x4, x5) =>
 L (i1, i2, t1, x4, x5)
 else
 ck64 (i2 + ((1 : Int))) fun x6 =>
 bd (M_zpoly_Mod fu a0 i3) fun (t2, x7) =>
 bd (M_ffac_Split fu t2 i3 a1) fun (t3, x8) =>
 if i1 = (0 : Int) then
 bd (M_prime_Next fu i3) fun (x9, x10) =>
 L (i3, x6, t3, x9, x10)
 else
 if ((t3.length : Nat) : Int) < ((t1.length : Nat) : Int) then
 bd (M_prime_Next fu i3) fun (x11, x12) =>
 L (i3, x6, t3, x11, x12)
 else
 bd (M_prime_Next fu i3) fun (x13, x14) =>
 L (i1, x6, t1, x13, x14)
 else
 some (i1, t1)
 else
 some (i1, t1)
def M_zfac_local (fu : Nat) (a0 : List Zr) (a1 : List Int) : Option (Int × (List (List Int))) :=
 bd (M_prime_Next fu (1 : Int)) fun (x1, x2) =>
 bd (loopN (B_zfac_local_0 fu a0 a1) fu (((0 : Int), (0 : Int), [], x1, x2))) fun (i5, t4) =>
 some (i5, t4)
def B_short_choose_0 (fu : Nat) (a0 : Int) : ((Int × Zr × Zr) → Option (Zr × Zr)) → (Int × Zr × Zr) → Option (Zr × Zr) := fun L (i1, t1, t2) =>
 bd ((if i1 < a0 then
 some (a0, a0, true)
 else
 some (a0, a0, false) : Option (Int × Int × Bool))) fun (i2, i3, b1) =>
 if b1 = true then
 ck64 (i2 + i1) fun x1 =>
 ck64 (x1 + ((1 : Int))) fun x2 =>
 bd (M_zint_Of fu x2) fun y2 =>
 bd (M_zint_Mul fu t2 y2) fun y3 =>
 ck64 (i1 + ((1 : Int))) fun x3 =>
 bd (M_zint_Of fu x3) fun y4 =>
 bd (M_zint_Exact fu y3 y4) fun (y5, x4) =>
 ck64 (i1 + ((1 : Int))) fun x5 =>
 L (x5, t1, y5)
 else
 some (t1, t2)
def M_short_choose (fu : Nat) (a0 : Int) : Option Zr :=
 bd (M_zint_Of fu (1 : Int)) fun y1 =>
 bd (loopN (B_short_choose_0 fu a0) fu (((0 : Int), (false, []), y1))) fun (t3, t4) =>
 some t4
def B_short_power_0 (fu : Nat)  : ((Int × Zr × Zr) → Option Zr) → (Int × Zr × Zr) → Option Zr := fun L (i1, t1, t2) =>
 if (0 : Int) < i1 then
 nm (andI i1 ((1 : Int))) fun x1 =>
 if x1 = (1 : Int) then
 bd (M_zint_Mul fu t2 t1) fun y2 =>
 bd (M_zint_Mul fu t1 t1) fun y3 =>
 nm (Int.fdiv i1 (2 ^ (min (((1 : Nat)) : Int).toNat 64))) fun x2 =>
 L (x2, y3, y2)
 else
 bd (M_zint_Mul fu t1 t1) fun y4 =>
 nm (Int.fdiv i1 (2 ^ (min (((1 : Nat)) : Int).toNat 64))) fun x3 =>
 L (x3, y4, t2)
 else
 some t2
def M_short_power (fu : Nat) (a0 : Zr) (a1 : Int) : Option Zr :=
 bd (M_zint_Of fu (1 : Int)) fun y1 =>
 bd (loopN (B_short_power_0 fu ) fu (a1, a0, y1)) fun t3 =>
 some t3
def B_lattice_dot_0 (fu : Nat) (a0 : List Zr) (a1 : List Zr) : ((Int × Zr × Zr) → Option (Zr × Zr)) → (Int × Zr × Zr) → Option (Zr × Zr) := fun L (i1, t1, t2) =>
 bd ((if i1 < ((a0.length : Nat) : Int) then
 some ((a1, a0, ((a0.length : Nat) : Int), true))
 else
 some ((a1, a0, ((a0.length : Nat) : Int), false)) : Option ((List Zr) × (List Zr) × Int × Bool))) fun (t3, t4, i2, b1) =>
 if b1 = true then
 ckI i1 (t4.length) fun j1 =>
 nm (t4.getD j1 (false, [])) fun y2 =>
 ckI i1 (t3.length) fun j2 =>
 nm (t3.getD j2 (false, [])) fun y3 =>
 bd (M_zint_Mul fu y2 y3) fun y4 =>
 bd (M_zint_Add fu t2 y4) fun y5 =>
 ck64 (i1 + ((1 : Int))) fun x1 =>
 L (x1, t1, y5)
 else
 some (t1, t2)
def M_lattice_dot (fu : Nat) (a0 : List Zr) (a1 : List Zr) : Option Zr :=
 bd (M_zint_Of fu (0 : Int)) fun y1 =>
 bd (loopN (B_lattice_dot_0 fu a0 a1) fu (((0 : Int), (false, []), y1))) fun (t5, t6) =>
 some t6
def M_lattice_Dot (fu : Nat) (a0 : List Zr) (a1 : List Zr) : Option (Zr × Int) :=
 if ((a0.length : Nat) : Int) = ((a1.length : Nat) : Int) then
 bd (M_lattice_dot fu a0 a1) fun y1 =>
 some ((y1, (0 : Int)))
 else
 some (((false, []), (1 : Int)))
def M_short_square (fu : Nat) (a0 : List Zr) : Option Zr :=
 bd (M_lattice_Dot fu a0 a0) fun (y1, x1) =>
 some y1
def B_short_Need_0 (fu : Nat) (y9 : Zr) (y11 : Zr) : ((Int × Zr) → Option (Unit ⊕ Int)) → (Int × Zr) → Option (Unit ⊕ Int) := fun L (i1, t2) =>
 if i1 ≤ (1000 : Int) then
 bd (M_zint_Cmp fu t2 y9) fun x7 =>
 if (0 : Int) < x7 then
 some (.inr i1)
 else
 bd (M_zint_Mul fu t2 y11) fun y12 =>
 ck64 (i1 + ((1 : Int))) fun x8 =>
 L (x8, y12)
 else
 some (.inl ())
def M_short_Need (fu : Nat) (a0 : List Zr) (a1 : Int) (a2 : Int) : Option (Int × Int) :=
 bd (M_zsqf_Bound fu a0) fun (y1, x1) =>
 if x1 = (0 : Int) then
 bd (M_zpoly_Prim fu a0) fun t1 =>
 ck64 ((((t1.length : Nat) : Int)) - ((1 : Int))) fun x2 =>
 bd (M_prime_Is fu a1) fun c1 =>
 if ((!c1)) = true then
 some (((0 : Int), (1 : Int)))
 else
 if a2 < (1 : Int) then
 some (((0 : Int), (1 : Int)))
 else
 if x2 < a2 then
 some (((0 : Int), (1 : Int)))
 else
 ck64 (x2 - ((1 : Int))) fun x3 =>
 bd (M_zint_Of fu (2 : Int)) fun y2 =>
 ck64 (x3 * x2) fun x4 =>
 bd (M_short_power fu y2 x4) fun y3 =>
 bd (M_short_choose fu x3) fun y4 =>
 bd (M_short_power fu y4 x2) fun y5 =>
 bd (M_short_square fu t1) fun y6 =>
 ck64 (x3 + x2) fun x5 =>
 bd (M_short_power fu y6 x5) fun y7 =>
 bd (M_zint_Mul fu y5 y7) fun y8 =>
 bd (M_zint_Mul fu y3 y8) fun y9 =>
 bd (M_zint_Of fu a1) fun y10 =>
 ck64 (((2 : Int)) * a2) fun x6 =>
 bd (M_short_power fu y10 x6) fun y11 =>
 bd (loopN (B_short_Need_0 fu y9 y11) fu (((1 : Int), y11))) fun s1 => match s1 with
 | .inl _ =>
 some (((0 : Int), (6 : Int)))
 | .inr i2 =>
 some ((i2, (0 : Int)))
 else
 some (((0 : Int), x1))
def M_zfac_sought_1 (fu : Nat) (a0 : List Int) (a1 : List Int) (a2 : Int) : Option Bool :=
 bd (M_fpoly_Div fu a1 a0 a2) fun (t1, t2, x1) =>
 if ((t2.length : Nat) : Int) = (0 : Int) then
 some true
 else
 some false
def B_zfac_sought_0 (fu : Nat) (a2 : Int) : (((List Zr) × (List (List Int))) → Option ((List Zr) × (List (List Int)))) → ((List Zr) × (List (List Int))) → Option ((List Zr) × (List (List Int))) := fun L (t1, t2) =>
 if (12 : Int) < ((t2.length : Nat) : Int) then
 ckI ((0 : Int)) (t2.length) fun j1 =>
 nm (t2.getD j1 []) fun y1 =>
 ck64 ((((y1.length : Nat) : Int)) - ((1 : Int))) fun x1 =>
 bd (M_short_Need fu t1 a2 x1) fun (x2, x3) =>
 if x3 = (0 : Int) then
 bd (M_hensel_Lift fu t1 t2 a2 x2) fun (t3, x4) =>
 if ((t3.length : Nat) : Int) = (0 : Int) then
 some (t1, t2)
 else
 ckI ((0 : Int)) (t3.length) fun j2 =>
 nm ((t3.getD j2 [])) fun t4 =>
 none
 else
 some (t1, t2)
 else
 some (t1, t2)
def M_zfac_sought (fu : Nat) (a0 : List Zr) (a1 : List (List Int)) (a2 : Int) : Option ((List (List Zr)) × (List Zr) × (List (List Int))) :=
 bd (loopN (B_zfac_sought_0 fu a2) fu (a0, a1)) fun (t5, t6) =>
 some ([], t5, t6)
def B_slices_insertionSortCmpFunc_api_Int_io_1 (fu : Nat) (a3 : (List Zr) → (List Zr) → Option Int) : ((Int × Int × Int × (List (List Zr))) → Option (Int × Int × (List (List Zr)))) → (Int × Int × Int × (List (List Zr))) → Option (Int × Int × (List (List Zr))) := fun L (i2, i3, i4, t2) =>
 if i2 < i4 then
 ckI i4 (t2.length) fun j1 =>
 nm ((t2.getD j1 [])) fun t3 =>
 ck64 (i4 - ((1 : Int))) fun x2 =>
 ckI x2 (t2.length) fun j2 =>
 nm ((t2.getD j2 [])) fun t4 =>
 bd (a3 t3 t4) fun x3 =>
 if x3 < (0 : Int) then
 ck64 (i4 - ((1 : Int))) fun x4 =>
 ck64 (i4 - ((1 : Int))) fun x5 =>
 ckI x5 (t2.length) fun j3 =>
 nm ((t2.getD j3 [])) fun t5 =>
 ckI i4 (t2.length) fun j4 =>
 nm ((t2.getD j4 [])) fun t6 =>
 ckI i4 (t2.length) fun j5 =>
 nm (t2.set j5 t5) fun t7 =>
 ckI x4 (t7.length) fun j6 =>
 nm (t7.set j6 t6) fun t8 =>
 ck64 (i4 - ((1 : Int))) fun x6 =>
 L (i2, i3, x6, t8)
 else
 some (i2, i3, t2)
 else
 some (i2, i3, t2)
def B_slices_insertionSortCmpFunc_api_Int_io_0 (fu : Nat) (a1 : Int) (a2 : Int) (a3 : (List Zr) → (List Zr) → Option Int) : ((Int × (List (List Zr))) → Option (List (List Zr))) → (Int × (List (List Zr))) → Option (List (List Zr)) := fun L (i1, t1) =>
 if i1 < a2 then
 bd (loopN (B_slices_insertionSortCmpFunc_api_Int_io_1 fu a3) fu (a1, a2, i1, t1)) fun (i5, i6, t9) =>
 ck64 (i1 + ((1 : Int))) fun x7 =>
 L (x7, t9)
 else
 some t1
def M_slices_insertionSortCmpFunc_api_Int_io (fu : Nat) (a0 : List (List Zr)) (a1 : Int) (a2 : Int) (a3 : (List Zr) → (List Zr) → Option Int) : Option (List (List Zr)) :=
 ck64 (a1 + ((1 : Int))) fun x1 =>
 bd (loopN (B_slices_insertionSortCmpFunc_api_Int_io_0 fu a1 a2 a3) fu (x1, a0)) fun t10 =>
 some t10
def B_slices_pdqsortCmpFunc_api_Int_io_0 (fu : Nat) (a4 : (List Zr) → (List Zr) → Option Int) : ((Int × Int × Int × (List (List Zr))) → Option (List (List Zr))) → (Int × Int × Int × (List (List Zr))) → Option (List (List Zr)) := fun L (i1, i2, i3, t1) =>
 ck64 (i2 - i1) fun x1 =>
 if x1 ≤ (12 : Int) then
 bd (M_slices_insertionSortCmpFunc_api_Int_io fu t1 i1 i2 a4) fun t2 =>
 some t2
 else
 if i3 = (0 : Int) then
 none
 else
 none
def M_slices_pdqsortCmpFunc_api_Int_io : Nat → (List (List Zr)) → Int → Int → Int → ((List Zr) → (List Zr) → Option Int) → Option (List (List Zr))
  | 0, _, _, _, _, _ => none
  | fu + 1, a0, a1, a2, a3, a4 =>
    bd (loopN (B_slices_pdqsortCmpFunc_api_Int_io_0 fu a4) fu (a1, a2, a3, a0)) fun t3 =>
    some t3
def M_slices_SortFunc_api_Int_api_Int_io (fu : Nat) (a0 : List (List Zr)) (a1 : (List Zr) → (List Zr) → Option Int) : Option (List (List Zr)) :=
 nm (uns (((a0.length : Nat) : Int))) fun m1 =>
 bd (M_math_bits_Len fu m1) fun x1 =>
 bd (M_slices_pdqsortCmpFunc_api_Int_io fu a0 (0 : Int) (((a0.length : Nat) : Int)) x1 a1) fun t1 =>
 some t1
def M_zfac_split (fu : Nat) (a0 : List Zr) (a1 : List Int) : Option ((List (List Zr)) × Bool) :=
 if ((a0.length : Nat) : Int) < (2 : Int) then
 some ([], true)
 else
 bd (M_zfac_great fu a0) fun c1 =>
 if c1 = true then
 some ([], false)
 else
 bd (M_zfac_local fu a0 a1) fun (x1, t1) =>
 if x1 = (0 : Int) then
 some ([], false)
 else
 bd (M_zfac_enough fu a0 x1) fun x2 =>
 bd (M_hensel_Power fu x1 x2) fun (y1, x3) =>
 bd (M_zfac_sought fu a0 t1 x1) fun (t2, t3, t4) =>
 if (1 : Int) < ((t3.length : Nat) : Int) then
 bd (M_hensel_Lift fu t3 t4 x1 x2) fun (t5, x4) =>
 bd (M_zfac_chosen fu t3 t5 y1) fun t6 =>
 ck ((t2.length + t6.length) * 24 ≤ 140737488355328) <|
 nm (t2 ++ t6) fun t7 =>
 bd (M_slices_SortFunc_api_Int_api_Int_io fu t7 (fun zx0 zx1 => M_zfac_compare fu zx0 zx1)) fun t8 =>
 some (t8, true)
 else
 bd (M_slices_SortFunc_api_Int_api_Int_io fu t2 (fun zx0 zx1 => M_zfac_compare fu zx0 zx1)) fun t9 =>
 some (t9, true)
def B_zgcd_power_0 (fu : Nat) (a0 : Zr) (a1 : Int) : ((Int × Zr) → Option Zr) → (Int × Zr) → Option Zr := fun L (i1, t1) =>
 if i1 < a1 then
 bd (M_zint_Mul fu t1 a0) fun y2 =>
 ck64 (i1 + ((1 : Int))) fun x1 =>
 L (x1, y2)
 else
 some t1
def M_zgcd_power (fu : Nat) (a0 : Zr) (a1 : Int) : Option Zr :=
 bd (M_zint_Of fu (1 : Int)) fun y1 =>
 bd (loopN (B_zgcd_power_0 fu a0 a1) fu (((0 : Int), y1))) fun t2 =>
 some t2
def B_zgcd_Pseudo_0 (fu : Nat) (y1 : Zr) : (((List Zr) × (List Zr) × Int × (List Zr)) → Option ((List Zr) × (List Zr))) → ((List Zr) × (List Zr) × Int × (List Zr)) → Option ((List Zr) × (List Zr)) := fun L (t5, t6, i1, t7) =>
 if (0 : Int) ≤ i1 then
 ck64 (i1 + (((t5.length : Nat) : Int))) fun x6 =>
 if ((t6.length : Nat) : Int) < x6 then
 ck64 (i1 - ((1 : Int))) fun x7 =>
 L (t5, t6, x7, t7)
 else
 ck64 (i1 + (((t5.length : Nat) : Int))) fun x8 =>
 ck64 (x8 - ((1 : Int))) fun x9 =>
 ckI x9 (t6.length) fun j3 =>
 nm ((t6.getD j3 (false, []))) fun y3 =>
 bd (M_zint_Exact fu y3 y1) fun (y4, x10) =>
 ckI i1 (t7.length) fun j4 =>
 nm (t7.set j4 y4) fun t8 =>
 ckN i1 fun j5 =>
 ck (32 * j5 ≤ 281474976710656) <|
 nm (List.replicate j5 (false, [])) fun t9 =>
 ckI i1 (t8.length) fun j6 =>
 nm ((t8.getD j6 (false, []))) fun y5 =>
 bd (M_zpoly_Scale fu t5 y5) fun t10 =>
 ck ((t9.length + t10.length) * 32 ≤ 140737488355328) <|
 nm (t9 ++ t10) fun t11 =>
 bd (M_zpoly_Sub fu t6 t11) fun t12 =>
 ck64 (i1 - ((1 : Int))) fun x11 =>
 L (t5, t12, x11, t8)
 else
 some (t6, t7)
def M_zgcd_Pseudo (fu : Nat) (a0 : List Zr) (a1 : List Zr) : Option ((List Zr) × (List Zr) × Int) :=
 bd (M_zpoly_Norm fu a0) fun t1 =>
 bd (M_zpoly_Norm fu a1) fun t2 =>
 if ((t2.length : Nat) : Int) = (0 : Int) then
 some (([], [], (3 : Int)))
 else
 ck64 ((((t1.length : Nat) : Int)) - (((t2.length : Nat) : Int))) fun x1 =>
 ck64 (x1 + ((1 : Int))) fun x2 =>
 nm (max x2 ((0 : Int))) fun x3 =>
 ck64 ((((t2.length : Nat) : Int)) - ((1 : Int))) fun x4 =>
 ckI x4 (t2.length) fun j1 =>
 nm ((t2.getD j1 (false, []))) fun y1 =>
 bd (M_zgcd_power fu y1 x3) fun y2 =>
 bd (M_zpoly_Scale fu t1 y2) fun t3 =>
 ckN x3 fun j2 =>
 ck (32 * j2 ≤ 281474976710656) <|
 nm (List.replicate j2 (false, [])) fun t4 =>
 ck64 (x3 - ((1 : Int))) fun x5 =>
 bd (loopN (B_zgcd_Pseudo_0 fu y1) fu (t2, t3, x5, t4)) fun (t13, t14) =>
 bd (M_zpoly_Norm fu t14) fun t15 =>
 some ((t15, t13, (0 : Int)))
def B_zgcd_Gcd_0 (fu : Nat)  : (((List Zr) × (List Zr)) → Option (List Zr)) → ((List Zr) × (List Zr)) → Option (List Zr) := fun L (t3, t4) =>
 if (0 : Int) < ((t4.length : Nat) : Int) then
 bd (M_zgcd_Pseudo fu t3 t4) fun (t5, t6, x1) =>
 bd (M_zpoly_Prim fu t6) fun t7 =>
 L (t4, t7)
 else
 some t3
def M_zgcd_Gcd (fu : Nat) (a0 : List Zr) (a1 : List Zr) : Option (List Zr) :=
 bd (M_zpoly_Content fu a0) fun y1 =>
 bd (M_zpoly_Content fu a1) fun y2 =>
 bd (M_zint_Gcd fu y1 y2) fun y3 =>
 bd (M_zpoly_Prim fu a0) fun t1 =>
 bd (M_zpoly_Prim fu a1) fun t2 =>
 bd (loopN (B_zgcd_Gcd_0 fu ) fu (t1, t2)) fun t8 =>
 bd (M_zpoly_Scale fu t8 y3) fun t9 =>
 some t9
def M_zpoly_Deriv_1 (fu : Nat) (a0 : Int) (a1 : Zr) : Option Zr :=
 bd (M_zint_Of fu a0) fun y1 =>
 bd (M_zint_Mul fu a1 y1) fun y2 =>
 some y2
def M_zpoly_Deriv (fu : Nat) (a0 : List Zr) : Option (List Zr) :=
 bd (M_zpoly_each_api_Int_api_Int fu a0 (fun zx0 zx1 => M_zpoly_Deriv_1 fu zx0 zx1)) fun t1 =>
 nm (min (((t1.length : Nat) : Int)) ((1 : Int))) fun x1 =>
 ckN x1 fun j1 =>
 ck (j1 ≤ t1.length) <|
 nm (t1.drop j1) fun t2 =>
 bd (M_zpoly_Norm fu t2) fun t3 =>
 some t3
def M_zsqf_by (fu : Nat) (a0 : List Zr) (a1 : List Zr) : Option (List Zr) :=
 bd (M_zpoly_Div fu a0 a1) fun (t1, x1) =>
 some t1
def M_zsqf_Radical (fu : Nat) (a0 : List Zr) : Option ((List Zr) × Int) :=
 bd (M_zsqf_wrong fu a0) fun x1 =>
 if x1 = (0 : Int) then
 bd (M_zpoly_Prim fu a0) fun t1 =>
 bd (M_zpoly_Deriv fu t1) fun t2 =>
 bd (M_zgcd_Gcd fu t1 t2) fun t3 =>
 bd (M_zsqf_by fu t1 t3) fun t4 =>
 some ((t4, (0 : Int)))
 else
 some ([], x1)
def B_zfac_Factors_0 (fu : Nat) (a0 : List Zr) (t2 : List (List Zr)) : (((List ((List Zr) × Int)) × Int × Zr × (List (List Zr))) → Option ((List ((List Zr) × Int)) × Zr)) → ((List ((List Zr) × Int)) × Int × Zr × (List (List Zr))) → Option ((List ((List Zr) × Int)) × Zr) := fun L (t3, i1, t4, t5) =>
 bd ((if i1 < ((t2.length : Nat) : Int) then
 some ((a0, ((t2.length : Nat) : Int), true))
 else
 some ((a0, ((t2.length : Nat) : Int), false)) : Option ((List Zr) × Int × Bool))) fun (t6, i2, b1) =>
 if b1 = true then
 ckI i1 (t5.length) fun j1 =>
 nm ((t5.getD j1 [])) fun t7 =>
 bd (M_zfac_often fu t6 t7) fun x2 =>
 ck ((t3.length + ([(t7, x2)]).length) * 32 ≤ 140737488355328) <|
 nm (t3 ++ ([(t7, x2)])) fun t8 =>
 ck64 (i1 + ((1 : Int))) fun x3 =>
 L (t8, x3, t4, t5)
 else
 some (t3, t4)
def M_zfac_Factors (fu : Nat) (a0 : List Zr) (a1 : List Int) : Option (Zr × (List ((List Zr) × Int)) × Int) :=
 bd (M_zsqf_Radical fu a0) fun (t1, x1) =>
 if x1 = (0 : Int) then
 bd (M_zfac_split fu t1 a1) fun (t2, c1) =>
 if ((!c1)) = true then
 some (((false, []), [], (6 : Int)))
 else
 bd (loopN (B_zfac_Factors_0 fu a0 t2) fu (([], (0 : Int), (false, []), t2))) fun (t9, t10) =>
 bd (M_zpoly_Content fu a0) fun y1 =>
 some ((y1, t9, (0 : Int)))
 else
 some (((false, []), [], x1))
def M_zfac_Irreducible (fu : Nat) (a0 : List Zr) : Option (Bool × Int) :=
 bd (M_zfac_Factors fu a0 []) fun (y1, t1, x1) =>
 if x1 = (0 : Int) then
 if ((t1.length : Nat) : Int) = (1 : Int) then
 ckI ((0 : Int)) (t1.length) fun j1 =>
 nm (((t1.getD j1 ([], 0))).2) fun x2 =>
 if x2 = (1 : Int) then
 some (true, x1)
 else
 some (false, x1)
 else
 some (false, x1)
 else
 some (false, x1)
def B_field_New_0 (fu : Nat) (t1 : List Zr) : ((Int × (((List Zr) × (List (Zr × (List Nat)))) × (List (Zr × (List Nat))))) → Option (((List Zr) × (List (Zr × (List Nat)))) × (List (Zr × (List Nat))))) → (Int × (((List Zr) × (List (Zr × (List Nat)))) × (List (Zr × (List Nat))))) → Option (((List Zr) × (List (Zr × (List Nat)))) × (List (Zr × (List Nat)))) := fun L (i1, t2) =>
 bd ((if i1 < ((t1.length : Nat) : Int) then
 some ((t1, t1, ((t1.length : Nat) : Int), true))
 else
 some ((t1, t1, ((t1.length : Nat) : Int), false)) : Option ((List Zr) × (List Zr) × Int × Bool))) fun (t3, t4, i2, b1) =>
 if b1 = true then
 ckI i1 (t4.length) fun j1 =>
 nm (t4.getD j1 (false, [])) fun y1 =>
 ck64 ((((t3.length : Nat) : Int)) - ((1 : Int))) fun x2 =>
 ckI x2 (t3.length) fun j2 =>
 nm (t3.getD j2 (false, [])) fun y2 =>
 bd (M_rat_Make fu y1 y2) fun (y3, x3) =>
 ck ((t2.2.length + ([y3]).length) * 56 ≤ 140737488355328) <|
 nm (t2.2 ++ ([y3])) fun t5 =>
 ck64 (i1 + ((1 : Int))) fun x4 =>
 L ((x4, (t2.1, t5)))
 else
 some (t2.1, t2.2)
def M_field_New (fu : Nat) (a0 : List Zr) : Option ((Option ((List Zr) × (List (Zr × (List Nat))))) × Int) :=
 bd (M_zpoly_Prim fu a0) fun t1 =>
 if (17 : Int) < ((t1.length : Nat) : Int) then
 some (((none : Option ((List Zr) × (List (Zr × (List Nat))))), (6 : Int)))
 else
 if ((t1.length : Nat) : Int) < (2 : Int) then
 some (((none : Option ((List Zr) × (List (Zr × (List Nat))))), (7 : Int)))
 else
 bd (M_zfac_Irreducible fu t1) fun (c1, x1) =>
 if x1 = (0 : Int) then
 if ((!c1)) = true then
 some (((none : Option ((List Zr) × (List (Zr × (List Nat))))), (7 : Int)))
 else
 bd (loopN (B_field_New_0 fu t1) fu (((0 : Int), ((t1, []), ([] : List (Zr × (List Nat))))))) fun t6 =>
 some (((some (t6.1.1, t6.2)), (0 : Int)))
 else
 some (((none : Option ((List Zr) × (List (Zr × (List Nat))))), (6 : Int)))
def M_field_Field_bad (fu : Nat) (a0 : Option ((List Zr) × (List (Zr × (List Nat))))) : Option Bool :=
 if (a0).isNone = true then
 some true
 else
 bd (a0) fun y1 =>
 if ((y1.1.length : Nat) : Int) = (0 : Int) then
 some true
 else
 some false
def M_rat_Of (fu : Nat) (a0 : Int) : Option (Zr × (List Nat)) :=
 bd (M_zint_Of fu a0) fun y1 =>
 some ((y1, [(1 : Nat)]))
def M_rat_den (fu : Nat) (a0 : Zr × (List Nat)) : Option Zr :=
 bd (M_zint_Norm fu (false, a0.2)) fun y1 =>
 some y1
def M_rat_Norm (fu : Nat) (a0 : Zr × (List Nat)) : Option (Zr × (List Nat)) :=
 bd (M_rat_den fu a0) fun y1 =>
 bd (M_rat_Make fu a0.1 y1) fun (y2, x1) =>
 if x1 = (0 : Int) then
 some y2
 else
 bd (M_rat_Of fu (0 : Int)) fun y3 =>
 some y3
def M_rat_Mul (fu : Nat) (a0 : Zr × (List Nat)) (a1 : Zr × (List Nat)) : Option (Zr × (List Nat)) :=
 bd (M_rat_Norm fu a0) fun y1 =>
 bd (M_rat_Norm fu a1) fun y2 =>
 bd (M_zint_Mul fu y1.1 y2.1) fun y3 =>
 bd (M_nat_Mul fu y1.2 y2.2) fun t1 =>
 bd (M_rat_Norm fu (y3, t1)) fun y4 =>
 some y4
def M_rat_Sign (fu : Nat) (a0 : Zr × (List Nat)) : Option Int :=
 bd (M_rat_Norm fu a0) fun y1 =>
 bd (M_zint_Sign fu y1.1) fun x1 =>
 some x1
def M_rat_crossed (fu : Nat) (a0 : Zr × (List Nat)) (a1 : Zr × (List Nat)) (a2 : Zr → Zr → Option Zr) : Option (Zr × (List Nat)) :=
 bd (M_rat_Norm fu a0) fun y1 =>
 bd (M_rat_Norm fu a1) fun y2 =>
 bd (M_rat_den fu y2) fun y3 =>
 bd (M_zint_Mul fu y1.1 y3) fun y4 =>
 bd (M_rat_den fu y1) fun y5 =>
 bd (M_zint_Mul fu y2.1 y5) fun y6 =>
 bd (a2 y4 y6) fun y7 =>
 bd (M_nat_Mul fu y1.2 y2.2) fun t1 =>
 bd (M_rat_Norm fu (y7, t1)) fun y8 =>
 some y8
def M_rat_joined_1 (fu : Nat) (a0 : Zr) (a1 : Zr) (a2 : Bool) : Option Zr :=
 if a2 = true then
 bd (M_zint_Sub fu a0 a1) fun y1 =>
 some y1
 else
 bd (M_zint_Add fu a0 a1) fun y2 =>
 some y2
def M_rat_joined (fu : Nat) (a0 : Zr × (List Nat)) (a1 : Zr × (List Nat)) (a2 : Bool) : Option (Zr × (List Nat)) :=
 bd (M_rat_crossed fu a0 a1 (fun zx0 zx1 => M_rat_joined_1 fu zx0 zx1 a2)) fun y1 =>
 some y1
def M_rat_Sub (fu : Nat) (a0 : Zr × (List Nat)) (a1 : Zr × (List Nat)) : Option (Zr × (List Nat)) :=
 bd (M_rat_joined fu a0 a1 true) fun y1 =>
 some y1
def B_field_root_red_0 (fu : Nat) (a0 : (List Zr) × (List (Zr × (List Nat)))) (a1 : List (Zr × (List Nat))) : ((Int × (List (Zr × (List Nat)))) → Option (List (Zr × (List Nat)))) → (Int × (List (Zr × (List Nat)))) → Option (List (Zr × (List Nat))) := fun L (i1, t2) =>
 bd ((if i1 < ((a1.length : Nat) : Int) then
 some ((a0, a1, ((a1.length : Nat) : Int), true))
 else
 some ((a0, a1, ((a1.length : Nat) : Int), false)) : Option (((List Zr) × (List (Zr × (List Nat)))) × (List (Zr × (List Nat))) × Int × Bool))) fun (t3, t4, i2, b1) =>
 if b1 = true then
 ckI i1 (t4.length) fun j2 =>
 nm (t4.getD j2 (((false, []), []))) fun y1 =>
 bd (M_rat_Norm fu y1) fun y2 =>
 ckI i1 (t2.length) fun j3 =>
 nm (t2.set j3 y2) fun t5 =>
 ck64 (i1 + ((1 : Int))) fun x1 =>
 L (x1, t5)
 else
 some t2
def B_field_root_red_2 (fu : Nat) (i3 : Int) (t8 : (List Zr) × (List (Zr × (List Nat)))) (i4 : Int) : ((Int × (List (Zr × (List Nat))) × (Zr × (List Nat))) → Option (List (Zr × (List Nat)))) → (Int × (List (Zr × (List Nat))) × (Zr × (List Nat))) → Option (List (Zr × (List Nat))) := fun L (i5, t9, t10) =>
 bd ((if i5 < i4 then
 some (t8, i4, i3, i4, true)
 else
 some (t8, i4, i3, i4, false) : Option (((List Zr) × (List (Zr × (List Nat)))) × Int × Int × Int × Bool))) fun (t11, i6, i7, i8, b3) =>
 if b3 = true then
 ck64 (i7 - i6) fun x4 =>
 ck64 (x4 + i5) fun x5 =>
 ck64 (i7 - i6) fun x6 =>
 ck64 (x6 + i5) fun x7 =>
 ckI x7 (t9.length) fun j5 =>
 nm ((t9.getD j5 (((false, []), [])))) fun y4 =>
 ckI i5 (t11.2.length) fun j6 =>
 nm (t11.2.getD j6 (((false, []), []))) fun y5 =>
 bd (M_rat_Mul fu t10 y5) fun y6 =>
 bd (M_rat_Sub fu y4 y6) fun y7 =>
 ckI x5 (t9.length) fun j7 =>
 nm (t9.set j7 y7) fun t12 =>
 ck64 (i5 + ((1 : Int))) fun x8 =>
 L (x8, t12, t10)
 else
 some t9
def B_field_root_red_1 (fu : Nat) (a0 : (List Zr) × (List (Zr × (List Nat)))) (x2 : Int) : (((List (Zr × (List Nat))) × Int) → Option ((List (Zr × (List Nat))) ⊕ (List (Zr × (List Nat))))) → ((List (Zr × (List Nat))) × Int) → Option ((List (Zr × (List Nat))) ⊕ (List (Zr × (List Nat)))) := fun L (t7, i3) =>
 if (0 : Int) ≤ i3 then
 ckI i3 (t7.length) fun j4 =>
 nm ((t7.getD j4 (((false, []), [])))) fun y3 =>
 bd ((if x2 ≤ i3 then
 some (a0, x2, true)
 else
 some (a0, x2, false) : Option (((List Zr) × (List (Zr × (List Nat)))) × Int × Bool))) fun (t8, i4, b2) =>
 if b2 = true then
 bd (loopN (B_field_root_red_2 fu i3 t8 i4) fu (((0 : Int), t7, y3))) fun t13 =>
 ckN i3 fun j8 =>
 ck (j8 ≤ t13.length) <|
 nm (t13.take j8) fun t14 =>
 ck64 (i3 - ((1 : Int))) fun x9 =>
 L (t14, x9)
 else
 bd (M_rat_Sign fu y3) fun x10 =>
 if x10 = (0 : Int) then
 ckN i3 fun j9 =>
 ck (j9 ≤ t7.length) <|
 nm (t7.take j9) fun t15 =>
 ck64 (i3 - ((1 : Int))) fun x11 =>
 L (t15, x11)
 else
 ck64 (i3 + ((1 : Int))) fun x12 =>
 ckN x12 fun j10 =>
 ck (j10 ≤ t7.length) <|
 nm (t7.take j10) fun t16 =>
 some (.inr t16)
 else
 some (.inl t7)
def M_field_root_red (fu : Nat) (a0 : (List Zr) × (List (Zr × (List Nat)))) (a1 : List (Zr × (List Nat))) : Option (List (Zr × (List Nat))) :=
 ckN (((a1.length : Nat) : Int)) fun j1 =>
 ck (56 * j1 ≤ 281474976710656) <|
 nm (List.replicate j1 (((false, []), []))) fun t1 =>
 bd (loopN (B_field_root_red_0 fu a0 a1) fu (((0 : Int), t1))) fun t6 =>
 ck64 ((((a0.2.length : Nat) : Int)) - ((1 : Int))) fun x2 =>
 ck64 ((((t6.length : Nat) : Int)) - ((1 : Int))) fun x3 =>
 bd (loopN (B_field_root_red_1 fu a0 x2) fu (t6, x3)) fun s1 => match s1 with
 | .inl t17 =>
 some t17
 | .inr t18 =>
 some t18
def M_rat_Add (fu : Nat) (a0 : Zr × (List Nat)) (a1 : Zr × (List Nat)) : Option (Zr × (List Nat)) :=
 bd (M_rat_joined fu a0 a1 false) fun y1 =>
 some y1
def B_field_root_product_1 (fu : Nat) (i1 : Int) (t4 : List (Zr × (List Nat))) (t6 : (List Zr) × (List (Zr × (List Nat)))) (t7 : List (Zr × (List Nat))) (i2 : Int) : ((Int × (List (Zr × (List Nat))) × (List (Zr × (List Nat))) × (Zr × (List Nat))) → Option ((List (Zr × (List Nat))) × (List (Zr × (List Nat))))) → (Int × (List (Zr × (List Nat))) × (List (Zr × (List Nat))) × (Zr × (List Nat))) → Option ((List (Zr × (List Nat))) × (List (Zr × (List Nat)))) := fun L (i3, t8, t9, t10) =>
 bd ((if i3 < ((t4.length : Nat) : Int) then
 some ((t6, i1, t7, i2, i1, ((t4.length : Nat) : Int), true))
 else
 some ((t6, i1, t7, i2, i1, ((t4.length : Nat) : Int), false)) : Option (((List Zr) × (List (Zr × (List Nat)))) × Int × (List (Zr × (List Nat))) × Int × Int × Int × Bool))) fun (t11, i4, t12, i5, i6, i7, b2) =>
 if b2 = true then
 ckI i3 (t8.length) fun j3 =>
 nm ((t8.getD j3 (((false, []), [])))) fun y2 =>
 ck64 (i4 + i3) fun x2 =>
 ck64 (i4 + i3) fun x3 =>
 ckI x3 (t9.length) fun j4 =>
 nm ((t9.getD j4 (((false, []), [])))) fun y3 =>
 bd (M_rat_Mul fu t10 y2) fun y4 =>
 bd (M_rat_Add fu y3 y4) fun y5 =>
 ckI x2 (t9.length) fun j5 =>
 nm (t9.set j5 y5) fun t13 =>
 ck64 (i3 + ((1 : Int))) fun x4 =>
 L (x4, t8, t13, t10)
 else
 some (t8, t9)
def B_field_root_product_0 (fu : Nat) (a0 : (List Zr) × (List (Zr × (List Nat)))) (t1 : List (Zr × (List Nat))) : ((Int × (List (Zr × (List Nat))) × (List (Zr × (List Nat)))) → Option (List (Zr × (List Nat)))) → (Int × (List (Zr × (List Nat))) × (List (Zr × (List Nat)))) → Option (List (Zr × (List Nat))) := fun L (i1, t4, t5) =>
 bd ((if i1 < ((t1.length : Nat) : Int) then
 some ((a0, t1, ((t1.length : Nat) : Int), true))
 else
 some ((a0, t1, ((t1.length : Nat) : Int), false)) : Option (((List Zr) × (List (Zr × (List Nat)))) × (List (Zr × (List Nat))) × Int × Bool))) fun (t6, t7, i2, b1) =>
 if b1 = true then
 ckI i1 (t7.length) fun j2 =>
 nm (t7.getD j2 (((false, []), []))) fun y1 =>
 bd (loopN (B_field_root_product_1 fu i1 t4 t6 t7 i2) fu (((0 : Int), t4, t5, y1))) fun (t14, t15) =>
 ck64 (i1 + ((1 : Int))) fun x5 =>
 L (x5, t14, t15)
 else
 some t5
def M_field_root_product (fu : Nat) (a0 : (List Zr) × (List (Zr × (List Nat)))) (a1 : List (Zr × (List Nat))) (a2 : List (Zr × (List Nat))) : Option (List (Zr × (List Nat))) :=
 bd (M_field_root_red fu a0 a1) fun t1 =>
 bd (M_field_root_red fu a0 a2) fun t2 =>
 ck64 ((((t1.length : Nat) : Int)) + (((t2.length : Nat) : Int))) fun x1 =>
 ckN x1 fun j1 =>
 ck (56 * j1 ≤ 281474976710656) <|
 nm (List.replicate j1 (((false, []), []))) fun t3 =>
 bd (loopN (B_field_root_product_0 fu a0 t1) fu (((0 : Int), t2, t3))) fun t16 =>
 bd (M_field_root_red fu a0 t16) fun t17 =>
 some t17
def B_field_root_sum_0 (fu : Nat) (a0 : (List Zr) × (List (Zr × (List Nat)))) (a2 : List (Zr × (List Nat))) (a3 : Int) : ((Int × (List (Zr × (List Nat)))) → Option (List (Zr × (List Nat)))) → (Int × (List (Zr × (List Nat)))) → Option (List (Zr × (List Nat))) := fun L (i1, t3) =>
 bd ((if i1 < ((a2.length : Nat) : Int) then
 some ((a3, a0, a2, ((a2.length : Nat) : Int), true))
 else
 some ((a3, a0, a2, ((a2.length : Nat) : Int), false)) : Option (Int × ((List Zr) × (List (Zr × (List Nat)))) × (List (Zr × (List Nat))) × Int × Bool))) fun (i2, t4, t5, i3, b1) =>
 if b1 = true then
 ckI i1 (t5.length) fun j2 =>
 nm (t5.getD j2 (((false, []), []))) fun y1 =>
 ckI i1 (t3.length) fun j3 =>
 nm ((t3.getD j3 (((false, []), [])))) fun y2 =>
 bd (M_rat_Of fu i2) fun y3 =>
 bd (M_rat_Mul fu y1 y3) fun y4 =>
 bd (M_rat_Add fu y2 y4) fun y5 =>
 ckI i1 (t3.length) fun j4 =>
 nm (t3.set j4 y5) fun t6 =>
 ck64 (i1 + ((1 : Int))) fun x2 =>
 L (x2, t6)
 else
 some t3
def M_field_root_sum (fu : Nat) (a0 : (List Zr) × (List (Zr × (List Nat)))) (a1 : List (Zr × (List Nat))) (a2 : List (Zr × (List Nat))) (a3 : Int) : Option (List (Zr × (List Nat))) :=
 nm (max (((a1.length : Nat) : Int)) (((a2.length : Nat) : Int))) fun x1 =>
 ckN x1 fun j1 =>
 ck (56 * j1 ≤ 281474976710656) <|
 nm (List.replicate j1 (((false, []), []))) fun t1 =>
 nm (cpy t1 a1) fun t2 =>
 bd (loopN (B_field_root_sum_0 fu a0 a2 a3) fu (((0 : Int), t2))) fun t7 =>
 bd (M_field_root_red fu a0 t7) fun t8 =>
 some t8
def B_field_trim_0 (fu : Nat)  : ((List (Zr × (List Nat))) → Option (List (Zr × (List Nat)))) → (List (Zr × (List Nat))) → Option (List (Zr × (List Nat))) := fun L t1 =>
 if (0 : Int) < ((t1.length : Nat) : Int) then
 ck64 ((((t1.length : Nat) : Int)) - ((1 : Int))) fun x1 =>
 ckI x1 (t1.length) fun j1 =>
 nm (t1.getD j1 (((false, []), []))) fun y1 =>
 bd (M_rat_Sign fu y1) fun x2 =>
 if x2 = (0 : Int) then
 ck64 ((((t1.length : Nat) : Int)) - ((1 : Int))) fun x3 =>
 ckN x3 fun j2 =>
 ck (j2 ≤ t1.length) <|
 nm (t1.take j2) fun t2 =>
 L t2
 else
 some t1
 else
 some t1
def M_field_trim (fu : Nat) (a0 : List (Zr × (List Nat))) : Option (List (Zr × (List Nat))) :=
 bd (loopN (B_field_trim_0 fu ) fu a0) fun t3 =>
 some t3
def M_rat_Div (fu : Nat) (a0 : Zr × (List Nat)) (a1 : Zr × (List Nat)) : Option ((Zr × (List Nat)) × Int) :=
 bd (M_rat_Norm fu a0) fun y1 =>
 bd (M_rat_Norm fu a1) fun y2 =>
 bd (M_rat_den fu y2) fun y3 =>
 bd (M_zint_Mul fu y1.1 y3) fun y4 =>
 bd (M_rat_den fu y1) fun y5 =>
 bd (M_zint_Mul fu y2.1 y5) fun y6 =>
 bd (M_rat_Make fu y4 y6) fun (y7, x1) =>
 some (y7, x1)
end
section
set_option maxRecDepth 100000
def B_field_quotient_1 (fu : Nat) (a1 : List (Zr × (List Nat))) (i1 : Int) : (((List (Zr × (List Nat))) × Int × (List (Zr × (List Nat))) × (List (Zr × (List Nat)))) → Option ((List (Zr × (List Nat))) × (List (Zr × (List Nat))) × (List (Zr × (List Nat))))) → ((List (Zr × (List Nat))) × Int × (List (Zr × (List Nat))) × (List (Zr × (List Nat)))) → Option ((List (Zr × (List Nat))) × (List (Zr × (List Nat))) × (List (Zr × (List Nat)))) := fun L (t6, i2, t7, t8) =>
 bd ((if i2 < ((a1.length : Nat) : Int) then
 some ((i1, a1, ((a1.length : Nat) : Int), true))
 else
 some ((i1, a1, ((a1.length : Nat) : Int), false)) : Option (Int × (List (Zr × (List Nat))) × Int × Bool))) fun (i3, t9, i4, b1) =>
 if b1 = true then
 ckI i2 (t9.length) fun j5 =>
 nm (t9.getD j5 (((false, []), []))) fun y4 =>
 ck64 (i3 + i2) fun x9 =>
 ck64 (i3 + i2) fun x10 =>
 ckI x10 (t8.length) fun j6 =>
 nm ((t8.getD j6 (((false, []), [])))) fun y5 =>
 ckI i3 (t7.length) fun j7 =>
 nm ((t7.getD j7 (((false, []), [])))) fun y6 =>
 bd (M_rat_Mul fu y6 y4) fun y7 =>
 bd (M_rat_Sub fu y5 y7) fun y8 =>
 ckI x9 (t8.length) fun j8 =>
 nm (t8.set j8 y8) fun t10 =>
 ck64 (i2 + ((1 : Int))) fun x11 =>
 L (t6, x11, t7, t10)
 else
 some (t6, t7, t8)
def B_field_quotient_0 (fu : Nat) (a1 : List (Zr × (List Nat))) : ((Int × (List (Zr × (List Nat))) × (List (Zr × (List Nat)))) → Option ((List (Zr × (List Nat))) × (List (Zr × (List Nat))))) → (Int × (List (Zr × (List Nat))) × (List (Zr × (List Nat)))) → Option ((List (Zr × (List Nat))) × (List (Zr × (List Nat)))) := fun L (i1, t3, t4) =>
 if (0 : Int) ≤ i1 then
 ck64 (i1 + (((a1.length : Nat) : Int))) fun x5 =>
 ck64 (x5 - ((1 : Int))) fun x6 =>
 ckI x6 (t4.length) fun j2 =>
 nm ((t4.getD j2 (((false, []), [])))) fun y1 =>
 ck64 ((((a1.length : Nat) : Int)) - ((1 : Int))) fun x7 =>
 ckI x7 (a1.length) fun j3 =>
 nm (a1.getD j3 (((false, []), []))) fun y2 =>
 bd (M_rat_Div fu y1 y2) fun (y3, x8) =>
 ckI i1 (t3.length) fun j4 =>
 nm (t3.set j4 y3) fun t5 =>
 bd (loopN (B_field_quotient_1 fu a1 i1) fu ((a1, (0 : Int), t5, t4))) fun (t11, t12, t13) =>
 ck64 (i1 - ((1 : Int))) fun x12 =>
 L (x12, t12, t13)
 else
 some (t3, t4)
def M_field_quotient (fu : Nat) (a0 : List (Zr × (List Nat))) (a1 : List (Zr × (List Nat))) : Option ((List (Zr × (List Nat))) × (List (Zr × (List Nat)))) :=
 ck64 ((((a0.length : Nat) : Int)) - (((a1.length : Nat) : Int))) fun x1 =>
 ck64 (x1 + ((1 : Int))) fun x2 =>
 nm (max x2 ((0 : Int))) fun x3 =>
 ckN x3 fun j1 =>
 ck (56 * j1 ≤ 281474976710656) <|
 nm (List.replicate j1 (((false, []), []))) fun t1 =>
 ck (((([] : List (Zr × (List Nat)))).length + a0.length) * 56 ≤ 140737488355328) <|
 nm ((([] : List (Zr × (List Nat)))) ++ a0) fun t2 =>
 ck64 ((((t1.length : Nat) : Int)) - ((1 : Int))) fun x4 =>
 bd (loopN (B_field_quotient_0 fu a1) fu (x4, t1, t2)) fun (t14, t15) =>
 bd (M_field_trim fu t14) fun t16 =>
 bd (M_field_trim fu t15) fun t17 =>
 some (t16, t17)
def B_field_Field_Inv_0 (fu : Nat) (a0 : Option ((List Zr) × (List (Zr × (List Nat))))) : (((List (Zr × (List Nat))) × (List (Zr × (List Nat))) × (List (Zr × (List Nat))) × (List (Zr × (List Nat)))) → Option ((List (Zr × (List Nat))) × (List (Zr × (List Nat))))) → ((List (Zr × (List Nat))) × (List (Zr × (List Nat))) × (List (Zr × (List Nat))) × (List (Zr × (List Nat)))) → Option ((List (Zr × (List Nat))) × (List (Zr × (List Nat)))) := fun L (t2, t3, t4, t5) =>
 if (1 : Int) < ((t3.length : Nat) : Int) then
 bd (M_field_quotient fu t2 t3) fun (t6, t7) =>
 bd (a0) fun y4 =>
 bd (a0) fun y5 =>
 bd (M_field_root_product fu y5 t6 t5) fun t8 =>
 bd (M_field_root_sum fu y4 t4 t8 (-1 : Int)) fun t9 =>
 L (t3, t7, t5, t9)
 else
 some (t3, t5)
def M_field_Field_Inv (fu : Nat) (a0 : Option ((List Zr) × (List (Zr × (List Nat))))) (a1 : List (Zr × (List Nat))) : Option ((List (Zr × (List Nat))) × Int) :=
 bd (M_field_Field_bad fu a0) fun c1 =>
 if c1 = true then
 some (([], (1 : Int)))
 else
 bd (a0) fun y1 =>
 bd (a0) fun y2 =>
 bd (M_field_root_red fu y2 a1) fun t1 =>
 if ((t1.length : Nat) : Int) = (0 : Int) then
 some (([], (3 : Int)))
 else
 bd (M_rat_Of fu (1 : Int)) fun y3 =>
 bd (loopN (B_field_Field_Inv_0 fu a0) fu (y1.2, t1, [], [y3])) fun (t10, t11) =>
 bd (M_rat_Of fu (1 : Int)) fun y6 =>
 ckI ((0 : Int)) (t10.length) fun j1 =>
 nm (t10.getD j1 (((false, []), []))) fun y7 =>
 bd (M_rat_Div fu y6 y7) fun (y8, x1) =>
 bd (a0) fun y9 =>
 bd (M_field_root_product fu y9 t11 [y8]) fun t12 =>
 some ((t12, (0 : Int)))
def M_field_Field_Mul (fu : Nat) (a0 : Option ((List Zr) × (List (Zr × (List Nat))))) (a1 : List (Zr × (List Nat))) (a2 : List (Zr × (List Nat))) : Option ((List (Zr × (List Nat))) × Int) :=
 bd (M_field_Field_bad fu a0) fun c1 =>
 if c1 = true then
 some (([], (1 : Int)))
 else
 bd (a0) fun y1 =>
 bd (M_field_root_product fu y1 a1 a2) fun t1 =>
 some ((t1, (0 : Int)))
def M_field_Field_Sub (fu : Nat) (a0 : Option ((List Zr) × (List (Zr × (List Nat))))) (a1 : List (Zr × (List Nat))) (a2 : List (Zr × (List Nat))) : Option ((List (Zr × (List Nat))) × Int) :=
 bd (M_field_Field_bad fu a0) fun c1 =>
 if c1 = true then
 some (([], (1 : Int)))
 else
 bd (a0) fun y1 =>
 bd (M_field_root_sum fu y1 a1 a2 (-1 : Int)) fun t1 =>
 some ((t1, (0 : Int)))
def M_field_Field_Red (fu : Nat) (a0 : Option ((List Zr) × (List (Zr × (List Nat))))) (a1 : List (Zr × (List Nat))) : Option ((List (Zr × (List Nat))) × Int) :=
 bd (M_field_Field_bad fu a0) fun c1 =>
 if c1 = true then
 some (([], (1 : Int)))
 else
 bd (a0) fun y1 =>
 bd (M_field_root_red fu y1 a1) fun t1 =>
 some ((t1, (0 : Int)))
def M_npoly_sure (fu : Nat) (a0 : List (Zr × (List Nat))) (a1 : Int) : Option (PX ⊕ (List (Zr × (List Nat)))) :=
 if a1 = (0 : Int) then
 some (.inr a0)
 else
 some (.inl (159, a1))
def B_npoly_over_plain_0 (fu : Nat) (a0 : Option ((List Zr) × (List (Zr × (List Nat))))) (a1 : List (List (Zr × (List Nat)))) : ((Int × (List (List (Zr × (List Nat))))) → Option ((List (List (Zr × (List Nat)))) ⊕ (PX × Unit))) → (Int × (List (List (Zr × (List Nat))))) → Option ((List (List (Zr × (List Nat)))) ⊕ (PX × Unit)) := fun L (i1, t4) =>
 bd ((if i1 < ((a1.length : Nat) : Int) then
 some ((a0, a1, ((a1.length : Nat) : Int), true))
 else
 some ((a0, a1, ((a1.length : Nat) : Int), false)) : Option ((Option ((List Zr) × (List (Zr × (List Nat))))) × (List (List (Zr × (List Nat)))) × Int × Bool))) fun (t5, t6, i2, b1) =>
 if b1 = true then
 ckI i1 (t6.length) fun j2 =>
 nm (t6.getD j2 []) fun y1 =>
 bd (M_field_Field_Red fu t5 y1) fun (t7, x2) =>
 bd (M_npoly_sure fu t7 x2) fun z2 => match z2 with
 | .inl q2 =>
 (some (.inr ((q2, ()))))
 | .inr t8 =>
 ckI i1 (t4.length) fun j3 =>
 nm (t4.set j3 t8) fun t9 =>
 ck64 (i1 + ((1 : Int))) fun x3 =>
 L (x3, t9)
 else
 some (.inl t4)
def B_npoly_over_plain_1 (fu : Nat)  : ((List (List (Zr × (List Nat)))) → Option (List (List (Zr × (List Nat))))) → (List (List (Zr × (List Nat)))) → Option (List (List (Zr × (List Nat)))) := fun L t11 =>
 if (0 : Int) < ((t11.length : Nat) : Int) then
 ck64 ((((t11.length : Nat) : Int)) - ((1 : Int))) fun x4 =>
 ckI x4 (t11.length) fun j4 =>
 nm ((t11.getD j4 [])) fun t12 =>
 if ((t12.length : Nat) : Int) = (0 : Int) then
 ck64 ((((t11.length : Nat) : Int)) - ((1 : Int))) fun x5 =>
 ckN x5 fun j5 =>
 ck (j5 ≤ t11.length) <|
 nm (t11.take j5) fun t13 =>
 L t13
 else
 some t11
 else
 some t11
def M_npoly_over_plain (fu : Nat) (a0 : Option ((List Zr) × (List (Zr × (List Nat))))) (a1 : List (List (Zr × (List Nat)))) : Option (PX ⊕ (List (List (Zr × (List Nat))))) :=
 bd (M_field_Field_Red fu a0 []) fun (t1, x1) =>
 bd (M_npoly_sure fu t1 x1) fun z1 => match z1 with
 | .inl q1 =>
 (some (.inl q1))
 | .inr t2 =>
 ckN (((a1.length : Nat) : Int)) fun j1 =>
 ck (24 * j1 ≤ 281474976710656) <|
 nm (List.replicate j1 []) fun t3 =>
 bd (loopN (B_npoly_over_plain_0 fu a0 a1) fu (((0 : Int), t3))) fun s1 => match s1 with
 | .inl t10 =>
 bd (loopN (B_npoly_over_plain_1 fu ) fu t10) fun t14 =>
 some (.inr t14)
 | .inr (q3, _) =>
 some (.inl q3)
def B_npoly_over_divided_1 (fu : Nat) (i1 : Int) (t7 : List (List (Zr × (List Nat)))) : (((Option ((List Zr) × (List (Zr × (List Nat))))) × (List (Zr × (List Nat))) × Int × (List (List (Zr × (List Nat)))) × (List (List (Zr × (List Nat)))) × (List (List (Zr × (List Nat))))) → Option (((Option ((List Zr) × (List (Zr × (List Nat))))) × (List (Zr × (List Nat))) × (List (List (Zr × (List Nat)))) × (List (List (Zr × (List Nat)))) × (List (List (Zr × (List Nat))))) ⊕ (PX × Unit))) → ((Option ((List Zr) × (List (Zr × (List Nat))))) × (List (Zr × (List Nat))) × Int × (List (List (Zr × (List Nat)))) × (List (List (Zr × (List Nat)))) × (List (List (Zr × (List Nat))))) → Option (((Option ((List Zr) × (List (Zr × (List Nat))))) × (List (Zr × (List Nat))) × (List (List (Zr × (List Nat)))) × (List (List (Zr × (List Nat)))) × (List (List (Zr × (List Nat))))) ⊕ (PX × Unit)) := fun L (t14, t15, i2, t16, t17, t18) =>
 bd ((if i2 < ((t7.length : Nat) : Int) then
 some ((i1, ((t7.length : Nat) : Int), true))
 else
 some ((i1, ((t7.length : Nat) : Int), false)) : Option (Int × Int × Bool))) fun (i3, i4, b1) =>
 if b1 = true then
 ckI i2 (t16.length) fun j5 =>
 nm ((t16.getD j5 [])) fun t19 =>
 ck64 (i3 + i2) fun x10 =>
 ck64 (i3 + i2) fun x11 =>
 ckI x11 (t17.length) fun j6 =>
 nm ((t17.getD j6 [])) fun t20 =>
 ckI i3 (t18.length) fun j7 =>
 nm ((t18.getD j7 [])) fun t21 =>
 bd (M_field_Field_Mul fu t14 t21 t19) fun (t22, x12) =>
 bd (M_npoly_sure fu t22 x12) fun z5 => match z5 with
 | .inl q5 =>
 (some (.inr ((q5, ()))))
 | .inr t23 =>
 bd (M_field_Field_Sub fu t14 t20 t23) fun (t24, x13) =>
 bd (M_npoly_sure fu t24 x13) fun z6 => match z6 with
 | .inl q6 =>
 (some (.inr ((q6, ()))))
 | .inr t25 =>
 ckI x10 (t17.length) fun j8 =>
 nm (t17.set j8 t25) fun t26 =>
 ck64 (i2 + ((1 : Int))) fun x14 =>
 L (t14, t15, x14, t16, t26, t18)
 else
 some (.inl (t14, t15, t16, t17, t18))
def B_npoly_over_divided_0 (fu : Nat) (a0 : Option ((List Zr) × (List (Zr × (List Nat))))) (t5 : List (Zr × (List Nat))) : ((Int × (List (List (Zr × (List Nat)))) × (List (List (Zr × (List Nat)))) × (List (List (Zr × (List Nat))))) → Option (((List (List (Zr × (List Nat)))) × (List (List (Zr × (List Nat))))) ⊕ (PX × Unit))) → (Int × (List (List (Zr × (List Nat)))) × (List (List (Zr × (List Nat)))) × (List (List (Zr × (List Nat))))) → Option (((List (List (Zr × (List Nat)))) × (List (List (Zr × (List Nat))))) ⊕ (PX × Unit)) := fun L (i1, t7, t8, t9) =>
 if (0 : Int) ≤ i1 then
 ck64 (i1 + (((t7.length : Nat) : Int))) fun x7 =>
 ck64 (x7 - ((1 : Int))) fun x8 =>
 ckI x8 (t8.length) fun j3 =>
 nm ((t8.getD j3 [])) fun t10 =>
 bd (M_field_Field_Mul fu a0 t10 t5) fun (t11, x9) =>
 bd (M_npoly_sure fu t11 x9) fun z4 => match z4 with
 | .inl q4 =>
 (some (.inr ((q4, ()))))
 | .inr t12 =>
 ckI i1 (t9.length) fun j4 =>
 nm (t9.set j4 t12) fun t13 =>
 bd (loopN (B_npoly_over_divided_1 fu i1 t7) fu ((a0, t5, (0 : Int), t7, t8, t13))) fun s1 => match s1 with
 | .inl (t27, t28, t29, t30, t31) =>
 ck64 (i1 - ((1 : Int))) fun x15 =>
 L (x15, t29, t30, t31)
 | .inr (q7, _) =>
 some (.inr ((q7, ())))
 else
 some (.inl (t8, t9))
def M_npoly_over_divided (fu : Nat) (a0 : Option ((List Zr) × (List (Zr × (List Nat))))) (a1 : List (List (Zr × (List Nat)))) (a2 : List (List (Zr × (List Nat)))) : Option (PX ⊕ ((List (List (Zr × (List Nat)))) × (List (List (Zr × (List Nat)))))) :=
 bd (M_npoly_over_plain fu a0 a1) fun z1 => match z1 with
 | .inl q1 =>
 (some (.inl q1))
 | .inr t1 =>
 bd (M_npoly_over_plain fu a0 a2) fun z2 => match z2 with
 | .inl q2 =>
 (some (.inl q2))
 | .inr t2 =>
 if ((t2.length : Nat) : Int) = (0 : Int) then
 some (.inl ((159, (3 : Int))))
 else
 ck64 ((((t2.length : Nat) : Int)) - ((1 : Int))) fun x1 =>
 ckI x1 (t2.length) fun j1 =>
 nm ((t2.getD j1 [])) fun t3 =>
 bd (M_field_Field_Inv fu a0 t3) fun (t4, x2) =>
 bd (M_npoly_sure fu t4 x2) fun z3 => match z3 with
 | .inl q3 =>
 (some (.inl q3))
 | .inr t5 =>
 ck64 ((((t1.length : Nat) : Int)) - (((t2.length : Nat) : Int))) fun x3 =>
 ck64 (x3 + ((1 : Int))) fun x4 =>
 nm (max x4 ((0 : Int))) fun x5 =>
 ckN x5 fun j2 =>
 ck (24 * j2 ≤ 281474976710656) <|
 nm (List.replicate j2 []) fun t6 =>
 ck64 ((((t6.length : Nat) : Int)) - ((1 : Int))) fun x6 =>
 bd (loopN (B_npoly_over_divided_0 fu a0 t5) fu (x6, t2, t1, t6)) fun s2 => match s2 with
 | .inl (t32, t33) =>
 (bd (M_npoly_over_plain fu a0 t33) fun z7 => match z7 with
 | .inl q8 =>
 (some (.inl q8))
 | .inr t34 =>
 bd (M_npoly_over_plain fu a0 t32) fun z8 => match z8 with
 | .inl q9 =>
 (some (.inl q9))
 | .inr t35 =>
 some (.inr (t34, t35)))
 | .inr (q10, _) =>
 some (.inl q10)
def M_field_Field_Add (fu : Nat) (a0 : Option ((List Zr) × (List (Zr × (List Nat))))) (a1 : List (Zr × (List Nat))) (a2 : List (Zr × (List Nat))) : Option ((List (Zr × (List Nat))) × Int) :=
 bd (M_field_Field_bad fu a0) fun c1 =>
 if c1 = true then
 some (([], (1 : Int)))
 else
 bd (a0) fun y1 =>
 bd (M_field_root_sum fu y1 a1 a2 (1 : Int)) fun t1 =>
 some ((t1, (0 : Int)))
def B_npoly_over_product_1 (fu : Nat) (i1 : Int) (t3 : List (List (Zr × (List Nat)))) (t4 : Option ((List Zr) × (List (Zr × (List Nat))))) (t5 : List (List (Zr × (List Nat)))) (i2 : Int) (y1 : List (Zr × (List Nat))) : ((Int × (List (List (Zr × (List Nat))))) → Option ((List (List (Zr × (List Nat)))) ⊕ (PX × Unit))) → (Int × (List (List (Zr × (List Nat))))) → Option ((List (List (Zr × (List Nat)))) ⊕ (PX × Unit)) := fun L (i3, t6) =>
 bd ((if i3 < ((t3.length : Nat) : Int) then
 some ((t3, t4, i1, y1, t5, i2, i1, t3, ((t3.length : Nat) : Int), true))
 else
 some ((t3, t4, i1, y1, t5, i2, i1, t3, ((t3.length : Nat) : Int), false)) : Option ((List (List (Zr × (List Nat)))) × (Option ((List Zr) × (List (Zr × (List Nat))))) × Int × (List (Zr × (List Nat))) × (List (List (Zr × (List Nat)))) × Int × Int × (List (List (Zr × (List Nat)))) × Int × Bool))) fun (t7, t8, i4, t9, t10, i5, i6, t11, i7, b2) =>
 if b2 = true then
 ckI i3 (t11.length) fun j3 =>
 nm (t11.getD j3 []) fun y2 =>
 ck64 (i4 + i3) fun x2 =>
 ck64 (i4 + i3) fun x3 =>
 ckI x3 (t6.length) fun j4 =>
 nm ((t6.getD j4 [])) fun t12 =>
 bd (M_field_Field_Mul fu t8 t9 y2) fun (t13, x4) =>
 bd (M_npoly_sure fu t13 x4) fun z1 => match z1 with
 | .inl q1 =>
 (some (.inr ((q1, ()))))
 | .inr t14 =>
 bd (M_field_Field_Add fu t8 t12 t14) fun (t15, x5) =>
 bd (M_npoly_sure fu t15 x5) fun z2 => match z2 with
 | .inl q2 =>
 (some (.inr ((q2, ()))))
 | .inr t16 =>
 ckI x2 (t6.length) fun j5 =>
 nm (t6.set j5 t16) fun t17 =>
 ck64 (i3 + ((1 : Int))) fun x6 =>
 L (x6, t17)
 else
 some (.inl t6)
def B_npoly_over_product_0 (fu : Nat) (a0 : Option ((List Zr) × (List (Zr × (List Nat))))) (a1 : List (List (Zr × (List Nat)))) (a2 : List (List (Zr × (List Nat)))) : ((Int × (List (List (Zr × (List Nat))))) → Option ((List (List (Zr × (List Nat)))) ⊕ (PX × Unit))) → (Int × (List (List (Zr × (List Nat))))) → Option ((List (List (Zr × (List Nat)))) ⊕ (PX × Unit)) := fun L (i1, t2) =>
 bd ((if i1 < ((a1.length : Nat) : Int) then
 some ((a2, a0, a1, ((a1.length : Nat) : Int), true))
 else
 some ((a2, a0, a1, ((a1.length : Nat) : Int), false)) : Option ((List (List (Zr × (List Nat)))) × (Option ((List Zr) × (List (Zr × (List Nat))))) × (List (List (Zr × (List Nat)))) × Int × Bool))) fun (t3, t4, t5, i2, b1) =>
 if b1 = true then
 ckI i1 (t5.length) fun j2 =>
 nm (t5.getD j2 []) fun y1 =>
 bd (loopN (B_npoly_over_product_1 fu i1 t3 t4 t5 i2 y1) fu (((0 : Int), t2))) fun s1 => match s1 with
 | .inl t18 =>
 ck64 (i1 + ((1 : Int))) fun x7 =>
 L (x7, t18)
 | .inr (q3, _) =>
 some (.inr ((q3, ())))
 else
 some (.inl t2)
def M_npoly_over_product (fu : Nat) (a0 : Option ((List Zr) × (List (Zr × (List Nat))))) (a1 : List (List (Zr × (List Nat)))) (a2 : List (List (Zr × (List Nat)))) : Option (PX ⊕ (List (List (Zr × (List Nat))))) :=
 ck64 ((((a1.length : Nat) : Int)) + (((a2.length : Nat) : Int))) fun x1 =>
 ckN x1 fun j1 =>
 ck (24 * j1 ≤ 281474976710656) <|
 nm (List.replicate j1 []) fun t1 =>
 bd (loopN (B_npoly_over_product_0 fu a0 a1 a2) fu (((0 : Int), t1))) fun s2 => match s2 with
 | .inl t19 =>
 (bd (M_npoly_over_plain fu a0 t19) fun z3 => match z3 with
 | .inl q4 =>
 (some (.inl q4))
 | .inr t20 =>
 some (.inr t20))
 | .inr (q5, _) =>
 some (.inl q5)
def M_npoly_over_monic (fu : Nat) (a0 : Option ((List Zr) × (List (Zr × (List Nat))))) (a1 : List (List (Zr × (List Nat)))) : Option (PX ⊕ (List (List (Zr × (List Nat))))) :=
 bd (M_npoly_over_plain fu a0 a1) fun z1 => match z1 with
 | .inl q1 =>
 (some (.inl q1))
 | .inr t1 =>
 if ((t1.length : Nat) : Int) = (0 : Int) then
 some (.inr [])
 else
 ck64 ((((t1.length : Nat) : Int)) - ((1 : Int))) fun x1 =>
 ckI x1 (t1.length) fun j1 =>
 nm ((t1.getD j1 [])) fun t2 =>
 bd (M_field_Field_Inv fu a0 t2) fun (t3, x2) =>
 bd (M_npoly_sure fu t3 x2) fun z2 => match z2 with
 | .inl q2 =>
 (some (.inl q2))
 | .inr t4 =>
 bd (M_npoly_over_product fu a0 t1 [t4]) fun z3 => match z3 with
 | .inl q3 =>
 (some (.inl q3))
 | .inr t5 =>
 some (.inr t5)
def B_npoly_Gcd_0 (fu : Nat) (a0 : Option ((List Zr) × (List (Zr × (List Nat))))) : (((List (List (Zr × (List Nat)))) × (List (List (Zr × (List Nat))))) → Option ((List (List (Zr × (List Nat)))) ⊕ (PX × Unit))) → ((List (List (Zr × (List Nat)))) × (List (List (Zr × (List Nat))))) → Option ((List (List (Zr × (List Nat)))) ⊕ (PX × Unit)) := fun L (t3, t4) =>
 if (0 : Int) < ((t4.length : Nat) : Int) then
 bd (M_npoly_over_divided fu a0 t3 t4) fun z3 => match z3 with
 | .inl q3 =>
 (some (.inr ((q3, ()))))
 | .inr (t5, t6) =>
 bd (M_npoly_over_monic fu a0 t6) fun z4 => match z4 with
 | .inl q4 =>
 (some (.inr ((q4, ()))))
 | .inr t7 =>
 L (t4, t7)
 else
 some (.inl t3)
def M_npoly_Gcd (fu : Nat) (a0 : Option ((List Zr) × (List (Zr × (List Nat))))) (a1 : List (List (Zr × (List Nat)))) (a2 : List (List (Zr × (List Nat)))) : Option ((List (List (Zr × (List Nat)))) × Int) :=
 bd (M_npoly_over_plain fu a0 a1) fun z1 => match z1 with
 | .inl q1 =>
 (ck (q1.1 = 159) <|
 ck (InR q1.2) <|
 some ([], q1.2))
 | .inr t1 =>
 bd (M_npoly_over_monic fu a0 a2) fun z2 => match z2 with
 | .inl q2 =>
 (ck (q2.1 = 159) <|
 ck (InR q2.2) <|
 some ([], q2.2))
 | .inr t2 =>
 bd (loopN (B_npoly_Gcd_0 fu a0) fu (t1, t2)) fun s1 => match s1 with
 | .inl t8 =>
 (bd (M_npoly_over_monic fu a0 t8) fun z5 => match z5 with
 | .inl q5 =>
 (ck (q5.1 = 159) <|
 ck (InR q5.2) <|
 some ([], q5.2))
 | .inr t9 =>
 some ((t9, (0 : Int))))
 | .inr (q6, _) =>
 ck (q6.1 = 159) <|
 ck (InR q6.2) <|
 some ([], q6.2)
def M_law21_awake (fu : Nat)  : Option Bool :=
 bd (M_zpoly_Of fu [(-2 : Int), (0 : Int), (1 : Int)]) fun t1 =>
 bd (M_field_New fu t1) fun (q1, x1) =>
 if x1 = (0 : Int) then
 if (q1).isNone = true then
 some false
 else
 bd (M_rat_Of fu (-2 : Int)) fun y1 =>
 bd (M_rat_Of fu (1 : Int)) fun y2 =>
 bd (M_rat_Of fu (0 : Int)) fun y3 =>
 bd (M_rat_Of fu (-1 : Int)) fun y4 =>
 bd (M_rat_Of fu (1 : Int)) fun y5 =>
 bd (M_npoly_Gcd fu q1 ([[y1], [], [y2]]) ([[y3, y4], [y5]])) fun (t2, x2) =>
 if x2 = (0 : Int) then
 if ((t2.length : Nat) : Int) = (2 : Int) then
 bd (M_law21_same fu t2 ([[y3, y4], [y5]])) fun c1 =>
 some c1
 else
 some false
 else
 some false
 else
 some false
def B_npoly_over_joined_0 (fu : Nat) (a0 : Option ((List Zr) × (List (Zr × (List Nat))))) (a2 : List (List (Zr × (List Nat)))) (a3 : Bool) : ((Int × (List (List (Zr × (List Nat))))) → Option ((List (List (Zr × (List Nat)))) ⊕ (PX × Unit))) → (Int × (List (List (Zr × (List Nat))))) → Option ((List (List (Zr × (List Nat)))) ⊕ (PX × Unit)) := fun L (i1, t3) =>
 bd ((if i1 < ((a2.length : Nat) : Int) then
 some ((a3, a0, a2, ((a2.length : Nat) : Int), true))
 else
 some ((a3, a0, a2, ((a2.length : Nat) : Int), false)) : Option (Bool × (Option ((List Zr) × (List (Zr × (List Nat))))) × (List (List (Zr × (List Nat)))) × Int × Bool))) fun (b1, t4, t5, i2, b2) =>
 if b2 = true then
 ckI i1 (t5.length) fun j2 =>
 nm (t5.getD j2 []) fun y1 =>
 if b1 = true then
 ckI i1 (t3.length) fun j3 =>
 nm ((t3.getD j3 [])) fun t6 =>
 bd (M_field_Field_Sub fu t4 t6 y1) fun (t7, x2) =>
 bd (M_npoly_sure fu t7 x2) fun z1 => match z1 with
 | .inl q1 =>
 (some (.inr ((q1, ()))))
 | .inr t8 =>
 ckI i1 (t3.length) fun j4 =>
 nm (t3.set j4 t8) fun t9 =>
 ck64 (i1 + ((1 : Int))) fun x3 =>
 L (x3, t9)
 else
 ckI i1 (t3.length) fun j5 =>
 nm ((t3.getD j5 [])) fun t10 =>
 bd (M_field_Field_Add fu t4 t10 y1) fun (t11, x4) =>
 bd (M_npoly_sure fu t11 x4) fun z2 => match z2 with
 | .inl q2 =>
 (some (.inr ((q2, ()))))
 | .inr t12 =>
 ckI i1 (t3.length) fun j6 =>
 nm (t3.set j6 t12) fun t13 =>
 ck64 (i1 + ((1 : Int))) fun x5 =>
 L (x5, t13)
 else
 some (.inl t3)
def M_npoly_over_joined (fu : Nat) (a0 : Option ((List Zr) × (List (Zr × (List Nat))))) (a1 : List (List (Zr × (List Nat)))) (a2 : List (List (Zr × (List Nat)))) (a3 : Bool) : Option (PX ⊕ (List (List (Zr × (List Nat))))) :=
 nm (max (((a1.length : Nat) : Int)) (((a2.length : Nat) : Int))) fun x1 =>
 ckN x1 fun j1 =>
 ck (24 * j1 ≤ 281474976710656) <|
 nm (List.replicate j1 []) fun t1 =>
 nm (cpy t1 a1) fun t2 =>
 bd (loopN (B_npoly_over_joined_0 fu a0 a2 a3) fu (((0 : Int), t2))) fun s1 => match s1 with
 | .inl t14 =>
 (bd (M_npoly_over_plain fu a0 t14) fun z3 => match z3 with
 | .inl q3 =>
 (some (.inl q3))
 | .inr t15 =>
 some (.inr t15))
 | .inr (q4, _) =>
 some (.inl q4)
def M_npoly_Add (fu : Nat) (a0 : Option ((List Zr) × (List (Zr × (List Nat))))) (a1 : List (List (Zr × (List Nat)))) (a2 : List (List (Zr × (List Nat)))) : Option ((List (List (Zr × (List Nat)))) × Int) :=
 bd (M_npoly_over_joined fu a0 a1 a2 false) fun z1 => match z1 with
 | .inl q1 =>
 (ck (q1.1 = 159) <|
 ck (InR q1.2) <|
 some ([], q1.2))
 | .inr t1 =>
 some ((t1, (0 : Int)))
def B_npoly_Deriv_0 (fu : Nat) (a0 : Option ((List Zr) × (List (Zr × (List Nat))))) (t1 : List (List (Zr × (List Nat)))) : (((List (List (Zr × (List Nat)))) × Int × Int × (Option ((List Zr) × (List (Zr × (List Nat))))) × (List (List (Zr × (List Nat))))) → Option (((List (List (Zr × (List Nat)))) × Int × (Option ((List Zr) × (List (Zr × (List Nat)))))) ⊕ (PX × ((List (List (Zr × (List Nat)))) × Int)))) → ((List (List (Zr × (List Nat)))) × Int × Int × (Option ((List Zr) × (List (Zr × (List Nat))))) × (List (List (Zr × (List Nat))))) → Option (((List (List (Zr × (List Nat)))) × Int × (Option ((List Zr) × (List (Zr × (List Nat)))))) ⊕ (PX × ((List (List (Zr × (List Nat)))) × Int))) := fun L (t2, i1, t3, t4, t5) =>
 bd ((if i1 < ((t1.length : Nat) : Int) then
 some ((a0, ((t1.length : Nat) : Int), true))
 else
 some ((a0, ((t1.length : Nat) : Int), false)) : Option ((Option ((List Zr) × (List (Zr × (List Nat))))) × Int × Bool))) fun (t6, i2, b1) =>
 if b1 = true then
 ckI i1 (t5.length) fun j1 =>
 nm ((t5.getD j1 [])) fun t7 =>
 if (0 : Int) < i1 then
 bd (M_rat_Of fu i1) fun y1 =>
 bd (M_field_Field_Mul fu t6 t7 [y1]) fun (t8, x1) =>
 bd (M_npoly_sure fu t8 x1) fun z2 => match z2 with
 | .inl q2 =>
 (some (.inr ((q2, (t2, t3)))))
 | .inr t9 =>
 ck ((t2.length + ([t9]).length) * 24 ≤ 140737488355328) <|
 nm (t2 ++ ([t9])) fun t10 =>
 ck64 (i1 + ((1 : Int))) fun x2 =>
 L (t10, x2, t3, t4, t5)
 else
 ck64 (i1 + ((1 : Int))) fun x3 =>
 L (t2, x3, t3, t4, t5)
 else
 some (.inl (t2, t3, t4))
def M_npoly_Deriv (fu : Nat) (a0 : Option ((List Zr) × (List (Zr × (List Nat))))) (a1 : List (List (Zr × (List Nat)))) : Option ((List (List (Zr × (List Nat)))) × Int) :=
 bd (M_npoly_over_plain fu a0 a1) fun z1 => match z1 with
 | .inl q1 =>
 (ck (q1.1 = 159) <|
 ck (InR q1.2) <|
 some ([], q1.2))
 | .inr t1 =>
 bd (loopN (B_npoly_Deriv_0 fu a0 t1) fu (([], (0 : Int), 0, a0, t1))) fun s1 => match s1 with
 | .inl (t11, t12, t13) =>
 (bd (M_npoly_over_plain fu t13 t11) fun z3 => match z3 with
 | .inl q3 =>
 (ck (q3.1 = 159) <|
 ck (InR q3.2) <|
 some (t11, q3.2))
 | .inr t14 =>
 some ((t14, (0 : Int))))
 | .inr ((q4, (t15, t16))) =>
 ck (q4.1 = 159) <|
 ck (InR q4.2) <|
 some (t15, q4.2)
def M_npoly_Div (fu : Nat) (a0 : Option ((List Zr) × (List (Zr × (List Nat))))) (a1 : List (List (Zr × (List Nat)))) (a2 : List (List (Zr × (List Nat)))) : Option ((List (List (Zr × (List Nat)))) × (List (List (Zr × (List Nat)))) × Int) :=
 bd (M_npoly_over_divided fu a0 a1 a2) fun z1 => match z1 with
 | .inl q1 =>
 (ck (q1.1 = 159) <|
 ck (InR q1.2) <|
 some ([], [], q1.2))
 | .inr (t1, t2) =>
 some ((t1, t2, (0 : Int)))
def B_npoly_Eval_0 (fu : Nat) (a0 : Option ((List Zr) × (List (Zr × (List Nat))))) (a2 : List (Zr × (List Nat))) (t1 : List (List (Zr × (List Nat)))) : (((List (Zr × (List Nat))) × Int) → Option ((List (Zr × (List Nat))) ⊕ (PX × (List (Zr × (List Nat)))))) → ((List (Zr × (List Nat))) × Int) → Option ((List (Zr × (List Nat))) ⊕ (PX × (List (Zr × (List Nat))))) := fun L (t2, i1) =>
 if (0 : Int) ≤ i1 then
 bd (M_field_Field_Mul fu a0 t2 a2) fun (t3, x2) =>
 bd (M_npoly_sure fu t3 x2) fun z2 => match z2 with
 | .inl q2 =>
 (ckI i1 (t1.length) fun j1 =>
 nm ((t1.getD j1 [])) fun t4 =>
 some (.inr (q2, t2)))
 | .inr t5 =>
 ckI i1 (t1.length) fun j2 =>
 nm ((t1.getD j2 [])) fun t6 =>
 bd (M_field_Field_Add fu a0 t5 t6) fun (t7, x3) =>
 bd (M_npoly_sure fu t7 x3) fun z3 => match z3 with
 | .inl q3 =>
 (some (.inr (q3, t2)))
 | .inr t8 =>
 ck64 (i1 - ((1 : Int))) fun x4 =>
 L (t8, x4)
 else
 some (.inl t2)
def M_npoly_Eval (fu : Nat) (a0 : Option ((List Zr) × (List (Zr × (List Nat))))) (a1 : List (List (Zr × (List Nat)))) (a2 : List (Zr × (List Nat))) : Option ((List (Zr × (List Nat))) × Int) :=
 bd (M_npoly_over_plain fu a0 a1) fun z1 => match z1 with
 | .inl q1 =>
 (ck (q1.1 = 159) <|
 ck (InR q1.2) <|
 some ([], q1.2))
 | .inr t1 =>
 ck64 ((((t1.length : Nat) : Int)) - ((1 : Int))) fun x1 =>
 bd (loopN (B_npoly_Eval_0 fu a0 a2 t1) fu ([], x1)) fun s1 => match s1 with
 | .inl t9 =>
 some ((t9, (0 : Int)))
 | .inr (q4, t10) =>
 ck (q4.1 = 159) <|
 ck (InR q4.2) <|
 some (t10, q4.2)
def M_npoly_Monic (fu : Nat) (a0 : Option ((List Zr) × (List (Zr × (List Nat))))) (a1 : List (List (Zr × (List Nat)))) : Option ((List (List (Zr × (List Nat)))) × Int) :=
 bd (M_npoly_over_monic fu a0 a1) fun z1 => match z1 with
 | .inl q1 =>
 (ck (q1.1 = 159) <|
 ck (InR q1.2) <|
 some ([], q1.2))
 | .inr t1 =>
 some ((t1, (0 : Int)))
def M_npoly_Mul (fu : Nat) (a0 : Option ((List Zr) × (List (Zr × (List Nat))))) (a1 : List (List (Zr × (List Nat)))) (a2 : List (List (Zr × (List Nat)))) : Option ((List (List (Zr × (List Nat)))) × Int) :=
 bd (M_npoly_over_product fu a0 a1 a2) fun z1 => match z1 with
 | .inl q1 =>
 (ck (q1.1 = 159) <|
 ck (InR q1.2) <|
 some ([], q1.2))
 | .inr t1 =>
 some ((t1, (0 : Int)))
def M_npoly_Norm (fu : Nat) (a0 : Option ((List Zr) × (List (Zr × (List Nat))))) (a1 : List (List (Zr × (List Nat)))) : Option ((List (List (Zr × (List Nat)))) × Int) :=
 bd (M_npoly_over_plain fu a0 a1) fun z1 => match z1 with
 | .inl q1 =>
 (ck (q1.1 = 159) <|
 ck (InR q1.2) <|
 some ([], q1.2))
 | .inr t1 =>
 some ((t1, (0 : Int)))
def M_npoly_Sub (fu : Nat) (a0 : Option ((List Zr) × (List (Zr × (List Nat))))) (a1 : List (List (Zr × (List Nat)))) (a2 : List (List (Zr × (List Nat)))) : Option ((List (List (Zr × (List Nat)))) × Int) :=
 bd (M_npoly_over_joined fu a0 a1 a2 true) fun z1 => match z1 with
 | .inl q1 =>
 (ck (q1.1 = 159) <|
 ck (InR q1.2) <|
 some ([], q1.2))
 | .inr t1 =>
 some ((t1, (0 : Int)))
def B_law21_NpolyNone_0 (fu : Nat) (a0 : List (List (Zr × (List Nat)))) (a1 : List (List (Zr × (List Nat)))) (a2 : List (Zr × (List Nat))) : (Int → Option (Unit ⊕ Unit)) → Int → Option (Unit ⊕ Unit) := fun L i1 =>
 if i1 < (2 : Int) then
 ckI i1 (([(none : Option ((List Zr) × (List (Zr × (List Nat))))), (some ([], []))]).length) fun j1 =>
 nm ((([(none : Option ((List Zr) × (List (Zr × (List Nat))))), (some ([], []))]).getD j1 none)) fun q1 =>
 bd (M_npoly_Norm fu q1 a0) fun (t1, x1) =>
 bd (M_npoly_Add fu q1 a0 a1) fun (t2, x2) =>
 bd (M_npoly_Sub fu q1 a0 a1) fun (t3, x3) =>
 bd (M_npoly_Mul fu q1 a0 a1) fun (t4, x4) =>
 bd (M_npoly_Div fu q1 a0 a1) fun (t5, t6, x5) =>
 bd (M_npoly_Monic fu q1 a0) fun (t7, x6) =>
 bd (M_npoly_Gcd fu q1 a0 a1) fun (t8, x7) =>
 bd (M_npoly_Deriv fu q1 a0) fun (t9, x8) =>
 bd (M_npoly_Eval fu q1 a0 a2) fun (t10, x9) =>
 if x1 = (1 : Int) then
 if x2 = (1 : Int) then
 if x3 = (1 : Int) then
 if x4 = (1 : Int) then
 if x5 = (1 : Int) then
 if x6 = (1 : Int) then
 if x7 = (1 : Int) then
 if x8 = (1 : Int) then
 if x9 = (1 : Int) then
 ck64 (i1 + ((1 : Int))) fun x10 =>
 L x10
 else
 some (.inr ())
 else
 some (.inr ())
 else
 some (.inr ())
 else
 some (.inr ())
 else
 some (.inr ())
 else
 some (.inr ())
 else
 some (.inr ())
 else
 some (.inr ())
 else
 some (.inr ())
 else
 some (.inl ())
def M_law21_NpolyNone (fu : Nat) (a0 : List (List (Zr × (List Nat)))) (a1 : List (List (Zr × (List Nat)))) (a2 : List (Zr × (List Nat))) : Option Bool :=
 bd (M_law21_awake fu) fun c1 =>
 bd (loopN (B_law21_NpolyNone_0 fu a0 a1 a2) fu (0 : Int)) fun s1 => match s1 with
 | .inl _ =>
 some c1
 | .inr _ =>
 some false
end
section
set_option maxRecDepth 100000
def sL : Code → Code | .seq a _ => a | c => c
def sR : Code → Code | .seq _ b => b | c => c
def sB : Code → Code | .block _ c => c | .loop c => c | c => c
def cT : Code → Code | .cond _ a _ => a | c => c
def cF : Code → Code | .cond _ _ b => b | c => c
def ro : Code → List Oper | .region _ ops _ => ops.toList | _ => []
def rd : Code → Nat | .region i _ _ => i | _ => 0
noncomputable def tB : Code := match Tryz.f87.body with | some c => c | none => .skip
noncomputable def t3 : Code := sL (sB (sR tB))
noncomputable def tc : Code := sR (sB (sR tB))
noncomputable def t5 : Code := sL (cF tc)
noncomputable def tc2 : Code := sR (cF tc)
noncomputable def t67 : Code := cT tc2
theorem tBody : Tryz.f87.body = some (.seq (.region 0 (ro (sL tB)).toArray false) (.block 0 (.seq (.region 3 (ro t3).toArray false) (.cond (.tmp 7) (cT tc) (.seq (.region 5 (ro t5).toArray false) (.cond (.tmp 9) t67 (cF tc2))))))) := by kernel_rfl
def opsK (l : List Oper) : List (Option Tmp × Op × Option (Nat × Bool)) := l.map fun o => (o.dst, o.op, o.guard)
theorem k0 : opsK (ro (sL tB)) = [(some 5, .call ⟨.builtin .recover, #[], #[]⟩, none)] := by kernel_rfl
theorem k3 : opsK (ro t3) = [(some 7, .binOp .eql 20 (.tmp 5) (.const .nilIface) 20, none)] := by kernel_rfl
theorem k5 : opsK (ro t5) = [(some 8, .typeAssert (.tmp 5) 20 159 true, none), (some 9, .extract (.tmp 8) 1, none), (some 10, .extract (.tmp 8) 0, none)] := by kernel_rfl
theorem k4 : cT tc = .region 4 (ro (cT tc)).toArray false := by kernel_rfl
theorem k4' : opsK (ro (cT tc)) = [(some 2, .assign (.tmp 5), none)] := by kernel_rfl
def anT : An := ⟨[], [], [], [], [], [], []⟩
noncomputable def cfT : Cf := ⟨tt, [], anT, 9, ex, [], [], [], []⟩
noncomputable def o6 : List Oper := ro (sL t67)
noncomputable def o7 : List Oper := ro (sR t67)
theorem k67 : t67 = .seq (.region 6 o6.toArray false) (.region 7 o7.toArray false) := by kernel_rfl
abbrev cx1 : Sg := ⟨0, [(0, 0, .vs 0 .i)], []⟩
def kE (σ : Sg) : Option (TypeId × Int) := match fndO σ.ob 0 with
  | some (.var .i E' y) => some (E', y)
  | _ => none
theorem tA (x z : Int) (E : TypeId) : regD cfT cx1 6 o6 false ⟨1, [(10, 0, .d (.w1 .i) x)], [(0, .var .i E z)]⟩ (fun _ _ => none) (fun σ => regD cfT cx1 7 o7 false σ (fun _ _ => none) kE) = some (E, x) := by kernel_rfl
theorem n6 : (o6.all fun o => okDst 15 o.dst) = true := by kernel_rfl
theorem n7 : (o7.all fun o => okDst 15 o.dst) = true := by kernel_rfl
theorem u159 : ∃ fs, Tryz.prog.underlying 159 = some (.struct fs) := by
  obtain ⟨_, _, ⟨fs, h, _⟩, _⟩ := (ttok 159 ⟨.w1 .i, .st 0, 8⟩ (by kernel_rfl)).2.2.2
  exact ⟨fs, h⟩
theorem opsK1 {l : List Oper} {d : Option Tmp} {op : Op} {g : Option (Nat × Bool)} (h : opsK l = [(d, op, g)]) : ∃ o, l = [o] ∧ o.dst = d ∧ o.op = op ∧ o.guard = g := by
  unfold opsK at h
  rcases l with _ | ⟨o, _ | ⟨_, _⟩⟩ <;> simp only [List.map_cons, List.map_nil, List.cons.injEq, Prod.mk.injEq, and_true, reduceCtorEq, and_false] at h
  exact ⟨o, rfl, h.1, h.2.1, h.2.2⟩
theorem opsK3 {l : List Oper} {d d2 d3 : Option Tmp} {op op2 op3 : Op} {g g2 g3 : Option (Nat × Bool)} (h : opsK l = [(d, op, g), (d2, op2, g2), (d3, op3, g3)]) : ∃ o o2 o3, l = [o, o2, o3] ∧ (o.dst = d ∧ o.op = op ∧ o.guard = g) ∧ (o2.dst = d2 ∧ o2.op = op2 ∧ o2.guard = g2) ∧ o3.dst = d3 ∧ o3.op = op3 ∧ o3.guard = g3 := by
  unfold opsK at h
  rcases l with _ | ⟨o, _ | ⟨o2, _ | ⟨o3, _ | ⟨_, _⟩⟩⟩⟩ <;> simp only [List.map_cons, List.map_nil, List.cons.injEq, Prod.mk.injEq, and_true, reduceCtorEq, and_false] at h
  exact ⟨o, o2, o3, rfl, h.1, h.2.1, h.2.2⟩
theorem if20 : Tryz.prog.underlying 20 = some (.interface (Tryz.prog.methodsAt 20)) := by kernel_rfl
theorem wu {ops : Array Oper} {env : Env} {o : Oper} (h : o.guard = none) : wantedE ops env o = true := by unfold wantedE; rw [h]
section
variable {we : World} {Se : Nat → Prop} {F : List MF} {G : List FF} {env : Env}
abbrev QT (we : World) (Se : Nat → Prop) (F : List MF) (G : List FF) : Qs := fun e _ w => e = .normal ∧ St we Se F G w
theorem rest_nil (h5 : env 5 = .nilIface) : T Tryz.prog (Nd.of 15) we Se F G (.block 0 (.seq (.region 3 (ro t3).toArray false) (.cond (.tmp 7) (cT tc) (.seq (.region 5 (ro t5).toArray false) (.cond (.tmp 9) t67 (cF tc2)))))) (QT we Se F G) env := by
  refine T_block (T_seq ?_)
  obtain ⟨o, hl, hd, hop, hg⟩ := opsK1 k3
  rw [hl]
  refine T_region (TL_op (wu hg) (by rw [hd]; rfl) fun w hw => OpR.of_value (v := .bool true) (w' := w) ?_ ?_)
  · simp [execOp, hop, ev, h5, eqGuard, run_eql_nil_nil (w := w) 20 if20]
  · refine TL_then ?_ w hw
    rw [hd]
    refine T_cond_true rfl ?_
    rw [k4]
    obtain ⟨o, hl, hd, hop, hg⟩ := opsK1 k4'
    rw [hl]
    refine T_region (TL_op (wu hg) (by rw [hd]; rfl) fun w hw => OpR.of_value (w' := w) (by simp [execOp, hop]; rfl) ?_)
    exact TL_nil (fun w hw => ⟨rfl, hw⟩) w hw
theorem rest67 {v : Value} {E : TypeId} {x z : Int} (h0 : env 0 = v) (hx : InR x) (h10 : env 10 = .agg #[.int .i64 x]) {w : World} (hw : St we Se (mP (Ty.i).rep.c E v z :: F) G w) : Wp Tryz.prog (Nd.of 15) t67 (QT we Se (mP (Ty.i).rep.c E v x :: F) G) env w := by
  have hC : ∀ s ∈ cfT.cs, SigOK Tryz.prog s := fun _ h => absurd h List.not_mem_nil
  have hX : XOK Tryz.prog cfT := .of exok rfl
  obtain ⟨b, hv, _⟩ := hw.openP 0 rfl
  have hR : Rel Tryz.prog ⟨we, Se, F, G⟩ cx1 ⟨1, [(10, 0, .d (.w1 .i) x)], [(0, .var .i E z)]⟩ env w := by
    refine ⟨⟨fun e he => (by obtain rfl := List.mem_singleton.1 he; exact Nat.zero_lt_one), fun _ h => absurd h List.not_mem_nil, fun e he o ho => (by obtain rfl := List.mem_singleton.1 he; cases ho), fun e he o ho => (by obtain rfl := List.mem_singleton.1 he; cases ho; exact Nat.zero_lt_one)⟩, fun _ => v, ?_⟩
    refine hw.weak fun S w ha => ⟨?_, ?_, ha⟩
    · show (fV (eW eI) x (env 10)).p S w
      rw [h10]; exact ⟨[.int .i64 x], rfl, rfl, hx.1, hx.2⟩
    · exact ⟨h0, b, hv⟩
  rw [k67]
  intro a h1 h2 h3
  refine wpIn_seq (wpIn_mono (region_s (N := Nd.of 15) (Q := fun e env w => e = .normal ∧ Wp Tryz.prog (Nd.of 15) (.region 7 o7.toArray false) (QT we Se (mP (Ty.i).rep.c E v x :: F) G) env w) mord ttok elok hC hX (fun _ _ h => by cases h) (fun σ1 hk env1 w1 hs1 hR1 => ⟨rfl, ?_⟩) n6 (tA x z E) hR a h1 h2 h3) ?_)
  · refine region_s (N := Nd.of 15) mord ttok elok hC hX (fun _ _ h => by cases h) (fun σ2 hk2 env2 w2 hs2 hR2 => ⟨rfl, ?_⟩) n7 hk hR1
    unfold kE at hk2
    split at hk2
    · next E' y ho =>
      cases hk2
      obtain ⟨hB, vs, hst⟩ := hR2
      have hst2 : St we Se ([mP (Ty.i).rep.c E (vs 0) x] ++ (MS vs (delo σ2.ob 0) ++ F)) (RS Tryz.prog vs env2 σ2.rg ++ (RS Tryz.prog vs env2 cx1.rg ++ G)) w2 := os_out ho hst
      obtain ⟨S, _, hΓ⟩ := hst2.ex
      have e1 : env2 0 = vs 0 := (All.left (All.right (Γ := RS Tryz.prog vs env2 σ2.rg) hΓ)).1.1
      have e2 : env2 0 = v := ((hs2 _ (List.mem_singleton.2 rfl)).trans (hs1 _ (List.mem_singleton.2 rfl))).trans h0
      rw [← e1, e2] at hst2
      exact (St.dropM hst2).weak fun S w ha => All.right (All.right ha)
    · cases hk2
  · rintro e a' w' ⟨q1, q2, rfl, q3⟩
    exact q3 a' q1 q2 rfl
theorem rest_pan {v : Value} {E : TypeId} {x z : Int} (h0 : env 0 = v) (hx : InR x) (h5 : env 5 = .iface 159 (.agg #[.int .i64 x])) : T Tryz.prog (Nd.of 15) we Se (mP (Ty.i).rep.c E v z :: F) G (.block 0 (.seq (.region 3 (ro t3).toArray false) (.cond (.tmp 7) (cT tc) (.seq (.region 5 (ro t5).toArray false) (.cond (.tmp 9) t67 (cF tc2)))))) (QT we Se (mP (Ty.i).rep.c E v x :: F) G) env := by
  refine T_block (T_seq ?_)
  obtain ⟨o, hl, hd, hop, hg⟩ := opsK1 k3
  rw [hl]
  refine T_region (TL_op (wu hg) (by rw [hd]; rfl) fun w hw => OpR.of_value (v := .bool false) (w' := w) ?_ ?_)
  · simp [execOp, hop, ev, h5, eqGuard, run_eql_held_nil (w := w) 20 159 _ if20]
  · refine TL_then ?_ w hw
    rw [hd]
    refine T_cond_false rfl (T_seq ?_)
    obtain ⟨o1, o2, o3, hl, ⟨hd1, hop1, hg1⟩, ⟨hd2, hop2, hg2⟩, hd3, hop3, hg3⟩ := opsK3 k5
    obtain ⟨fs, hu⟩ := u159
    rw [hl]
    have e5 : put env (some 7) (.bool false) 5 = .iface 159 (.agg #[.int .i64 x]) := h5
    refine T_region (TL_op (wu hg1) (by rw [hd1]; rfl) fun w hw => OpR.of_value (v := .tuple #[.agg #[.int .i64 x], .bool true]) (w' := w) (by simp [execOp, hop1, ev, e5, Instr.typeAssert, run_underlying hu]) ?_)
    rw [hd1]
    refine TL_op (wu hg2) (by rw [hd2]; rfl) (fun w hw => OpR.of_value (v := .bool true) (w' := w) (by simp [execOp, hop2, ev, Instr.extract, put, L]) ?_) w hw
    rw [hd2]
    have e8 : put (put (put env (some 7) (.bool false)) (some 8) (.tuple #[.agg #[.int .i64 x], .bool true])) (some 9) (.bool true) 8 = .tuple #[.agg #[.int .i64 x], .bool true] := rfl
    refine TL_op (wu hg3) (by rw [hd3]; rfl) (fun w hw => OpR.of_value (v := .agg #[.int .i64 x]) (w' := w) (by simp [execOp, hop3, ev, e8, Instr.extract]) ?_) w hw
    rw [hd3]
    refine TL_then ?_ w hw
    refine T_cond_true rfl ?_
    intro w hw a h1 h2 h3
    refine wpIn_mono (rest67 (env := envOf a) (by rw [h3]; exact h0) hx (by rw [h3]; rfl) hw a h1 h2 rfl) ?_
    rintro e a' w' ⟨q1, q2, rfl, q3⟩
    exact ⟨q1, q2, rfl, q3⟩
end
theorem told_run {o : Oper} (hop : o.op = .call ⟨.builtin .recover, #[], #[]⟩) (a : Act) (w : World) : (execOp a.eval o).run Tryz.prog w = .ok .recover w := by simp [execOp, hop, resolve, invoke, builtin]
theorem told_act {v y : Value} {a : Act} (ha : a = (⟨#[v] ++ Array.replicate (15 - #[v].size) undef, []⟩ : Act).put (some 5) y) : a.tmps.size = 15 ∧ a.defers = [] ∧ envOf a 5 = y ∧ envOf a 0 = v := by
  subst ha
  refine ⟨by simp [Act.put], rfl, ?_, ?_⟩
  · simp [Act.put, envOf]
  · simp [Act.put, envOf]
theorem hok_told : HOK Tryz.prog 87 159 := by
  have hn : Tryz.f87.ntmps = 15 := by kernel_rfl
  have hr0 : Tryz.f87.results = #[] := by kernel_rfl
  have hres : ∀ (a : Act) (w : World), (results Tryz.f87 a.tmps).run Tryz.prog w = .ok (.tuple #[]) w := fun a w => by simp [results]
  obtain ⟨o, hl, hd, hop, hg⟩ := opsK1 k0
  refine ⟨by kernel_rfl, fun v we Se F G w hst => ?_, fun v E z x we Se F G w hx hst => ?_⟩
  · refine callsDIn_of_wpSIn (n := 0) Tryz.func87 tBody trivial fun c₀ cs hu => wpSIn_seq ?_
    rw [hl]
    refine wpSIn_region ?_
    have hrec : recoverD (c₀ :: cs) = none := by simp [recoverD, hu]
    show wpOpsSIn _ _ _ [o].toArray _ [0] _ _ _
    unfold wpOpsSIn
    simp only [List.getElem?_toArray, List.getElem?_cons_zero]
    refine ⟨fun _ _ => trivial, ?_⟩
    rw [if_pos (by simp [Region.wanted, hg]), told_run hop]
    simp only [hrec, hd, hn]
    unfold wpOpsSIn
    generalize ha : Act.put _ _ _ = a
    obtain ⟨h1, h2, h5, h0⟩ := told_act ha.symm
    refine wpSIn_of_wpIn rfl ?_
    refine wpIn_mono (rest_nil (F := F) (G := G) (we := we) (Se := Se) (env := envOf a) h5 w hst a h1 h2 rfl) ?_
    rintro e a' w' ⟨q1, q2, rfl, q3⟩
    exact ⟨q2, _, by rw [← hu], _, hres _ _, ⟨_, rfl⟩, rfl, q3⟩
  · refine callsDIn_of_wpSIn (n := 0) Tryz.func87 tBody trivial fun c₀ cs hu => wpSIn_seq ?_
    rw [hl]
    refine wpSIn_region ?_
    have hrec : recoverD (c₀ :: cs) = some (.iface 159 (.agg #[.int .i64 x]), { c₀ with mode := .panicking [{ v := .iface 159 (.agg #[.int .i64 x]), recovered := true }] } :: cs) := by simp [recoverD, hu, chOf]
    show wpOpsSIn _ _ _ [o].toArray _ [0] _ _ _
    unfold wpOpsSIn
    simp only [List.getElem?_toArray, List.getElem?_cons_zero]
    refine ⟨fun _ _ => trivial, ?_⟩
    rw [if_pos (by simp [Region.wanted, hg]), told_run hop]
    simp only [hrec, hd, hn]
    unfold wpOpsSIn
    generalize ha : Act.put _ _ _ = a
    obtain ⟨h1, h2, h5, h0⟩ := told_act ha.symm
    refine wpSIn_of_wpIn rfl ?_
    refine wpIn_mono (rest_pan (F := F) (G := G) (we := we) (Se := Se) (env := envOf a) (v := v) h0 hx h5 w hst a h1 h2 rfl) ?_
    rintro e a' w' ⟨q1, q2, rfl, q3⟩
    exact ⟨q2, _, rfl, _, hres _ _, ⟨_, rfl⟩, rfl, q3⟩
end
end Go.Proofs.YtmggkmchbdanfaaGreat
