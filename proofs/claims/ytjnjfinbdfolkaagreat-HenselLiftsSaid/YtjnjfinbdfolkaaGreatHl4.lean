/- What a proof needs: rules of walking, mirrors of functions and their plain laws. No condition. -/
import Derived.Test.YtjnjfinbdfolkaaGreatHl3
section
set_option linter.unusedVariables false
set_option linter.unusedSimpArgs false
set_option maxRecDepth 100000
namespace Go.Proofs.YtjnjfinbdfolkaaGreat
def B_ref01_Norm_0 (fu : Nat) (a0 : List Nat) : (Int → Option Int) → Int → Option Int := fun L i1 =>
 if (0 : Int) < i1 then
 ck64 (i1 - ((1 : Int))) fun x1 =>
 ckI x1 (a0.length) fun j1 =>
 nm (a0.getD j1 0) fun y1 =>
 if ((y1 : Nat) : Int) = (((0 : Nat) : Nat) : Int) then
 ck64 (i1 - ((1 : Int))) fun x2 =>
 L x2
 else
 some i1
 else
 some i1
def M_ref01_Norm (fu : Nat) (a0 : List Nat) : Option (List Nat) :=
 bd (loopN (B_ref01_Norm_0 fu a0) fu (((a0.length : Nat) : Int))) fun i2 =>
 ckN i2 fun j2 =>
 ck (j2 ≤ a0.length) <|
 nm (a0.take j2) fun t1 =>
 ck (((([] : List Nat)).length + t1.length) * 8 ≤ 140737488355328) <|
 nm ((([] : List Nat)) ++ t1) fun t2 =>
 some t2
def M_ref02_Norm (fu : Nat) (a0 : Zr) : Option Zr :=
 bd (M_ref01_Norm fu a0.2) fun t1 =>
 if a0.1 = true then
 if (0 : Int) < ((t1.length : Nat) : Int) then
 some (true, t1)
 else
 some (false, t1)
 else
 some (false, t1)
def M_ref02_Of (fu : Nat) (a0 : Int) : Option Zr :=
 if a0 < (0 : Int) then
 ck64 (0 - a0) fun x1 =>
 nm (uns x1) fun m1 =>
 bd (M_ref02_Norm fu (true, [m1])) fun y1 =>
 some y1
 else
 nm (uns a0) fun m2 =>
 bd (M_ref02_Norm fu (false, [m2])) fun y2 =>
 some y2
def M_ref02_Sign (fu : Nat) (a0 : Zr) : Option Int :=
 bd (M_ref02_Norm fu a0) fun y1 =>
 if y1.1 = true then
 some (-1 : Int)
 else
 if (0 : Int) < ((y1.2.length : Nat) : Int) then
 some (1 : Int)
 else
 some (0 : Int)
def B_ref10_Norm_0 (fu : Nat) (a0 : List Zr) : (Int → Option Int) → Int → Option Int := fun L i1 =>
 if (0 : Int) < i1 then
 ck64 (i1 - ((1 : Int))) fun x1 =>
 ckI x1 (a0.length) fun j1 =>
 nm (a0.getD j1 (false, [])) fun y1 =>
 bd (M_ref02_Sign fu y1) fun x2 =>
 if x2 = (0 : Int) then
 ck64 (i1 - ((1 : Int))) fun x3 =>
 L x3
 else
 some i1
 else
 some i1
def B_ref10_Norm_1 (fu : Nat) (a0 : List Zr) (i2 : Int) : (((List Zr) × Int) → Option (List Zr)) → ((List Zr) × Int) → Option (List Zr) := fun L (t1, i3) =>
 if i3 < i2 then
 ckI i3 (a0.length) fun j2 =>
 nm (a0.getD j2 (false, [])) fun y2 =>
 bd (M_ref02_Norm fu y2) fun y3 =>
 ck ((t1.length + ([y3]).length) * 32 ≤ 140737488355328) <|
 nm (t1 ++ ([y3])) fun t2 =>
 ck64 (i3 + ((1 : Int))) fun x4 =>
 L (t2, x4)
 else
 some t1
def M_ref10_Norm (fu : Nat) (a0 : List Zr) : Option (List Zr) :=
 bd (loopN (B_ref10_Norm_0 fu a0) fu (((a0.length : Nat) : Int))) fun i2 =>
 bd (loopN (B_ref10_Norm_1 fu a0 i2) fu (([], (0 : Int)))) fun t3 =>
 some t3
def B_ref10_Of_0 (fu : Nat) (a0 : List Int) : (((List Zr) × Int) → Option (List Zr)) → ((List Zr) × Int) → Option (List Zr) := fun L (t1, i1) =>
 if i1 < ((a0.length : Nat) : Int) then
 ckI i1 (a0.length) fun j1 =>
 nm (a0.getD j1 0) fun y1 =>
 bd (M_ref02_Of fu y1) fun y2 =>
 ck ((t1.length + ([y2]).length) * 32 ≤ 140737488355328) <|
 nm (t1 ++ ([y2])) fun t2 =>
 ck64 (i1 + ((1 : Int))) fun x1 =>
 L (t2, x1)
 else
 some t1
def M_ref10_Of (fu : Nat) (a0 : List Int) : Option (List Zr) :=
 bd (loopN (B_ref10_Of_0 fu a0) fu (([], (0 : Int)))) fun t3 =>
 bd (M_ref10_Norm fu t3) fun t4 =>
 some t4
def B_ref01_Same_0 (fu : Nat) (a0 : List Nat) (a1 : List Nat) : (Int → Option (Unit ⊕ Unit)) → Int → Option (Unit ⊕ Unit) := fun L i1 =>
 if i1 < ((a0.length : Nat) : Int) then
 ckI i1 (a0.length) fun j1 =>
 nm (a0.getD j1 0) fun y1 =>
 ckI i1 (a1.length) fun j2 =>
 nm (a1.getD j2 0) fun y2 =>
 if ((y1 : Nat) : Int) = ((y2 : Nat) : Int) then
 ck64 (i1 + ((1 : Int))) fun x1 =>
 L x1
 else
 some (.inr ())
 else
 some (.inl ())
def M_ref01_Same (fu : Nat) (a0 : List Nat) (a1 : List Nat) : Option Bool :=
 if ((a0.length : Nat) : Int) = ((a1.length : Nat) : Int) then
 bd (loopN (B_ref01_Same_0 fu a0 a1) fu (0 : Int)) fun s1 => match s1 with
 | .inl _ =>
 some true
 | .inr _ =>
 some false
 else
 some false
def M_ref02_Same (fu : Nat) (a0 : Zr) (a1 : Zr) : Option Bool :=
 nm (a0.1 == a1.1) fun c1 =>
 if c1 = true then
 bd (M_ref01_Same fu a0.2 a1.2) fun c2 =>
 some c2
 else
 some false
def B_ref10_Same_0 (fu : Nat) (a0 : List Zr) (a1 : List Zr) : (Int → Option (Unit ⊕ Unit)) → Int → Option (Unit ⊕ Unit) := fun L i1 =>
 if i1 < ((a0.length : Nat) : Int) then
 ckI i1 (a0.length) fun j1 =>
 nm (a0.getD j1 (false, [])) fun y1 =>
 ckI i1 (a1.length) fun j2 =>
 nm (a1.getD j2 (false, [])) fun y2 =>
 bd (M_ref02_Same fu y1 y2) fun c1 =>
 if ((!c1)) = true then
 some (.inr ())
 else
 ck64 (i1 + ((1 : Int))) fun x1 =>
 L x1
 else
 some (.inl ())
def M_ref10_Same (fu : Nat) (a0 : List Zr) (a1 : List Zr) : Option Bool :=
 if ((a0.length : Nat) : Int) = ((a1.length : Nat) : Int) then
 bd (loopN (B_ref10_Same_0 fu a0 a1) fu (0 : Int)) fun s1 => match s1 with
 | .inl _ =>
 some true
 | .inr _ =>
 some false
 else
 some false
def B_ref13_Same_0 (fu : Nat) (a0 : List (List Zr)) (a1 : List (List Zr)) : (Int → Option (Unit ⊕ Unit)) → Int → Option (Unit ⊕ Unit) := fun L i1 =>
 if i1 < ((a0.length : Nat) : Int) then
 ckI i1 (a0.length) fun j1 =>
 nm (a0.getD j1 []) fun y1 =>
 ckI i1 (a1.length) fun j2 =>
 nm (a1.getD j2 []) fun y2 =>
 bd (M_ref10_Same fu y1 y2) fun c1 =>
 if ((!c1)) = true then
 some (.inr ())
 else
 ck64 (i1 + ((1 : Int))) fun x1 =>
 L x1
 else
 some (.inl ())
def M_ref13_Same (fu : Nat) (a0 : List (List Zr)) (a1 : List (List Zr)) : Option Bool :=
 if ((a0.length : Nat) : Int) = ((a1.length : Nat) : Int) then
 bd (loopN (B_ref13_Same_0 fu a0 a1) fu (0 : Int)) fun s1 => match s1 with
 | .inl _ =>
 some true
 | .inr _ =>
 some false
 else
 some false
def B_prime_Is_0 (fu : Nat) (a0 : Int) : ((Bool × Int) → Option Bool) → (Bool × Int) → Option Bool := fun L (b2, i1) =>
 if b2 = true then
 ck64 (i1 * i1) fun x1 =>
 if x1 ≤ a0 then
 ck (i1 ≠ 0) <|
 nm (Int.tmod a0 i1) fun x2 =>
 if x2 = (0 : Int) then
 some false
 else
 ck64 (i1 + ((1 : Int))) fun x3 =>
 L (b2, x3)
 else
 some b2
 else
 some b2
def M_prime_Is (fu : Nat) (a0 : Int) : Option Bool :=
 bd ((if (2 : Int) ≤ a0 then
 if a0 ≤ (65521 : Int) then
 some true
 else
 some false
 else
 some false : Option Bool)) fun b1 =>
 bd (loopN (B_prime_Is_0 fu a0) fu ((b1, (2 : Int)))) fun b3 =>
 some b3
def B_nat_plain_0 (fu : Nat)  : ((List Nat) → Option (List Nat)) → (List Nat) → Option (List Nat) := fun L t1 =>
 if (0 : Int) < ((t1.length : Nat) : Int) then
 ck64 ((((t1.length : Nat) : Int)) - ((1 : Int))) fun x1 =>
 ckI x1 (t1.length) fun j1 =>
 nm (t1.getD j1 0) fun y1 =>
 if ((y1 : Nat) : Int) = (((0 : Nat) : Nat) : Int) then
 ck64 ((((t1.length : Nat) : Int)) - ((1 : Int))) fun x2 =>
 ckN x2 fun j2 =>
 ck (j2 ≤ t1.length) <|
 nm (t1.take j2) fun t2 =>
 L t2
 else
 some t1
 else
 some t1
def M_nat_plain (fu : Nat) (a0 : List Nat) : Option (List Nat) :=
 bd (loopN (B_nat_plain_0 fu ) fu a0) fun t3 =>
 some t3
def B_nat_plain_own_0 (fu : Nat)  : ((List Nat) → Option (List Nat)) → (List Nat) → Option (List Nat) := fun L t1 =>
 if (0 : Int) < ((t1.length : Nat) : Int) then
 ck64 ((((t1.length : Nat) : Int)) - ((1 : Int))) fun x1 =>
 ckI x1 (t1.length) fun j1 =>
 nm ((t1.getD j1 0)) fun m1 =>
 if ((m1 : Nat) : Int) = (((0 : Nat) : Nat) : Int) then
 ck64 ((((t1.length : Nat) : Int)) - ((1 : Int))) fun x2 =>
 ckN x2 fun j2 =>
 ck (j2 ≤ t1.length) <|
 nm (t1.take j2) fun t2 =>
 L t2
 else
 some t1
 else
 some t1
def M_nat_plain_own (fu : Nat) (a0 : List Nat) : Option (List Nat) :=
 bd (loopN (B_nat_plain_own_0 fu ) fu a0) fun t3 =>
 some t3
def M_slices_Clone_uint64_uint64 (fu : Nat) (a0 : List Nat) : Option (List Nat) :=
 ck (a0.length ≤ 17592186044416) <|
 some a0
def M_nat_Norm (fu : Nat) (a0 : List Nat) : Option (List Nat) :=
 bd (M_nat_plain fu a0) fun t1 =>
 bd (M_slices_Clone_uint64_uint64 fu t1) fun t2 =>
 some t2
def M_zint_made (fu : Nat) (a0 : Bool) (a1 : List Nat) : Option Zr :=
 bd (M_nat_Norm fu a1) fun t1 =>
 if a0 = true then
 if (0 : Int) < ((t1.length : Nat) : Int) then
 some (true, t1)
 else
 some (false, t1)
 else
 some (false, t1)
def M_zint_Of (fu : Nat) (a0 : Int) : Option Zr :=
 if a0 < (0 : Int) then
 nm (uns a0) fun m1 =>
 nm ((18446744073709551616 - m1) % 18446744073709551616) fun m2 =>
 bd (M_zint_made fu true [m2]) fun y1 =>
 some y1
 else
 nm (uns a0) fun m3 =>
 bd (M_zint_made fu false [m3]) fun y2 =>
 some y2
def M_math_bits_Len64 (fu : Nat) (a0 : Nat) : Option Int :=
 bd ((if (4294967296 : Int) ≤ ((a0 : Nat) : Int) then
 nm (a0 / 2 ^ (min ((32 : Int)).toNat 64)) fun m1 =>
 some (m1, 32)
 else
 some (a0, 0) : Option (Nat × Int))) fun (d1, i1) =>
 bd ((if (65536 : Int) ≤ ((d1 : Nat) : Int) then
 nm (d1 / 2 ^ (min ((16 : Int)).toNat 64)) fun m2 =>
 ck64 (i1 + 16) fun x1 =>
 some (m2, x1)
 else
 some (d1, i1) : Option (Nat × Int))) fun (d2, i2) =>
 if (256 : Int) ≤ ((d2 : Nat) : Int) then
 nm (d2 / 2 ^ (min ((8 : Int)).toNat 64)) fun m3 =>
 ck64 (i2 + 8) fun x2 =>
 nm (m3 % 256) fun m4 =>
 nm (Lib.bitLen m4) fun m5 =>
 ck64 (x2 + (((m5 : Nat) : Int))) fun x3 =>
 some x3
 else
 nm (d2 % 256) fun m6 =>
 nm (Lib.bitLen m6) fun m7 =>
 ck64 (i2 + (((m7 : Nat) : Int))) fun x4 =>
 some x4
def M_nat_Bits (fu : Nat) (a0 : List Nat) : Option Int :=
 bd (M_nat_plain fu a0) fun t1 =>
 if ((t1.length : Nat) : Int) = (0 : Int) then
 some (0 : Int)
 else
 ck64 ((((t1.length : Nat) : Int)) - ((1 : Int))) fun x1 =>
 ck64 (((64 : Int)) * x1) fun x2 =>
 ck64 ((((t1.length : Nat) : Int)) - ((1 : Int))) fun x3 =>
 ckI x3 (t1.length) fun j1 =>
 nm (t1.getD j1 0) fun y1 =>
 bd (M_math_bits_Len64 fu y1) fun x4 =>
 ck64 (x2 + x4) fun x5 =>
 some x5
def M_nat_at (fu : Nat) (a0 : List Nat) (a1 : Int) : Option Nat :=
 if a1 < ((a0.length : Nat) : Int) then
 ckI a1 (a0.length) fun j1 =>
 nm (a0.getD j1 0) fun y1 =>
 some y1
 else
 some (0 : Nat)
def M_nat_Add_1 (fu : Nat) (a0 : Int) (a1 : Nat) (a2 : List Nat) (a3 : List Nat) : Option (Nat × Nat) :=
 bd (M_nat_at fu a2 a0) fun m1 =>
 bd (M_nat_at fu a3 a0) fun m2 =>
 ck (a1 ≤ 1) <|
 nm ((m1 + m2 + a1) % 18446744073709551616) fun m3 =>
 nm ((m1 + m2 + a1) / 18446744073709551616) fun m4 =>
 some (m3, m4)
def B_nat_carried_0 (fu : Nat) (a1 : Int → Nat → Option (Nat × Nat)) (t1 : List Nat) : ((Nat × Int × (List Nat)) → Option (Nat × (List Nat))) → (Nat × Int × (List Nat)) → Option (Nat × (List Nat)) := fun L (d1, i1, t2) =>
 if i1 < ((t1.length : Nat) : Int) then
 bd (a1 i1 d1) fun (m1, m2) =>
 ckI i1 (t2.length) fun j2 =>
 nm (t2.set j2 m1) fun t3 =>
 ck64 (i1 + ((1 : Int))) fun x1 =>
 L (m2, x1, t3)
 else
 some (d1, t2)
def M_nat_carried (fu : Nat) (a0 : Int) (a1 : Int → Nat → Option (Nat × Nat)) : Option ((List Nat) × Nat) :=
 ckN a0 fun j1 =>
 ck (8 * j1 ≤ 281474976710656) <|
 nm (List.replicate j1 0) fun t1 =>
 bd (loopN (B_nat_carried_0 fu a1 t1) fu (((0 : Nat), (0 : Int), t1))) fun (d2, t4) =>
 some (t4, d2)
def M_nat_Add (fu : Nat) (a0 : List Nat) (a1 : List Nat) : Option (List Nat) :=
 nm (max (((a0.length : Nat) : Int)) (((a1.length : Nat) : Int))) fun x1 =>
 bd (M_nat_carried fu x1 (fun zx0 zx1 => M_nat_Add_1 fu zx0 zx1 a0 a1)) fun (t1, m1) =>
 ck ((t1.length + ([m1]).length) * 8 ≤ 140737488355328) <|
 nm (t1 ++ ([m1])) fun t2 =>
 bd (M_nat_plain_own fu t2) fun t3 =>
 some t3
def M_nat_Sub_1 (fu : Nat) (a0 : Int) (a1 : Nat) (a2 : List Nat) (a3 : List Nat) : Option (Nat × Nat) :=
 bd (M_nat_at fu a2 a0) fun m1 =>
 bd (M_nat_at fu a3 a0) fun m2 =>
 ck (a1 ≤ 1) <|
 nm ((m1 + 18446744073709551616 - m2 - a1) % 18446744073709551616) fun m3 =>
 nm (if m1 < m2 + a1 then 1 else 0) fun m4 =>
 some (m3, m4)
def M_nat_Sub (fu : Nat) (a0 : List Nat) (a1 : List Nat) : Option ((List Nat) × Int) :=
 nm (max (((a0.length : Nat) : Int)) (((a1.length : Nat) : Int))) fun x1 =>
 bd (M_nat_carried fu x1 (fun zx0 zx1 => M_nat_Sub_1 fu zx0 zx1 a0 a1)) fun (t1, m1) =>
 if (((0 : Nat) : Nat) : Int) < ((m1 : Nat) : Int) then
 some (([], (1 : Int)))
 else
 bd (M_nat_plain_own fu t1) fun t2 =>
 some ((t2, (0 : Int)))
def M_nat_less (fu : Nat) (a0 : List Nat) (a1 : List Nat) : Option (List Nat) :=
 bd (M_nat_Sub fu a0 a1) fun (t1, x1) =>
 some t1
def M_nat_moved (fu : Nat) (a0 : List Nat) (a1 : Int) : Option (List Nat) :=
 ckN a1 fun j1 =>
 ck (8 * j1 ≤ 281474976710656) <|
 nm (List.replicate j1 0) fun t1 =>
 ck ((t1.length + a0.length) * 8 ≤ 140737488355328) <|
 nm (t1 ++ a0) fun t2 =>
 some t2
def M_math_bits_Mul64 (fu : Nat) (a0 : Nat) (a1 : Nat) : Option (Nat × Nat) :=
 nm (a0 &&& ((4294967295 : Nat))) fun m1 =>
 nm (a0 / 2 ^ (min (((32 : Nat)) : Int).toNat 64)) fun m2 =>
 nm (a1 &&& ((4294967295 : Nat))) fun m3 =>
 nm (a1 / 2 ^ (min (((32 : Nat)) : Int).toNat 64)) fun m4 =>
 nm ((m1 * m3) % 18446744073709551616) fun m5 =>
 nm ((m2 * m3) % 18446744073709551616) fun m6 =>
 nm (m5 / 2 ^ (min (((32 : Nat)) : Int).toNat 64)) fun m7 =>
 nm ((m6 + m7) % 18446744073709551616) fun m8 =>
 nm (m8 &&& ((4294967295 : Nat))) fun m9 =>
 nm (m8 / 2 ^ (min (((32 : Nat)) : Int).toNat 64)) fun m10 =>
 nm ((m1 * m4) % 18446744073709551616) fun m11 =>
 nm ((m9 + m11) % 18446744073709551616) fun m12 =>
 nm ((m2 * m4) % 18446744073709551616) fun m13 =>
 nm ((m13 + m10) % 18446744073709551616) fun m14 =>
 nm (m12 / 2 ^ (min (((32 : Nat)) : Int).toNat 64)) fun m15 =>
 nm ((m14 + m15) % 18446744073709551616) fun m16 =>
 nm ((a0 * a1) % 18446744073709551616) fun m17 =>
 some (m16, m17)
def M_nat_row_1 (fu : Nat) (a0 : Int) (a1 : Nat) (a2 : List Nat) (a3 : Nat) : Option (Nat × Nat) :=
 ckI a0 (a2.length) fun j1 =>
 nm (a2.getD j1 0) fun y1 =>
 bd (M_math_bits_Mul64 fu y1 a3) fun (m1, m2) =>
 ck ((0 : Nat) ≤ 1) <|
 nm ((m2 + a1 + ((0 : Nat))) % 18446744073709551616) fun m3 =>
 nm ((m2 + a1 + ((0 : Nat))) / 18446744073709551616) fun m4 =>
 nm ((m1 + m4) % 18446744073709551616) fun m5 =>
 some (m3, m5)
def M_nat_row (fu : Nat) (a0 : List Nat) (a1 : Nat) : Option (List Nat) :=
 bd (M_nat_carried fu (((a0.length : Nat) : Int)) (fun zx0 zx1 => M_nat_row_1 fu zx0 zx1 a0 a1)) fun (t1, m1) =>
 ck ((t1.length + ([m1]).length) * 8 ≤ 140737488355328) <|
 nm (t1 ++ ([m1])) fun t2 =>
 some t2
def B_nat_school_1 (fu : Nat) (i1 : Int) (t3 : List Nat) (t4 : List Nat) (i2 : Int) (t5 : List Nat) : ((Nat × Int × (List Nat) × (List Nat)) → Option (List Nat)) → (Nat × Int × (List Nat) × (List Nat)) → Option (List Nat) := fun L (d1, i3, t6, t7) =>
 bd ((if i3 < ((t5.length : Nat) : Int) then
 some ((t3, i1, t4, i2, i1, ((t5.length : Nat) : Int), true))
 else
 some ((t3, i1, t4, i2, i1, ((t5.length : Nat) : Int), false)) : Option ((List Nat) × Int × (List Nat) × Int × Int × Int × Bool))) fun (t8, i4, t9, i5, i6, i7, b2) =>
 if b2 = true then
 ckI i3 (t7.length) fun j3 =>
 nm ((t7.getD j3 0)) fun m1 =>
 ck64 (i4 + i3) fun x3 =>
 ck64 (i4 + i3) fun x4 =>
 ckI x4 (t6.length) fun j4 =>
 nm ((t6.getD j4 0)) fun m2 =>
 ck (d1 ≤ 1) <|
 nm ((m2 + m1 + d1) % 18446744073709551616) fun m3 =>
 nm ((m2 + m1 + d1) / 18446744073709551616) fun m4 =>
 ckI x3 (t6.length) fun j5 =>
 nm (t6.set j5 m3) fun t10 =>
 ck64 (i3 + ((1 : Int))) fun x5 =>
 L (m4, x5, t10, t7)
 else
 some t6
def B_nat_school_0 (fu : Nat) (a0 : List Nat) (a1 : List Nat) : ((Int × (List Nat)) → Option (List Nat)) → (Int × (List Nat)) → Option (List Nat) := fun L (i1, t2) =>
 bd ((if i1 < ((a1.length : Nat) : Int) then
 some ((a0, a1, ((a1.length : Nat) : Int), true))
 else
 some ((a0, a1, ((a1.length : Nat) : Int), false)) : Option ((List Nat) × (List Nat) × Int × Bool))) fun (t3, t4, i2, b1) =>
 if b1 = true then
 ckI i1 (t4.length) fun j2 =>
 nm (t4.getD j2 0) fun y1 =>
 bd (M_nat_row fu t3 y1) fun t5 =>
 bd (loopN (B_nat_school_1 fu i1 t3 t4 i2 t5) fu (((0 : Nat), (0 : Int), t2, t5))) fun t11 =>
 ck64 (i1 + ((1 : Int))) fun x6 =>
 L (x6, t11)
 else
 some t2
def M_nat_school (fu : Nat) (a0 : List Nat) (a1 : List Nat) : Option (List Nat) :=
 ck64 ((((a0.length : Nat) : Int)) + (((a1.length : Nat) : Int))) fun x1 =>
 ck64 (x1 + ((1 : Int))) fun x2 =>
 ckN x2 fun j1 =>
 ck (8 * j1 ≤ 281474976710656) <|
 nm (List.replicate j1 0) fun t1 =>
 bd (loopN (B_nat_school_0 fu a0 a1) fu (((0 : Int), t1))) fun t12 =>
 bd (M_nat_plain_own fu t12) fun t13 =>
 some t13
def M_nat_Mul : Nat → (List Nat) → (List Nat) → Option (List Nat)
  | 0, _, _ => none
  | fu + 1, a0, a1 =>
    bd (M_nat_plain fu a0) fun t1 =>
    bd (M_nat_plain fu a1) fun t2 =>
    nm (min (((t1.length : Nat) : Int)) (((t2.length : Nat) : Int))) fun x1 =>
    if x1 < (8 : Int) then
    bd (M_nat_school fu t1 t2) fun t3 =>
    some t3
    else
    nm (max (((t1.length : Nat) : Int)) (((t2.length : Nat) : Int))) fun x2 =>
    ck ((2 : Int) ≠ 0) <|
    ck64 (Int.tdiv x2 ((2 : Int))) fun x3 =>
    nm (min x3 (((t1.length : Nat) : Int))) fun x4 =>
    ckN x4 fun j1 =>
    ck (j1 ≤ t1.length) <|
    nm (t1.take j1) fun t4 =>
    bd (M_nat_plain fu t4) fun t5 =>
    nm (min x3 (((t1.length : Nat) : Int))) fun x5 =>
    ckN x5 fun j2 =>
    ck (j2 ≤ t1.length) <|
    nm (t1.drop j2) fun t6 =>
    nm (min x3 (((t2.length : Nat) : Int))) fun x6 =>
    ckN x6 fun j3 =>
    ck (j3 ≤ t2.length) <|
    nm (t2.take j3) fun t7 =>
    bd (M_nat_plain fu t7) fun t8 =>
    nm (min x3 (((t2.length : Nat) : Int))) fun x7 =>
    ckN x7 fun j4 =>
    ck (j4 ≤ t2.length) <|
    nm (t2.drop j4) fun t9 =>
    bd (M_nat_Mul fu t5 t8) fun t10 =>
    bd (M_nat_Mul fu t6 t9) fun t11 =>
    bd (M_nat_Add fu t5 t6) fun t12 =>
    bd (M_nat_Add fu t8 t9) fun t13 =>
    bd (M_nat_Mul fu t12 t13) fun t14 =>
    bd (M_nat_less fu t14 t10) fun t15 =>
    bd (M_nat_less fu t15 t11) fun t16 =>
    bd (M_nat_moved fu t16 x3) fun t17 =>
    bd (M_nat_Add fu t10 t17) fun t18 =>
    ck64 (((2 : Int)) * x3) fun x8 =>
    bd (M_nat_moved fu t11 x8) fun t19 =>
    bd (M_nat_Add fu t18 t19) fun t20 =>
    some t20
def M_zint_Mul (fu : Nat) (a0 : Zr) (a1 : Zr) : Option Zr :=
 nm (!(a0.1 == a1.1)) fun c1 =>
 bd (M_nat_Mul fu a0.2 a1.2) fun t1 =>
 bd (M_zint_made fu c1 t1) fun y1 =>
 some y1
def M_zint_Norm (fu : Nat) (a0 : Zr) : Option Zr :=
 bd (M_zint_made fu a0.1 a0.2) fun y1 =>
 some y1
def B_zint_Pow_0 (fu : Nat)  : ((Int × Zr × Zr) → Option Zr) → (Int × Zr × Zr) → Option Zr := fun L (i1, t1, t2) =>
 if (0 : Int) < i1 then
 nm (andI i1 ((1 : Int))) fun x3 =>
 if x3 = (1 : Int) then
 bd (M_zint_Mul fu t2 t1) fun y3 =>
 if (1 : Int) < i1 then
 bd (M_zint_Mul fu t1 t1) fun y4 =>
 nm (Int.fdiv i1 (2 ^ (min (((1 : Nat)) : Int).toNat 64))) fun x4 =>
 L (x4, y4, y3)
 else
 nm (Int.fdiv i1 (2 ^ (min (((1 : Nat)) : Int).toNat 64))) fun x5 =>
 L (x5, t1, y3)
 else
 if (1 : Int) < i1 then
 bd (M_zint_Mul fu t1 t1) fun y5 =>
 nm (Int.fdiv i1 (2 ^ (min (((1 : Nat)) : Int).toNat 64))) fun x6 =>
 L (x6, y5, t2)
 else
 nm (Int.fdiv i1 (2 ^ (min (((1 : Nat)) : Int).toNat 64))) fun x7 =>
 L (x7, t1, t2)
 else
 some t2
def M_zint_Pow (fu : Nat) (a0 : Zr) (a1 : Int) : Option (Zr × Int) :=
 bd ((if a1 < (0 : Int) then
 some true
 else
 if (65536 : Int) < a1 then
 some true
 else
 some false : Option Bool)) fun b1 =>
 if b1 = true then
 some (((false, []), (1 : Int)))
 else
 bd (M_nat_Bits fu a0.2) fun x1 =>
 ck64 (x1 * a1) fun x2 =>
 if (262144 : Int) < x2 then
 some (((false, []), (6 : Int)))
 else
 bd (M_zint_Of fu (1 : Int)) fun y1 =>
 bd (M_zint_Norm fu a0) fun y2 =>
 bd (loopN (B_zint_Pow_0 fu ) fu (a1, y2, y1)) fun t3 =>
 some ((t3, (0 : Int)))
def M_hensel_Power (fu : Nat) (a0 : Int) (a1 : Int) : Option (Zr × Int) :=
 bd (M_prime_Is fu a0) fun c1 =>
 if ((!c1)) = true then
 some (((false, []), (1 : Int)))
 else
 if a1 < (1 : Int) then
 some (((false, []), (1 : Int)))
 else
 if (1000 : Int) < a1 then
 some (((false, []), (1 : Int)))
 else
 bd (M_zint_Of fu a0) fun y1 =>
 bd (M_zint_Pow fu y1 a1) fun (y2, x1) =>
 some (y2, x1)
def M_zint_Sign (fu : Nat) (a0 : Zr) : Option Int :=
 bd (M_zint_Norm fu a0) fun y1 =>
 if y1.1 = true then
 ck64 (((0 : Int)) - ((2 : Int))) fun x1 =>
 ck64 (x1 + ((1 : Int))) fun x2 =>
 some x2
 else
 if (0 : Int) < ((y1.2.length : Nat) : Int) then
 ck64 (((0 : Int)) + ((1 : Int))) fun x3 =>
 some x3
 else
 some (0 : Int)
def M_zpoly_Norm_1 (fu : Nat) (a0 : Int) (a1 : Zr) : Option Zr :=
 bd (M_zint_Norm fu a1) fun y1 =>
 some y1
def B_zpoly_each_api_Int_api_Int_0 (fu : Nat) (a0 : List Zr) (a1 : Int → Zr → Option Zr) : ((Int × (List Zr)) → Option (List Zr)) → (Int × (List Zr)) → Option (List Zr) := fun L (i1, t2) =>
 bd ((if i1 < ((a0.length : Nat) : Int) then
 some ((a0, ((a0.length : Nat) : Int), true))
 else
 some ((a0, ((a0.length : Nat) : Int), false)) : Option ((List Zr) × Int × Bool))) fun (t3, i2, b1) =>
 if b1 = true then
 ckI i1 (t3.length) fun j2 =>
 nm (t3.getD j2 (false, [])) fun y1 =>
 bd (a1 i1 y1) fun y2 =>
 ckI i1 (t2.length) fun j3 =>
 nm (t2.set j3 y2) fun t4 =>
 ck64 (i1 + ((1 : Int))) fun x1 =>
 L (x1, t4)
 else
 some t2
def M_zpoly_each_api_Int_api_Int (fu : Nat) (a0 : List Zr) (a1 : Int → Zr → Option Zr) : Option (List Zr) :=
 ckN (((a0.length : Nat) : Int)) fun j1 =>
 ck (32 * j1 ≤ 281474976710656) <|
 nm (List.replicate j1 (false, [])) fun t1 =>
 bd (loopN (B_zpoly_each_api_Int_api_Int_0 fu a0 a1) fu (((0 : Int), t1))) fun t5 =>
 some t5
def B_zpoly_Norm_0 (fu : Nat)  : ((List Zr) → Option (List Zr)) → (List Zr) → Option (List Zr) := fun L t1 =>
 if (0 : Int) < ((t1.length : Nat) : Int) then
 ck64 ((((t1.length : Nat) : Int)) - ((1 : Int))) fun x1 =>
 ckI x1 (t1.length) fun j1 =>
 nm (t1.getD j1 (false, [])) fun y1 =>
 bd (M_zint_Sign fu y1) fun x2 =>
 if x2 = (0 : Int) then
 ck64 ((((t1.length : Nat) : Int)) - ((1 : Int))) fun x3 =>
 ckN x3 fun j2 =>
 ck (j2 ≤ t1.length) <|
 nm (t1.take j2) fun t2 =>
 L t2
 else
 some t1
 else
 some t1
def M_zpoly_Norm (fu : Nat) (a0 : List Zr) : Option (List Zr) :=
 bd (loopN (B_zpoly_Norm_0 fu ) fu a0) fun t3 =>
 bd (M_zpoly_each_api_Int_api_Int fu t3 (fun zx0 zx1 => M_zpoly_Norm_1 fu zx0 zx1)) fun t4 =>
 some t4
def B_hensel_rests_0 (fu : Nat) (a0 : List Zr) (a1 : Zr) (a2 : Zr → Zr → Option (Zr × Int)) : ((Int × (List Zr)) → Option (List Zr)) → (Int × (List Zr)) → Option (List Zr) := fun L (i1, t2) =>
 bd ((if i1 < ((a0.length : Nat) : Int) then
 some ((a1, a0, ((a0.length : Nat) : Int), true))
 else
 some ((a1, a0, ((a0.length : Nat) : Int), false)) : Option (Zr × (List Zr) × Int × Bool))) fun (t3, t4, i2, b1) =>
 if b1 = true then
 ckI i1 (t4.length) fun j2 =>
 nm (t4.getD j2 (false, [])) fun y1 =>
 bd (a2 y1 t3) fun (y2, x2) =>
 ckI i1 (t2.length) fun j3 =>
 nm (t2.set j3 y2) fun t5 =>
 ck64 (i1 + ((1 : Int))) fun x3 =>
 L (x3, t5)
 else
 some t2
def M_hensel_rests (fu : Nat) (a0 : List Zr) (a1 : Zr) (a2 : Zr → Zr → Option (Zr × Int)) : Option ((List Zr) × Int) :=
 bd (M_zint_Sign fu a1) fun x1 =>
 if x1 ≤ (0 : Int) then
 some (([], (1 : Int)))
 else
 ckN (((a0.length : Nat) : Int)) fun j1 =>
 ck (32 * j1 ≤ 281474976710656) <|
 nm (List.replicate j1 (false, [])) fun t1 =>
 bd (loopN (B_hensel_rests_0 fu a0 a1 a2) fu (((0 : Int), t1))) fun t6 =>
 bd (M_zpoly_Norm fu t6) fun t7 =>
 some ((t7, (0 : Int)))
def M_cmp_isNaN_int (fu : Nat) (a0 : Int) : Option Bool :=
 if a0 = a0 then
 some false
 else
 some true
def M_cmp_Compare_int (fu : Nat) (a0 : Int) (a1 : Int) : Option Int :=
 bd (M_cmp_isNaN_int fu a0) fun c1 =>
 bd (M_cmp_isNaN_int fu a1) fun c2 =>
 if c1 = true then
 if c2 = true then
 some (0 : Int)
 else
 some (-1 : Int)
 else
 if c2 = true then
 some (1 : Int)
 else
 if a0 < a1 then
 some (-1 : Int)
 else
 if a1 < a0 then
 some (1 : Int)
 else
 some (0 : Int)
def M_cmp_isNaN_uint64 (fu : Nat) (a0 : Nat) : Option Bool :=
 if ((a0 : Nat) : Int) = ((a0 : Nat) : Int) then
 some false
 else
 some true
def M_cmp_Compare_uint64 (fu : Nat) (a0 : Nat) (a1 : Nat) : Option Int :=
 bd (M_cmp_isNaN_uint64 fu a0) fun c1 =>
 bd (M_cmp_isNaN_uint64 fu a1) fun c2 =>
 if c1 = true then
 if c2 = true then
 some (0 : Int)
 else
 some (-1 : Int)
 else
 if c2 = true then
 some (1 : Int)
 else
 if ((a0 : Nat) : Int) < ((a1 : Nat) : Int) then
 some (-1 : Int)
 else
 if ((a1 : Nat) : Int) < ((a0 : Nat) : Int) then
 some (1 : Int)
 else
 some (0 : Int)
def B_nat_Cmp_0 (fu : Nat) (t1 : List Nat) (t2 : List Nat) : (Int → Option (Unit ⊕ Int)) → Int → Option (Unit ⊕ Int) := fun L i1 =>
 if (0 : Int) ≤ i1 then
 ckI i1 (t1.length) fun j1 =>
 nm (t1.getD j1 0) fun y1 =>
 ckI i1 (t2.length) fun j2 =>
 nm (t2.getD j2 0) fun y2 =>
 if ((y1 : Nat) : Int) = ((y2 : Nat) : Int) then
 ck64 (i1 - ((1 : Int))) fun x2 =>
 L x2
 else
 ckI i1 (t1.length) fun j3 =>
 nm (t1.getD j3 0) fun y3 =>
 ckI i1 (t2.length) fun j4 =>
 nm (t2.getD j4 0) fun y4 =>
 bd (M_cmp_Compare_uint64 fu y3 y4) fun x3 =>
 some (.inr x3)
 else
 some (.inl ())
def M_nat_Cmp (fu : Nat) (a0 : List Nat) (a1 : List Nat) : Option Int :=
 bd (M_nat_plain fu a0) fun t1 =>
 bd (M_nat_plain fu a1) fun t2 =>
 if ((t1.length : Nat) : Int) = ((t2.length : Nat) : Int) then
 ck64 ((((t1.length : Nat) : Int)) - ((1 : Int))) fun x1 =>
 bd (loopN (B_nat_Cmp_0 fu t1 t2) fu x1) fun s1 => match s1 with
 | .inl _ =>
 some (0 : Int)
 | .inr i2 =>
 some i2
 else
 bd (M_cmp_Compare_int fu (((t1.length : Nat) : Int)) (((t2.length : Nat) : Int))) fun x4 =>
 some x4
def M_nat_Shl_1 (fu : Nat) (a0 : Int) (a1 : Nat) (a2 : List Nat) (a3 : Int) : Option (Nat × Nat) :=
 ckI a0 (a2.length) fun j1 =>
 nm (a2.getD j1 0) fun y1 =>
 ck ((64 : Int) ≠ 0) <|
 nm (Int.tmod a3 ((64 : Int))) fun x1 =>
 ck (0 ≤ x1) <|
 nm (y1 * 2 ^ (min (x1 : Int).toNat 64) % 18446744073709551616) fun m1 =>
 nm (m1 ||| a1) fun m2 =>
 ckI a0 (a2.length) fun j2 =>
 nm (a2.getD j2 0) fun y2 =>
 nm (y2 / 2 ^ (min (((1 : Nat)) : Int).toNat 64)) fun m3 =>
 ck ((64 : Int) ≠ 0) <|
 nm (Int.tmod a3 ((64 : Int))) fun x2 =>
 ck64 (((63 : Int)) - x2) fun x3 =>
 ck (0 ≤ x3) <|
 nm (m3 / 2 ^ (min (x3 : Int).toNat 64)) fun m4 =>
 some (m2, m4)
def M_nat_Shl (fu : Nat) (a0 : List Nat) (a1 : Int) : Option ((List Nat) × Int) :=
 if a1 < (0 : Int) then
 some (([], (1 : Int)))
 else
 if (262144 : Int) < a1 then
 some (([], (1 : Int)))
 else
 bd (M_nat_carried fu (((a0.length : Nat) : Int)) (fun zx0 zx1 => M_nat_Shl_1 fu zx0 zx1 a0 a1)) fun (t1, m1) =>
 ck ((t1.length + ([m1]).length) * 8 ≤ 140737488355328) <|
 nm (t1 ++ ([m1])) fun t2 =>
 ck ((64 : Int) ≠ 0) <|
 ck64 (Int.tdiv a1 ((64 : Int))) fun x1 =>
 bd (M_nat_moved fu t2 x1) fun t3 =>
 bd (M_nat_plain_own fu t3) fun t4 =>
 some ((t4, (0 : Int)))
def M_nat_Shr_1 (fu : Nat) (a0 : Int) (a1 : Nat) (a2 : List Nat) (a3 : Int) : Option (Nat × Nat) :=
 ckI a0 (a2.length) fun j1 =>
 nm (a2.getD j1 0) fun y1 =>
 ck (0 ≤ a3) <|
 nm (y1 / 2 ^ (min (a3 : Int).toNat 64)) fun m1 =>
 ck64 (a0 + ((1 : Int))) fun x1 =>
 bd (M_nat_at fu a2 x1) fun m2 =>
 nm (m2 * 2 ^ (min (((1 : Nat)) : Int).toNat 64) % 18446744073709551616) fun m3 =>
 ck64 (((63 : Int)) - a3) fun x2 =>
 ck (0 ≤ x2) <|
 nm (m3 * 2 ^ (min (x2 : Int).toNat 64) % 18446744073709551616) fun m4 =>
 nm (m1 ||| m4) fun m5 =>
 some ((m5, (0 : Nat)))
def M_nat_Shr (fu : Nat) (a0 : List Nat) (a1 : Int) : Option (List Nat) :=
 nm (max a1 ((0 : Int))) fun x1 =>
 ck ((64 : Int) ≠ 0) <|
 ck64 (Int.tdiv x1 ((64 : Int))) fun x2 =>
 if ((a0.length : Nat) : Int) ≤ x2 then
 some []
 else
 ck ((64 : Int) ≠ 0) <|
 ck64 (Int.tdiv x1 ((64 : Int))) fun x3 =>
 ckN x3 fun j1 =>
 ck (j1 ≤ a0.length) <|
 nm (a0.drop j1) fun t1 =>
 ck ((64 : Int) ≠ 0) <|
 nm (Int.tmod x1 ((64 : Int))) fun x4 =>
 bd (M_nat_carried fu (((t1.length : Nat) : Int)) (fun zx0 zx1 => M_nat_Shr_1 fu zx0 zx1 t1 x4)) fun (t2, m1) =>
 bd (M_nat_plain_own fu t2) fun t3 =>
 some t3
def M_math_bits_LeadingZeros64 (fu : Nat) (a0 : Nat) : Option Int :=
 bd (M_math_bits_Len64 fu a0) fun x1 =>
 ck64 (((64 : Int)) - x1) fun x2 =>
 some x2
def B_math_bits_Div64_0 (fu : Nat) (m5 : Nat) (m6 : Nat) (m12 : Nat) : ((Nat × Nat) → Option Nat) → (Nat × Nat) → Option Nat := fun L (d1, d2) =>
 if (((4294967296 : Nat) : Nat) : Int) ≤ ((d1 : Nat) : Int) then
 nm ((d1 + 18446744073709551616 - ((1 : Nat))) % 18446744073709551616) fun m17 =>
 nm ((d2 + m5) % 18446744073709551616) fun m18 =>
 if (((4294967296 : Nat) : Nat) : Int) ≤ ((m18 : Nat) : Int) then
 some m17
 else
 L (m17, m18)
 else
 nm ((d1 * m6) % 18446744073709551616) fun m19 =>
 nm ((((4294967296 : Nat)) * d2) % 18446744073709551616) fun m20 =>
 nm ((m20 + m12) % 18446744073709551616) fun m21 =>
 if ((m21 : Nat) : Int) < ((m19 : Nat) : Int) then
 nm ((d1 + 18446744073709551616 - ((1 : Nat))) % 18446744073709551616) fun m22 =>
 nm ((d2 + m5) % 18446744073709551616) fun m23 =>
 if (((4294967296 : Nat) : Nat) : Int) ≤ ((m23 : Nat) : Int) then
 some m22
 else
 L (m22, m23)
 else
 some d1
def B_math_bits_Div64_1 (fu : Nat) (m5 : Nat) (m6 : Nat) (m13 : Nat) : ((Nat × Nat) → Option Nat) → (Nat × Nat) → Option Nat := fun L (d4, d5) =>
 if (((4294967296 : Nat) : Nat) : Int) ≤ ((d5 : Nat) : Int) then
 nm ((d5 + 18446744073709551616 - ((1 : Nat))) % 18446744073709551616) fun m31 =>
 nm ((d4 + m5) % 18446744073709551616) fun m32 =>
 if (((4294967296 : Nat) : Nat) : Int) ≤ ((m32 : Nat) : Int) then
 some m31
 else
 L (m32, m31)
 else
 nm ((d5 * m6) % 18446744073709551616) fun m33 =>
 nm ((((4294967296 : Nat)) * d4) % 18446744073709551616) fun m34 =>
 nm ((m34 + m13) % 18446744073709551616) fun m35 =>
 if ((m35 : Nat) : Int) < ((m33 : Nat) : Int) then
 nm ((d5 + 18446744073709551616 - ((1 : Nat))) % 18446744073709551616) fun m36 =>
 nm ((d4 + m5) % 18446744073709551616) fun m37 =>
 if (((4294967296 : Nat) : Nat) : Int) ≤ ((m37 : Nat) : Int) then
 some m36
 else
 L (m37, m36)
 else
 some d5
def M_math_bits_Div64 (fu : Nat) (a0 : Nat) (a1 : Nat) (a2 : Nat) : Option (Nat × Nat) :=
 if ((a2 : Nat) : Int) = (((0 : Nat) : Nat) : Int) then
 none
 else
 if ((a2 : Nat) : Int) ≤ ((a0 : Nat) : Int) then
 none
 else
 if ((a0 : Nat) : Int) = (((0 : Nat) : Nat) : Int) then
 ck (a2 ≠ 0) <|
 nm (a1 / a2) fun m1 =>
 ck (a2 ≠ 0) <|
 nm (a1 % a2) fun m2 =>
 some (m1, m2)
 else
 bd (M_math_bits_LeadingZeros64 fu a2) fun x1 =>
 nm (uns x1) fun m3 =>
 nm (a2 * 2 ^ (min (m3 : Int).toNat 64) % 18446744073709551616) fun m4 =>
 nm (m4 / 2 ^ (min (((32 : Nat)) : Int).toNat 64)) fun m5 =>
 nm (m4 &&& ((4294967295 : Nat))) fun m6 =>
 nm (a0 * 2 ^ (min (m3 : Int).toNat 64) % 18446744073709551616) fun m7 =>
 nm ((((64 : Nat)) + 18446744073709551616 - m3) % 18446744073709551616) fun m8 =>
 nm (a1 / 2 ^ (min (m8 : Int).toNat 64)) fun m9 =>
 nm (m7 ||| m9) fun m10 =>
 nm (a1 * 2 ^ (min (m3 : Int).toNat 64) % 18446744073709551616) fun m11 =>
 nm (m11 / 2 ^ (min (((32 : Nat)) : Int).toNat 64)) fun m12 =>
 nm (m11 &&& ((4294967295 : Nat))) fun m13 =>
 ck (m5 ≠ 0) <|
 nm (m10 / m5) fun m14 =>
 nm ((m14 * m5) % 18446744073709551616) fun m15 =>
 nm ((m10 + 18446744073709551616 - m15) % 18446744073709551616) fun m16 =>
 bd (loopN (B_math_bits_Div64_0 fu m5 m6 m12) fu (m14, m16)) fun d3 =>
 nm ((m10 * ((4294967296 : Nat))) % 18446744073709551616) fun m24 =>
 nm ((m24 + m12) % 18446744073709551616) fun m25 =>
 nm ((d3 * m4) % 18446744073709551616) fun m26 =>
 nm ((m25 + 18446744073709551616 - m26) % 18446744073709551616) fun m27 =>
 ck (m5 ≠ 0) <|
 nm (m27 / m5) fun m28 =>
 nm ((m28 * m5) % 18446744073709551616) fun m29 =>
 nm ((m27 + 18446744073709551616 - m29) % 18446744073709551616) fun m30 =>
 bd (loopN (B_math_bits_Div64_1 fu m5 m6 m13) fu (m30, m28)) fun d6 =>
 nm ((d3 * ((4294967296 : Nat))) % 18446744073709551616) fun m38 =>
 nm ((m38 + d6) % 18446744073709551616) fun m39 =>
 nm ((m27 * ((4294967296 : Nat))) % 18446744073709551616) fun m40 =>
 nm ((m40 + m13) % 18446744073709551616) fun m41 =>
 nm ((d6 * m4) % 18446744073709551616) fun m42 =>
 nm ((m41 + 18446744073709551616 - m42) % 18446744073709551616) fun m43 =>
 nm (m43 / 2 ^ (min (m3 : Int).toNat 64)) fun m44 =>
 some (m39, m44)
def B_nat_guess_0 (fu : Nat) (a2 : Nat) (a3 : Nat) (a4 : Nat) : ((Nat × Nat) → Option Nat) → (Nat × Nat) → Option Nat := fun L (d1, d2) =>
 bd (M_math_bits_Mul64 fu d1 a4) fun (m3, m4) =>
 if ((m3 : Nat) : Int) < ((d2 : Nat) : Int) then
 some d1
 else
 if ((m3 : Nat) : Int) = ((d2 : Nat) : Int) then
 if ((m4 : Nat) : Int) ≤ ((a2 : Nat) : Int) then
 some d1
 else
 nm ((d1 + 18446744073709551616 - ((1 : Nat))) % 18446744073709551616) fun m5 =>
 ck ((0 : Nat) ≤ 1) <|
 nm ((d2 + a3 + ((0 : Nat))) % 18446744073709551616) fun m6 =>
 nm ((d2 + a3 + ((0 : Nat))) / 18446744073709551616) fun m7 =>
 if (((0 : Nat) : Nat) : Int) < ((m7 : Nat) : Int) then
 some m5
 else
 L (m5, m6)
 else
 nm ((d1 + 18446744073709551616 - ((1 : Nat))) % 18446744073709551616) fun m8 =>
 ck ((0 : Nat) ≤ 1) <|
 nm ((d2 + a3 + ((0 : Nat))) % 18446744073709551616) fun m9 =>
 nm ((d2 + a3 + ((0 : Nat))) / 18446744073709551616) fun m10 =>
 if (((0 : Nat) : Nat) : Int) < ((m10 : Nat) : Int) then
 some m8
 else
 L (m8, m9)
def M_nat_guess (fu : Nat) (a0 : Nat) (a1 : Nat) (a2 : Nat) (a3 : Nat) (a4 : Nat) : Option Nat :=
 if ((a3 : Nat) : Int) ≤ ((a0 : Nat) : Int) then
 some (18446744073709551615 : Nat)
 else
 bd (M_math_bits_Div64 fu a0 a1 a3) fun (m1, m2) =>
 bd (loopN (B_nat_guess_0 fu a2 a3 a4) fu (m1, m2)) fun d3 =>
 some d3
def B_nat_short_0 (fu : Nat) (a0 : List Nat) (a1 : Nat) : ((Nat × Int × (List Nat)) → Option (Nat × (List Nat))) → (Nat × Int × (List Nat)) → Option (Nat × (List Nat)) := fun L (d1, i1, t2) =>
 if (0 : Int) ≤ i1 then
 ckI i1 (a0.length) fun j2 =>
 nm (a0.getD j2 0) fun y1 =>
 bd (M_math_bits_Div64 fu d1 y1 a1) fun (m1, m2) =>
 ckI i1 (t2.length) fun j3 =>
 nm (t2.set j3 m1) fun t3 =>
 ck64 (i1 - ((1 : Int))) fun x2 =>
 L (m2, x2, t3)
 else
 some (d1, t2)
def M_nat_short (fu : Nat) (a0 : List Nat) (a1 : Nat) : Option ((List Nat) × Nat) :=
 ckN (((a0.length : Nat) : Int)) fun j1 =>
 ck (8 * j1 ≤ 281474976710656) <|
 nm (List.replicate j1 0) fun t1 =>
 ck64 ((((a0.length : Nat) : Int)) - ((1 : Int))) fun x1 =>
 bd (loopN (B_nat_short_0 fu a0 a1) fu (((0 : Nat), x1, t1))) fun (d2, t4) =>
 bd (M_nat_plain_own fu t4) fun t5 =>
 some (t5, d2)
def B_nat_Div_1 (fu : Nat) (t10 : List Nat) : ((Int × Int × Nat × (List Nat)) → Option (Int × Int × Nat × (List Nat))) → (Int × Int × Nat × (List Nat)) → Option (Int × Int × Nat × (List Nat)) := fun L (i2, i3, d1, t15) =>
 bd (M_nat_row fu t10 d1) fun t16 =>
 bd (M_nat_Cmp fu t16 t15) fun x19 =>
 if (0 : Int) < x19 then
 nm ((d1 + 18446744073709551616 - ((1 : Nat))) % 18446744073709551616) fun m6 =>
 L (i2, i3, m6, t15)
 else
 some (i2, i3, d1, t15)
def B_nat_Div_0 (fu : Nat) (x3 : Int) (t6 : List Nat) : (((List Nat) × Int × (List Nat) × (List Nat)) → Option ((List Nat) × (List Nat))) → ((List Nat) × Int × (List Nat) × (List Nat)) → Option ((List Nat) × (List Nat)) := fun L (t10, i1, t11, t12) =>
 if (0 : Int) ≤ i1 then
 ck64 (i1 + (((t6.length : Nat) : Int))) fun x10 =>
 ckI x10 (t11.length) fun j5 =>
 nm ((t11.getD j5 0)) fun m2 =>
 ck64 (i1 + (((t6.length : Nat) : Int))) fun x11 =>
 ck64 (x11 - ((1 : Int))) fun x12 =>
 ckI x12 (t11.length) fun j6 =>
 nm ((t11.getD j6 0)) fun m3 =>
 ck64 (i1 + (((t6.length : Nat) : Int))) fun x13 =>
 ck64 (x13 - ((2 : Int))) fun x14 =>
 ckI x14 (t11.length) fun j7 =>
 nm ((t11.getD j7 0)) fun m4 =>
 ck64 ((((t6.length : Nat) : Int)) - ((1 : Int))) fun x15 =>
 ckI x15 (t10.length) fun j8 =>
 nm (t10.getD j8 0) fun y3 =>
 ck64 ((((t6.length : Nat) : Int)) - ((2 : Int))) fun x16 =>
 ckI x16 (t10.length) fun j9 =>
 nm (t10.getD j9 0) fun y4 =>
 bd (M_nat_guess fu m2 m3 m4 y3 y4) fun m5 =>
 ck64 (i1 + (((t6.length : Nat) : Int))) fun x17 =>
 ck64 (x17 + ((1 : Int))) fun x18 =>
 ckN i1 fun j10 =>
 ckN x18 fun j11 =>
 ck (j10 ≤ j11 ∧ j11 ≤ t11.length) <|
 nm (List.take (j11 - j10) (List.drop j10 t11)) fun t13 =>
 ck (((([] : List Nat)).length + t13.length) * 8 ≤ 140737488355328) <|
 nm ((([] : List Nat)) ++ t13) fun t14 =>
 bd (loopN (B_nat_Div_1 fu t10) fu ((x3, ((t6.length : Nat) : Int), m5, t14))) fun (i4, i5, d2, t17) =>
 ckI i1 (t12.length) fun j12 =>
 nm (t12.set j12 d2) fun t18 =>
 ckN i1 fun j13 =>
 ck (j13 ≤ t11.length) <|
 bd (M_nat_row fu t10 d2) fun t19 =>
 bd (M_nat_less fu t17 t19) fun t20 =>
 ck64 (i5 + ((1 : Int))) fun x20 =>
 ckN x20 fun j14 =>
 ck ((t20.length + j14) * 8 ≤ 140737488355328) <|
 nm (t20 ++ List.replicate j14 0) fun t21 =>
 ck64 (i5 + ((1 : Int))) fun x21 =>
 ckN x21 fun j15 =>
 ck (j15 ≤ t21.length) <|
 nm (t21.take j15) fun t22 =>
 nm (cpyAt j13 (t11.length - j13) t11 t22) fun t23 =>
 ck64 (i1 - ((1 : Int))) fun x22 =>
 L (t10, x22, t23, t18)
 else
 some (t11, t12)
def M_nat_Div (fu : Nat) (a0 : List Nat) (a1 : List Nat) : Option ((List Nat) × (List Nat) × Int) :=
 bd (M_nat_plain fu a0) fun t1 =>
 bd (M_nat_plain fu a1) fun t2 =>
 bd ((if ((t2.length : Nat) : Int) = (0 : Int) then
 some true
 else
 some false : Option Bool)) fun b1 =>
 if b1 = true then
 some (([], [], (3 : Int)))
 else
 bd ((bd (M_nat_Cmp fu t1 t2) fun x1 =>
 if x1 < (0 : Int) then
 some true
 else
 some false : Option Bool)) fun b2 =>
 if b2 = true then
 bd (M_nat_Norm fu t1) fun t3 =>
 some (([], t3, (0 : Int)))
 else
 if ((t2.length : Nat) : Int) = (1 : Int) then
 ckI ((0 : Int)) (t2.length) fun j1 =>
 nm (t2.getD j1 0) fun y1 =>
 bd (M_nat_short fu t1 y1) fun (t4, m1) =>
 bd (M_nat_plain_own fu [m1]) fun t5 =>
 some ((t4, t5, (0 : Int)))
 else
 ck64 ((((t2.length : Nat) : Int)) - ((1 : Int))) fun x2 =>
 ckI x2 (t2.length) fun j2 =>
 nm (t2.getD j2 0) fun y2 =>
 bd (M_math_bits_LeadingZeros64 fu y2) fun x3 =>
 bd (M_nat_Shl fu t2 x3) fun (t6, x4) =>
 bd (M_nat_Shl fu t1 x3) fun (t7, x5) =>
 ck64 ((((t1.length : Nat) : Int)) + ((1 : Int))) fun x6 =>
 ck64 (x6 - (((t7.length : Nat) : Int))) fun x7 =>
 ckN x7 fun j3 =>
 ck ((t7.length + j3) * 8 ≤ 140737488355328) <|
 nm (t7 ++ List.replicate j3 0) fun t8 =>
 ck64 ((((t8.length : Nat) : Int)) - (((t6.length : Nat) : Int))) fun x8 =>
 ckN x8 fun j4 =>
 ck (8 * j4 ≤ 281474976710656) <|
 nm (List.replicate j4 0) fun t9 =>
 ck64 ((((t9.length : Nat) : Int)) - ((1 : Int))) fun x9 =>
 bd (loopN (B_nat_Div_0 fu x3 t6) fu (t6, x9, t8, t9)) fun (t24, t25) =>
 bd (M_nat_plain_own fu t25) fun t26 =>
 bd (M_nat_Shr fu t24 x3) fun t27 =>
 some ((t26, t27, (0 : Int)))
def M_zint_Div (fu : Nat) (a0 : Zr) (a1 : Zr) : Option (Zr × Zr × Int) :=
 bd (M_nat_Div fu a0.2 a1.2) fun (t1, t2, x1) =>
 if x1 = (0 : Int) then
 bd ((if a0.1 = true then
 if (0 : Int) < ((t2.length : Nat) : Int) then
 bd (M_nat_Add fu t1 [(1 : Nat)]) fun t3 =>
 bd (M_nat_Sub fu a1.2 t2) fun (t4, x2) =>
 some (t3, t4)
 else
 some (t1, t2)
 else
 some (t1, t2) : Option ((List Nat) × (List Nat)))) fun (t5, t6) =>
 nm (!(a0.1 == a1.1)) fun c1 =>
 bd (M_zint_made fu c1 t5) fun y1 =>
 bd (M_zint_made fu false t6) fun y2 =>
 some ((y1, y2, (0 : Int)))
 else
 some (((false, []), (false, []), x1))
def M_prime_Rest (fu : Nat) (a0 : Zr) (a1 : Zr) : Option (Zr × Int) :=
 bd (M_zint_Sign fu a1) fun x1 =>
 if x1 ≤ (0 : Int) then
 some (((false, []), (1 : Int)))
 else
 bd (M_zint_Div fu a0 a1) fun (y1, y2, x2) =>
 some ((y2, (0 : Int)))
def M_hensel_Red (fu : Nat) (a0 : List Zr) (a1 : Zr) : Option ((List Zr) × Int) :=
 bd (M_hensel_rests fu a0 a1 (fun zx0 zx1 => M_prime_Rest fu zx0 zx1)) fun (t1, x1) =>
 some (t1, x1)
def M_hensel_red (fu : Nat) (a0 : List Zr) (a1 : Zr) : Option (List Zr) :=
 bd (M_hensel_Red fu a0 a1) fun (t1, x1) =>
 some t1
def M_fp_Check (fu : Nat) (a0 : Int) : Option Int :=
 bd (M_prime_Is fu a0) fun c1 =>
 if ((!c1)) = true then
 some (1 : Int)
 else
 some (0 : Int)
def M_fp_Red (fu : Nat) (a0 : Int) (a1 : Int) : Option Int :=
 if a1 < (1 : Int) then
 some (0 : Int)
 else
 ck (a1 ≠ 0) <|
 nm (Int.tmod a0 a1) fun x1 =>
 if x1 < (0 : Int) then
 ck64 (x1 + a1) fun x2 =>
 some x2
 else
 some x1
def B_fp_Inv_0 (fu : Nat)  : ((Int × Int × Int × Int) → Option (Int ⊕ Unit)) → (Int × Int × Int × Int) → Option (Int ⊕ Unit) := fun L (i1, i2, i3, i4) =>
 if i2 = (0 : Int) then
 some (.inr ())
 else
 if i2 = (1 : Int) then
 some (.inl i4)
 else
 ck (i2 ≠ 0) <|
 ck64 (Int.tdiv i1 i2) fun x3 =>
 ck64 (x3 * i2) fun x4 =>
 ck64 (i1 - x4) fun x5 =>
 ck64 (x3 * i4) fun x6 =>
 ck64 (i3 - x6) fun x7 =>
 L (i2, x5, i4, x7)
def M_fp_Inv (fu : Nat) (a0 : Int) (a1 : Int) : Option (Int × Int) :=
 bd (M_fp_Check fu a1) fun x1 =>
 if x1 = (0 : Int) then
 bd (M_fp_Red fu a0 a1) fun x2 =>
 bd (loopN (B_fp_Inv_0 fu ) fu ((a1, x2, (0 : Int), (1 : Int)))) fun s1 => match s1 with
 | .inl i5 =>
 bd (M_fp_Red fu i5 a1) fun x8 =>
 some ((x8, (0 : Int)))
 | .inr _ =>
 some (((0 : Int), (3 : Int)))
 else
 some (((0 : Int), x1))
def B_fpoly_plain_0 (fu : Nat) (a0 : List Int) (a1 : Int) : ((Int × (List Int)) → Option (List Int)) → (Int × (List Int)) → Option (List Int) := fun L (i1, t2) =>
 if i1 < ((a0.length : Nat) : Int) then
 ckI i1 (a0.length) fun j2 =>
 nm (a0.getD j2 0) fun y1 =>
 bd (M_fp_Red fu y1 a1) fun x1 =>
 ckI i1 (t2.length) fun j3 =>
 nm (t2.set j3 x1) fun t3 =>
 ck64 (i1 + ((1 : Int))) fun x2 =>
 L (x2, t3)
 else
 some t2
def B_fpoly_plain_1 (fu : Nat)  : ((List Int) → Option (List Int)) → (List Int) → Option (List Int) := fun L t5 =>
 if (0 : Int) < ((t5.length : Nat) : Int) then
 ck64 ((((t5.length : Nat) : Int)) - ((1 : Int))) fun x3 =>
 ckI x3 (t5.length) fun j4 =>
 nm ((t5.getD j4 0)) fun x4 =>
 if x4 = (0 : Int) then
 ck64 ((((t5.length : Nat) : Int)) - ((1 : Int))) fun x5 =>
 ckN x5 fun j5 =>
 ck (j5 ≤ t5.length) <|
 nm (t5.take j5) fun t6 =>
 L t6
 else
 some t5
 else
 some t5
def M_fpoly_plain (fu : Nat) (a0 : List Int) (a1 : Int) : Option (List Int) :=
 ckN (((a0.length : Nat) : Int)) fun j1 =>
 ck (8 * j1 ≤ 281474976710656) <|
 nm (List.replicate j1 0) fun t1 =>
 bd (loopN (B_fpoly_plain_0 fu a0 a1) fu (((0 : Int), t1))) fun t4 =>
 bd (loopN (B_fpoly_plain_1 fu ) fu t4) fun t7 =>
 some t7
def B_fpoly_divided_1 (fu : Nat) (a1 : List Int) (i1 : Int) (x10 : Int) : (((List Int) × Int × Int × Int × (List Int) × (List Int)) → Option ((List Int) × Int × Int × (List Int) × (List Int))) → ((List Int) × Int × Int × Int × (List Int) × (List Int)) → Option ((List Int) × Int × Int × (List Int) × (List Int)) := fun L (t6, i2, i3, i4, t7, t8) =>
 bd ((if i4 < ((a1.length : Nat) : Int) then
 some ((i1, x10, a1, ((a1.length : Nat) : Int), true))
 else
 some ((i1, x10, a1, ((a1.length : Nat) : Int), false)) : Option (Int × Int × (List Int) × Int × Bool))) fun (i5, i6, t9, i7, b1) =>
 if b1 = true then
 ckI i4 (t9.length) fun j5 =>
 nm (t9.getD j5 0) fun y2 =>
 ck64 (i5 + i4) fun x11 =>
 ck64 (i5 + i4) fun x12 =>
 ckI x12 (t7.length) fun j6 =>
 nm ((t7.getD j6 0)) fun x13 =>
 ck64 (i2 - i6) fun x14 =>
 ck64 (x14 * y2) fun x15 =>
 ck64 (x13 + x15) fun x16 =>
 ck (i2 ≠ 0) <|
 nm (Int.tmod x16 i2) fun x17 =>
 ckI x11 (t7.length) fun j7 =>
 nm (t7.set j7 x17) fun t10 =>
 ck64 (i4 + ((1 : Int))) fun x18 =>
 L (t6, i2, i3, x18, t10, t8)
 else
 some (t6, i2, i3, t7, t8)
def B_fpoly_divided_0 (fu : Nat) (a1 : List Int) (a2 : Int) (x3 : Int) : ((Int × (List Int) × (List Int)) → Option ((List Int) × (List Int))) → (Int × (List Int) × (List Int)) → Option ((List Int) × (List Int)) := fun L (i1, t3, t4) =>
 if (0 : Int) ≤ i1 then
 ck64 (i1 + (((a1.length : Nat) : Int))) fun x6 =>
 ck64 (x6 - ((1 : Int))) fun x7 =>
 ckI x7 (t3.length) fun j3 =>
 nm ((t3.getD j3 0)) fun x8 =>
 ck64 (x8 * x3) fun x9 =>
 ck (a2 ≠ 0) <|
 nm (Int.tmod x9 a2) fun x10 =>
 ckI i1 (t4.length) fun j4 =>
 nm (t4.set j4 x10) fun t5 =>
 bd (loopN (B_fpoly_divided_1 fu a1 i1 x10) fu ((a1, a2, x3, (0 : Int), t3, t5))) fun (t11, i8, i9, t12, t13) =>
 ck64 (i1 - ((1 : Int))) fun x19 =>
 L (x19, t12, t13)
 else
 some (t3, t4)
def M_fpoly_divided (fu : Nat) (a0 : List Int) (a1 : List Int) (a2 : Int) : Option ((List Int) × (List Int)) :=
 ck (((([] : List Int)).length + a0.length) * 8 ≤ 140737488355328) <|
 nm ((([] : List Int)) ++ a0) fun t1 =>
 ck64 ((((t1.length : Nat) : Int)) - (((a1.length : Nat) : Int))) fun x1 =>
 if x1 < (0 : Int) then
 some ([], t1)
 else
 ck64 ((((a1.length : Nat) : Int)) - ((1 : Int))) fun x2 =>
 ckI x2 (a1.length) fun j1 =>
 nm (a1.getD j1 0) fun y1 =>
 bd (M_fp_Inv fu y1 a2) fun (x3, x4) =>
 ck64 (x1 + ((1 : Int))) fun x5 =>
 ckN x5 fun j2 =>
 ck (8 * j2 ≤ 281474976710656) <|
 nm (List.replicate j2 0) fun t2 =>
 bd (loopN (B_fpoly_divided_0 fu a1 a2 x3) fu (x1, t1, t2)) fun (t14, t15) =>
 bd (M_fpoly_plain fu t15 a2) fun t16 =>
 bd (M_fpoly_plain fu t14 a2) fun t17 =>
 some (t16, t17)
def B_fpoly_product_1 (fu : Nat) (i1 : Int) (t3 : List Int) (i2 : Int) (t4 : List Int) (i3 : Int) (y1 : Int) : ((Int × (List Int)) → Option (List Int)) → (Int × (List Int)) → Option (List Int) := fun L (i4, t5) =>
 bd ((if i4 < ((t3.length : Nat) : Int) then
 some ((t3, i2, i1, y1, t4, i3, i1, t3, ((t3.length : Nat) : Int), true))
 else
 some ((t3, i2, i1, y1, t4, i3, i1, t3, ((t3.length : Nat) : Int), false)) : Option ((List Int) × Int × Int × Int × (List Int) × Int × Int × (List Int) × Int × Bool))) fun (t6, i5, i6, i7, t7, i8, i9, t8, i10, b2) =>
 if b2 = true then
 ckI i4 (t8.length) fun j3 =>
 nm (t8.getD j3 0) fun y2 =>
 ck64 (i6 + i4) fun x2 =>
 ck64 (i6 + i4) fun x3 =>
 ckI x3 (t5.length) fun j4 =>
 nm ((t5.getD j4 0)) fun x4 =>
 ck64 (i7 * y2) fun x5 =>
 ck64 (x4 + x5) fun x6 =>
 ck (i5 ≠ 0) <|
 nm (Int.tmod x6 i5) fun x7 =>
 ckI x2 (t5.length) fun j5 =>
 nm (t5.set j5 x7) fun t9 =>
 ck64 (i4 + ((1 : Int))) fun x8 =>
 L (x8, t9)
 else
 some t5
def B_fpoly_product_0 (fu : Nat) (a0 : List Int) (a1 : List Int) (a2 : Int) : ((Int × (List Int)) → Option (List Int)) → (Int × (List Int)) → Option (List Int) := fun L (i1, t2) =>
 bd ((if i1 < ((a0.length : Nat) : Int) then
 some ((a1, a2, a0, ((a0.length : Nat) : Int), true))
 else
 some ((a1, a2, a0, ((a0.length : Nat) : Int), false)) : Option ((List Int) × Int × (List Int) × Int × Bool))) fun (t3, i2, t4, i3, b1) =>
 if b1 = true then
 ckI i1 (t4.length) fun j2 =>
 nm (t4.getD j2 0) fun y1 =>
 bd (loopN (B_fpoly_product_1 fu i1 t3 i2 t4 i3 y1) fu (((0 : Int), t2))) fun t10 =>
 ck64 (i1 + ((1 : Int))) fun x9 =>
 L (x9, t10)
 else
 some t2
def M_fpoly_product (fu : Nat) (a0 : List Int) (a1 : List Int) (a2 : Int) : Option (List Int) :=
 ck64 ((((a0.length : Nat) : Int)) + (((a1.length : Nat) : Int))) fun x1 =>
 ckN x1 fun j1 =>
 ck (8 * j1 ≤ 281474976710656) <|
 nm (List.replicate j1 0) fun t1 =>
 bd (loopN (B_fpoly_product_0 fu a0 a1 a2) fu (((0 : Int), t1))) fun t11 =>
 bd (M_fpoly_plain fu t11 a2) fun t12 =>
 some t12
def B_fpoly_sum_0 (fu : Nat) (a1 : List Int) (a2 : Int) (a3 : Int) : ((Int × (List Int)) → Option (List Int)) → (Int × (List Int)) → Option (List Int) := fun L (i1, t3) =>
 bd ((if i1 < ((a1.length : Nat) : Int) then
 some ((a2, a3, a1, ((a1.length : Nat) : Int), true))
 else
 some ((a2, a3, a1, ((a1.length : Nat) : Int), false)) : Option (Int × Int × (List Int) × Int × Bool))) fun (i2, i3, t4, i4, b1) =>
 if b1 = true then
 ckI i1 (t4.length) fun j2 =>
 nm (t4.getD j2 0) fun y1 =>
 ckI i1 (t3.length) fun j3 =>
 nm ((t3.getD j3 0)) fun x2 =>
 ck64 (i2 * y1) fun x3 =>
 ck64 (x2 + x3) fun x4 =>
 ckI i1 (t3.length) fun j4 =>
 nm (t3.set j4 x4) fun t5 =>
 ck64 (i1 + ((1 : Int))) fun x5 =>
 L (x5, t5)
 else
 some t3
def M_fpoly_sum (fu : Nat) (a0 : List Int) (a1 : List Int) (a2 : Int) (a3 : Int) : Option (List Int) :=
 nm (max (((a0.length : Nat) : Int)) (((a1.length : Nat) : Int))) fun x1 =>
 ckN x1 fun j1 =>
 ck (8 * j1 ≤ 281474976710656) <|
 nm (List.replicate j1 0) fun t1 =>
 nm (cpy t1 a0) fun t2 =>
 bd (loopN (B_fpoly_sum_0 fu a1 a2 a3) fu (((0 : Int), t2))) fun t6 =>
 bd (M_fpoly_plain fu t6 a3) fun t7 =>
 some t7
def B_fpoly_next_0 (fu : Nat) (a1 : List (List Int)) (a2 : Int) : (((List Int) × Int × (List (List Int)) × (List (List Int))) → Option ((List (List Int)) × (List (List Int)))) → ((List Int) × Int × (List (List Int)) × (List (List Int))) → Option ((List (List Int)) × (List (List Int))) := fun L (t3, i1, t4, t5) =>
 bd ((if i1 < (3 : Int) then
 some (a2, a1, true)
 else
 some (a2, a1, false) : Option (Int × (List (List Int)) × Bool))) fun (i2, t6, b1) =>
 if b1 = true then
 ckI i1 (3) fun j3 =>
 ckI i1 (3) fun j4 =>
 nm (t6.getD j4 []) fun y2 =>
 bd (M_fpoly_product fu t3 y2 i2) fun t7 =>
 ck64 (i2 - ((1 : Int))) fun x1 =>
 bd (M_fpoly_sum fu (t4.getD j3 []) t7 x1 i2) fun t8 =>
 ckI i1 (3) fun j5 =>
 nm (t4.set j5 t8) fun t9 =>
 ck64 (i1 + ((1 : Int))) fun x2 =>
 L (t3, x2, t9, t5)
 else
 some (t4, t5)
def M_fpoly_next (fu : Nat) (a0 : List (List Int)) (a1 : List (List Int)) (a2 : Int) : Option (List (List Int)) :=
 ckI ((0 : Int)) (3) fun j1 =>
 ckI ((0 : Int)) (3) fun j2 =>
 nm (a1.getD j2 []) fun y1 =>
 bd (M_fpoly_divided fu (a0.getD j1 []) y1 a2) fun (t1, t2) =>
 bd (loopN (B_fpoly_next_0 fu a1 a2) fu ((t1, (0 : Int), a0, (List.replicate 3 [])))) fun (t10, t11) =>
 some t10
def M_fpoly_scaled (fu : Nat) (a0 : List Int) (a1 : Int) (a2 : Int) : Option (List Int) :=
 bd (M_fp_Inv fu a1 a2) fun (x1, x2) =>
 bd (M_fpoly_product fu a0 [x1] a2) fun t1 =>
 some t1
def B_fpoly_Bezout_0 (fu : Nat) (a2 : Int) : (((List (List Int)) × (List (List Int))) → Option (List (List Int))) → ((List (List Int)) × (List (List Int))) → Option (List (List Int)) := fun L (t3, t4) =>
 ckI ((0 : Int)) (3) fun j1 =>
 if (0 : Int) < ((((t4.getD j1 [])).length : Nat) : Int) then
 bd (M_fpoly_next fu t3 t4 a2) fun t5 =>
 L (t4, t5)
 else
 some t3
def B_fpoly_Bezout_1 (fu : Nat) (a2 : Int) (y1 : Int) : ((Int × (List (List Int))) → Option (List (List Int))) → (Int × (List (List Int))) → Option (List (List Int)) := fun L (i1, t7) =>
 if i1 < (3 : Int) then
 ckI i1 (3) fun j5 =>
 bd (M_fpoly_scaled fu (t7.getD j5 []) y1 a2) fun t8 =>
 ckI i1 (3) fun j6 =>
 nm (t7.set j6 t8) fun t9 =>
 ck64 (i1 + ((1 : Int))) fun x3 =>
 L (x3, t9)
 else
 some t7
def M_fpoly_Bezout (fu : Nat) (a0 : List Int) (a1 : List Int) (a2 : Int) : Option ((List Int) × (List Int) × (List Int) × Int) :=
 bd (M_fp_Check fu a2) fun x1 =>
 if x1 = (0 : Int) then
 bd (M_fpoly_plain fu a0 a2) fun t1 =>
 bd (M_fpoly_plain fu a1 a2) fun t2 =>
 bd (loopN (B_fpoly_Bezout_0 fu a2) fu (([t1, [(1 : Int)], []], [t2, [], [(1 : Int)]]))) fun t6 =>
 ckI ((0 : Int)) (3) fun j2 =>
 bd ((if (0 : Int) < ((((t6.getD j2 [])).length : Nat) : Int) then
 some true
 else
 some false : Option Bool)) fun b1 =>
 if b1 = true then
 ckI ((0 : Int)) (3) fun j3 =>
 ck64 ((((((t6.getD j2 [])).length : Nat) : Int)) - ((1 : Int))) fun x2 =>
 ckI x2 (((t6.getD j3 [])).length) fun j4 =>
 nm (((t6.getD j3 [])).getD j4 0) fun y1 =>
 bd (loopN (B_fpoly_Bezout_1 fu a2 y1) fu (((0 : Int), t6))) fun t10 =>
 ckI ((0 : Int)) (3) fun j7 =>
 ckI ((1 : Int)) (3) fun j8 =>
 ckI ((2 : Int)) (3) fun j9 =>
 some (((t10.getD j7 []), (t10.getD j8 []), (t10.getD j9 []), (0 : Int)))
 else
 ckI ((0 : Int)) (3) fun j10 =>
 ckI ((1 : Int)) (3) fun j11 =>
 ckI ((2 : Int)) (3) fun j12 =>
 some (((t6.getD j10 []), (t6.getD j11 []), (t6.getD j12 []), (0 : Int)))
 else
 some ([], [], [], x1)
def M_fpoly_Gcd (fu : Nat) (a0 : List Int) (a1 : List Int) (a2 : Int) : Option ((List Int) × Int) :=
 bd (M_fpoly_Bezout fu a0 a1 a2) fun (t1, t2, t3, x1) =>
 some (t1, x1)
def M_fpoly_Mul (fu : Nat) (a0 : List Int) (a1 : List Int) (a2 : Int) : Option ((List Int) × Int) :=
 bd (M_fp_Check fu a2) fun x1 =>
 if x1 = (0 : Int) then
 bd (M_fpoly_plain fu a0 a2) fun t1 =>
 bd (M_fpoly_plain fu a1 a2) fun t2 =>
 bd (M_fpoly_product fu t1 t2 a2) fun t3 =>
 some ((t3, (0 : Int)))
 else
 some ([], x1)
def M_fpoly_Sub (fu : Nat) (a0 : List Int) (a1 : List Int) (a2 : Int) : Option ((List Int) × Int) :=
 bd (M_fp_Check fu a2) fun x1 =>
 if x1 = (0 : Int) then
 bd (M_fpoly_plain fu a0 a2) fun t1 =>
 bd (M_fpoly_plain fu a1 a2) fun t2 =>
 ck64 (a2 - ((1 : Int))) fun x2 =>
 bd (M_fpoly_sum fu t1 t2 x2 a2) fun t3 =>
 some ((t3, (0 : Int)))
 else
 some ([], x1)
def M_hensel_equal (fu : Nat) (a0 : List Int) (a1 : List Int) (a2 : Int) : Option Bool :=
 bd (M_fpoly_Sub fu a0 a1 a2) fun (t1, x1) =>
 if ((t1.length : Nat) : Int) = (0 : Int) then
 some true
 else
 some false
def B_hensel_plain_0 (fu : Nat) (a0 : List Int) (a1 : Int) : (Int → Option (Unit ⊕ Unit)) → Int → Option (Unit ⊕ Unit) := fun L i1 =>
 if i1 < ((a0.length : Nat) : Int) then
 ckI i1 (a0.length) fun j1 =>
 nm (a0.getD j1 0) fun y1 =>
 if y1 < (0 : Int) then
 some (.inr ())
 else
 if a1 ≤ y1 then
 some (.inr ())
 else
 ck64 (i1 + ((1 : Int))) fun x1 =>
 L x1
 else
 some (.inl ())
def M_hensel_plain (fu : Nat) (a0 : List Int) (a1 : Int) : Option Bool :=
 bd (loopN (B_hensel_plain_0 fu a0 a1) fu (0 : Int)) fun s1 => match s1 with
 | .inl _ =>
 if (1 : Int) < ((a0.length : Nat) : Int) then
 ck64 ((((a0.length : Nat) : Int)) - ((1 : Int))) fun x2 =>
 ckI x2 (a0.length) fun j2 =>
 nm (a0.getD j2 0) fun y2 =>
 if y2 = (1 : Int) then
 some true
 else
 some false
 else
 some false
 | .inr _ =>
 some false
def B_hensel_product_0 (fu : Nat) (a0 : List (List Int)) (a1 : Int) : (((List Int) × Int) → Option (List Int)) → ((List Int) × Int) → Option (List Int) := fun L (t1, i1) =>
 if i1 < ((a0.length : Nat) : Int) then
 ckI i1 (a0.length) fun j1 =>
 nm (a0.getD j1 []) fun y1 =>
 bd (M_fpoly_Mul fu t1 y1 a1) fun (t2, x1) =>
 ck64 (i1 + ((1 : Int))) fun x2 =>
 L (t2, x2)
 else
 some t1
def M_hensel_product (fu : Nat) (a0 : List (List Int)) (a1 : Int) : Option (List Int) :=
 bd (loopN (B_hensel_product_0 fu a0 a1) fu (([(1 : Int)], (0 : Int)))) fun t3 =>
 some t3
def M_zint_Small (fu : Nat) (a0 : Zr) : Option (Int × Bool) :=
 bd (M_zint_Norm fu a0) fun y1 =>
 bd ((if ((y1.2.length : Nat) : Int) = (0 : Int) then
 some true
 else
 some false : Option Bool)) fun b1 =>
 if b1 = true then
 some (((0 : Int), true))
 else
 bd ((if (1 : Int) < ((y1.2.length : Nat) : Int) then
 some true
 else
 some false : Option Bool)) fun b2 =>
 if b2 = true then
 some (((0 : Int), false))
 else
 bd ((if y1.1 = true then
 ckI ((0 : Int)) (y1.2.length) fun j1 =>
 nm (y1.2.getD j1 0) fun y2 =>
 if ((y2 : Nat) : Int) ≤ (((9223372036854775808 : Nat) : Nat) : Int) then
 some true
 else
 some false
 else
 some false : Option Bool)) fun b3 =>
 if b3 = true then
 ckI ((0 : Int)) (y1.2.length) fun j2 =>
 nm (y1.2.getD j2 0) fun y3 =>
 nm ((18446744073709551616 - y3) % 18446744073709551616) fun m1 =>
 nm (sgn m1) fun x1 =>
 some (x1, true)
 else
 if y1.1 = true then
 some (((0 : Int), false))
 else
 ckI ((0 : Int)) (y1.2.length) fun j3 =>
 nm (y1.2.getD j3 0) fun y4 =>
 if (((9223372036854775807 : Nat) : Nat) : Int) < ((y4 : Nat) : Int) then
 some (((0 : Int), false))
 else
 ckI ((0 : Int)) (y1.2.length) fun j4 =>
 nm (y1.2.getD j4 0) fun y5 =>
 nm (sgn y5) fun x2 =>
 some (x2, true)
def M_prime_Mod (fu : Nat) (a0 : Zr) (a1 : Int) : Option (Int × Int) :=
 bd (M_zint_Of fu a1) fun y1 =>
 bd (M_prime_Rest fu a0 y1) fun (y2, x1) =>
 if x1 = (0 : Int) then
 bd (M_zint_Small fu y2) fun (x2, c1) =>
 some ((x2, (0 : Int)))
 else
 some (((0 : Int), x1))
def M_zpoly_Mod_1 (fu : Nat) (a0 : Int) (a1 : Zr) (a2 : Int) : Option Int :=
 bd (M_prime_Mod fu a1 a2) fun (x1, x2) =>
 some x1
def B_zpoly_each_api_Int_int_0 (fu : Nat) (a0 : List Zr) (a1 : Int → Zr → Option Int) : ((Int × (List Int)) → Option (List Int)) → (Int × (List Int)) → Option (List Int) := fun L (i1, t2) =>
 bd ((if i1 < ((a0.length : Nat) : Int) then
 some ((a0, ((a0.length : Nat) : Int), true))
 else
 some ((a0, ((a0.length : Nat) : Int), false)) : Option ((List Zr) × Int × Bool))) fun (t3, i2, b1) =>
 if b1 = true then
 ckI i1 (t3.length) fun j2 =>
 nm (t3.getD j2 (false, [])) fun y1 =>
 bd (a1 i1 y1) fun x1 =>
 ckI i1 (t2.length) fun j3 =>
 nm (t2.set j3 x1) fun t4 =>
 ck64 (i1 + ((1 : Int))) fun x2 =>
 L (x2, t4)
 else
 some t2
def M_zpoly_each_api_Int_int (fu : Nat) (a0 : List Zr) (a1 : Int → Zr → Option Int) : Option (List Int) :=
 ckN (((a0.length : Nat) : Int)) fun j1 =>
 ck (8 * j1 ≤ 281474976710656) <|
 nm (List.replicate j1 0) fun t1 =>
 bd (loopN (B_zpoly_each_api_Int_int_0 fu a0 a1) fu (((0 : Int), t1))) fun t5 =>
 some t5
def B_zpoly_Mod_0 (fu : Nat)  : ((List Int) → Option (List Int)) → (List Int) → Option (List Int) := fun L t2 =>
 if (0 : Int) < ((t2.length : Nat) : Int) then
 ck64 ((((t2.length : Nat) : Int)) - ((1 : Int))) fun x1 =>
 ckI x1 (t2.length) fun j1 =>
 nm ((t2.getD j1 0)) fun x2 =>
 if x2 = (0 : Int) then
 ck64 ((((t2.length : Nat) : Int)) - ((1 : Int))) fun x3 =>
 ckN x3 fun j2 =>
 ck (j2 ≤ t2.length) <|
 nm (t2.take j2) fun t3 =>
 L t3
 else
 some t2
 else
 some t2
def M_zpoly_Mod (fu : Nat) (a0 : List Zr) (a1 : Int) : Option ((List Int) × Int) :=
 if a1 < (1 : Int) then
 some (([], (1 : Int)))
 else
 bd (M_zpoly_each_api_Int_int fu a0 (fun zx0 zx1 => M_zpoly_Mod_1 fu zx0 zx1 a1)) fun t1 =>
 bd (loopN (B_zpoly_Mod_0 fu ) fu t1) fun t4 =>
 some ((t4, (0 : Int)))
def B_hensel_right_1 (fu : Nat) (i2 : Int) (y1 : List Int) (t6 : List (List Int)) : (Int → Option (Unit ⊕ Unit)) → Int → Option (Unit ⊕ Unit) := fun L i4 =>
 if i4 < ((t6.length : Nat) : Int) then
 ckI i4 (t6.length) fun j3 =>
 nm (t6.getD j3 []) fun y2 =>
 bd (M_fpoly_Gcd fu y1 y2 i2) fun (t7, x2) =>
 if ((t7.length : Nat) : Int) = (1 : Int) then
 ck64 (i4 + ((1 : Int))) fun x3 =>
 L x3
 else
 some (.inr ())
 else
 some (.inl ())
def B_hensel_right_0 (fu : Nat) (a0 : List Zr) (a1 : List (List Int)) (a2 : Int) : ((Int × (List Int)) → Option ((List Int) ⊕ Unit)) → (Int × (List Int)) → Option ((List Int) ⊕ Unit) := fun L (i1, t2) =>
 bd ((if i1 < ((a1.length : Nat) : Int) then
 some ((a0, a1, a2, a1, ((a1.length : Nat) : Int), true))
 else
 some ((a0, a1, a2, a1, ((a1.length : Nat) : Int), false)) : Option ((List Zr) × (List (List Int)) × Int × (List (List Int)) × Int × Bool))) fun (t3, t4, i2, t5, i3, b1) =>
 if b1 = true then
 ckI i1 (t5.length) fun j1 =>
 nm (t5.getD j1 []) fun y1 =>
 if ((t3.length : Nat) : Int) < ((y1.length : Nat) : Int) then
 some (.inr ())
 else
 bd (M_hensel_plain fu y1 i2) fun c1 =>
 if ((!c1)) = true then
 some (.inr ())
 else
 ckN i1 fun j2 =>
 ck (j2 ≤ t4.length) <|
 nm (t4.take j2) fun t6 =>
 bd (loopN (B_hensel_right_1 fu i2 y1 t6) fu (0 : Int)) fun s1 => match s1 with
 | .inl _ =>
 ck64 (i1 + ((1 : Int))) fun x4 =>
 L (x4, t2)
 | .inr _ =>
 some (.inr ())
 else
 some (.inl t2)
def M_hensel_right (fu : Nat) (a0 : List Zr) (a1 : List (List Int)) (a2 : Int) : Option Bool :=
 bd (M_zpoly_Mod fu a0 a2) fun (t1, x1) =>
 if ((a0.length : Nat) : Int) = (0 : Int) then
 some false
 else
 if ((t1.length : Nat) : Int) = ((a0.length : Nat) : Int) then
 if ((a0.length : Nat) : Int) < ((a1.length : Nat) : Int) then
 some false
 else
 bd (loopN (B_hensel_right_0 fu a0 a1 a2) fu (((0 : Int), t1))) fun s2 => match s2 with
 | .inl t8 =>
 bd (M_hensel_product fu a1 a2) fun t9 =>
 ck64 ((((t8.length : Nat) : Int)) - ((1 : Int))) fun x5 =>
 ckN x5 fun j4 =>
 ck (j4 ≤ t8.length) <|
 nm (t8.drop j4) fun t10 =>
 bd (M_fpoly_Mul fu t9 t10 a2) fun (t11, x6) =>
 bd (M_hensel_equal fu t11 t8 a2) fun c2 =>
 some c2
 | .inr _ =>
 some false
 else
 some false
def M_zint_Add (fu : Nat) (a0 : Zr) (a1 : Zr) : Option Zr :=
 nm (a0.1 == a1.1) fun c1 =>
 if c1 = true then
 bd (M_nat_Add fu a0.2 a1.2) fun t1 =>
 bd (M_zint_made fu a0.1 t1) fun y1 =>
 some y1
 else
 bd ((bd (M_nat_Cmp fu a0.2 a1.2) fun x1 =>
 if x1 < (0 : Int) then
 some (a1, a0)
 else
 some (a0, a1) : Option (Zr × Zr))) fun (t2, t3) =>
 bd (M_nat_Sub fu t2.2 t3.2) fun (t4, x2) =>
 bd (M_zint_made fu t2.1 t4) fun y2 =>
 some y2
def M_zint_Neg (fu : Nat) (a0 : Zr) : Option Zr :=
 bd (M_zint_made fu (!a0.1) a0.2) fun y1 =>
 some y1
def M_zint_Sub (fu : Nat) (a0 : Zr) (a1 : Zr) : Option Zr :=
 bd (M_zint_Neg fu a1) fun y1 =>
 bd (M_zint_Add fu a0 y1) fun y2 =>
 some y2
def B_hensel_divided_1 (fu : Nat) (a1 : List Zr) (i1 : Int) : (((List Zr) × Zr × Int × (List Zr) × (List Zr)) → Option ((List Zr) × Zr × (List Zr) × (List Zr))) → ((List Zr) × Zr × Int × (List Zr) × (List Zr)) → Option ((List Zr) × Zr × (List Zr) × (List Zr)) := fun L (t6, t7, i2, t8, t9) =>
 bd ((if i2 < ((a1.length : Nat) : Int) then
 some ((i1, a1, ((a1.length : Nat) : Int), true))
 else
 some ((i1, a1, ((a1.length : Nat) : Int), false)) : Option (Int × (List Zr) × Int × Bool))) fun (i3, t10, i4, b1) =>
 if b1 = true then
 ckI i2 (t10.length) fun j4 =>
 nm (t10.getD j4 (false, [])) fun y3 =>
 ck64 (i3 + i2) fun x8 =>
 ck64 (i3 + i2) fun x9 =>
 ckI x9 (t8.length) fun j5 =>
 nm ((t8.getD j5 (false, []))) fun y4 =>
 ckI i3 (t9.length) fun j6 =>
 nm ((t9.getD j6 (false, []))) fun y5 =>
 bd (M_zint_Mul fu y5 y3) fun y6 =>
 bd (M_zint_Sub fu y4 y6) fun y7 =>
 ckI x8 (t8.length) fun j7 =>
 nm (t8.set j7 y7) fun t11 =>
 ck64 (i2 + ((1 : Int))) fun x10 =>
 L (t6, t7, x10, t11, t9)
 else
 some (t6, t7, t8, t9)
def B_hensel_divided_0 (fu : Nat) (a1 : List Zr) (a2 : Zr) : ((Int × (List Zr) × (List Zr)) → Option ((List Zr) × (List Zr))) → (Int × (List Zr) × (List Zr)) → Option ((List Zr) × (List Zr)) := fun L (i1, t3, t4) =>
 if (0 : Int) ≤ i1 then
 ck64 (i1 + (((a1.length : Nat) : Int))) fun x5 =>
 ck64 (x5 - ((1 : Int))) fun x6 =>
 ckI x6 (t3.length) fun j2 =>
 nm ((t3.getD j2 (false, []))) fun y1 =>
 bd (M_prime_Rest fu y1 a2) fun (y2, x7) =>
 ckI i1 (t4.length) fun j3 =>
 nm (t4.set j3 y2) fun t5 =>
 bd (loopN (B_hensel_divided_1 fu a1 i1) fu ((a1, a2, (0 : Int), t3, t5))) fun (t12, t13, t14, t15) =>
 ck64 (i1 - ((1 : Int))) fun x11 =>
 L (x11, t14, t15)
 else
 some (t3, t4)
def M_hensel_divided (fu : Nat) (a0 : List Zr) (a1 : List Zr) (a2 : Zr) : Option ((List Zr) × (List Zr)) :=
 bd (M_hensel_red fu a0 a2) fun t1 =>
 ck64 ((((t1.length : Nat) : Int)) - (((a1.length : Nat) : Int))) fun x1 =>
 ck64 (x1 + ((1 : Int))) fun x2 =>
 nm (max x2 ((0 : Int))) fun x3 =>
 ckN x3 fun j1 =>
 ck (32 * j1 ≤ 281474976710656) <|
 nm (List.replicate j1 (false, [])) fun t2 =>
 ck64 ((((t2.length : Nat) : Int)) - ((1 : Int))) fun x4 =>
 bd (loopN (B_hensel_divided_0 fu a1 a2) fu (x4, t1, t2)) fun (t16, t17) =>
 bd (M_hensel_red fu t17 a2) fun t18 =>
 bd (M_hensel_red fu t16 a2) fun t19 =>
 some (t18, t19)
def M_zpoly_Add_1 (fu : Nat) (a0 : Int) (a1 : Zr) (a2 : List Zr) : Option Zr :=
 if a0 < ((a2.length : Nat) : Int) then
 ckI a0 (a2.length) fun j1 =>
 nm (a2.getD j1 (false, [])) fun y1 =>
 bd (M_zint_Add fu a1 y1) fun y2 =>
 some y2
 else
 some a1
def M_zpoly_Add (fu : Nat) (a0 : List Zr) (a1 : List Zr) : Option (List Zr) :=
 if ((a0.length : Nat) : Int) < ((a1.length : Nat) : Int) then
 bd (M_zpoly_each_api_Int_api_Int fu a1 (fun zx0 zx1 => M_zpoly_Add_1 fu zx0 zx1 a0)) fun t1 =>
 bd (M_zpoly_Norm fu t1) fun t2 =>
 some t2
 else
 bd (M_zpoly_each_api_Int_api_Int fu a0 (fun zx0 zx1 => M_zpoly_Add_1 fu zx0 zx1 a1)) fun t3 =>
 bd (M_zpoly_Norm fu t3) fun t4 =>
 some t4
def B_zpoly_Mul_1 (fu : Nat) (i1 : Int) (t3 : List Zr) (t4 : List Zr) (i2 : Int) : ((Int × (List Zr) × Zr) → Option (List Zr)) → (Int × (List Zr) × Zr) → Option (List Zr) := fun L (i3, t5, t6) =>
 bd ((if i3 < ((t3.length : Nat) : Int) then
 some ((t3, i1, t4, i2, i1, t3, ((t3.length : Nat) : Int), true))
 else
 some ((t3, i1, t4, i2, i1, t3, ((t3.length : Nat) : Int), false)) : Option ((List Zr) × Int × (List Zr) × Int × Int × (List Zr) × Int × Bool))) fun (t7, i4, t8, i5, i6, t9, i7, b2) =>
 if b2 = true then
 ckI i3 (t9.length) fun j3 =>
 nm (t9.getD j3 (false, [])) fun y2 =>
 ck64 (i4 + i3) fun x2 =>
 ck64 (i4 + i3) fun x3 =>
 ckI x3 (t5.length) fun j4 =>
 nm ((t5.getD j4 (false, []))) fun y3 =>
 bd (M_zint_Mul fu t6 y2) fun y4 =>
 bd (M_zint_Add fu y3 y4) fun y5 =>
 ckI x2 (t5.length) fun j5 =>
 nm (t5.set j5 y5) fun t10 =>
 ck64 (i3 + ((1 : Int))) fun x4 =>
 L (x4, t10, t6)
 else
 some t5
def B_zpoly_Mul_0 (fu : Nat) (a0 : List Zr) (a1 : List Zr) : ((Int × (List Zr)) → Option (List Zr)) → (Int × (List Zr)) → Option (List Zr) := fun L (i1, t2) =>
 bd ((if i1 < ((a0.length : Nat) : Int) then
 some ((a1, a0, ((a0.length : Nat) : Int), true))
 else
 some ((a1, a0, ((a0.length : Nat) : Int), false)) : Option ((List Zr) × (List Zr) × Int × Bool))) fun (t3, t4, i2, b1) =>
 if b1 = true then
 ckI i1 (t4.length) fun j2 =>
 nm (t4.getD j2 (false, [])) fun y1 =>
 bd (loopN (B_zpoly_Mul_1 fu i1 t3 t4 i2) fu (((0 : Int), t2, y1))) fun t11 =>
 ck64 (i1 + ((1 : Int))) fun x5 =>
 L (x5, t11)
 else
 some t2
def M_zpoly_Mul (fu : Nat) (a0 : List Zr) (a1 : List Zr) : Option (List Zr) :=
 ck64 ((((a0.length : Nat) : Int)) + (((a1.length : Nat) : Int))) fun x1 =>
 ckN x1 fun j1 =>
 ck (32 * j1 ≤ 281474976710656) <|
 nm (List.replicate j1 (false, [])) fun t1 =>
 bd (loopN (B_zpoly_Mul_0 fu a0 a1) fu (((0 : Int), t1))) fun t12 =>
 bd (M_zpoly_Norm fu t12) fun t13 =>
 some t13
def M_zpoly_Lift_1 (fu : Nat) (a0 : Int) (a1 : Int) : Option Zr :=
 bd (M_zint_Of fu a1) fun y1 =>
 some y1
def B_zpoly_each_int_api_Int_0 (fu : Nat) (a0 : List Int) (a1 : Int → Int → Option Zr) : ((Int × (List Zr)) → Option (List Zr)) → (Int × (List Zr)) → Option (List Zr) := fun L (i1, t2) =>
 if i1 < ((a0.length : Nat) : Int) then
 ckI i1 (a0.length) fun j2 =>
 nm (a0.getD j2 0) fun y1 =>
 bd (a1 i1 y1) fun y2 =>
 ckI i1 (t2.length) fun j3 =>
 nm (t2.set j3 y2) fun t3 =>
 ck64 (i1 + ((1 : Int))) fun x1 =>
 L (x1, t3)
 else
 some t2
def M_zpoly_each_int_api_Int (fu : Nat) (a0 : List Int) (a1 : Int → Int → Option Zr) : Option (List Zr) :=
 ckN (((a0.length : Nat) : Int)) fun j1 =>
 ck (32 * j1 ≤ 281474976710656) <|
 nm (List.replicate j1 (false, [])) fun t1 =>
 bd (loopN (B_zpoly_each_int_api_Int_0 fu a0 a1) fu (((0 : Int), t1))) fun t4 =>
 some t4
def M_zpoly_Lift (fu : Nat) (a0 : List Int) : Option (List Zr) :=
 bd (M_zpoly_each_int_api_Int fu a0 (fun zx0 zx1 => M_zpoly_Lift_1 fu zx0 zx1)) fun t1 =>
 bd (M_zpoly_Norm fu t1) fun t2 =>
 some t2
def M_zpoly_Of (fu : Nat) (a0 : List Int) : Option (List Zr) :=
 bd (M_zpoly_Lift fu a0) fun t1 =>
 some t1
def M_zpoly_Scale_1 (fu : Nat) (a0 : Int) (a1 : Zr) (a2 : Zr) : Option Zr :=
 bd (M_zint_Mul fu a1 a2) fun y1 =>
 some y1
def M_zpoly_Scale (fu : Nat) (a0 : List Zr) (a1 : Zr) : Option (List Zr) :=
 bd (M_zpoly_each_api_Int_api_Int fu a0 (fun zx0 zx1 => M_zpoly_Scale_1 fu zx0 zx1 a1)) fun t1 =>
 bd (M_zpoly_Norm fu t1) fun t2 =>
 some t2
def M_zpoly_Sub (fu : Nat) (a0 : List Zr) (a1 : List Zr) : Option (List Zr) :=
 bd (M_zint_Of fu (-1 : Int)) fun y1 =>
 bd (M_zpoly_Scale fu a1 y1) fun t1 =>
 bd (M_zpoly_Add fu a0 t1) fun t2 =>
 some t2
def M_hensel_pair_up (fu : Nat) (a0 : List (List Zr)) (a1 : List Zr) (a2 : Zr) : Option (List (List Zr)) :=
 ckI ((0 : Int)) (4) fun j1 =>
 nm (a0.getD j1 []) fun y1 =>
 ckI ((1 : Int)) (4) fun j2 =>
 nm (a0.getD j2 []) fun y2 =>
 ckI ((2 : Int)) (4) fun j3 =>
 nm (a0.getD j3 []) fun y3 =>
 ckI ((3 : Int)) (4) fun j4 =>
 nm (a0.getD j4 []) fun y4 =>
 bd (M_zpoly_Mul fu y1 y2) fun t1 =>
 bd (M_zpoly_Sub fu a1 t1) fun t2 =>
 bd (M_hensel_red fu t2 a2) fun t3 =>
 bd (M_zpoly_Mul fu y3 t3) fun t4 =>
 bd (M_hensel_divided fu t4 y2 a2) fun (t5, t6) =>
 bd (M_zpoly_Mul fu y4 t3) fun t7 =>
 bd (M_zpoly_Mul fu t5 y1) fun t8 =>
 bd (M_zpoly_Add fu t7 t8) fun t9 =>
 bd (M_zpoly_Add fu y1 t9) fun t10 =>
 bd (M_hensel_red fu t10 a2) fun t11 =>
 bd (M_zpoly_Add fu y2 t6) fun t12 =>
 bd (M_hensel_red fu t12 a2) fun t13 =>
 bd (M_zpoly_Mul fu y3 t11) fun t14 =>
 bd (M_zpoly_Mul fu y4 t13) fun t15 =>
 bd (M_zpoly_Add fu t14 t15) fun t16 =>
 bd (M_zpoly_Of fu [(1 : Int)]) fun t17 =>
 bd (M_zpoly_Sub fu t16 t17) fun t18 =>
 bd (M_hensel_red fu t18 a2) fun t19 =>
 bd (M_zpoly_Mul fu y3 t19) fun t20 =>
 bd (M_hensel_divided fu t20 t13 a2) fun (t21, t22) =>
 bd (M_zpoly_Sub fu y3 t22) fun t23 =>
 bd (M_hensel_red fu t23 a2) fun t24 =>
 bd (M_zpoly_Mul fu y4 t19) fun t25 =>
 bd (M_zpoly_Mul fu t21 t11) fun t26 =>
 bd (M_zpoly_Add fu t25 t26) fun t27 =>
 bd (M_zpoly_Sub fu y4 t27) fun t28 =>
 bd (M_hensel_red fu t28 a2) fun t29 =>
 some [t11, t13, t24, t29]
def M_zint_line_less (fu : Nat) (a0 : Zr × (Zr × Zr)) (a1 : Zr) (a2 : Zr × (Zr × Zr)) : Option (Zr × (Zr × Zr)) :=
 bd (M_zint_Mul fu a1 a2.1) fun y1 =>
 bd (M_zint_Sub fu a0.1 y1) fun y2 =>
 bd (M_zint_Mul fu a1 a2.2.1) fun y3 =>
 bd (M_zint_Sub fu a0.2.1 y3) fun y4 =>
 bd (M_zint_Mul fu a1 a2.2.2) fun y5 =>
 bd (M_zint_Sub fu a0.2.2 y5) fun y6 =>
 some (y2, y4, y6)
def B_zint_Bezout_0 (fu : Nat)  : (((Zr × (Zr × Zr)) × (Zr × (Zr × Zr))) → Option (Zr × (Zr × Zr))) → ((Zr × (Zr × Zr)) × (Zr × (Zr × Zr))) → Option (Zr × (Zr × Zr)) := fun L (t1, t2) =>
 bd (M_zint_Sign fu t2.1) fun x1 =>
 if x1 = (0 : Int) then
 some t1
 else
 bd (M_zint_Div fu t1.1 t2.1) fun (y7, y8, x2) =>
 bd (M_zint_line_less fu t1 y7 t2) fun y9 =>
 L (t2, y9)
def M_zint_Bezout (fu : Nat) (a0 : Zr) (a1 : Zr) : Option (Zr × Zr × Zr) :=
 bd (M_zint_made fu false a0.2) fun y1 =>
 bd (M_zint_Of fu (1 : Int)) fun y2 =>
 bd (M_zint_Of fu (0 : Int)) fun y3 =>
 bd (M_zint_made fu false a1.2) fun y4 =>
 bd (M_zint_Of fu (0 : Int)) fun y5 =>
 bd (M_zint_Of fu (1 : Int)) fun y6 =>
 bd (loopN (B_zint_Bezout_0 fu ) fu (((y1, y2, y3), (y4, y5, y6)))) fun t3 =>
 bd ((bd (M_zint_Sign fu a0) fun x3 =>
 if x3 < (0 : Int) then
 bd (M_zint_Neg fu t3.2.1) fun y10 =>
 nm ((t3.1, (y10, t3.2.2))) fun t4 =>
 some t4
 else
 some t3 : Option (Zr × (Zr × Zr)))) fun t5 =>
 bd ((bd (M_zint_Sign fu a1) fun x4 =>
 if x4 < (0 : Int) then
 bd (M_zint_Neg fu t5.2.2) fun y11 =>
 nm ((t5.1, (t5.2.1, y11))) fun t6 =>
 some t6
 else
 some t5 : Option (Zr × (Zr × Zr)))) fun t7 =>
 some (t7.1, t7.2.1, t7.2.2)
def M_hensel_one (fu : Nat) (a0 : List Zr) (a1 : Zr) : Option (List Zr) :=
 ck64 ((((a0.length : Nat) : Int)) - ((1 : Int))) fun x1 =>
 ckI x1 (a0.length) fun j1 =>
 nm (a0.getD j1 (false, [])) fun y1 =>
 bd (M_zint_Bezout fu y1 a1) fun (y2, y3, y4) =>
 bd (M_zpoly_Scale fu a0 y3) fun t1 =>
 bd (M_hensel_red fu t1 a1) fun t2 =>
 some t2
def B_hensel_tree_0 (fu : Nat) (a0 : List Zr) (a2 : Int) (a3 : Int) : ((Int × (List (List Zr))) → Option (List (List Zr))) → (Int × (List (List Zr))) → Option (List (List Zr)) := fun L (i1, t16) =>
 if i1 < a3 then
 ck64 (((2 : Int)) * i1) fun x6 =>
 nm (min x6 a3) fun x7 =>
 bd (M_hensel_Power fu a2 x7) fun (y1, x8) =>
 bd (M_hensel_pair_up fu t16 a0 y1) fun t17 =>
 L (x7, t17)
 else
 some t16
def M_hensel_tree : Nat → (List Zr) → (List (List Int)) → Int → Int → Zr → Option (List (List Zr))
  | 0, _, _, _, _, _ => none
  | fu + 1, a0, a1, a2, a3, a4 =>
    if ((a1.length : Nat) : Int) = (1 : Int) then
    bd (M_hensel_one fu a0 a4) fun t1 =>
    some [t1]
    else
    ck ((2 : Int) ≠ 0) <|
    ck64 (Int.tdiv (((a1.length : Nat) : Int)) ((2 : Int))) fun x1 =>
    ck64 ((((a0.length : Nat) : Int)) - ((1 : Int))) fun x2 =>
    ckN x2 fun j1 =>
    ck (j1 ≤ a0.length) <|
    nm (a0.drop j1) fun t2 =>
    bd (M_zpoly_Mod fu t2 a2) fun (t3, x3) =>
    ckN x1 fun j2 =>
    ck (j2 ≤ a1.length) <|
    nm (a1.take j2) fun t4 =>
    bd (M_hensel_product fu t4 a2) fun t5 =>
    bd (M_fpoly_Mul fu t5 t3 a2) fun (t6, x4) =>
    ckN x1 fun j3 =>
    ck (j3 ≤ a1.length) <|
    nm (a1.drop j3) fun t7 =>
    bd (M_hensel_product fu t7 a2) fun t8 =>
    bd (M_fpoly_Bezout fu t6 t8 a2) fun (t9, t10, t11, x5) =>
    bd (M_zpoly_Lift fu t6) fun t12 =>
    bd (M_zpoly_Lift fu t8) fun t13 =>
    bd (M_zpoly_Lift fu t10) fun t14 =>
    bd (M_zpoly_Lift fu t11) fun t15 =>
    bd (loopN (B_hensel_tree_0 fu a0 a2 a3) fu (((1 : Int), [t12, t13, t14, t15]))) fun t18 =>
    ckI ((0 : Int)) (4) fun j4 =>
    ckN x1 fun j5 =>
    ck (j5 ≤ a1.length) <|
    nm (a1.take j5) fun t19 =>
    bd (M_hensel_tree fu (t18.getD j4 []) t19 a2 a3 a4) fun t20 =>
    ckI ((1 : Int)) (4) fun j6 =>
    ckN x1 fun j7 =>
    ck (j7 ≤ a1.length) <|
    nm (a1.drop j7) fun t21 =>
    bd (M_hensel_tree fu (t18.getD j6 []) t21 a2 a3 a4) fun t22 =>
    ck ((t20.length + t22.length) * 24 ≤ 140737488355328) <|
    nm (t20 ++ t22) fun t23 =>
    some t23
def M_hensel_Lift (fu : Nat) (a0 : List Zr) (a1 : List (List Int)) (a2 : Int) (a3 : Int) : Option ((List (List Zr)) × Int) :=
 bd (M_hensel_Power fu a2 a3) fun (y1, x1) =>
 bd (M_zpoly_Norm fu a0) fun t1 =>
 if x1 = (0 : Int) then
 if (65 : Int) < ((t1.length : Nat) : Int) then
 some (([], (6 : Int)))
 else
 bd (M_hensel_right fu t1 a1 a2) fun c1 =>
 if ((!c1)) = true then
 some (([], (1 : Int)))
 else
 if ((a1.length : Nat) : Int) = (0 : Int) then
 some (([], (0 : Int)))
 else
 bd (M_hensel_red fu t1 y1) fun t2 =>
 bd (M_hensel_tree fu t2 a1 a2 a3 y1) fun t3 =>
 some ((t3, (0 : Int)))
 else
 some ([], x1)
def M_law13_awake (fu : Nat)  : Option Bool :=
 bd (M_zpoly_Of fu [(1 : Int), (0 : Int), (1 : Int)]) fun t1 =>
 bd (M_hensel_Lift fu t1 ([[(2 : Int), (1 : Int)], [(3 : Int), (1 : Int)]]) (5 : Int) (2 : Int)) fun (t2, x1) =>
 if x1 = (0 : Int) then
 bd (M_ref10_Of fu [(7 : Int), (1 : Int)]) fun t3 =>
 bd (M_ref10_Of fu [(18 : Int), (1 : Int)]) fun t4 =>
 bd (M_ref13_Same fu t2 [t3, t4]) fun c1 =>
 some c1
 else
 some false
def B_ref01_Bits_0 (fu : Nat)  : ((Int × Nat) → Option Int) → (Int × Nat) → Option Int := fun L (i1, d1) =>
 if (((0 : Nat) : Nat) : Int) < ((d1 : Nat) : Int) then
 ck64 (i1 + ((1 : Int))) fun x4 =>
 ck ((2 : Nat) ≠ 0) <|
 nm (d1 / ((2 : Nat))) fun m2 =>
 L (x4, m2)
 else
 some i1
def M_ref01_Bits (fu : Nat) (a0 : List Nat) : Option Int :=
 bd (M_ref01_Norm fu a0) fun t1 =>
 if ((t1.length : Nat) : Int) = (0 : Int) then
 some (0 : Int)
 else
 ck64 ((((t1.length : Nat) : Int)) - ((1 : Int))) fun x1 =>
 ck64 (((64 : Int)) * x1) fun x2 =>
 ck64 ((((t1.length : Nat) : Int)) - ((1 : Int))) fun x3 =>
 ckI x3 (t1.length) fun j1 =>
 nm ((t1.getD j1 0)) fun m1 =>
 bd (loopN (B_ref01_Bits_0 fu ) fu (x2, m1)) fun i2 =>
 some i2
def B_ref01_cut_0 (fu : Nat) (a0 : List Nat) : (Int → Option Int) → Int → Option Int := fun L i1 =>
 if (0 : Int) < i1 then
 ck64 (i1 - ((1 : Int))) fun x1 =>
 ckI x1 (a0.length) fun j1 =>
 nm (a0.getD j1 0) fun y1 =>
 if ((y1 : Nat) : Int) = (((0 : Nat) : Nat) : Int) then
 ck64 (i1 - ((1 : Int))) fun x2 =>
 L x2
 else
 some i1
 else
 some i1
def M_ref01_cut (fu : Nat) (a0 : List Nat) : Option (List Nat) :=
 bd (loopN (B_ref01_cut_0 fu a0) fu (((a0.length : Nat) : Int))) fun i2 =>
 ckN i2 fun j2 =>
 ck (j2 ≤ a0.length) <|
 nm (a0.take j2) fun t1 =>
 some t1
def B_ref01_digits_0 (fu : Nat) (a0 : List Nat) : (((List Nat) × Int) → Option (List Nat)) → ((List Nat) × Int) → Option (List Nat) := fun L (t1, i1) =>
 if i1 < ((a0.length : Nat) : Int) then
 ckI i1 (a0.length) fun j1 =>
 nm (a0.getD j1 0) fun y1 =>
 nm (y1 &&& ((4294967295 : Nat))) fun m1 =>
 ckI i1 (a0.length) fun j2 =>
 nm (a0.getD j2 0) fun y2 =>
 nm (y2 / 2 ^ (min (((32 : Nat)) : Int).toNat 64)) fun m2 =>
 ck ((t1.length + ([m1, m2]).length) * 8 ≤ 140737488355328) <|
 nm (t1 ++ ([m1, m2])) fun t2 =>
 ck64 (i1 + ((1 : Int))) fun x1 =>
 L (t2, x1)
 else
 some t1
def M_ref01_digits (fu : Nat) (a0 : List Nat) : Option (List Nat) :=
 bd (loopN (B_ref01_digits_0 fu a0) fu (([], (0 : Int)))) fun t3 =>
 bd (M_ref01_cut fu t3) fun t4 =>
 some t4
def B_ref01_limbs_0 (fu : Nat) (a0 : List Nat) : (((List Nat) × Int) → Option (List Nat)) → ((List Nat) × Int) → Option (List Nat) := fun L (t1, i1) =>
 if i1 < ((a0.length : Nat) : Int) then
 ckI i1 (a0.length) fun j1 =>
 nm (a0.getD j1 0) fun y1 =>
 ck64 (i1 + ((1 : Int))) fun x1 =>
 if x1 < ((a0.length : Nat) : Int) then
 ck64 (i1 + ((1 : Int))) fun x2 =>
 ckI x2 (a0.length) fun j2 =>
 nm (a0.getD j2 0) fun y2 =>
 nm (y2 * 2 ^ (min (((32 : Nat)) : Int).toNat 64) % 18446744073709551616) fun m1 =>
 nm ((y1 + m1) % 18446744073709551616) fun m2 =>
 ck ((t1.length + ([m2]).length) * 8 ≤ 140737488355328) <|
 nm (t1 ++ ([m2])) fun t2 =>
 ck64 (i1 + ((2 : Int))) fun x3 =>
 L (t2, x3)
 else
 ck ((t1.length + ([y1]).length) * 8 ≤ 140737488355328) <|
 nm (t1 ++ ([y1])) fun t3 =>
 ck64 (i1 + ((2 : Int))) fun x4 =>
 L (t3, x4)
 else
 some t1
def M_ref01_limbs (fu : Nat) (a0 : List Nat) : Option (List Nat) :=
 bd (loopN (B_ref01_limbs_0 fu a0) fu (([], (0 : Int)))) fun t4 =>
 bd (M_ref01_Norm fu t4) fun t5 =>
 some t5
def B_ref01_Mul_1 (fu : Nat) (i1 : Int) : (((List Nat) × (List Nat) × Nat × Int × (List Nat)) → Option ((List Nat) × (List Nat) × Nat × (List Nat))) → ((List Nat) × (List Nat) × Nat × Int × (List Nat)) → Option ((List Nat) × (List Nat) × Nat × (List Nat)) := fun L (t5, t6, d1, i2, t7) =>
 if i2 < ((t6.length : Nat) : Int) then
 ckI i1 (t5.length) fun j2 =>
 nm (t5.getD j2 0) fun y1 =>
 ckI i2 (t6.length) fun j3 =>
 nm (t6.getD j3 0) fun y2 =>
 nm ((y1 * y2) % 18446744073709551616) fun m1 =>
 ck64 (i1 + i2) fun x2 =>
 ckI x2 (t7.length) fun j4 =>
 nm ((t7.getD j4 0)) fun m2 =>
 nm ((m1 + m2) % 18446744073709551616) fun m3 =>
 nm ((m3 + d1) % 18446744073709551616) fun m4 =>
 ck64 (i1 + i2) fun x3 =>
 nm (m4 &&& ((4294967295 : Nat))) fun m5 =>
 ckI x3 (t7.length) fun j5 =>
 nm (t7.set j5 m5) fun t8 =>
 nm (m4 / 2 ^ (min (((32 : Nat)) : Int).toNat 64)) fun m6 =>
 ck64 (i2 + ((1 : Int))) fun x4 =>
 L (t5, t6, m6, x4, t8)
 else
 some (t5, t6, d1, t7)
def B_ref01_Mul_0 (fu : Nat) (t1 : List Nat) (t2 : List Nat) : ((Int × (List Nat)) → Option (List Nat)) → (Int × (List Nat)) → Option (List Nat) := fun L (i1, t4) =>
 if i1 < ((t1.length : Nat) : Int) then
 bd (loopN (B_ref01_Mul_1 fu i1) fu ((t1, t2, (0 : Nat), (0 : Int), t4))) fun (t9, t10, d2, t11) =>
 ck64 (i1 + (((t10.length : Nat) : Int))) fun x5 =>
 ckI x5 (t11.length) fun j6 =>
 nm (t11.set j6 d2) fun t12 =>
 ck64 (i1 + ((1 : Int))) fun x6 =>
 L (x6, t12)
 else
 some t4
def M_ref01_Mul (fu : Nat) (a0 : List Nat) (a1 : List Nat) : Option (List Nat) :=
 bd (M_ref01_digits fu a0) fun t1 =>
 bd (M_ref01_digits fu a1) fun t2 =>
 ck64 ((((t1.length : Nat) : Int)) + (((t2.length : Nat) : Int))) fun x1 =>
 ckN x1 fun j1 =>
 ck (8 * j1 ≤ 281474976710656) <|
 nm (List.replicate j1 0) fun t3 =>
 bd (loopN (B_ref01_Mul_0 fu t1 t2) fu (((0 : Int), t3))) fun t13 =>
 bd (M_ref01_limbs fu t13) fun t14 =>
 some t14
def M_ref02_Mul (fu : Nat) (a0 : Zr) (a1 : Zr) : Option Zr :=
 nm (!(a0.1 == a1.1)) fun c1 =>
 bd (M_ref01_Mul fu a0.2 a1.2) fun t1 =>
 bd (M_ref02_Norm fu (c1, t1)) fun y1 =>
 some y1
def B_ref02_Pow_0 (fu : Nat) (a0 : Zr) (i1 : Int) : ((Int × Zr) → Option Zr) → (Int × Zr) → Option Zr := fun L (i2, t1) =>
 if i2 < i1 then
 bd (M_ref02_Mul fu t1 a0) fun y2 =>
 ck64 (i2 + ((1 : Int))) fun x8 =>
 L (x8, y2)
 else
 some t1
def M_ref02_Pow (fu : Nat) (a0 : Zr) (a1 : Int) : Option (Zr × Int) :=
 if a1 < (0 : Int) then
 some (((false, []), (1 : Int)))
 else
 if (65536 : Int) < a1 then
 some (((false, []), (1 : Int)))
 else
 bd (M_ref01_Bits fu a0.2) fun x1 =>
 ck64 (x1 * a1) fun x2 =>
 if (262144 : Int) < x2 then
 some (((false, []), (6 : Int)))
 else
 bd (M_ref02_Of fu (1 : Int)) fun y1 =>
 bd ((bd (M_ref01_Bits fu a0.2) fun x3 =>
 if x3 ≤ (1 : Int) then
 nm (min a1 ((1 : Int))) fun x4 =>
 ck64 (((2 : Int)) * x4) fun x5 =>
 ck ((2 : Int) ≠ 0) <|
 nm (Int.tmod a1 ((2 : Int))) fun x6 =>
 ck64 (x5 - x6) fun x7 =>
 some x7
 else
 some a1 : Option Int)) fun i1 =>
 bd (loopN (B_ref02_Pow_0 fu a0 i1) fu (((0 : Int), y1))) fun t2 =>
 some ((t2, (0 : Int)))
def B_ref04_Is_0 (fu : Nat) (a0 : Int) : (Int → Option (Unit ⊕ Unit)) → Int → Option (Unit ⊕ Unit) := fun L i1 =>
 ck64 (i1 * i1) fun x1 =>
 if x1 ≤ a0 then
 ck (i1 ≠ 0) <|
 nm (Int.tmod a0 i1) fun x2 =>
 if x2 = (0 : Int) then
 some (.inr ())
 else
 ck64 (i1 + ((1 : Int))) fun x3 =>
 L x3
 else
 some (.inl ())
def M_ref04_Is (fu : Nat) (a0 : Int) : Option Bool :=
 if a0 < (2 : Int) then
 some false
 else
 if (65521 : Int) < a0 then
 some false
 else
 bd (loopN (B_ref04_Is_0 fu a0) fu (2 : Int)) fun s1 => match s1 with
 | .inl _ =>
 some true
 | .inr _ =>
 some false
def M_ref13_Power (fu : Nat) (a0 : Int) (a1 : Int) : Option (Zr × Int) :=
 bd (M_ref04_Is fu a0) fun c1 =>
 if ((!c1)) = true then
 some (((false, []), (1 : Int)))
 else
 if a1 < (1 : Int) then
 some (((false, []), (1 : Int)))
 else
 if (1000 : Int) < a1 then
 some (((false, []), (1 : Int)))
 else
 bd (M_ref02_Of fu a0) fun y1 =>
 bd (M_ref02_Pow fu y1 a1) fun (y2, x1) =>
 some (y2, x1)
def B_law13_small_1 (fu : Nat) (i1 : Int) : ((Int × Int × (List (List Zr)) × Int) → Option ((Int × Int × (List (List Zr))) ⊕ Unit)) → (Int × Int × (List (List Zr)) × Int) → Option ((Int × Int × (List (List Zr))) ⊕ Unit) := fun L (i2, i3, t1, i4) =>
 ckI i1 (t1.length) fun j2 =>
 nm (t1.getD j2 []) fun y2 =>
 if i4 < ((y2.length : Nat) : Int) then
 ckI i1 (t1.length) fun j3 =>
 nm (t1.getD j3 []) fun y3 =>
 ckI i4 (y3.length) fun j4 =>
 nm (y3.getD j4 (false, [])) fun y4 =>
 if i3 < ((y4.2.length : Nat) : Int) then
 some (.inr ())
 else
 ck64 (i4 + ((1 : Int))) fun x1 =>
 L (i2, i3, t1, x1)
 else
 some (.inl (i2, i3, t1))
def B_law13_small_0 (fu : Nat) (a0 : Int) (a1 : Int) (a2 : List (List Zr)) : (Int → Option (Unit ⊕ Unit)) → Int → Option (Unit ⊕ Unit) := fun L i1 =>
 if i1 < ((a2.length : Nat) : Int) then
 ckI i1 (a2.length) fun j1 =>
 nm (a2.getD j1 []) fun y1 =>
 if a0 < ((y1.length : Nat) : Int) then
 some (.inr ())
 else
 bd (loopN (B_law13_small_1 fu i1) fu ((a0, a1, a2, (0 : Int)))) fun s1 => match s1 with
 | .inl (i5, i6, t2) =>
 ck64 (i1 + ((1 : Int))) fun x2 =>
 L x2
 | .inr _ =>
 some (.inr ())
 else
 some (.inl ())
def M_law13_small (fu : Nat) (a0 : Int) (a1 : Int) (a2 : List (List Zr)) : Option Bool :=
 bd (loopN (B_law13_small_0 fu a0 a1 a2) fu (0 : Int)) fun s2 => match s2 with
 | .inl _ =>
 some true
 | .inr _ =>
 some false
def M_ref01_at (fu : Nat) (a0 : List Nat) (a1 : Int) : Option Nat :=
 if a1 < ((a0.length : Nat) : Int) then
 ckI a1 (a0.length) fun j1 =>
 nm (a0.getD j1 0) fun y1 =>
 some y1
 else
 some (0 : Nat)
def B_ref01_Add_0 (fu : Nat) (t1 : List Nat) (t2 : List Nat) : (((List Nat) × Nat × Int) → Option (List Nat)) → ((List Nat) × Nat × Int) → Option (List Nat) := fun L (t3, d1, i1) =>
 nm (max (((t1.length : Nat) : Int)) (((t2.length : Nat) : Int))) fun x1 =>
 ck64 (x1 + ((1 : Int))) fun x2 =>
 if i1 < x2 then
 bd (M_ref01_at fu t1 i1) fun m1 =>
 bd (M_ref01_at fu t2 i1) fun m2 =>
 nm ((m1 + m2) % 18446744073709551616) fun m3 =>
 nm ((m3 + d1) % 18446744073709551616) fun m4 =>
 nm (m4 &&& ((4294967295 : Nat))) fun m5 =>
 ck ((t3.length + ([m5]).length) * 8 ≤ 140737488355328) <|
 nm (t3 ++ ([m5])) fun t4 =>
 nm (m4 / 2 ^ (min (((32 : Nat)) : Int).toNat 64)) fun m6 =>
 ck64 (i1 + ((1 : Int))) fun x3 =>
 L (t4, m6, x3)
 else
 some t3
def M_ref01_Add (fu : Nat) (a0 : List Nat) (a1 : List Nat) : Option (List Nat) :=
 bd (M_ref01_digits fu a0) fun t1 =>
 bd (M_ref01_digits fu a1) fun t2 =>
 bd (loopN (B_ref01_Add_0 fu t1 t2) fu (([], (0 : Nat), (0 : Int)))) fun t5 =>
 bd (M_ref01_limbs fu t5) fun t6 =>
 some t6
def B_ref01_compare_0 (fu : Nat) (a0 : List Nat) (a1 : List Nat) : (Int → Option (Unit ⊕ Int)) → Int → Option (Unit ⊕ Int) := fun L i1 =>
 if (0 : Int) ≤ i1 then
 bd (M_ref01_at fu a0 i1) fun m1 =>
 bd (M_ref01_at fu a1 i1) fun m2 =>
 if ((m1 : Nat) : Int) < ((m2 : Nat) : Int) then
 some (.inr (-1 : Int))
 else
 bd (M_ref01_at fu a0 i1) fun m3 =>
 bd (M_ref01_at fu a1 i1) fun m4 =>
 if ((m4 : Nat) : Int) < ((m3 : Nat) : Int) then
 some (.inr (1 : Int))
 else
 ck64 (i1 - ((1 : Int))) fun x3 =>
 L x3
 else
 some (.inl ())
def M_ref01_compare (fu : Nat) (a0 : List Nat) (a1 : List Nat) : Option Int :=
 nm (max (((a0.length : Nat) : Int)) (((a1.length : Nat) : Int))) fun x1 =>
 ck64 (x1 - ((1 : Int))) fun x2 =>
 bd (loopN (B_ref01_compare_0 fu a0 a1) fu x2) fun s1 => match s1 with
 | .inl _ =>
 some (0 : Int)
 | .inr i2 =>
 some i2
def B_ref01_less_0 (fu : Nat) (a0 : List Nat) (a1 : List Nat) : (((List Nat) × Nat × Int) → Option (List Nat)) → ((List Nat) × Nat × Int) → Option (List Nat) := fun L (t1, d1, i1) =>
 if i1 < ((a0.length : Nat) : Int) then
 bd (M_ref01_at fu a0 i1) fun m1 =>
 nm ((m1 + ((4294967296 : Nat))) % 18446744073709551616) fun m2 =>
 bd (M_ref01_at fu a1 i1) fun m3 =>
 nm ((m2 + 18446744073709551616 - m3) % 18446744073709551616) fun m4 =>
 nm ((m4 + 18446744073709551616 - d1) % 18446744073709551616) fun m5 =>
 nm (m5 &&& ((4294967295 : Nat))) fun m6 =>
 ck ((t1.length + ([m6]).length) * 8 ≤ 140737488355328) <|
 nm (t1 ++ ([m6])) fun t2 =>
 nm (m5 / 2 ^ (min (((32 : Nat)) : Int).toNat 64)) fun m7 =>
 nm ((((1 : Nat)) + 18446744073709551616 - m7) % 18446744073709551616) fun m8 =>
 ck64 (i1 + ((1 : Int))) fun x1 =>
 L (t2, m8, x1)
 else
 some t1
def M_ref01_less (fu : Nat) (a0 : List Nat) (a1 : List Nat) : Option (List Nat) :=
 bd (loopN (B_ref01_less_0 fu a0 a1) fu (([], (0 : Nat), (0 : Int)))) fun t3 =>
 bd (M_ref01_cut fu t3) fun t4 =>
 some t4
def M_ref01_Sub (fu : Nat) (a0 : List Nat) (a1 : List Nat) : Option ((List Nat) × Int) :=
 bd (M_ref01_digits fu a0) fun t1 =>
 bd (M_ref01_digits fu a1) fun t2 =>
 bd (M_ref01_compare fu t1 t2) fun x1 =>
 if x1 < (0 : Int) then
 some (([], (1 : Int)))
 else
 bd (M_ref01_less fu t1 t2) fun t3 =>
 bd (M_ref01_limbs fu t3) fun t4 =>
 some ((t4, (0 : Int)))
def M_ref02_Add (fu : Nat) (a0 : Zr) (a1 : Zr) : Option Zr :=
 nm (a0.1 == a1.1) fun c1 =>
 if c1 = true then
 bd (M_ref01_Add fu a0.2 a1.2) fun t1 =>
 bd (M_ref02_Norm fu (a0.1, t1)) fun y1 =>
 some y1
 else
 bd (M_ref01_Sub fu a0.2 a1.2) fun (t2, x1) =>
 if x1 = (0 : Int) then
 bd (M_ref02_Norm fu (a0.1, t2)) fun y2 =>
 some y2
 else
 bd (M_ref01_Sub fu a1.2 a0.2) fun (t3, x2) =>
 bd (M_ref02_Norm fu (a1.1, t3)) fun y3 =>
 some y3
def M_ref10_At (fu : Nat) (a0 : List Zr) (a1 : Int) : Option Zr :=
 if (0 : Int) ≤ a1 then
 if a1 < ((a0.length : Nat) : Int) then
 ckI a1 (a0.length) fun j1 =>
 nm (a0.getD j1 (false, [])) fun y1 =>
 some y1
 else
 some (false, [])
 else
 some (false, [])
def B_ref10_Add_0 (fu : Nat) (a0 : List Zr) (a1 : List Zr) : (((List Zr) × Int) → Option (List Zr)) → ((List Zr) × Int) → Option (List Zr) := fun L (t1, i1) =>
 nm (max (((a0.length : Nat) : Int)) (((a1.length : Nat) : Int))) fun x1 =>
 if i1 < x1 then
 bd (M_ref10_At fu a0 i1) fun y1 =>
 bd (M_ref10_At fu a1 i1) fun y2 =>
 bd (M_ref02_Add fu y1 y2) fun y3 =>
 ck ((t1.length + ([y3]).length) * 32 ≤ 140737488355328) <|
 nm (t1 ++ ([y3])) fun t2 =>
 ck64 (i1 + ((1 : Int))) fun x2 =>
 L (t2, x2)
 else
 some t1
def M_ref10_Add (fu : Nat) (a0 : List Zr) (a1 : List Zr) : Option (List Zr) :=
 bd (loopN (B_ref10_Add_0 fu a0 a1) fu (([], (0 : Int)))) fun t3 =>
 bd (M_ref10_Norm fu t3) fun t4 =>
 some t4
def B_ref10_Mul_1 (fu : Nat) (i1 : Int) : (((List Zr) × (List Zr) × Int × (List Zr)) → Option ((List Zr) × (List Zr) × (List Zr))) → ((List Zr) × (List Zr) × Int × (List Zr)) → Option ((List Zr) × (List Zr) × (List Zr)) := fun L (t3, t4, i2, t5) =>
 if i2 < ((t4.length : Nat) : Int) then
 ck64 (i1 + i2) fun x2 =>
 ck64 (i1 + i2) fun x3 =>
 ckI x3 (t5.length) fun j2 =>
 nm ((t5.getD j2 (false, []))) fun y1 =>
 ckI i1 (t3.length) fun j3 =>
 nm (t3.getD j3 (false, [])) fun y2 =>
 ckI i2 (t4.length) fun j4 =>
 nm (t4.getD j4 (false, [])) fun y3 =>
 bd (M_ref02_Mul fu y2 y3) fun y4 =>
 bd (M_ref02_Add fu y1 y4) fun y5 =>
 ckI x2 (t5.length) fun j5 =>
 nm (t5.set j5 y5) fun t6 =>
 ck64 (i2 + ((1 : Int))) fun x4 =>
 L (t3, t4, x4, t6)
 else
 some (t3, t4, t5)
def B_ref10_Mul_0 (fu : Nat) (a0 : List Zr) (a1 : List Zr) : ((Int × (List Zr)) → Option (List Zr)) → (Int × (List Zr)) → Option (List Zr) := fun L (i1, t2) =>
 if i1 < ((a0.length : Nat) : Int) then
 bd (loopN (B_ref10_Mul_1 fu i1) fu ((a0, a1, (0 : Int), t2))) fun (t7, t8, t9) =>
 ck64 (i1 + ((1 : Int))) fun x5 =>
 L (x5, t9)
 else
 some t2
def M_ref10_Mul (fu : Nat) (a0 : List Zr) (a1 : List Zr) : Option (List Zr) :=
 ck64 ((((a0.length : Nat) : Int)) + (((a1.length : Nat) : Int))) fun x1 =>
 ckN x1 fun j1 =>
 ck (32 * j1 ≤ 281474976710656) <|
 nm (List.replicate j1 (false, [])) fun t1 =>
 bd (loopN (B_ref10_Mul_0 fu a0 a1) fu (((0 : Int), t1))) fun t10 =>
 bd (M_ref10_Norm fu t10) fun t11 =>
 some t11
def B_ref10_Scale_0 (fu : Nat) (a0 : List Zr) (a1 : Zr) : (((List Zr) × Int) → Option (List Zr)) → ((List Zr) × Int) → Option (List Zr) := fun L (t1, i1) =>
 if i1 < ((a0.length : Nat) : Int) then
 ckI i1 (a0.length) fun j1 =>
 nm (a0.getD j1 (false, [])) fun y1 =>
 bd (M_ref02_Mul fu y1 a1) fun y2 =>
 ck ((t1.length + ([y2]).length) * 32 ≤ 140737488355328) <|
 nm (t1 ++ ([y2])) fun t2 =>
 ck64 (i1 + ((1 : Int))) fun x1 =>
 L (t2, x1)
 else
 some t1
def M_ref10_Scale (fu : Nat) (a0 : List Zr) (a1 : Zr) : Option (List Zr) :=
 bd (loopN (B_ref10_Scale_0 fu a0 a1) fu (([], (0 : Int)))) fun t3 =>
 bd (M_ref10_Norm fu t3) fun t4 =>
 some t4
def M_ref10_Sub (fu : Nat) (a0 : List Zr) (a1 : List Zr) : Option (List Zr) :=
 bd (M_ref02_Of fu (-1 : Int)) fun y1 =>
 bd (M_ref10_Scale fu a1 y1) fun t1 =>
 bd (M_ref10_Add fu a0 t1) fun t2 =>
 some t2
def B_ref01_Div_1 (fu : Nat) (t4 : List Nat) : (((List Nat) × (List Nat) × (List Nat) × Nat × Int) → Option ((List Nat) × (List Nat) × (List Nat) × Nat)) → ((List Nat) × (List Nat) × (List Nat) × Nat × Int) → Option ((List Nat) × (List Nat) × (List Nat) × Nat) := fun L (t6, t7, t8, d1, i2) =>
 if i2 < ((t4.length : Nat) : Int) then
 ckI i2 (t4.length) fun j3 =>
 nm (t4.getD j3 0) fun y2 =>
 nm ((y2 * ((2 : Nat))) % 18446744073709551616) fun m3 =>
 nm ((m3 + d1) % 18446744073709551616) fun m4 =>
 nm (m4 &&& ((4294967295 : Nat))) fun m5 =>
 ck ((t8.length + ([m5]).length) * 8 ≤ 140737488355328) <|
 nm (t8 ++ ([m5])) fun t9 =>
 ckI i2 (t4.length) fun j4 =>
 nm (t4.getD j4 0) fun y3 =>
 nm (y3 / 2 ^ (min (((31 : Nat)) : Int).toNat 64)) fun m6 =>
 ck64 (i2 + ((1 : Int))) fun x5 =>
 L (t6, t7, t9, m6, x5)
 else
 some (t6, t7, t8, d1)
def B_ref01_Div_0 (fu : Nat) (t1 : List Nat) (t2 : List Nat) : (((List Nat) × Int × (List Nat)) → Option ((List Nat) × (List Nat))) → ((List Nat) × Int × (List Nat)) → Option ((List Nat) × (List Nat)) := fun L (t4, i1, t5) =>
 if (0 : Int) ≤ i1 then
 ck ((32 : Int) ≠ 0) <|
 ck64 (Int.tdiv i1 ((32 : Int))) fun x3 =>
 ckI x3 (t2.length) fun j2 =>
 nm (t2.getD j2 0) fun y1 =>
 ck ((32 : Int) ≠ 0) <|
 nm (Int.tmod i1 ((32 : Int))) fun x4 =>
 ck (0 ≤ x4) <|
 nm (y1 / 2 ^ (min (x4 : Int).toNat 64)) fun m1 =>
 nm (m1 &&& ((1 : Nat))) fun m2 =>
 bd (loopN (B_ref01_Div_1 fu t4) fu ((t1, t2, [], m2, (0 : Int)))) fun (t10, t11, t12, d2) =>
 ck ((t12.length + ([d2]).length) * 8 ≤ 140737488355328) <|
 nm (t12 ++ ([d2])) fun t13 =>
 bd (M_ref01_cut fu t13) fun t14 =>
 bd ((bd (M_ref01_compare fu t14 t10) fun x6 =>
 if (0 : Int) ≤ x6 then
 some true
 else
 some false : Option Bool)) fun b1 =>
 if b1 = true then
 bd (M_ref01_less fu t14 t10) fun t15 =>
 ck ((32 : Int) ≠ 0) <|
 ck64 (Int.tdiv i1 ((32 : Int))) fun x7 =>
 ck ((32 : Int) ≠ 0) <|
 ck64 (Int.tdiv i1 ((32 : Int))) fun x8 =>
 ckI x8 (t5.length) fun j5 =>
 nm ((t5.getD j5 0)) fun m7 =>
 ck ((32 : Int) ≠ 0) <|
 nm (Int.tmod i1 ((32 : Int))) fun x9 =>
 ck (0 ≤ x9) <|
 nm (((1 : Nat)) * 2 ^ (min (x9 : Int).toNat 64) % 18446744073709551616) fun m8 =>
 nm (m7 ||| m8) fun m9 =>
 ckI x7 (t5.length) fun j6 =>
 nm (t5.set j6 m9) fun t16 =>
 ck64 (i1 - ((1 : Int))) fun x10 =>
 L (t15, x10, t16)
 else
 ck64 (i1 - ((1 : Int))) fun x11 =>
 L (t14, x11, t5)
 else
 some (t4, t5)
def M_ref01_Div (fu : Nat) (a0 : List Nat) (a1 : List Nat) : Option ((List Nat) × (List Nat) × Int) :=
 bd (M_ref01_digits fu a1) fun t1 =>
 if ((t1.length : Nat) : Int) = (0 : Int) then
 some (([], [], (3 : Int)))
 else
 bd (M_ref01_digits fu a0) fun t2 =>
 ckN (((t2.length : Nat) : Int)) fun j1 =>
 ck (8 * j1 ≤ 281474976710656) <|
 nm (List.replicate j1 0) fun t3 =>
 ck64 (((32 : Int)) * (((t2.length : Nat) : Int))) fun x1 =>
 ck64 (x1 - ((1 : Int))) fun x2 =>
 bd (loopN (B_ref01_Div_0 fu t1 t2) fu ([], x2, t3)) fun (t17, t18) =>
 bd (M_ref01_limbs fu t18) fun t19 =>
 bd (M_ref01_limbs fu t17) fun t20 =>
 some ((t19, t20, (0 : Int)))
def M_ref02_Div (fu : Nat) (a0 : Zr) (a1 : Zr) : Option (Zr × Zr × Int) :=
 bd (M_ref01_Div fu a0.2 a1.2) fun (t1, t2, x1) =>
 if x1 = (0 : Int) then
 bd ((if a0.1 = true then
 if (0 : Int) < ((t2.length : Nat) : Int) then
 bd (M_ref01_Add fu t1 [(1 : Nat)]) fun t3 =>
 bd (M_ref01_Sub fu a1.2 t2) fun (t4, x2) =>
 some (t3, t4)
 else
 some (t1, t2)
 else
 some (t1, t2) : Option ((List Nat) × (List Nat)))) fun (t5, t6) =>
 nm (!(a0.1 == a1.1)) fun c1 =>
 bd (M_ref02_Norm fu (c1, t5)) fun y1 =>
 bd (M_ref02_Norm fu (false, t6)) fun y2 =>
 some ((y1, y2, (0 : Int)))
 else
 some (((false, []), (false, []), x1))
def M_ref04_Rest (fu : Nat) (a0 : Zr) (a1 : Zr) : Option (Zr × Int) :=
 bd (M_ref02_Sign fu a1) fun x1 =>
 if x1 ≤ (0 : Int) then
 some (((false, []), (1 : Int)))
 else
 bd (M_ref02_Div fu a0 a1) fun (y1, y2, x2) =>
 some ((y2, (0 : Int)))
def B_law13_few_0 (fu : Nat) (a0 : List (List Int)) : (Int → Option (Unit ⊕ Unit)) → Int → Option (Unit ⊕ Unit) := fun L i1 =>
 if i1 < ((a0.length : Nat) : Int) then
 ckI i1 (a0.length) fun j1 =>
 nm (a0.getD j1 []) fun y1 =>
 if (14 : Int) < ((y1.length : Nat) : Int) then
 some (.inr ())
 else
 ck64 (i1 + ((1 : Int))) fun x1 =>
 L x1
 else
 some (.inl ())
def M_law13_few (fu : Nat) (a0 : List (List Int)) : Option Bool :=
 if (12 : Int) < ((a0.length : Nat) : Int) then
 some false
 else
 bd (loopN (B_law13_few_0 fu a0) fu (0 : Int)) fun s1 => match s1 with
 | .inl _ =>
 some true
 | .inr _ =>
 some false
def B_ref06_Same_0 (fu : Nat) (a0 : List Int) (a1 : List Int) : (Int → Option (Unit ⊕ Unit)) → Int → Option (Unit ⊕ Unit) := fun L i1 =>
 if i1 < ((a0.length : Nat) : Int) then
 ckI i1 (a0.length) fun j1 =>
 nm (a0.getD j1 0) fun y1 =>
 ckI i1 (a1.length) fun j2 =>
 nm (a1.getD j2 0) fun y2 =>
 if y1 = y2 then
 ck64 (i1 + ((1 : Int))) fun x1 =>
 L x1
 else
 some (.inr ())
 else
 some (.inl ())
def M_ref06_Same (fu : Nat) (a0 : List Int) (a1 : List Int) : Option Bool :=
 if ((a0.length : Nat) : Int) = ((a1.length : Nat) : Int) then
 bd (loopN (B_ref06_Same_0 fu a0 a1) fu (0 : Int)) fun s1 => match s1 with
 | .inl _ =>
 some true
 | .inr _ =>
 some false
 else
 some false
def M_ref02_Exact (fu : Nat) (a0 : Zr) (a1 : Zr) : Option (Zr × Int) :=
 bd (M_ref02_Div fu a0 a1) fun (y1, y2, x1) =>
 if x1 = (0 : Int) then
 bd (M_ref02_Sign fu y2) fun x2 =>
 if x2 = (0 : Int) then
 some ((y1, (0 : Int)))
 else
 some (((false, []), (4 : Int)))
 else
 some (((false, []), x1))
def B_ref10_Div_0 (fu : Nat)  : (((List Zr) × (List Zr) × (List Zr)) → Option ((List Zr) ⊕ Unit)) → ((List Zr) × (List Zr) × (List Zr)) → Option ((List Zr) ⊕ Unit) := fun L (t3, t4, t5) =>
 if (0 : Int) < ((t4.length : Nat) : Int) then
 ck64 ((((t4.length : Nat) : Int)) - (((t3.length : Nat) : Int))) fun x1 =>
 ck64 ((((t4.length : Nat) : Int)) - ((1 : Int))) fun x2 =>
 ckI x2 (t4.length) fun j1 =>
 nm ((t4.getD j1 (false, []))) fun y1 =>
 ck64 ((((t3.length : Nat) : Int)) - ((1 : Int))) fun x3 =>
 ckI x3 (t3.length) fun j2 =>
 nm (t3.getD j2 (false, [])) fun y2 =>
 bd (M_ref02_Exact fu y1 y2) fun (y3, x4) =>
 if x1 < (0 : Int) then
 some (.inr ())
 else
 if x4 = (0 : Int) then
 ckN x1 fun j3 =>
 ck (32 * j3 ≤ 281474976710656) <|
 nm (List.replicate j3 (false, [])) fun t6 =>
 ck ((t6.length + ([y3]).length) * 32 ≤ 140737488355328) <|
 nm (t6 ++ ([y3])) fun t7 =>
 bd (M_ref10_Add fu t5 t7) fun t8 =>
 bd (M_ref10_Mul fu t7 t3) fun t9 =>
 bd (M_ref10_Sub fu t4 t9) fun t10 =>
 L (t3, t10, t8)
 else
 some (.inr ())
 else
 some (.inl t5)
def M_ref10_Div (fu : Nat) (a0 : List Zr) (a1 : List Zr) : Option ((List Zr) × Int) :=
 bd (M_ref10_Norm fu a1) fun t1 =>
 if ((t1.length : Nat) : Int) = (0 : Int) then
 some (([], (3 : Int)))
 else
 bd (M_ref10_Norm fu a0) fun t2 =>
 bd (loopN (B_ref10_Div_0 fu ) fu (t1, t2, [])) fun s1 => match s1 with
 | .inl t11 =>
 some ((t11, (0 : Int)))
 | .inr _ =>
 some (([], (4 : Int)))
def M_ref05_Check (fu : Nat) (a0 : Int) : Option Int :=
 bd (M_ref04_Is fu a0) fun c1 =>
 if ((!c1)) = true then
 some (1 : Int)
 else
 some (0 : Int)
def M_ref05_Red (fu : Nat) (a0 : Int) (a1 : Int) : Option Int :=
 if a1 < (1 : Int) then
 some (0 : Int)
 else
 ck (a1 ≠ 0) <|
 nm (Int.tmod a0 a1) fun x1 =>
 if x1 < (0 : Int) then
 ck64 (x1 + a1) fun x2 =>
 some x2
 else
 some x1
def B_ref06_Plain_0 (fu : Nat) (a0 : List Int) (a1 : Int) : (((List Int) × Int) → Option (List Int)) → ((List Int) × Int) → Option (List Int) := fun L (t1, i1) =>
 if i1 < ((a0.length : Nat) : Int) then
 ckI i1 (a0.length) fun j1 =>
 nm (a0.getD j1 0) fun y1 =>
 bd (M_ref05_Red fu y1 a1) fun x1 =>
 ck ((t1.length + ([x1]).length) * 8 ≤ 140737488355328) <|
 nm (t1 ++ ([x1])) fun t2 =>
 ck64 (i1 + ((1 : Int))) fun x2 =>
 L (t2, x2)
 else
 some t1
def B_ref06_Plain_1 (fu : Nat) (t3 : List Int) : (Int → Option Int) → Int → Option Int := fun L i2 =>
 if (0 : Int) < i2 then
 ck64 (i2 - ((1 : Int))) fun x3 =>
 ckI x3 (t3.length) fun j2 =>
 nm ((t3.getD j2 0)) fun x4 =>
 if x4 = (0 : Int) then
 ck64 (i2 - ((1 : Int))) fun x5 =>
 L x5
 else
 some i2
 else
 some i2
def M_ref06_Plain (fu : Nat) (a0 : List Int) (a1 : Int) : Option (List Int) :=
 bd (loopN (B_ref06_Plain_0 fu a0 a1) fu (([], (0 : Int)))) fun t3 =>
 bd (loopN (B_ref06_Plain_1 fu t3) fu (((t3.length : Nat) : Int))) fun i3 =>
 ckN i3 fun j3 =>
 ck (j3 ≤ t3.length) <|
 nm (t3.take j3) fun t4 =>
 some t4
def B_ref06_Times_1 (fu : Nat) (i1 : Int) (t4 : List Int) (t5 : List Int) : ((Int × Int × (List Int)) → Option (Int × (List Int))) → (Int × Int × (List Int)) → Option (Int × (List Int)) := fun L (i2, i3, t7) =>
 if i3 < ((t5.length : Nat) : Int) then
 ck64 (i1 + i3) fun x2 =>
 ck64 (i1 + i3) fun x3 =>
 ckI x3 (t7.length) fun j2 =>
 nm ((t7.getD j2 0)) fun x4 =>
 ckI i1 (t4.length) fun j3 =>
 nm ((t4.getD j3 0)) fun x5 =>
 ckI i3 (t5.length) fun j4 =>
 nm ((t5.getD j4 0)) fun x6 =>
 ck64 (x5 * x6) fun x7 =>
 ck64 (x4 + x7) fun x8 =>
 ck (i2 ≠ 0) <|
 nm (Int.tmod x8 i2) fun x9 =>
 ckI x2 (t7.length) fun j5 =>
 nm (t7.set j5 x9) fun t8 =>
 ck64 (i3 + ((1 : Int))) fun x10 =>
 L (i2, x10, t8)
 else
 some (i2, t7)
def B_ref06_Times_0 (fu : Nat) (a2 : Int) : ((Int × (List Int) × (List Int) × (List Int)) → Option (List Int)) → (Int × (List Int) × (List Int) × (List Int)) → Option (List Int) := fun L (i1, t4, t5, t6) =>
 if i1 < ((t4.length : Nat) : Int) then
 bd (loopN (B_ref06_Times_1 fu i1 t4 t5) fu ((a2, (0 : Int), t6))) fun (i4, t9) =>
 ck64 (i1 + ((1 : Int))) fun x11 =>
 L (x11, t4, t5, t9)
 else
 some t6
def M_ref06_Times (fu : Nat) (a0 : List Int) (a1 : List Int) (a2 : Int) : Option (List Int) :=
 bd (M_ref06_Plain fu a0 a2) fun t1 =>
 bd (M_ref06_Plain fu a1 a2) fun t2 =>
 ck64 ((((t1.length : Nat) : Int)) + (((t2.length : Nat) : Int))) fun x1 =>
 ckN x1 fun j1 =>
 ck (8 * j1 ≤ 281474976710656) <|
 nm (List.replicate j1 0) fun t3 =>
 bd (loopN (B_ref06_Times_0 fu a2) fu (((0 : Int), t1, t2, t3))) fun t10 =>
 bd (M_ref06_Plain fu t10 a2) fun t11 =>
 some t11
def B_ref05_Pow_0 (fu : Nat) (a2 : Int) : ((Int × Int × Int) → Option Int) → (Int × Int × Int) → Option Int := fun L (i1, i2, i3) =>
 if (0 : Int) < i3 then
 ck ((2 : Int) ≠ 0) <|
 nm (Int.tmod i3 ((2 : Int))) fun x4 =>
 if x4 = (1 : Int) then
 ck64 (i1 * i2) fun x5 =>
 ck (a2 ≠ 0) <|
 nm (Int.tmod x5 a2) fun x6 =>
 ck64 (i2 * i2) fun x7 =>
 ck (a2 ≠ 0) <|
 nm (Int.tmod x7 a2) fun x8 =>
 ck ((2 : Int) ≠ 0) <|
 ck64 (Int.tdiv i3 ((2 : Int))) fun x9 =>
 L (x6, x8, x9)
 else
 ck64 (i2 * i2) fun x10 =>
 ck (a2 ≠ 0) <|
 nm (Int.tmod x10 a2) fun x11 =>
 ck ((2 : Int) ≠ 0) <|
 ck64 (Int.tdiv i3 ((2 : Int))) fun x12 =>
 L (i1, x11, x12)
 else
 some i1
def M_ref05_Pow (fu : Nat) (a0 : Int) (a1 : Int) (a2 : Int) : Option (Int × Int) :=
 bd (M_ref05_Check fu a2) fun x1 =>
 if x1 = (0 : Int) then
 if a1 < (0 : Int) then
 some (((0 : Int), (1 : Int)))
 else
 ck (a2 ≠ 0) <|
 nm (Int.tmod ((1 : Int)) a2) fun x2 =>
 bd (M_ref05_Red fu a0 a2) fun x3 =>
 bd (loopN (B_ref05_Pow_0 fu a2) fu (x2, x3, a1)) fun i4 =>
 some ((i4, (0 : Int)))
 else
 some (((0 : Int), (1 : Int)))
def M_ref06_inverse (fu : Nat) (a0 : Int) (a1 : Int) : Option Int :=
 ck64 (a1 - ((2 : Int))) fun x1 =>
 bd (M_ref05_Pow fu a0 x1 a1) fun (x2, x3) =>
 if a1 = (2 : Int) then
 some (1 : Int)
 else
 some x2
def M_ref06_at (fu : Nat) (a0 : List Int) (a1 : Int) : Option Int :=
 if a1 < ((a0.length : Nat) : Int) then
 ckI a1 (a0.length) fun j1 =>
 nm (a0.getD j1 0) fun y1 =>
 some y1
 else
 some (0 : Int)
def B_ref06_Sum_0 (fu : Nat) (a2 : Int) : (((List Int) × (List Int) × (List Int) × Int) → Option (List Int)) → ((List Int) × (List Int) × (List Int) × Int) → Option (List Int) := fun L (t3, t4, t5, i1) =>
 nm (max (((t3.length : Nat) : Int)) (((t4.length : Nat) : Int))) fun x1 =>
 if i1 < x1 then
 bd (M_ref06_at fu t3 i1) fun x2 =>
 bd (M_ref06_at fu t4 i1) fun x3 =>
 ck64 (a2 * x3) fun x4 =>
 ck64 (x2 + x4) fun x5 =>
 ck ((t5.length + ([x5]).length) * 8 ≤ 140737488355328) <|
 nm (t5 ++ ([x5])) fun t6 =>
 ck64 (i1 + ((1 : Int))) fun x6 =>
 L (t3, t4, t6, x6)
 else
 some t5
def M_ref06_Sum (fu : Nat) (a0 : List Int) (a1 : List Int) (a2 : Int) (a3 : Int) : Option (List Int) :=
 bd (M_ref06_Plain fu a0 a3) fun t1 =>
 bd (M_ref06_Plain fu a1 a3) fun t2 =>
 bd (loopN (B_ref06_Sum_0 fu a2) fu ((t1, t2, [], (0 : Int)))) fun t7 =>
 bd (M_ref06_Plain fu t7 a3) fun t8 =>
 some t8
def B_ref06_Div_1 (fu : Nat) (x6 : Int) : ((Int × Int × (List Int) × Int) → Option (Int × Int × (List Int))) → (Int × Int × (List Int) × Int) → Option (Int × Int × (List Int)) := fun L (i1, i2, t8, i3) =>
 if i3 < x6 then
 ck ((t8.length + ([(0 : Int)]).length) * 8 ≤ 140737488355328) <|
 nm (t8 ++ ([(0 : Int)])) fun t9 =>
 ck64 (i3 + ((1 : Int))) fun x11 =>
 L (i1, i2, t9, x11)
 else
 some (i1, i2, t8)
def B_ref06_Div_2 (fu : Nat) (t5 : List Int) (x10 : Int) (i4 : Int) : (((List Int) × Int) → Option (List Int)) → ((List Int) × Int) → Option (List Int) := fun L (t11, i6) =>
 if i6 < ((t5.length : Nat) : Int) then
 ckI i6 (t5.length) fun j5 =>
 nm ((t5.getD j5 0)) fun x12 =>
 ck64 (x12 * x10) fun x13 =>
 ck (i4 ≠ 0) <|
 nm (Int.tmod x13 i4) fun x14 =>
 ck ((t11.length + ([x14]).length) * 8 ≤ 140737488355328) <|
 nm (t11 ++ ([x14])) fun t12 =>
 ck64 (i6 + ((1 : Int))) fun x15 =>
 L (t12, x15)
 else
 some t11
def B_ref06_Div_0 (fu : Nat) (a2 : Int) (x5 : Int) : (((List Int) × (List Int) × (List Int)) → Option ((List Int) × (List Int))) → ((List Int) × (List Int) × (List Int)) → Option ((List Int) × (List Int)) := fun L (t4, t5, t6) =>
 if ((t5.length : Nat) : Int) ≤ ((t4.length : Nat) : Int) then
 ck64 ((((t4.length : Nat) : Int)) - (((t5.length : Nat) : Int))) fun x6 =>
 ck64 ((((t4.length : Nat) : Int)) - ((1 : Int))) fun x7 =>
 ckI x7 (t4.length) fun j3 =>
 nm ((t4.getD j3 0)) fun x8 =>
 ck64 (x8 * x5) fun x9 =>
 ck (a2 ≠ 0) <|
 nm (Int.tmod x9 a2) fun x10 =>
 ckI x6 (t6.length) fun j4 =>
 nm (t6.set j4 x10) fun t7 =>
 bd (loopN (B_ref06_Div_1 fu x6) fu ((a2, x5, [], (0 : Int)))) fun (i4, i5, t10) =>
 bd (loopN (B_ref06_Div_2 fu t5 x10 i4) fu ((t10, (0 : Int)))) fun t13 =>
 bd (M_ref06_Sum fu t4 t13 (-1 : Int) i4) fun t14 =>
 L (t14, t5, t7)
 else
 some (t4, t6)
def M_ref06_Div (fu : Nat) (a0 : List Int) (a1 : List Int) (a2 : Int) : Option ((List Int) × (List Int) × Int) :=
 bd (M_ref05_Check fu a2) fun x1 =>
 if x1 = (0 : Int) then
 bd (M_ref06_Plain fu a1 a2) fun t1 =>
 if ((t1.length : Nat) : Int) = (0 : Int) then
 some (([], [], (3 : Int)))
 else
 bd (M_ref06_Plain fu a0 a2) fun t2 =>
 ck64 ((((t2.length : Nat) : Int)) + ((1 : Int))) fun x2 =>
 ckN x2 fun j1 =>
 ck (8 * j1 ≤ 281474976710656) <|
 nm (List.replicate j1 0) fun t3 =>
 ck64 ((((t1.length : Nat) : Int)) - ((1 : Int))) fun x3 =>
 ckI x3 (t1.length) fun j2 =>
 nm ((t1.getD j2 0)) fun x4 =>
 bd (M_ref06_inverse fu x4 a2) fun x5 =>
 bd (loopN (B_ref06_Div_0 fu a2 x5) fu (t2, t1, t3)) fun (t15, t16) =>
 bd (M_ref06_Plain fu t16 a2) fun t17 =>
 some ((t17, t15, (0 : Int)))
 else
 some (([], [], (1 : Int)))
def B_ref06_Bezout_1 (fu : Nat) (t3 : List (List Int)) (t4 : List (List Int)) (t8 : List Int) : ((Int × (List (List Int)) × Int) → Option (Int × (List (List Int)))) → (Int × (List (List Int)) × Int) → Option (Int × (List (List Int))) := fun L (i1, t10, i2) =>
 if i2 < (3 : Int) then
 ckI i2 (t3.length) fun j4 =>
 nm ((t3.getD j4 [])) fun t11 =>
 ckI i2 (t4.length) fun j5 =>
 nm ((t4.getD j5 [])) fun t12 =>
 bd (M_ref06_Times fu t8 t12 i1) fun t13 =>
 bd (M_ref06_Sum fu t11 t13 (-1 : Int) i1) fun t14 =>
 ck ((t10.length + ([t14]).length) * 24 ≤ 140737488355328) <|
 nm (t10 ++ ([t14])) fun t15 =>
 ck64 (i2 + ((1 : Int))) fun x3 =>
 L (i1, t15, x3)
 else
 some (i1, t10)
def B_ref06_Bezout_0 (fu : Nat) (a2 : Int) : (((List (List Int)) × (List (List Int))) → Option (List (List Int))) → ((List (List Int)) × (List (List Int))) → Option (List (List Int)) := fun L (t3, t4) =>
 ckI ((0 : Int)) (t4.length) fun j1 =>
 nm ((t4.getD j1 [])) fun t5 =>
 if (0 : Int) < ((t5.length : Nat) : Int) then
 ckI ((0 : Int)) (t3.length) fun j2 =>
 nm ((t3.getD j2 [])) fun t6 =>
 ckI ((0 : Int)) (t4.length) fun j3 =>
 nm ((t4.getD j3 [])) fun t7 =>
 bd (M_ref06_Div fu t6 t7 a2) fun (t8, t9, x2) =>
 bd (loopN (B_ref06_Bezout_1 fu t3 t4 t8) fu ((a2, [], (0 : Int)))) fun (i3, t16) =>
 L (t4, t16)
 else
 some t3
def M_ref06_Bezout (fu : Nat) (a0 : List Int) (a1 : List Int) (a2 : Int) : Option ((List Int) × (List Int) × (List Int) × Int) :=
 bd (M_ref05_Check fu a2) fun x1 =>
 if x1 = (0 : Int) then
 bd (M_ref06_Plain fu a0 a2) fun t1 =>
 bd (M_ref06_Plain fu a1 a2) fun t2 =>
 bd (loopN (B_ref06_Bezout_0 fu a2) fu (([t1, [(1 : Int)], []], [t2, [], [(1 : Int)]]))) fun t17 =>
 ckI ((0 : Int)) (t17.length) fun j6 =>
 nm ((t17.getD j6 [])) fun t18 =>
 if ((t18.length : Nat) : Int) = (0 : Int) then
 some (([], [(1 : Int)], [], (0 : Int)))
 else
 ckI ((0 : Int)) (t17.length) fun j7 =>
 nm ((t17.getD j7 [])) fun t19 =>
 ckI ((0 : Int)) (t17.length) fun j8 =>
 nm ((t17.getD j8 [])) fun t20 =>
 ck64 ((((t20.length : Nat) : Int)) - ((1 : Int))) fun x4 =>
 ckI x4 (t19.length) fun j9 =>
 nm (t19.getD j9 0) fun y1 =>
 bd (M_ref06_inverse fu y1 a2) fun x5 =>
 ckI ((0 : Int)) (t17.length) fun j10 =>
 nm ((t17.getD j10 [])) fun t21 =>
 bd (M_ref06_Times fu t21 [x5] a2) fun t22 =>
 ckI ((1 : Int)) (t17.length) fun j11 =>
 nm ((t17.getD j11 [])) fun t23 =>
 bd (M_ref06_Times fu t23 [x5] a2) fun t24 =>
 ckI ((2 : Int)) (t17.length) fun j12 =>
 nm ((t17.getD j12 [])) fun t25 =>
 bd (M_ref06_Times fu t25 [x5] a2) fun t26 =>
 some ((t22, t24, t26, (0 : Int)))
 else
 some (([], [], [], (1 : Int)))
def M_ref06_Gcd (fu : Nat) (a0 : List Int) (a1 : List Int) (a2 : Int) : Option ((List Int) × Int) :=
 bd (M_ref06_Bezout fu a0 a1 a2) fun (t1, t2, t3, x1) =>
 some (t1, x1)
def M_ref02_Small (fu : Nat) (a0 : Zr) : Option (Int × Bool) :=
 bd (M_ref02_Norm fu a0) fun y1 =>
 if ((y1.2.length : Nat) : Int) = (0 : Int) then
 some (((0 : Int), true))
 else
 if (1 : Int) < ((y1.2.length : Nat) : Int) then
 some (((0 : Int), false))
 else
 ckI ((0 : Int)) (y1.2.length) fun j1 =>
 nm (y1.2.getD j1 0) fun y2 =>
 if y1.1 = true then
 if ((y2 : Nat) : Int) ≤ (((9223372036854775808 : Nat) : Nat) : Int) then
 nm (sgn y2) fun x1 =>
 ck64 (0 - x1) fun x2 =>
 some (x2, true)
 else
 if ((!y1.1)) = true then
 if ((y2 : Nat) : Int) ≤ (((9223372036854775807 : Nat) : Nat) : Int) then
 nm (sgn y2) fun x3 =>
 some (x3, true)
 else
 some (((0 : Int), false))
 else
 some (((0 : Int), false))
 else
 if ((!y1.1)) = true then
 if ((y2 : Nat) : Int) ≤ (((9223372036854775807 : Nat) : Nat) : Int) then
 nm (sgn y2) fun x4 =>
 some (x4, true)
 else
 some (((0 : Int), false))
 else
 some (((0 : Int), false))
def M_ref04_Mod (fu : Nat) (a0 : Zr) (a1 : Int) : Option (Int × Int) :=
 bd (M_ref02_Of fu a1) fun y1 =>
 bd (M_ref04_Rest fu a0 y1) fun (y2, x1) =>
 if x1 = (0 : Int) then
 bd (M_ref02_Small fu y2) fun (x2, c1) =>
 some ((x2, (0 : Int)))
 else
 some (((0 : Int), x1))
def B_ref10_Mod_0 (fu : Nat) (a0 : List Zr) (a1 : Int) : (((List Int) × Int) → Option (List Int)) → ((List Int) × Int) → Option (List Int) := fun L (t1, i1) =>
 if i1 < ((a0.length : Nat) : Int) then
 ckI i1 (a0.length) fun j1 =>
 nm (a0.getD j1 (false, [])) fun y1 =>
 bd (M_ref04_Mod fu y1 a1) fun (x1, x2) =>
 ck ((t1.length + ([x1]).length) * 8 ≤ 140737488355328) <|
 nm (t1 ++ ([x1])) fun t2 =>
 ck64 (i1 + ((1 : Int))) fun x3 =>
 L (t2, x3)
 else
 some t1
def B_ref10_Mod_1 (fu : Nat) (t3 : List Int) : (Int → Option Int) → Int → Option Int := fun L i2 =>
 if (0 : Int) < i2 then
 ck64 (i2 - ((1 : Int))) fun x4 =>
 ckI x4 (t3.length) fun j2 =>
 nm ((t3.getD j2 0)) fun x5 =>
 if x5 = (0 : Int) then
 ck64 (i2 - ((1 : Int))) fun x6 =>
 L x6
 else
 some i2
 else
 some i2
def M_ref10_Mod (fu : Nat) (a0 : List Zr) (a1 : Int) : Option ((List Int) × Int) :=
 if a1 < (1 : Int) then
 some (([], (1 : Int)))
 else
 bd (loopN (B_ref10_Mod_0 fu a0 a1) fu (([], (0 : Int)))) fun t3 =>
 bd (loopN (B_ref10_Mod_1 fu t3) fu (((t3.length : Nat) : Int))) fun i3 =>
 ckN i3 fun j3 =>
 ck (j3 ≤ t3.length) <|
 nm (t3.take j3) fun t4 =>
 some ((t4, (0 : Int)))
def B_ref13_product_0 (fu : Nat) (a0 : List (List Int)) (a1 : Int) (a2 : Int) : (((List Int) × Int) → Option (List Int)) → ((List Int) × Int) → Option (List Int) := fun L (t1, i1) =>
 if i1 < ((a0.length : Nat) : Int) then
 if i1 = a1 then
 ck64 (i1 + ((1 : Int))) fun x1 =>
 L (t1, x1)
 else
 ckI i1 (a0.length) fun j1 =>
 nm (a0.getD j1 []) fun y1 =>
 bd (M_ref06_Times fu t1 y1 a2) fun t2 =>
 ck64 (i1 + ((1 : Int))) fun x2 =>
 L (t2, x2)
 else
 some t1
def M_ref13_product (fu : Nat) (a0 : List (List Int)) (a1 : Int) (a2 : Int) : Option (List Int) :=
 bd (loopN (B_ref13_product_0 fu a0 a1 a2) fu (([(1 : Int)], (0 : Int)))) fun t3 =>
 some t3
def B_ref13_Right_1 (fu : Nat) (i1 : Int) (y1 : List Int) : (((List (List Int)) × Int × Int) → Option (((List (List Int)) × Int) ⊕ Unit)) → ((List (List Int)) × Int × Int) → Option (((List (List Int)) × Int) ⊕ Unit) := fun L (t6, i2, i3) =>
 if i3 < i1 then
 ckI i3 (t6.length) fun j3 =>
 nm (t6.getD j3 []) fun y3 =>
 bd (M_ref06_Gcd fu y1 y3 i2) fun (t7, x3) =>
 if ((t7.length : Nat) : Int) = (1 : Int) then
 ck64 (i3 + ((1 : Int))) fun x4 =>
 L (t6, i2, x4)
 else
 some (.inr ())
 else
 some (.inl (t6, i2))
def B_ref13_Right_0 (fu : Nat) (a1 : List (List Int)) (a2 : Int) : ((Int × (List Int) × (List Zr)) → Option ((List Int) ⊕ Unit)) → (Int × (List Int) × (List Zr)) → Option ((List Int) ⊕ Unit) := fun L (i1, t3, t4) =>
 if i1 < ((a1.length : Nat) : Int) then
 ckI i1 (a1.length) fun j1 =>
 nm (a1.getD j1 []) fun y1 =>
 if ((y1.length : Nat) : Int) < (2 : Int) then
 some (.inr ())
 else
 if ((t4.length : Nat) : Int) < ((y1.length : Nat) : Int) then
 some (.inr ())
 else
 ck64 ((((y1.length : Nat) : Int)) - ((1 : Int))) fun x2 =>
 ckI x2 (y1.length) fun j2 =>
 nm (y1.getD j2 0) fun y2 =>
 if y2 = (1 : Int) then
 bd (M_ref06_Plain fu y1 a2) fun t5 =>
 bd (M_ref06_Same fu t5 y1) fun c1 =>
 if ((!c1)) = true then
 some (.inr ())
 else
 bd (loopN (B_ref13_Right_1 fu i1 y1) fu ((a1, a2, (0 : Int)))) fun s1 => match s1 with
 | .inl (t8, i4) =>
 ck64 (i1 + ((1 : Int))) fun x5 =>
 L (x5, t3, t4)
 | .inr _ =>
 some (.inr ())
 else
 some (.inr ())
 else
 some (.inl t3)
def M_ref13_Right (fu : Nat) (a0 : List Zr) (a1 : List (List Int)) (a2 : Int) : Option Bool :=
 bd (M_ref10_Mod fu a0 a2) fun (t1, x1) =>
 bd (M_ref10_Norm fu a0) fun t2 =>
 if ((t2.length : Nat) : Int) = (0 : Int) then
 some false
 else
 if ((t1.length : Nat) : Int) = ((t2.length : Nat) : Int) then
 if ((t2.length : Nat) : Int) < ((a1.length : Nat) : Int) then
 some false
 else
 bd (loopN (B_ref13_Right_0 fu a1 a2) fu (((0 : Int), t1, t2))) fun s2 => match s2 with
 | .inl t9 =>
 bd (M_ref13_product fu a1 (-1 : Int) a2) fun t10 =>
 ck64 ((((t9.length : Nat) : Int)) - ((1 : Int))) fun x6 =>
 ckN x6 fun j4 =>
 ck (j4 ≤ t9.length) <|
 nm (t9.drop j4) fun t11 =>
 bd (M_ref06_Times fu t10 t11 a2) fun t12 =>
 bd (M_ref06_Same fu t12 t9) fun c2 =>
 some c2
 | .inr _ =>
 some false
 else
 some false
def B_ref13_all_0 (fu : Nat) (a0 : List (List Zr)) : (((List Zr) × Int) → Option (List Zr)) → ((List Zr) × Int) → Option (List Zr) := fun L (t2, i1) =>
 if i1 < ((a0.length : Nat) : Int) then
 ckI i1 (a0.length) fun j1 =>
 nm (a0.getD j1 []) fun y1 =>
 bd (M_ref10_Mul fu t2 y1) fun t3 =>
 ck64 (i1 + ((1 : Int))) fun x1 =>
 L (t3, x1)
 else
 some t2
def M_ref13_all (fu : Nat) (a0 : List (List Zr)) : Option (List Zr) :=
 bd (M_ref10_Of fu [(1 : Int)]) fun t1 =>
 bd (loopN (B_ref13_all_0 fu a0) fu ((t1, (0 : Int)))) fun t4 =>
 some t4
def B_ref13_all_io_0 (fu : Nat) (a0 : List (List Zr)) : (((List Zr) × Int) → Option (List Zr)) → ((List Zr) × Int) → Option (List Zr) := fun L (t2, i1) =>
 if i1 < ((a0.length : Nat) : Int) then
 ckI i1 (a0.length) fun j1 =>
 nm ((a0.getD j1 [])) fun t3 =>
 bd (M_ref10_Mul fu t2 t3) fun t4 =>
 ck64 (i1 + ((1 : Int))) fun x1 =>
 L (t4, x1)
 else
 some t2
def M_ref13_all_io (fu : Nat) (a0 : List (List Zr)) : Option ((List Zr) × (List (List Zr))) :=
 bd (M_ref10_Of fu [(1 : Int)]) fun t1 =>
 bd (loopN (B_ref13_all_io_0 fu a0) fu ((t1, (0 : Int)))) fun t5 =>
 some (t5, a0)
end Go.Proofs.YtjnjfinbdfolkaaGreat
end

section
set_option linter.unusedVariables false
set_option linter.unusedSimpArgs false
set_option maxRecDepth 100000
namespace Go.Proofs.YtjnjfinbdfolkaaGreat
def B_ref13_Lift_0 (fu : Nat) (a1 : List (List Int)) (a2 : Int) (y2 : Zr) : (((List (List Zr)) × (List (List Int)) × Int) → Option ((List (List Zr)) × (List (List Int)))) → ((List (List Zr)) × (List (List Int)) × Int) → Option ((List (List Zr)) × (List (List Int))) := fun L (t3, t4, i1) =>
 if i1 < ((a1.length : Nat) : Int) then
 ckI i1 (a1.length) fun j2 =>
 nm (a1.getD j2 []) fun y3 =>
 bd (M_ref10_Of fu y3) fun t5 =>
 ck ((t3.length + ([t5]).length) * 24 ≤ 140737488355328) <|
 nm (t3 ++ ([t5])) fun t6 =>
 bd (M_ref13_product fu a1 i1 a2) fun t7 =>
 bd (M_ref10_Mod fu [y2] a2) fun (t8, x3) =>
 bd (M_ref06_Times fu t7 t8 a2) fun t9 =>
 ckI i1 (a1.length) fun j3 =>
 nm (a1.getD j3 []) fun y4 =>
 bd (M_ref06_Bezout fu t9 y4 a2) fun (t10, t11, t12, x4) =>
 ck ((t4.length + ([t11]).length) * 24 ≤ 140737488355328) <|
 nm (t4 ++ ([t11])) fun t13 =>
 ck64 (i1 + ((1 : Int))) fun x5 =>
 L (t6, t13, x5)
 else
 some (t3, t4)
def B_ref13_Lift_2 (fu : Nat) (t19 : List (List Int)) (t20 : Zr) : (((List (List Int)) × Int × Int × (List Int) × Int × (List (List Zr))) → Option ((List (List Int)) × Int × Int × (List (List Zr)))) → ((List (List Int)) × Int × Int × (List Int) × Int × (List (List Zr))) → Option ((List (List Int)) × Int × Int × (List (List Zr))) := fun L (t27, i3, i4, t28, i5, t29) =>
 if i5 < ((t27.length : Nat) : Int) then
 ckI i5 (t19.length) fun j4 =>
 nm ((t19.getD j4 [])) fun t30 =>
 bd (M_ref06_Times fu t28 t30 i3) fun t31 =>
 ckI i5 (t27.length) fun j5 =>
 nm (t27.getD j5 []) fun y6 =>
 bd (M_ref06_Div fu t31 y6 i3) fun (t32, t33, x8) =>
 ckI i5 (t29.length) fun j6 =>
 nm ((t29.getD j6 [])) fun t34 =>
 bd (M_ref10_Of fu t33) fun t35 =>
 bd (M_ref10_Scale fu t35 t20) fun t36 =>
 bd (M_ref10_Add fu t34 t36) fun t37 =>
 ckI i5 (t29.length) fun j7 =>
 nm (t29.set j7 t37) fun t38 =>
 ck64 (i5 + ((1 : Int))) fun x9 =>
 L (t27, i3, i4, t28, x9, t38)
 else
 some (t27, i3, i4, t29)
def B_ref13_Lift_1 (fu : Nat) (a1 : List (List Int)) (a2 : Int) (a3 : Int) : (((List Zr) × Int × Zr × (List (List Zr)) × (List (List Int)) × Zr) → Option (List (List Zr))) → ((List Zr) × Int × Zr × (List (List Zr)) × (List (List Int)) × Zr) → Option (List (List Zr)) := fun L (t16, i2, t17, t18, t19, t20) =>
 if i2 < a3 then
 if (0 : Int) < ((a1.length : Nat) : Int) then
 bd (M_ref13_all_io fu t18) fun (t21, t22) =>
 bd (M_ref10_Scale fu t21 t17) fun t23 =>
 bd (M_ref10_Sub fu t16 t23) fun t24 =>
 bd (M_ref10_Div fu t24 [t20]) fun (t25, x6) =>
 bd (M_ref10_Mod fu t25 a2) fun (t26, x7) =>
 bd (loopN (B_ref13_Lift_2 fu t19 t20) fu ((a1, a2, a3, t26, (0 : Int), t22))) fun (t39, i6, i7, t40) =>
 bd (M_ref02_Of fu i6) fun y7 =>
 bd (M_ref02_Mul fu t20 y7) fun y8 =>
 ck64 (i2 + ((1 : Int))) fun x10 =>
 L (t16, x10, t17, t40, t19, y8)
 else
 some t18
 else
 some t18
def M_ref13_Lift (fu : Nat) (a0 : List Zr) (a1 : List (List Int)) (a2 : Int) (a3 : Int) : Option ((List (List Zr)) × Int) :=
 bd (M_ref13_Power fu a2 a3) fun (y1, x1) =>
 if x1 = (0 : Int) then
 bd (M_ref10_Norm fu a0) fun t1 =>
 if (65 : Int) < ((t1.length : Nat) : Int) then
 some (([], (6 : Int)))
 else
 bd (M_ref13_Right fu a0 a1 a2) fun c1 =>
 if ((!c1)) = true then
 some (([], (1 : Int)))
 else
 bd (M_ref10_Norm fu a0) fun t2 =>
 ck64 ((((t2.length : Nat) : Int)) - ((1 : Int))) fun x2 =>
 ckI x2 (t2.length) fun j1 =>
 nm ((t2.getD j1 (false, []))) fun y2 =>
 bd (loopN (B_ref13_Lift_0 fu a1 a2 y2) fu (([], [], (0 : Int)))) fun (t14, t15) =>
 bd (M_ref02_Of fu a2) fun y5 =>
 bd (loopN (B_ref13_Lift_1 fu a1 a2 a3) fu ((t2, (1 : Int), y2, t14, t15, y5))) fun t41 =>
 some ((t41, (0 : Int)))
 else
 some ([], x1)
def M_law13_HenselLifts (fu : Nat) (a0 : List Zr) (a1 : List (List Int)) (a2 : Int) (a3 : Int) : Option Bool :=
 bd (M_law13_awake fu) fun c1 =>
 if (16 : Int) < a3 then
 if a3 ≤ (1000 : Int) then
 some c1
 else
 bd (M_law13_small fu (14 : Int) (4 : Int) [a0]) fun c2 =>
 if ((!c2)) = true then
 bd (M_ref10_Norm fu a0) fun t1 =>
 if ((t1.length : Nat) : Int) ≤ (65 : Int) then
 some c1
 else
 if (200 : Int) < ((a0.length : Nat) : Int) then
 some c1
 else
 bd (M_law13_few fu a1) fun c3 =>
 if ((!c3)) = true then
 some c1
 else
 bd (M_hensel_Lift fu a0 a1 a2 a3) fun (t2, x1) =>
 bd (M_ref13_Lift fu a0 a1 a2 a3) fun (t3, x2) =>
 if c1 = true then
 if x1 = x2 then
 bd (M_ref13_Same fu t2 t3) fun c4 =>
 some c4
 else
 some false
 else
 some false
 else
 if (200 : Int) < ((a0.length : Nat) : Int) then
 some c1
 else
 bd (M_law13_few fu a1) fun c5 =>
 if ((!c5)) = true then
 some c1
 else
 bd (M_hensel_Lift fu a0 a1 a2 a3) fun (t4, x3) =>
 bd (M_ref13_Lift fu a0 a1 a2 a3) fun (t5, x4) =>
 if c1 = true then
 if x3 = x4 then
 bd (M_ref13_Same fu t4 t5) fun c6 =>
 some c6
 else
 some false
 else
 some false
 else
 bd (M_law13_small fu (14 : Int) (4 : Int) [a0]) fun c7 =>
 if ((!c7)) = true then
 bd (M_ref10_Norm fu a0) fun t6 =>
 if ((t6.length : Nat) : Int) ≤ (65 : Int) then
 some c1
 else
 if (200 : Int) < ((a0.length : Nat) : Int) then
 some c1
 else
 bd (M_law13_few fu a1) fun c8 =>
 if ((!c8)) = true then
 some c1
 else
 bd (M_hensel_Lift fu a0 a1 a2 a3) fun (t7, x5) =>
 bd (M_ref13_Lift fu a0 a1 a2 a3) fun (t8, x6) =>
 if c1 = true then
 if x5 = x6 then
 bd (M_ref13_Same fu t7 t8) fun c9 =>
 some c9
 else
 some false
 else
 some false
 else
 if (200 : Int) < ((a0.length : Nat) : Int) then
 some c1
 else
 bd (M_law13_few fu a1) fun c10 =>
 if ((!c10)) = true then
 some c1
 else
 bd (M_hensel_Lift fu a0 a1 a2 a3) fun (t9, x7) =>
 bd (M_ref13_Lift fu a0 a1 a2 a3) fun (t10, x8) =>
 if c1 = true then
 if x7 = x8 then
 bd (M_ref13_Same fu t9 t10) fun c11 =>
 some c11
 else
 some false
 else
 some false
end Go.Proofs.YtjnjfinbdfolkaaGreat
end

section
set_option linter.unusedVariables false
set_option linter.unusedSimpArgs false
set_option maxRecDepth 100000
namespace Go.Proofs.YtjnjfinbdfolkaaGreat
end Go.Proofs.YtjnjfinbdfolkaaGreat
end

section
set_option linter.unusedVariables false
set_option linter.unusedSimpArgs false
set_option maxRecDepth 100000
namespace Go.Proofs.YtjnjfinbdfolkaaGreat
def tt : List (Nat × TI) := [(2, ⟨.i, .int .i64, 8⟩), (3, ⟨.i, .int .i64, 8⟩), (4, ⟨.b, .bool, 1⟩), (12, ⟨.u, .int .u64, 8⟩), (23, ⟨(.l .u), .sl 102, 24⟩), (24, ⟨(.p .b (.l .u)), .st 2, 32⟩), (25, ⟨(.p .b (.l .u)), .st 2, 32⟩), (26, ⟨.i, .int .i64, 8⟩), (31, ⟨(.l (.p .b (.l .u))), .sl 25, 24⟩), (32, ⟨(.l (.l .i)), .sl 51, 24⟩), (36, ⟨(.l (.l (.p .b (.l .u)))), .sl 31, 24⟩), (51, ⟨(.l .i), .sl 3, 24⟩), (102, ⟨.u, .int .u64, 8⟩), (118, ⟨.u, .int .u64, 8⟩), (124, ⟨(.a 4 (.l (.p .b (.l .u)))), .ar 4 31, 96⟩), (125, ⟨(.a 4 (.l (.p .b (.l .u)))), .ar 4 31, 96⟩), (141, ⟨(.l (.p (.l .i) .i)), .sl 145, 24⟩), (144, ⟨(.p (.l .i) .i), .st 2, 32⟩), (145, ⟨(.p (.l .i) .i), .st 2, 32⟩), (160, ⟨(.a 3 (.l .i)), .ar 3 51, 72⟩), (161, ⟨(.a 3 (.l .i)), .ar 3 51, 72⟩), (179, ⟨(.p (.l (.p .b (.l .u))) (.l (.l (.p .b (.l .u))))), .st 2, 48⟩), (180, ⟨(.p (.l (.p .b (.l .u))) (.l (.l (.p .b (.l .u))))), .st 2, 48⟩), (184, ⟨(.p (.p (.l (.p .b (.l .u))) (.l (.l (.p .b (.l .u))))) (.l (.l (.p .b (.l .u))))), .st 2, 72⟩), (185, ⟨(.p (.p (.l (.p .b (.l .u))) (.l (.l (.p .b (.l .u))))) (.l (.l (.p .b (.l .u))))), .st 2, 72⟩), (189, ⟨(.p (.p .b (.l .u)) (.p (.p .b (.l .u)) (.p .b (.l .u)))), .st 3, 96⟩), (190, ⟨(.p (.p .b (.l .u)) (.p (.p .b (.l .u)) (.p .b (.l .u)))), .st 3, 96⟩)]
def ex : List (Nat × Bool) := [(212, true), (217, false)]
theorem ttok : TTok Tryz.prog tt := TTok.add (by kernel_rfl) (by kernel_rfl) (id (by kernel_rfl : Tryz.prog.underlying 2 = some (.int .i64))) <|
  TTok.add (by kernel_rfl) (by kernel_rfl) (id (by kernel_rfl : Tryz.prog.underlying 3 = some (.int .i64))) <|
  TTok.add (by kernel_rfl) (by kernel_rfl) (id (by kernel_rfl : Tryz.prog.underlying 4 = some .bool)) <|
  TTok.add (by kernel_rfl) (by kernel_rfl) (id (by kernel_rfl : Tryz.prog.underlying 12 = some (.int .u64))) <|
  TTok.add (by kernel_rfl) (by kernel_rfl) ⟨by kernel_rfl, _, rfl⟩ <|
  TTok.add (by kernel_rfl) (by kernel_rfl) ⟨rfl, by kernel_rfl⟩ <|
  TTok.add (by kernel_rfl) (by kernel_rfl) ⟨rfl, by kernel_rfl⟩ <|
  TTok.add (by kernel_rfl) (by kernel_rfl) (id (by kernel_rfl : Tryz.prog.underlying 26 = some (.int .i64))) <|
  TTok.add (by kernel_rfl) (by kernel_rfl) ⟨by kernel_rfl, _, rfl⟩ <|
  TTok.add (by kernel_rfl) (by kernel_rfl) ⟨by kernel_rfl, _, rfl⟩ <|
  TTok.add (by kernel_rfl) (by kernel_rfl) ⟨by kernel_rfl, _, rfl⟩ <|
  TTok.add (by kernel_rfl) (by kernel_rfl) ⟨by kernel_rfl, _, rfl⟩ <|
  TTok.add (by kernel_rfl) (by kernel_rfl) (id (by kernel_rfl : Tryz.prog.underlying 102 = some (.int .u64))) <|
  TTok.add (by kernel_rfl) (by kernel_rfl) (id (by kernel_rfl : Tryz.prog.underlying 118 = some (.int .u64))) <|
  TTok.add (by kernel_rfl) (by kernel_rfl) ⟨rfl, by kernel_rfl⟩ <|
  TTok.add (by kernel_rfl) (by kernel_rfl) ⟨rfl, by kernel_rfl⟩ <|
  TTok.add (by kernel_rfl) (by kernel_rfl) ⟨by kernel_rfl, _, rfl⟩ <|
  TTok.add (by kernel_rfl) (by kernel_rfl) ⟨rfl, by kernel_rfl⟩ <|
  TTok.add (by kernel_rfl) (by kernel_rfl) ⟨rfl, by kernel_rfl⟩ <|
  TTok.add (by kernel_rfl) (by kernel_rfl) ⟨rfl, by kernel_rfl⟩ <|
  TTok.add (by kernel_rfl) (by kernel_rfl) ⟨rfl, by kernel_rfl⟩ <|
  TTok.add (by kernel_rfl) (by kernel_rfl) ⟨rfl, by kernel_rfl⟩ <|
  TTok.add (by kernel_rfl) (by kernel_rfl) ⟨rfl, by kernel_rfl⟩ <|
  TTok.add (by kernel_rfl) (by kernel_rfl) ⟨rfl, by kernel_rfl⟩ <|
  TTok.add (by kernel_rfl) (by kernel_rfl) ⟨rfl, by kernel_rfl⟩ <|
  TTok.add (by kernel_rfl) (by kernel_rfl) ⟨rfl, by kernel_rfl⟩ <|
  TTok.add (by kernel_rfl) (by kernel_rfl) ⟨rfl, by kernel_rfl⟩ <|
  TTok.nil
theorem elok : ELok Tryz.prog tt := ELok.of (by kernel_rfl)
theorem exok : EXok Tryz.prog ex := EXok.add Tryz.func212 (by kernel_rfl) (by kernel_rfl) (by kernel_rfl) (fun _ => by kernel_rfl) (fun h => by cases h) <|
  EXok.add Tryz.func217 (by kernel_rfl) (by kernel_rfl) (by kernel_rfl) (fun h => by cases h) (fun _ => by kernel_rfl) <|
  EXok.nil
theorem mord : Tryz.prog.follows .mixedOrders = true := by kernel_rfl
theorem sg {cs : List Sig} (an : An) {fu : Nat} {s : Sig} {fn : Func} (hf : Tryz.prog.funcs[s.f]? = some fn) (hC : ∀ s ∈ cs, SigOK Tryz.prog s) (hb : fnB Tryz.prog s.f = true) (hM : ∀ x, denF ⟨tt, cs, an, fu, ex⟩ fn s.dom s.cod x = s.M x) (hk : s.bk = 0 := by rfl) : SigOK Tryz.prog s :=
  sgP mord ttok elok exok an hf hC hb hk hM
theorem sgb {cs : List Sig} (an : An) {fu : Nat} {s : Sig} {fn : Func} (hf : Tryz.prog.funcs[s.f]? = some fn) (hC : ∀ s ∈ cs, SigOK Tryz.prog s) (hb : fnB Tryz.prog s.f = true) (hM : ∀ pn x, denG ⟨tt, cs, an, fu, ex⟩ fn s.dom s.cod s.bk pn x = s.M x) : SigOK Tryz.prog s :=
  sgG mord ttok elok exok an hf hC hb hM
end Go.Proofs.YtjnjfinbdfolkaaGreat
end

section
set_option linter.unusedVariables false
set_option linter.unusedSimpArgs false
set_option maxRecDepth 100000
namespace Go.Proofs.YtjnjfinbdfolkaaGreat
def s_ref01_Norm (fu : Nat) : Sig := ⟨125, [.d (.l .u)], [.own .u 102], fun x => M_ref01_Norm fu x.1, 0⟩
theorem g_ref01_Norm (fu : Nat) : SigOK Tryz.prog (s_ref01_Norm fu) := sg (fu := fu) ⟨[], [], [(2, ⟨⟨[(3, .d .i)], []⟩, ⟨[], [(.x 0, ⟨[(3, .d .i)], []⟩)]⟩⟩)], [], []⟩ Tryz.func125 (cN) (by kernel_rfl) fun x => by kernel_rfl
def s_ref02_Norm (fu : Nat) : Sig := ⟨64, [.d (.p .b (.l .u))], [.d (.p .b (.l .u))], fun x => M_ref02_Norm fu x.1, 0⟩
theorem g_ref02_Norm (fu : Nat) : SigOK Tryz.prog (s_ref02_Norm fu) := sg (fu := fu) ⟨[], [], [], [], []⟩ Tryz.func64 (cC (g_ref01_Norm fu) <| cN) (by kernel_rfl) fun x => by kernel_rfl
def s_ref02_Of (fu : Nat) : Sig := ⟨61, [.d .i], [.d (.p .b (.l .u))], fun x => M_ref02_Of fu x.1, 0⟩
theorem g_ref02_Of (fu : Nat) : SigOK Tryz.prog (s_ref02_Of fu) := sg (fu := fu) ⟨[], [], [], [], []⟩ Tryz.func61 (cC (g_ref02_Norm fu) <| cN) (by kernel_rfl) fun x => by kernel_rfl
def s_ref02_Sign (fu : Nat) : Sig := ⟨63, [.d (.p .b (.l .u))], [.d .i], fun x => M_ref02_Sign fu x.1, 0⟩
theorem g_ref02_Sign (fu : Nat) : SigOK Tryz.prog (s_ref02_Sign fu) := sg (fu := fu) ⟨[], [], [], [], []⟩ Tryz.func63 (cC (g_ref02_Norm fu) <| cN) (by kernel_rfl) fun x => by kernel_rfl
def s_ref10_Norm (fu : Nat) : Sig := ⟨17, [.d (.l (.p .b (.l .u)))], [.own (.p .b (.l .u)) 25], fun x => M_ref10_Norm fu x.1, 0⟩
theorem g_ref10_Norm (fu : Nat) : SigOK Tryz.prog (s_ref10_Norm fu) := sg (fu := fu) ⟨[], [], [(2, ⟨⟨[(3, .d .i)], []⟩, ⟨[], [(.x 0, ⟨[(3, .d .i)], []⟩)]⟩⟩), (6, ⟨⟨[(4, .own (.p .b (.l .u)) 25), (5, .d .i)], []⟩, ⟨[], [(.x 2, ⟨[(4, .own (.p .b (.l .u)) 25)], []⟩)]⟩⟩)], [], []⟩ Tryz.func17 (cC (g_ref02_Norm fu) <| cC (g_ref02_Sign fu) <| cN) (by kernel_rfl) fun x => by kernel_rfl
def s_ref10_Of (fu : Nat) : Sig := ⟨56, [.d (.l .i)], [.own (.p .b (.l .u)) 25], fun x => M_ref10_Of fu x.1, 0⟩
theorem g_ref10_Of (fu : Nat) : SigOK Tryz.prog (s_ref10_Of fu) := sg (fu := fu) ⟨[], [], [(3, ⟨⟨[(3, .own (.p .b (.l .u)) 25), (4, .d .i)], []⟩, ⟨[], [(.x 0, ⟨[(3, .own (.p .b (.l .u)) 25)], []⟩)]⟩⟩)], [], []⟩ Tryz.func56 (cC (g_ref10_Norm fu) <| cC (g_ref02_Of fu) <| cN) (by kernel_rfl) fun x => by kernel_rfl
def s_ref01_Same (fu : Nat) : Sig := ⟨62, [.d (.l .u), .d (.l .u)], [.d .b], fun x => M_ref01_Same fu x.1 x.2.1, 0⟩
theorem g_ref01_Same (fu : Nat) : SigOK Tryz.prog (s_ref01_Same fu) := sg (fu := fu) ⟨[], [], [(4, ⟨⟨[(5, .d .i)], []⟩, ⟨[], [(.x 0, ⟨[], []⟩), (.r, ⟨[], [(4, .kb false)]⟩)]⟩⟩)], [], []⟩ Tryz.func62 (cN) (by kernel_rfl) fun x => by kernel_rfl
def s_ref02_Same (fu : Nat) : Sig := ⟨15, [.d (.p .b (.l .u)), .d (.p .b (.l .u))], [.d .b], fun x => M_ref02_Same fu x.1 x.2.1, 0⟩
theorem g_ref02_Same (fu : Nat) : SigOK Tryz.prog (s_ref02_Same fu) := sg (fu := fu) ⟨[], [], [], [], []⟩ Tryz.func15 (cC (g_ref01_Same fu) <| cN) (by kernel_rfl) fun x => by kernel_rfl
def s_ref10_Same (fu : Nat) : Sig := ⟨77, [.d (.l (.p .b (.l .u))), .d (.l (.p .b (.l .u)))], [.d .b], fun x => M_ref10_Same fu x.1 x.2.1, 0⟩
theorem g_ref10_Same (fu : Nat) : SigOK Tryz.prog (s_ref10_Same fu) := sg (fu := fu) ⟨[], [], [(4, ⟨⟨[(5, .d .i)], []⟩, ⟨[], [(.x 0, ⟨[], []⟩), (.r, ⟨[], [(4, .kb false)]⟩)]⟩⟩)], [], []⟩ Tryz.func77 (cC (g_ref02_Same fu) <| cN) (by kernel_rfl) fun x => by kernel_rfl
def s_ref13_Same (fu : Nat) : Sig := ⟨21, [.d (.l (.l (.p .b (.l .u)))), .d (.l (.l (.p .b (.l .u))))], [.d .b], fun x => M_ref13_Same fu x.1 x.2.1, 0⟩
theorem g_ref13_Same (fu : Nat) : SigOK Tryz.prog (s_ref13_Same fu) := sg (fu := fu) ⟨[], [], [(4, ⟨⟨[(5, .d .i)], []⟩, ⟨[], [(.x 0, ⟨[], []⟩), (.r, ⟨[], [(4, .kb false)]⟩)]⟩⟩)], [], []⟩ Tryz.func21 (cC (g_ref10_Same fu) <| cN) (by kernel_rfl) fun x => by kernel_rfl
def s_prime_Is (fu : Nat) : Sig := ⟨57, [.d .i], [.d .b], fun x => M_prime_Is fu x.1, 0⟩
theorem g_prime_Is (fu : Nat) : SigOK Tryz.prog (s_prime_Is fu) := sg (fu := fu) ⟨[], [(131075, ⟨[], [(.n, ⟨[(3, .d .b)], []⟩)]⟩)], [(3, ⟨⟨[(3, .d .b), (4, .d .i)], []⟩, ⟨[], [(.x 0, ⟨[(3, .d .b)], []⟩)]⟩⟩)], [], []⟩ Tryz.func57 (cN) (by kernel_rfl) fun x => by kernel_rfl
def s_nat_plain (fu : Nat) : Sig := ⟨180, [.d (.l .u)], [.d (.l .u)], fun x => M_nat_plain fu x.1, 0⟩
theorem g_nat_plain (fu : Nat) : SigOK Tryz.prog (s_nat_plain fu) := sg (fu := fu) ⟨[], [], [(1, ⟨⟨[(0, .d (.l .u))], []⟩, ⟨[], [(.x 0, ⟨[(0, .d (.l .u))], []⟩)]⟩⟩)], [], []⟩ Tryz.func180 (cN) (by kernel_rfl) fun x => by kernel_rfl
def s_nat_plain_own (fu : Nat) : Sig := ⟨180, [.own .u 102], [.own .u 102], fun x => M_nat_plain_own fu x.1, 0⟩
theorem g_nat_plain_own (fu : Nat) : SigOK Tryz.prog (s_nat_plain_own fu) := sg (fu := fu) ⟨[], [], [(1, ⟨⟨[(0, .own .u 102)], []⟩, ⟨[], [(.x 0, ⟨[(0, .own .u 102)], []⟩)]⟩⟩)], [], []⟩ Tryz.func180 (cN) (by kernel_rfl) fun x => by kernel_rfl
def s_slices_Clone_uint64_uint64 (fu : Nat) : Sig := ⟨210, [.d (.l .u)], [.d (.l .u)], fun x => M_slices_Clone_uint64_uint64 fu x.1, 0⟩
set_option maxRecDepth 100000 in
set_option maxHeartbeats 1000000 in
theorem o_slices_Clone_uint64_uint64 (l : List Nat) (v0 : Value) (hp0 : l.length ≤ 17592186044416) : Fn Tryz.prog 210 [v0].toArray [fV (eS eU) (l) v0] (fun u : Value => u) (fun u => [fV (eS eU) (l) u]) (fun _ => True) := by
  refine Fn_intro Tryz.func210 rfl rfl fun we Se rest => ?_
  refine T_fact (fun S w h => fV_len h.1) fun hl_l => ?_
  refine T_fact (fun S w h => fV_limbs h.1) fun hb_l => ?_
  refine T_seq ?_
  refine T_region ?_
  refine TL_mv 1 [(0, v0)] rfl fun rest => ?_
  refine TL_nil ?_
  refine T_seq ?_
  refine T_seq ?_
  refine T_region ?_
  refine TL_mv 1 [(0, v0), (3, v0)] rfl fun rest => ?_
  refine TL_step rfl rfl (oe_nilE (e := eU) (xs := l) Tryz.underlying23 rfl rfl (fun S w h => h.1)) fun q1 hn1 => ?_
  refine TL_mv 0 [(0, v0), (4, .bool (q1))] rfl fun rest => ?_
  refine TL_nil ?_
  refine T_cond (q1) rfl (fun hb1 => ?_) (fun hb1 => ?_)
  · refine T_seq ?_
    refine T_region ?_
    refine TL_mv 1 [(2, .slice none 0 0)] rfl fun rest => ?_
    refine TL_nil ?_
    refine T_ret ?_
    exact Ret1 (.slice none 0 0 : Value) Tryz.results210 rfl trivial (fun S w h => ⟨(cvt (show ([]) = (l) from by first | rfl | simp_all) nil_fV), trivial⟩)
  · refine T_skip ?_
    refine T_seq ?_
    refine T_region ?_
    refine TL_empty (e := eU) rfl rfl Tryz.underlying23 ty102 fun v1 => ?_
    refine TL_mv 1 [(5, v1), (6, v0)] rfl fun rest => ?_
    refine TL_append (e := eU) (xs := []) (ys := l) 0 rfl rfl Tryz.underlying23 ty102 rfl (by decide) rfl rfl rfl (fun S w h => h.1) (by first | omega | (simp only [List.length_nil, List.length_append, List.length_replicate, List.length_cons, List.length_take, List.length_drop]; omega) | (simp; omega)) (by first | omega | (simp only [List.length_nil, List.length_append, List.length_replicate, List.length_cons, List.length_take, List.length_drop]; omega) | (simp; omega)) fun v2 => ?_
    show TL _ _ _ _ [mO eU 102 v2 ([] ++ l)] _ _ _ _ _
    refine TL_mv 1 [(2, v2)] rfl fun rest => ?_
    refine TL_nil ?_
    refine T_ret ?_
    refine T_weak_st (fun w h => fz_own 0 h rfl) ?_
    exact Ret1 v2 Tryz.results210 rfl trivial (fun S w h => ⟨(cvt (show ([] ++ l) = (l) from by first | rfl | simp_all) h.1), trivial⟩)
theorem c_slices_Clone_uint64_uint64 (fu : Nat) (a0 : List Nat) (va0 : Value) (r0 : List Nat) (H : M_slices_Clone_uint64_uint64 fu a0 = some r0) : Fn Tryz.prog 210 [va0].toArray [fV (eS eU) (a0) va0] (fun u : Value => u) (fun u => [fV (eS eU) (r0) u]) (fun _ => True) := by
  obtain ⟨hk, H⟩ := ck_s H
  obtain rfl := inj1 H
  exact o_slices_Clone_uint64_uint64 a0 va0 hk
theorem g_slices_Clone_uint64_uint64 (fu : Nat) : SigOK Tryz.prog (s_slices_Clone_uint64_uint64 fu) := sig_d1 (s := (.l .u)) (t := (.l .u)) (by kernel_rfl) fun x r v h => c_slices_Clone_uint64_uint64 fu x v r h
def s_nat_Norm (fu : Nat) : Sig := ⟨156, [.d (.l .u)], [.d (.l .u)], fun x => M_nat_Norm fu x.1, 0⟩
theorem g_nat_Norm (fu : Nat) : SigOK Tryz.prog (s_nat_Norm fu) := sg (fu := fu) ⟨[], [], [], [], []⟩ Tryz.func156 (cC (g_slices_Clone_uint64_uint64 fu) <| cC (g_nat_plain_own fu) <| cC (g_nat_plain fu) <| cN) (by kernel_rfl) fun x => by kernel_rfl
def s_zint_made (fu : Nat) : Sig := ⟨101, [.d .b, .d (.l .u)], [.d (.p .b (.l .u))], fun x => M_zint_made fu x.1 x.2.1, 0⟩
theorem g_zint_made (fu : Nat) : SigOK Tryz.prog (s_zint_made fu) := sg (fu := fu) ⟨[], [], [], [], []⟩ Tryz.func101 (cC (g_nat_Norm fu) <| cN) (by kernel_rfl) fun x => by kernel_rfl
def s_zint_Of (fu : Nat) : Sig := ⟨34, [.d .i], [.d (.p .b (.l .u))], fun x => M_zint_Of fu x.1, 0⟩
theorem g_zint_Of (fu : Nat) : SigOK Tryz.prog (s_zint_Of fu) := sg (fu := fu) ⟨[], [], [], [], []⟩ Tryz.func34 (cC (g_zint_made fu) <| cN) (by kernel_rfl) fun x => by kernel_rfl
def s_math_bits_Len64 (fu : Nat) : Sig := ⟨181, [.d .u], [.d .i], fun x => M_math_bits_Len64 fu x.1, 0⟩
set_option maxRecDepth 100000 in
set_option maxHeartbeats 1000000 in
theorem c_math_bits_Len64 (fu : Nat) (a0 : Nat) (qa0 : InU a0) (r0 : Int) (H : M_math_bits_Len64 fu a0 = some r0) : Fn Tryz.prog 181 [uv a0].toArray [] (fun _ : Unit => iv (r0)) (fun _ => []) (fun _ => InR r0) := by
 unfold M_math_bits_Len64 at H
 refine Fn_intro Tryz.func181 rfl rfl fun we Se rest => T_seq <| T_region <| TL_ad 1 [(2, iv 0)] rfl <| TL_nil <| T_seq ?_
 obtain ⟨s1, hL, Hc⟩ := bd_s H
 refine T_X [(.n, JQ we Se (G := Nat × Int) (fun (d1, i1) => (⟨[], [], [(0, uv d1), (2, iv (i1))]⟩ : Inv)) (fun (d1, i1) => (d1, i1) = s1 ∧ InU d1 ∧ InR i1))] ?_ ⟨?_, trivial⟩
 ·replace H := hL
  refine T_seq <| T_region <| TL_ad 1 [(3, uv a0)] rfl <| TL_geq rfl rfl rfl rfl (fun h1 => ?_) (fun h1 => ?_)
  ·replace H := if_t h1 H
   refine TL_nil <| T_cond_true rfl <| T_seq <| T_region <| TL_ad 1 [(5, uv a0)] rfl ?_
   obtain ⟨m1, hm1, H⟩ := nm_s H
   refine TL_val rfl rfl (r_shr (c := ((m1 : Nat) : Int)) rfl rfl (Int.natCast_nonneg _) (wu_y hm1 (n_shr_u (a := a0)))) <| TL_ad 1 [(0, uv m1)] rfl <| TL_nil <| T_region <| TL_ad 1 [(2, iv 32)] rfl <| TL_nil ?_
   exact JQ_mk (m1, 32) (And.intro (Option.some.inj H) (And.intro (udiv_r qa0 hm1) (show InR (32) by decide))) rfl (fun w h => St.weak h (fun S w h => trivial))
  replace H := if_f h1 H
  refine TL_nil <| T_cond_false rfl <| T_skip ?_
  exact JQ_mk (a0, 0) (And.intro (Option.some.inj H) (And.intro qa0 (show InR (0) by decide))) rfl (fun w h => St.weak h (fun S w h => trivial))
 refine JQ_el' ?_
 rintro ⟨d1, i1⟩ ⟨hs, hr1, hr2⟩ rest
 subst hs
 replace H := Hc
 clear hL
 refine JG_to rfl <| T_seq ?_
 obtain ⟨s2, hL, Hc⟩ := bd_s H
 refine T_X [(.n, JQ we Se (G := Nat × Int) (fun (d2, i2) => (⟨[], [], [(0, uv d2), (2, iv (i2))]⟩ : Inv)) (fun (d2, i2) => (d2, i2) = s2 ∧ InU d2 ∧ InR i2))] ?_ ⟨?_, trivial⟩
 ·replace H := hL
  refine T_seq <| T_region <| TL_ad 1 [(7, uv d1)] rfl <| TL_geq rfl rfl rfl rfl (fun h2 => ?_) (fun h2 => ?_)
  ·replace H := if_t h2 H
   refine TL_nil <| T_cond_true rfl <| T_seq <| T_region <| TL_ad 1 [(9, uv d1)] rfl ?_
   obtain ⟨m2, hm2, H⟩ := nm_s H
   refine TL_val rfl rfl (r_shr (c := ((m2 : Nat) : Int)) rfl rfl (Int.natCast_nonneg _) (wu_y hm2 (n_shr_u (a := d1)))) <| TL_ad 1 [(0, uv m2)] rfl <| TL_nil <| T_region <| TL_ad 1 [(11, iv (i1))] rfl ?_
   obtain ⟨x1, hx1, hrx1, H⟩ := ck64_s H
   refine TL_val rfl rfl (r_add (c := x1) rfl rfl (w_x hx1 hrx1)) <| TL_ad 1 [(2, iv (x1))] rfl <| TL_nil ?_
   exact JQ_mk (m2, x1) (And.intro (Option.some.inj H) (And.intro (udiv_r hr1 hm2) hrx1)) rfl (fun w h => St.weak h (fun S w h => trivial))
  replace H := if_f h2 H
  refine TL_nil <| T_cond_false rfl <| T_skip ?_
  exact JQ_mk (d1, i1) (And.intro (Option.some.inj H) (And.intro hr1 hr2)) rfl (fun w h => St.weak h (fun S w h => trivial))
 refine JQ_el' ?_
 rintro ⟨d2, i2⟩ ⟨hs, hr3, hr4⟩ rest
 subst hs
 replace H := Hc
 clear hL
 refine JG_to rfl <| T_seq <| T_seq <| T_region <| TL_ad 1 [(13, uv d2)] rfl <| TL_geq rfl rfl rfl rfl (fun h3 => ?_) (fun h3 => ?_)
 ·replace H := if_t h3 H
  refine TL_nil <| T_cond_true rfl <| T_seq <| T_region <| TL_ad 1 [(15, uv d2)] rfl ?_
  obtain ⟨m3, hm3, H⟩ := nm_s H
  refine TL_val rfl rfl (r_shr (c := ((m3 : Nat) : Int)) rfl rfl (Int.natCast_nonneg _) (wu_y hm3 (n_shr_u (a := d2)))) <| TL_ad 1 [(0, uv m3)] rfl <| TL_nil <| T_region <| TL_ad 1 [(17, iv (i2))] rfl ?_
  obtain ⟨x2, hx2, hrx2, H⟩ := ck64_s H
  refine TL_val rfl rfl (r_add (c := x2) rfl rfl (w_x hx2 hrx2)) <| TL_ad 1 [(2, iv (x2))] rfl <| TL_nil <| T_seq <| T_region <| TL_ad 2 [(20, uv m3), (19, iv (x2))] rfl ?_
  obtain ⟨m4, hm4, H⟩ := nm_s H
  refine TL_val rfl rfl (r_conv (c := ((m4 : Nat) : Int)) Tryz.underlying102 Tryz.underlying5 rfl (wu_x hm4 (wu8 _))) ?_
  obtain ⟨m5, hm5, H⟩ := nm_s H
  refine TL_val rfl rfl (r_len8 (z := m5) Tryz.underlying9 rfl (by kernel_rfl) rfl (mod8_r hm4) hm5) <| TL_val rfl rfl (r_conv (c := ((m5 : Nat) : Int)) Tryz.underlying5 Tryz.underlying3 rfl (w64 (b_r (bitLen8_r (mod8_r hm4) hm5)))) ?_
  obtain ⟨x3, hx3, hrx3, H⟩ := ck64_s H
  refine TL_val rfl rfl (r_add (c := x3) rfl rfl (w_x hx3 hrx3)) <| TL_ad 1 [(2, iv (x3))] rfl <| TL_nil <| T_ret ?_
  obtain rfl := inj1 H
  exact Ret1 () Tryz.results181 rfl hrx3 (fun S w h => trivial)
 replace H := if_f h3 H
 refine TL_nil <| T_cond_false rfl <| T_skip <| T_seq <| T_region <| TL_ad 2 [(20, uv d2), (19, iv (i2))] rfl ?_
 obtain ⟨m6, hm6, H⟩ := nm_s H
 refine TL_val rfl rfl (r_conv (c := ((m6 : Nat) : Int)) Tryz.underlying102 Tryz.underlying5 rfl (wu_x hm6 (wu8 _))) ?_
 obtain ⟨m7, hm7, H⟩ := nm_s H
 refine TL_val rfl rfl (r_len8 (z := m7) Tryz.underlying9 rfl (by kernel_rfl) rfl (mod8_r hm6) hm7) <| TL_val rfl rfl (r_conv (c := ((m7 : Nat) : Int)) Tryz.underlying5 Tryz.underlying3 rfl (w64 (b_r (bitLen8_r (mod8_r hm6) hm7)))) ?_
 obtain ⟨x4, hx4, hrx4, H⟩ := ck64_s H
 refine TL_val rfl rfl (r_add (c := x4) rfl rfl (w_x hx4 hrx4)) <| TL_ad 1 [(2, iv (x4))] rfl <| TL_nil <| T_ret ?_
 obtain rfl := inj1 H
 exact Ret1 () Tryz.results181 rfl hrx4 (fun S w h => trivial)
theorem g_math_bits_Len64 (fu : Nat) : SigOK Tryz.prog (s_math_bits_Len64 fu) := sig_ui (by kernel_rfl) fun x r hx h => c_math_bits_Len64 fu x hx r h
def s_nat_Bits (fu : Nat) : Sig := ⟨123, [.d (.l .u)], [.d .i], fun x => M_nat_Bits fu x.1, 0⟩
theorem g_nat_Bits (fu : Nat) : SigOK Tryz.prog (s_nat_Bits fu) := sg (fu := fu) ⟨[], [], [], [], []⟩ Tryz.func123 (cC (g_nat_plain_own fu) <| cC (g_nat_plain fu) <| cC (g_math_bits_Len64 fu) <| cN) (by kernel_rfl) fun x => by kernel_rfl
def s_nat_at (fu : Nat) : Sig := ⟨213, [.d (.l .u), .d .i], [.d .u], fun x => M_nat_at fu x.1 x.2.1, 0⟩
theorem g_nat_at (fu : Nat) : SigOK Tryz.prog (s_nat_at fu) := sg (fu := fu) ⟨[], [], [], [], []⟩ Tryz.func213 (cN) (by kernel_rfl) fun x => by kernel_rfl
def s_nat_Add_1 (fu : Nat) : Sig := ⟨211, [.d .i, .d .u, .q (.l .u), .q (.l .u)], [.d .u, .d .u], fun x => M_nat_Add_1 fu x.1 x.2.1 x.2.2.1 x.2.2.2.1, 0⟩
theorem g_nat_Add_1 (fu : Nat) : SigOK Tryz.prog (s_nat_Add_1 fu) := sg (fu := fu) ⟨[], [], [], [], []⟩ Tryz.func211 (cC (g_nat_at fu) <| cN) (by kernel_rfl) fun x => by kernel_rfl
def s_nat_carried (fu : Nat) : Sig := ⟨195, [.d .i, .fn [.i, .u] [.u, .u]], [.own .u 102, .d .u], fun x => M_nat_carried fu x.1 (fun z0 z1 => x.2.1 (z0, z1, ())), 0⟩
theorem g_nat_carried (fu : Nat) : SigOK Tryz.prog (s_nat_carried fu) := sg (fu := fu) ⟨[], [], [(4, ⟨⟨[(7, .d .u), (13, .d .i), (6, .own .u 102)], []⟩, ⟨[], [(.x 0, ⟨[(7, .d .u), (6, .own .u 102)], []⟩)]⟩⟩)], [], []⟩ Tryz.func195 (cN) (by kernel_rfl) fun x => by kernel_rfl
def s_nat_Add (fu : Nat) : Sig := ⟨157, [.d (.l .u), .d (.l .u)], [.own .u 102], fun x => M_nat_Add fu x.1 x.2.1, 0⟩
theorem g_nat_Add (fu : Nat) : SigOK Tryz.prog (s_nat_Add fu) := sg (fu := fu) ⟨[], [], [], [], []⟩ Tryz.func157 (cC (g_nat_Add_1 fu) <| cC (g_nat_plain_own fu) <| cC (g_nat_plain fu) <| cC (g_nat_carried fu) <| cN) (by kernel_rfl) fun x => by kernel_rfl
def s_nat_Sub_1 (fu : Nat) : Sig := ⟨216, [.d .i, .d .u, .q (.l .u), .q (.l .u)], [.d .u, .d .u], fun x => M_nat_Sub_1 fu x.1 x.2.1 x.2.2.1 x.2.2.2.1, 0⟩
theorem g_nat_Sub_1 (fu : Nat) : SigOK Tryz.prog (s_nat_Sub_1 fu) := sg (fu := fu) ⟨[], [], [], [], []⟩ Tryz.func216 (cC (g_nat_at fu) <| cN) (by kernel_rfl) fun x => by kernel_rfl
def s_nat_Sub (fu : Nat) : Sig := ⟨159, [.d (.l .u), .d (.l .u)], [.own .u 102, .d .i], fun x => M_nat_Sub fu x.1 x.2.1, 0⟩
theorem g_nat_Sub (fu : Nat) : SigOK Tryz.prog (s_nat_Sub fu) := sg (fu := fu) ⟨[], [], [], [], []⟩ Tryz.func159 (cC (g_nat_Sub_1 fu) <| cC (g_nat_carried fu) <| cC (g_nat_plain_own fu) <| cC (g_nat_plain fu) <| cN) (by kernel_rfl) fun x => by kernel_rfl
def s_nat_less (fu : Nat) : Sig := ⟨205, [.d (.l .u), .d (.l .u)], [.own .u 102], fun x => M_nat_less fu x.1 x.2.1, 0⟩
theorem g_nat_less (fu : Nat) : SigOK Tryz.prog (s_nat_less fu) := sg (fu := fu) ⟨[], [], [], [], []⟩ Tryz.func205 (cC (g_nat_Sub fu) <| cN) (by kernel_rfl) fun x => by kernel_rfl
def s_nat_moved (fu : Nat) : Sig := ⟨197, [.d (.l .u), .d .i], [.own .u 102], fun x => M_nat_moved fu x.1 x.2.1, 0⟩
theorem g_nat_moved (fu : Nat) : SigOK Tryz.prog (s_nat_moved fu) := sg (fu := fu) ⟨[], [], [], [], []⟩ Tryz.func197 (cN) (by kernel_rfl) fun x => by kernel_rfl
def s_math_bits_Mul64 (fu : Nat) : Sig := ⟨259, [.d .u, .d .u], [.d .u, .d .u], fun x => M_math_bits_Mul64 fu x.1 x.2.1, 0⟩
theorem g_math_bits_Mul64 (fu : Nat) : SigOK Tryz.prog (s_math_bits_Mul64 fu) := sg (fu := fu) ⟨[], [], [], [], []⟩ Tryz.func259 (cN) (by kernel_rfl) fun x => by kernel_rfl
def s_nat_row_1 (fu : Nat) : Sig := ⟨260, [.d .i, .d .u, .q (.l .u), .q .u], [.d .u, .d .u], fun x => M_nat_row_1 fu x.1 x.2.1 x.2.2.1 x.2.2.2.1, 0⟩
theorem g_nat_row_1 (fu : Nat) : SigOK Tryz.prog (s_nat_row_1 fu) := sg (fu := fu) ⟨[], [], [], [], []⟩ Tryz.func260 (cC (g_math_bits_Mul64 fu) <| cN) (by kernel_rfl) fun x => by kernel_rfl
def s_nat_row (fu : Nat) : Sig := ⟨245, [.d (.l .u), .d .u], [.own .u 102], fun x => M_nat_row fu x.1 x.2.1, 0⟩
theorem g_nat_row (fu : Nat) : SigOK Tryz.prog (s_nat_row fu) := sg (fu := fu) ⟨[], [], [], [], []⟩ Tryz.func245 (cC (g_nat_carried fu) <| cC (g_nat_row_1 fu) <| cN) (by kernel_rfl) fun x => by kernel_rfl
def s_nat_school (fu : Nat) : Sig := ⟨204, [.d (.l .u), .d (.l .u)], [.own .u 102], fun x => M_nat_school fu x.1 x.2.1, 0⟩
theorem g_nat_school (fu : Nat) : SigOK Tryz.prog (s_nat_school fu) := sg (fu := fu) ⟨[], [(262149, ⟨[5], [(.n, ⟨[(0, .d (.l .u)), (18, .d (.l .u)), (19, .d .i), (21, .d .b)], []⟩)]⟩), (524297, ⟨[5, 27], [(.n, ⟨[(0, .d (.l .u)), (6, .d .i), (18, .d (.l .u)), (19, .d .i), (20, .d .i), (28, .d .i), (30, .d .b)], []⟩)]⟩)], [(3, ⟨⟨[(20, .d .i), (5, .own .u 102)], []⟩, ⟨[], [(.x 0, ⟨[(5, .own .u 102)], []⟩)]⟩⟩), (7, ⟨⟨[(8, .d .u), (29, .d .i), (5, .own .u 102), (27, .own .u 102)], []⟩, ⟨[], [(.x 2, ⟨[(5, .own .u 102)], []⟩)]⟩⟩)], [], []⟩ Tryz.func204 (cC (g_nat_plain_own fu) <| cC (g_nat_plain fu) <| cC (g_nat_row fu) <| cN) (by kernel_rfl) fun x => by kernel_rfl
def s_nat_Mul (fu : Nat) : Sig := ⟨149, [.d (.l .u), .d (.l .u)], [.own .u 102], fun x => M_nat_Mul fu x.1 x.2.1, 0⟩
theorem g_nat_Mul : ∀ fu : Nat, SigOK Tryz.prog (s_nat_Mul fu)
  | 0 => sg0 (by kernel_rfl) fun _ => rfl
  | fu + 1 => sg (fu := fu) ⟨[], [], [], [], []⟩ Tryz.func149 (cC (g_nat_moved fu) <| cC (g_nat_school fu) <| cC (g_nat_less fu) <| cC (g_nat_plain_own fu) <| cC (g_nat_plain fu) <| cC (g_nat_Mul fu) <| cC (g_nat_Add fu) <| cN) (by kernel_rfl) fun x => by kernel_rfl
def s_zint_Mul (fu : Nat) : Sig := ⟨86, [.d (.p .b (.l .u)), .d (.p .b (.l .u))], [.d (.p .b (.l .u))], fun x => M_zint_Mul fu x.1 x.2.1, 0⟩
theorem g_zint_Mul (fu : Nat) : SigOK Tryz.prog (s_zint_Mul fu) := sg (fu := fu) ⟨[], [], [], [], []⟩ Tryz.func86 (cC (g_zint_made fu) <| cC (g_nat_Mul fu) <| cN) (by kernel_rfl) fun x => by kernel_rfl
def s_zint_Norm (fu : Nat) : Sig := ⟨96, [.d (.p .b (.l .u))], [.d (.p .b (.l .u))], fun x => M_zint_Norm fu x.1, 0⟩
theorem g_zint_Norm (fu : Nat) : SigOK Tryz.prog (s_zint_Norm fu) := sg (fu := fu) ⟨[], [], [], [], []⟩ Tryz.func96 (cC (g_zint_made fu) <| cN) (by kernel_rfl) fun x => by kernel_rfl
def s_zint_Pow (fu : Nat) : Sig := ⟨58, [.d (.p .b (.l .u)), .d .i], [.d (.p .b (.l .u)), .d .i], fun x => M_zint_Pow fu x.1 x.2.1, 0⟩
theorem g_zint_Pow (fu : Nat) : SigOK Tryz.prog (s_zint_Pow fu) := sg (fu := fu) ⟨[], [(131075, ⟨[4], [(.n, ⟨[(8, .d .b)], []⟩)]⟩)], [(7, ⟨⟨[(1, .d .i), (7, .var (.p .b (.l .u)) 25), (6, .var (.p .b (.l .u)) 25)], []⟩, ⟨[4], [(.x 1, ⟨[(6, .var (.p .b (.l .u)) 25)], []⟩)]⟩⟩)], [], []⟩ Tryz.func58 (cC (g_zint_Norm fu) <| cC (g_zint_Of fu) <| cC (g_nat_Bits fu) <| cC (g_zint_Mul fu) <| cN) (by kernel_rfl) fun x => by kernel_rfl
def s_hensel_Power (fu : Nat) : Sig := ⟨13, [.d .i, .d .i], [.d (.p .b (.l .u)), .d .i], fun x => M_hensel_Power fu x.1 x.2.1, 0⟩
theorem g_hensel_Power (fu : Nat) : SigOK Tryz.prog (s_hensel_Power fu) := sg (fu := fu) ⟨[], [], [], [], []⟩ Tryz.func13 (cC (g_prime_Is fu) <| cC (g_zint_Of fu) <| cC (g_zint_Pow fu) <| cN) (by kernel_rfl) fun x => by kernel_rfl
def s_zint_Sign (fu : Nat) : Sig := ⟨36, [.d (.p .b (.l .u))], [.d .i], fun x => M_zint_Sign fu x.1, 0⟩
theorem g_zint_Sign (fu : Nat) : SigOK Tryz.prog (s_zint_Sign fu) := sg (fu := fu) ⟨[1], [], [], [], []⟩ Tryz.func36 (cC (g_zint_Norm fu) <| cN) (by kernel_rfl) fun x => by kernel_rfl
def s_zpoly_Norm_1 (fu : Nat) : Sig := ⟨95, [.d .i, .d (.p .b (.l .u))], [.d (.p .b (.l .u))], fun x => M_zpoly_Norm_1 fu x.1 x.2.1, 0⟩
theorem g_zpoly_Norm_1 (fu : Nat) : SigOK Tryz.prog (s_zpoly_Norm_1 fu) := sg (fu := fu) ⟨[], [], [], [], []⟩ Tryz.func95 (cC (g_zint_Norm fu) <| cN) (by kernel_rfl) fun x => by kernel_rfl
def s_zpoly_each_api_Int_api_Int (fu : Nat) : Sig := ⟨94, [.d (.l (.p .b (.l .u))), .fn [.i, (.p .b (.l .u))] [(.p .b (.l .u))]], [.own (.p .b (.l .u)) 25], fun x => M_zpoly_each_api_Int_api_Int fu x.1 (fun z0 z1 => x.2.1 (z0, z1, ())), 0⟩
theorem g_zpoly_each_api_Int_api_Int (fu : Nat) : SigOK Tryz.prog (s_zpoly_each_api_Int_api_Int fu) := sg (fu := fu) ⟨[], [(262149, ⟨[5], [(.n, ⟨[(11, .d (.l (.p .b (.l .u)))), (12, .d .i), (14, .d .b)], []⟩)]⟩)], [(3, ⟨⟨[(13, .d .i), (5, .own (.p .b (.l .u)) 25)], []⟩, ⟨[], [(.x 0, ⟨[(5, .own (.p .b (.l .u)) 25)], []⟩)]⟩⟩)], [], []⟩ Tryz.func94 (cN) (by kernel_rfl) fun x => by kernel_rfl
def s_zpoly_Norm (fu : Nat) : Sig := ⟨30, [.d (.l (.p .b (.l .u)))], [.own (.p .b (.l .u)) 25], fun x => M_zpoly_Norm fu x.1, 0⟩
theorem g_zpoly_Norm (fu : Nat) : SigOK Tryz.prog (s_zpoly_Norm fu) := sg (fu := fu) ⟨[], [], [(1, ⟨⟨[(0, .d (.l (.p .b (.l .u))))], []⟩, ⟨[], [(.x 0, ⟨[(0, .d (.l (.p .b (.l .u))))], []⟩)]⟩⟩)], [], []⟩ Tryz.func30 (cC (g_zint_Sign fu) <| cC (g_zpoly_each_api_Int_api_Int fu) <| cC (g_zpoly_Norm_1 fu) <| cN) (by kernel_rfl) fun x => by kernel_rfl
def s_hensel_rests (fu : Nat) : Sig := ⟨78, [.d (.l (.p .b (.l .u))), .d (.p .b (.l .u)), .fn [(.p .b (.l .u)), (.p .b (.l .u))] [(.p .b (.l .u)), .i]], [.own (.p .b (.l .u)) 25, .d .i], fun x => M_hensel_rests fu x.1 x.2.1 (fun z0 z1 => x.2.2.1 (z0, z1, ())), 0⟩
theorem g_hensel_rests (fu : Nat) : SigOK Tryz.prog (s_hensel_rests fu) := sg (fu := fu) ⟨[], [(393223, ⟨[8], [(.n, ⟨[(4, .q (.p .b (.l .u))), (17, .d (.l (.p .b (.l .u)))), (18, .d .i), (20, .d .b)], []⟩)]⟩)], [(5, ⟨⟨[(19, .d .i), (8, .own (.p .b (.l .u)) 25)], []⟩, ⟨[], [(.x 0, ⟨[(8, .own (.p .b (.l .u)) 25)], []⟩)]⟩⟩)], [], []⟩ Tryz.func78 (cC (g_zint_Sign fu) <| cC (g_zpoly_Norm fu) <| cN) (by kernel_rfl) fun x => by kernel_rfl
def s_cmp_isNaN_int (fu : Nat) : Sig := ⟨247, [.d .i], [.d .b], fun x => M_cmp_isNaN_int fu x.1, 0⟩
theorem g_cmp_isNaN_int (fu : Nat) : SigOK Tryz.prog (s_cmp_isNaN_int fu) := sg (fu := fu) ⟨[], [], [], [], []⟩ Tryz.func247 (cN) (by kernel_rfl) fun x => by kernel_rfl
def s_cmp_Compare_int (fu : Nat) : Sig := ⟨214, [.d .i, .d .i], [.d .i], fun x => M_cmp_Compare_int fu x.1 x.2.1, 0⟩
theorem g_cmp_Compare_int (fu : Nat) : SigOK Tryz.prog (s_cmp_Compare_int fu) := sg (fu := fu) ⟨[], [], [], [], []⟩ Tryz.func214 (cC (g_cmp_isNaN_int fu) <| cN) (by kernel_rfl) fun x => by kernel_rfl
def s_cmp_isNaN_uint64 (fu : Nat) : Sig := ⟨248, [.d .u], [.d .b], fun x => M_cmp_isNaN_uint64 fu x.1, 0⟩
theorem g_cmp_isNaN_uint64 (fu : Nat) : SigOK Tryz.prog (s_cmp_isNaN_uint64 fu) := sg (fu := fu) ⟨[], [], [], [], []⟩ Tryz.func248 (cN) (by kernel_rfl) fun x => by kernel_rfl
def s_cmp_Compare_uint64 (fu : Nat) : Sig := ⟨215, [.d .u, .d .u], [.d .i], fun x => M_cmp_Compare_uint64 fu x.1 x.2.1, 0⟩
theorem g_cmp_Compare_uint64 (fu : Nat) : SigOK Tryz.prog (s_cmp_Compare_uint64 fu) := sg (fu := fu) ⟨[], [], [], [], []⟩ Tryz.func215 (cC (g_cmp_isNaN_uint64 fu) <| cN) (by kernel_rfl) fun x => by kernel_rfl
def s_nat_Cmp (fu : Nat) : Sig := ⟨158, [.d (.l .u), .d (.l .u)], [.d .i], fun x => M_nat_Cmp fu x.1 x.2.1, 0⟩
theorem g_nat_Cmp (fu : Nat) : SigOK Tryz.prog (s_nat_Cmp fu) := sg (fu := fu) ⟨[], [], [(5, ⟨⟨[(5, .d .i)], []⟩, ⟨[], [(.x 0, ⟨[], []⟩), (.r, ⟨[(4, .d .i)], []⟩)]⟩⟩)], [], []⟩ Tryz.func158 (cC (g_nat_plain_own fu) <| cC (g_nat_plain fu) <| cC (g_cmp_Compare_int fu) <| cC (g_cmp_Compare_uint64 fu) <| cN) (by kernel_rfl) fun x => by kernel_rfl
def s_nat_Shl_1 (fu : Nat) : Sig := ⟨196, [.d .i, .d .u, .q (.l .u), .q .i], [.d .u, .d .u], fun x => M_nat_Shl_1 fu x.1 x.2.1 x.2.2.1 x.2.2.2.1, 0⟩
theorem g_nat_Shl_1 (fu : Nat) : SigOK Tryz.prog (s_nat_Shl_1 fu) := sg (fu := fu) ⟨[], [], [], [], []⟩ Tryz.func196 (cN) (by kernel_rfl) fun x => by kernel_rfl
def s_nat_Shl (fu : Nat) : Sig := ⟨140, [.d (.l .u), .d .i], [.own .u 102, .d .i], fun x => M_nat_Shl fu x.1 x.2.1, 0⟩
theorem g_nat_Shl (fu : Nat) : SigOK Tryz.prog (s_nat_Shl fu) := sg (fu := fu) ⟨[], [], [], [(4, [23])], []⟩ Tryz.func140 (cC (g_nat_plain_own fu) <| cC (g_nat_plain fu) <| cC (g_nat_carried fu) <| cC (g_nat_Shl_1 fu) <| cC (g_nat_moved fu) <| cN) (by kernel_rfl) fun x => by kernel_rfl
def s_nat_Shr_1 (fu : Nat) : Sig := ⟨246, [.d .i, .d .u, .q (.l .u), .q .i], [.d .u, .d .u], fun x => M_nat_Shr_1 fu x.1 x.2.1 x.2.2.1 x.2.2.2.1, 0⟩
theorem g_nat_Shr_1 (fu : Nat) : SigOK Tryz.prog (s_nat_Shr_1 fu) := sg (fu := fu) ⟨[], [], [], [], []⟩ Tryz.func246 (cC (g_nat_at fu) <| cN) (by kernel_rfl) fun x => by kernel_rfl
def s_nat_Shr (fu : Nat) : Sig := ⟨194, [.d (.l .u), .d .i], [.own .u 102], fun x => M_nat_Shr fu x.1 x.2.1, 0⟩
theorem g_nat_Shr (fu : Nat) : SigOK Tryz.prog (s_nat_Shr fu) := sg (fu := fu) ⟨[2, 3], [], [], [], []⟩ Tryz.func194 (cC (g_nat_carried fu) <| cC (g_nat_plain_own fu) <| cC (g_nat_plain fu) <| cC (g_nat_Shr_1 fu) <| cN) (by kernel_rfl) fun x => by kernel_rfl
def s_math_bits_LeadingZeros64 (fu : Nat) : Sig := ⟨243, [.d .u], [.d .i], fun x => M_math_bits_LeadingZeros64 fu x.1, 0⟩
theorem g_math_bits_LeadingZeros64 (fu : Nat) : SigOK Tryz.prog (s_math_bits_LeadingZeros64 fu) := sg (fu := fu) ⟨[], [], [], [], []⟩ Tryz.func243 (cC (g_math_bits_Len64 fu) <| cN) (by kernel_rfl) fun x => by kernel_rfl
def s_math_bits_Div64 (fu : Nat) : Sig := ⟨258, [.d .u, .d .u, .d .u], [.d .u, .d .u], fun x => M_math_bits_Div64 fu x.1 x.2.1 x.2.2.1, 0⟩
theorem g_math_bits_Div64 (fu : Nat) : SigOK Tryz.prog (s_math_bits_Div64 fu) := sg (fu := fu) ⟨[], [], [(17, ⟨⟨[(15, .d .u), (16, .d .u)], []⟩, ⟨[], [(.x 0, ⟨[(15, .d .u)], []⟩)]⟩⟩), (24, ⟨⟨[(16, .d .u), (18, .d .u)], []⟩, ⟨[], [(.x 2, ⟨[(18, .d .u)], []⟩)]⟩⟩)], [], []⟩ Tryz.func258 (cC (g_math_bits_LeadingZeros64 fu) <| cN) (by kernel_rfl) fun x => by kernel_rfl
def s_nat_guess (fu : Nat) : Sig := ⟨244, [.d .u, .d .u, .d .u, .d .u, .d .u], [.d .u], fun x => M_nat_guess fu x.1 x.2.1 x.2.2.1 x.2.2.2.1 x.2.2.2.2.1, 0⟩
theorem g_nat_guess (fu : Nat) : SigOK Tryz.prog (s_nat_guess fu) := sg (fu := fu) ⟨[], [], [(4, ⟨⟨[(11, .d .u), (12, .d .u)], []⟩, ⟨[], [(.r, ⟨[(10, .d .u)], []⟩)]⟩⟩)], [], []⟩ Tryz.func244 (cC (g_math_bits_Div64 fu) <| cC (g_math_bits_Mul64 fu) <| cN) (by kernel_rfl) fun x => by kernel_rfl
def s_nat_short (fu : Nat) : Sig := ⟨242, [.d (.l .u), .d .u], [.own .u 102, .d .u], fun x => M_nat_short fu x.1 x.2.1, 0⟩
theorem g_nat_short (fu : Nat) : SigOK Tryz.prog (s_nat_short fu) := sg (fu := fu) ⟨[], [], [(3, ⟨⟨[(7, .d .u), (8, .d .i), (6, .own .u 102)], []⟩, ⟨[], [(.x 0, ⟨[(7, .d .u), (6, .own .u 102)], []⟩)]⟩⟩)], [], []⟩ Tryz.func242 (cC (g_math_bits_Div64 fu) <| cC (g_nat_plain_own fu) <| cC (g_nat_plain fu) <| cN) (by kernel_rfl) fun x => by kernel_rfl
def s_nat_Div (fu : Nat) : Sig := ⟨193, [.d (.l .u), .d (.l .u)], [.own .u 102, .d (.l .u), .d .i], fun x => M_nat_Div fu x.1 x.2.1, 0⟩
theorem g_nat_Div (fu : Nat) : SigOK Tryz.prog (s_nat_Div fu) := sg (fu := fu) ⟨[], [(196612, ⟨[], [(.n, ⟨[(23, .d .b)], []⟩)]⟩), (327686, ⟨[], [(.n, ⟨[(27, .d .b)], []⟩)]⟩)], [(16, ⟨⟨[(10, .d (.l .u)), (16, .d .i), (12, .own .u 102), (15, .own .u 102)], []⟩, ⟨[], [(.x 1, ⟨[(12, .own .u 102), (15, .own .u 102)], []⟩)]⟩⟩), (20, ⟨⟨[(9, .d .i), (14, .d .i), (17, .d .u), (18, .d (.l .u))], []⟩, ⟨[12, 15], [(.x 3, ⟨[(9, .d .i), (14, .d .i), (17, .d .u), (18, .d (.l .u))], []⟩)]⟩⟩)], [(23, [149])], [129]⟩ Tryz.func193 (cC (g_nat_Shr fu) <| cC (g_nat_Shl fu) <| cC (g_nat_less fu) <| cC (g_nat_short fu) <| cC (g_math_bits_LeadingZeros64 fu) <| cC (g_nat_plain_own fu) <| cC (g_nat_plain fu) <| cC (g_nat_guess fu) <| cC (g_nat_row fu) <| cC (g_nat_Norm fu) <| cC (g_nat_Cmp fu) <| cN) (by kernel_rfl) fun x => by kernel_rfl
def s_zint_Div (fu : Nat) : Sig := ⟨137, [.d (.p .b (.l .u)), .d (.p .b (.l .u))], [.d (.p .b (.l .u)), .d (.p .b (.l .u)), .d .i], fun x => M_zint_Div fu x.1 x.2.1, 0⟩
theorem g_zint_Div (fu : Nat) : SigOK Tryz.prog (s_zint_Div fu) := sg (fu := fu) ⟨[], [(327688, ⟨[4, 5], [(.n, ⟨[(7, .own .u 102), (8, .d (.l .u))], []⟩)]⟩)], [], [], []⟩ Tryz.func137 (cC (g_nat_Div fu) <| cC (g_zint_made fu) <| cC (g_nat_Add fu) <| cC (g_nat_Sub fu) <| cN) (by kernel_rfl) fun x => by kernel_rfl
def s_prime_Rest (fu : Nat) : Sig := ⟨79, [.d (.p .b (.l .u)), .d (.p .b (.l .u))], [.d (.p .b (.l .u)), .d .i], fun x => M_prime_Rest fu x.1 x.2.1, 0⟩
theorem g_prime_Rest (fu : Nat) : SigOK Tryz.prog (s_prime_Rest fu) := sg (fu := fu) ⟨[], [], [], [], []⟩ Tryz.func79 (cC (g_zint_Div fu) <| cC (g_zint_Sign fu) <| cN) (by kernel_rfl) fun x => by kernel_rfl
def s_hensel_Red (fu : Nat) : Sig := ⟨22, [.d (.l (.p .b (.l .u))), .d (.p .b (.l .u))], [.own (.p .b (.l .u)) 25, .d .i], fun x => M_hensel_Red fu x.1 x.2.1, 0⟩
theorem g_hensel_Red (fu : Nat) : SigOK Tryz.prog (s_hensel_Red fu) := sg (fu := fu) ⟨[], [], [], [], []⟩ Tryz.func22 (cC (g_hensel_rests fu) <| cC (g_prime_Rest fu) <| cN) (by kernel_rfl) fun x => by kernel_rfl
def s_hensel_red (fu : Nat) : Sig := ⟨67, [.d (.l (.p .b (.l .u))), .d (.p .b (.l .u))], [.own (.p .b (.l .u)) 25], fun x => M_hensel_red fu x.1 x.2.1, 0⟩
theorem g_hensel_red (fu : Nat) : SigOK Tryz.prog (s_hensel_red fu) := sg (fu := fu) ⟨[], [], [], [], []⟩ Tryz.func67 (cC (g_hensel_Red fu) <| cN) (by kernel_rfl) fun x => by kernel_rfl
def s_fp_Check (fu : Nat) : Sig := ⟨182, [.d .i], [.d .i], fun x => M_fp_Check fu x.1, 0⟩
theorem g_fp_Check (fu : Nat) : SigOK Tryz.prog (s_fp_Check fu) := sg (fu := fu) ⟨[], [], [], [], []⟩ Tryz.func182 (cC (g_prime_Is fu) <| cN) (by kernel_rfl) fun x => by kernel_rfl
def s_fp_Red (fu : Nat) : Sig := ⟨235, [.d .i, .d .i], [.d .i], fun x => M_fp_Red fu x.1 x.2.1, 0⟩
theorem g_fp_Red (fu : Nat) : SigOK Tryz.prog (s_fp_Red fu) := sg (fu := fu) ⟨[], [], [], [], []⟩ Tryz.func235 (cN) (by kernel_rfl) fun x => by kernel_rfl
def s_fp_Inv (fu : Nat) : Sig := ⟨240, [.d .i, .d .i], [.d .i, .d .i], fun x => M_fp_Inv fu x.1 x.2.1, 0⟩
theorem g_fp_Inv (fu : Nat) : SigOK Tryz.prog (s_fp_Inv fu) := sg (fu := fu) ⟨[], [], [(5, ⟨⟨[(7, .d .i), (8, .d .i), (9, .d .i), (10, .d .i)], []⟩, ⟨[], [(.x 0, ⟨[(10, .d .i)], []⟩), (.r, ⟨[], [(4, .ci 0), (5, .ci 3)]⟩)]⟩⟩)], [], []⟩ Tryz.func240 (cC (g_fp_Red fu) <| cC (g_fp_Check fu) <| cN) (by kernel_rfl) fun x => by kernel_rfl
def s_fpoly_plain (fu : Nat) : Sig := ⟨184, [.d (.l .i), .d .i], [.own .i 3], fun x => M_fpoly_plain fu x.1 x.2.1, 0⟩
theorem g_fpoly_plain (fu : Nat) : SigOK Tryz.prog (s_fpoly_plain fu) := sg (fu := fu) ⟨[], [], [(3, ⟨⟨[(13, .d .i), (5, .own .i 3)], []⟩, ⟨[], [(.x 0, ⟨[(5, .own .i 3)], []⟩)]⟩⟩), (7, ⟨⟨[(5, .own .i 3)], []⟩, ⟨[], [(.x 2, ⟨[(5, .own .i 3)], []⟩)]⟩⟩)], [], []⟩ Tryz.func184 (cC (g_fp_Red fu) <| cN) (by kernel_rfl) fun x => by kernel_rfl
def s_fpoly_divided (fu : Nat) : Sig := ⟨239, [.d (.l .i), .d (.l .i), .d .i], [.own .i 3, .own .i 3], fun x => M_fpoly_divided fu x.1 x.2.1 x.2.2.1, 0⟩
theorem g_fpoly_divided (fu : Nat) : SigOK Tryz.prog (s_fpoly_divided fu) := sg (fu := fu) ⟨[], [(851982, ⟨[8, 12], [(.n, ⟨[(9, .d .i), (13, .d .i), (61, .d (.l .i)), (62, .d .i), (64, .d .b)], []⟩)]⟩)], [(7, ⟨⟨[(9, .d .i), (8, .own .i 3), (12, .own .i 3)], []⟩, ⟨[], [(.x 0, ⟨[(8, .own .i 3), (12, .own .i 3)], []⟩)]⟩⟩), (12, ⟨⟨[(1, .d (.l .i)), (2, .d .i), (10, .d .i), (63, .d .i), (8, .own .i 3), (12, .own .i 3)], []⟩, ⟨[], [(.x 2, ⟨[(1, .d (.l .i)), (2, .d .i), (10, .d .i), (8, .own .i 3), (12, .own .i 3)], []⟩)]⟩⟩)], [], []⟩ Tryz.func239 (cC (g_fp_Inv fu) <| cC (g_fpoly_plain fu) <| cN) (by kernel_rfl) fun x => by kernel_rfl
def s_fpoly_product (fu : Nat) : Sig := ⟨183, [.d (.l .i), .d (.l .i), .d .i], [.own .i 3], fun x => M_fpoly_product fu x.1 x.2.1 x.2.2.1, 0⟩
theorem g_fpoly_product (fu : Nat) : SigOK Tryz.prog (s_fpoly_product fu) := sg (fu := fu) ⟨[], [(262149, ⟨[7], [(.n, ⟨[(1, .d (.l .i)), (2, .d .i), (18, .d (.l .i)), (19, .d .i), (21, .d .b)], []⟩)]⟩), (458760, ⟨[7], [(.n, ⟨[(1, .d (.l .i)), (2, .d .i), (8, .d .i), (9, .d .i), (18, .d (.l .i)), (19, .d .i), (20, .d .i), (25, .d (.l .i)), (26, .d .i), (28, .d .b)], []⟩)]⟩)], [(3, ⟨⟨[(20, .d .i), (7, .own .i 3)], []⟩, ⟨[], [(.x 0, ⟨[(7, .own .i 3)], []⟩)]⟩⟩), (6, ⟨⟨[(27, .d .i), (7, .own .i 3)], []⟩, ⟨[], [(.x 2, ⟨[(7, .own .i 3)], []⟩)]⟩⟩)], [], []⟩ Tryz.func183 (cC (g_fpoly_plain fu) <| cN) (by kernel_rfl) fun x => by kernel_rfl
def s_fpoly_sum (fu : Nat) : Sig := ⟨236, [.d (.l .i), .d (.l .i), .d .i, .d .i], [.own .i 3], fun x => M_fpoly_sum fu x.1 x.2.1 x.2.2.1 x.2.2.2.1, 0⟩
theorem g_fpoly_sum (fu : Nat) : SigOK Tryz.prog (s_fpoly_sum fu) := sg (fu := fu) ⟨[], [(327686, ⟨[9], [(.n, ⟨[(2, .d .i), (3, .d .i), (21, .d (.l .i)), (22, .d .i), (24, .d .b)], []⟩)]⟩)], [(4, ⟨⟨[(23, .d .i), (9, .own .i 3)], []⟩, ⟨[], [(.x 0, ⟨[(9, .own .i 3)], []⟩)]⟩⟩)], [], []⟩ Tryz.func236 (cC (g_fpoly_plain fu) <| cN) (by kernel_rfl) fun x => by kernel_rfl
def s_fpoly_next (fu : Nat) : Sig := ⟨188, [.d (.a 3 (.l .i)), .d (.a 3 (.l .i)), .d .i], [.d (.a 3 (.l .i))], fun x => M_fpoly_next fu x.1 x.2.1 x.2.2.1, 0⟩
theorem g_fpoly_next (fu : Nat) : SigOK Tryz.prog (s_fpoly_next fu) := sg (fu := fu) ⟨[3], [(262149, ⟨[3, 6], [(.n, ⟨[(2, .d .i), (4, .q (.a 3 (.l .i))), (20, .d .b)], []⟩)]⟩)], [(3, ⟨⟨[(7, .d (.l .i)), (19, .d .i), (3, .var (.a 3 (.l .i)) 161), (6, .var (.a 3 (.l .i)) 161)], []⟩, ⟨[8], [(.x 0, ⟨[(3, .var (.a 3 (.l .i)) 161), (6, .var (.a 3 (.l .i)) 161)], []⟩)]⟩⟩)], [], []⟩ Tryz.func188 (cC (g_fpoly_product fu) <| cC (g_fpoly_sum fu) <| cC (g_fpoly_divided fu) <| cN) (by kernel_rfl) fun x => by kernel_rfl
def s_fpoly_scaled (fu : Nat) : Sig := ⟨189, [.d (.l .i), .d .i, .d .i], [.own .i 3], fun x => M_fpoly_scaled fu x.1 x.2.1 x.2.2.1, 0⟩
theorem g_fpoly_scaled (fu : Nat) : SigOK Tryz.prog (s_fpoly_scaled fu) := sg (fu := fu) ⟨[], [], [], [], []⟩ Tryz.func189 (cC (g_fp_Inv fu) <| cC (g_fpoly_product fu) <| cN) (by kernel_rfl) fun x => by kernel_rfl
def s_fpoly_Bezout (fu : Nat) : Sig := ⟨132, [.d (.l .i), .d (.l .i), .d .i], [.d (.l .i), .d (.l .i), .d (.l .i), .d .i], fun x => M_fpoly_Bezout fu x.1 x.2.1 x.2.2.1, 0⟩
theorem g_fpoly_Bezout (fu : Nat) : SigOK Tryz.prog (s_fpoly_Bezout fu) := sg (fu := fu) ⟨[], [(589834, ⟨[11], [(.n, ⟨[(44, .d .b)], []⟩)]⟩)], [(5, ⟨⟨[(11, .var (.a 3 (.l .i)) 161), (12, .var (.a 3 (.l .i)) 161)], []⟩, ⟨[], [(.x 0, ⟨[(11, .var (.a 3 (.l .i)) 161)], []⟩)]⟩⟩), (11, ⟨⟨[(51, .d .i), (11, .var (.a 3 (.l .i)) 161)], []⟩, ⟨[], [(.x 2, ⟨[(11, .var (.a 3 (.l .i)) 161)], []⟩)]⟩⟩)], [], []⟩ Tryz.func132 (cC (g_fpoly_plain fu) <| cC (g_fpoly_next fu) <| cC (g_fpoly_scaled fu) <| cC (g_fp_Check fu) <| cN) (by kernel_rfl) fun x => by kernel_rfl
def s_fpoly_Gcd (fu : Nat) : Sig := ⟨127, [.d (.l .i), .d (.l .i), .d .i], [.d (.l .i), .d .i], fun x => M_fpoly_Gcd fu x.1 x.2.1 x.2.2.1, 0⟩
theorem g_fpoly_Gcd (fu : Nat) : SigOK Tryz.prog (s_fpoly_Gcd fu) := sg (fu := fu) ⟨[], [], [], [], []⟩ Tryz.func127 (cC (g_fpoly_Bezout fu) <| cN) (by kernel_rfl) fun x => by kernel_rfl
def s_fpoly_Mul (fu : Nat) : Sig := ⟨128, [.d (.l .i), .d (.l .i), .d .i], [.own .i 3, .d .i], fun x => M_fpoly_Mul fu x.1 x.2.1 x.2.2.1, 0⟩
theorem g_fpoly_Mul (fu : Nat) : SigOK Tryz.prog (s_fpoly_Mul fu) := sg (fu := fu) ⟨[], [], [], [], []⟩ Tryz.func128 (cC (g_fpoly_plain fu) <| cC (g_fp_Check fu) <| cC (g_fpoly_product fu) <| cN) (by kernel_rfl) fun x => by kernel_rfl
def s_fpoly_Sub (fu : Nat) : Sig := ⟨185, [.d (.l .i), .d (.l .i), .d .i], [.own .i 3, .d .i], fun x => M_fpoly_Sub fu x.1 x.2.1 x.2.2.1, 0⟩
theorem g_fpoly_Sub (fu : Nat) : SigOK Tryz.prog (s_fpoly_Sub fu) := sg (fu := fu) ⟨[], [], [], [], []⟩ Tryz.func185 (cC (g_fpoly_plain fu) <| cC (g_fpoly_sum fu) <| cC (g_fp_Check fu) <| cN) (by kernel_rfl) fun x => by kernel_rfl
def s_hensel_equal (fu : Nat) : Sig := ⟨130, [.d (.l .i), .d (.l .i), .d .i], [.d .b], fun x => M_hensel_equal fu x.1 x.2.1 x.2.2.1, 0⟩
theorem g_hensel_equal (fu : Nat) : SigOK Tryz.prog (s_hensel_equal fu) := sg (fu := fu) ⟨[], [], [], [], []⟩ Tryz.func130 (cC (g_fpoly_Sub fu) <| cN) (by kernel_rfl) fun x => by kernel_rfl
def s_hensel_plain (fu : Nat) : Sig := ⟨126, [.d (.l .i), .d .i], [.d .b], fun x => M_hensel_plain fu x.1 x.2.1, 0⟩
theorem g_hensel_plain (fu : Nat) : SigOK Tryz.prog (s_hensel_plain fu) := sg (fu := fu) ⟨[], [], [(2, ⟨⟨[(9, .d .i)], []⟩, ⟨[], [(.x 0, ⟨[], []⟩), (.r, ⟨[], [(4, .kb false)]⟩)]⟩⟩)], [], []⟩ Tryz.func126 (cN) (by kernel_rfl) fun x => by kernel_rfl
def s_hensel_product (fu : Nat) : Sig := ⟨129, [.d (.l (.l .i)), .d .i], [.own .i 3], fun x => M_hensel_product fu x.1 x.2.1, 0⟩
theorem g_hensel_product (fu : Nat) : SigOK Tryz.prog (s_hensel_product fu) := sg (fu := fu) ⟨[], [], [(3, ⟨⟨[(5, .own .i 3), (11, .d .i)], []⟩, ⟨[], [(.x 0, ⟨[(5, .own .i 3)], []⟩)]⟩⟩)], [], []⟩ Tryz.func129 (cC (g_fpoly_Mul fu) <| cN) (by kernel_rfl) fun x => by kernel_rfl
def s_zint_Small (fu : Nat) : Sig := ⟨154, [.d (.p .b (.l .u))], [.d .i, .d .b], fun x => M_zint_Small fu x.1, 0⟩
theorem g_zint_Small (fu : Nat) : SigOK Tryz.prog (s_zint_Small fu) := sg (fu := fu) ⟨[1], [(196612, ⟨[1], [(.n, ⟨[(6, .d .b)], []⟩)]⟩), (327686, ⟨[1], [(.n, ⟨[(11, .d .b)], []⟩)]⟩), (458760, ⟨[1], [(.n, ⟨[(16, .d .b)], []⟩)]⟩)], [], [], []⟩ Tryz.func154 (cC (g_zint_Norm fu) <| cN) (by kernel_rfl) fun x => by kernel_rfl
def s_prime_Mod (fu : Nat) : Sig := ⟨99, [.d (.p .b (.l .u)), .d .i], [.d .i, .d .i], fun x => M_prime_Mod fu x.1 x.2.1, 0⟩
theorem g_prime_Mod (fu : Nat) : SigOK Tryz.prog (s_prime_Mod fu) := sg (fu := fu) ⟨[], [], [], [(1, [])], []⟩ Tryz.func99 (cC (g_zint_Of fu) <| cC (g_zint_Small fu) <| cC (g_prime_Rest fu) <| cN) (by kernel_rfl) fun x => by kernel_rfl
def s_zpoly_Mod_1 (fu : Nat) : Sig := ⟨98, [.d .i, .d (.p .b (.l .u)), .q .i], [.d .i], fun x => M_zpoly_Mod_1 fu x.1 x.2.1 x.2.2.1, 0⟩
theorem g_zpoly_Mod_1 (fu : Nat) : SigOK Tryz.prog (s_zpoly_Mod_1 fu) := sg (fu := fu) ⟨[], [], [], [], []⟩ Tryz.func98 (cC (g_prime_Mod fu) <| cN) (by kernel_rfl) fun x => by kernel_rfl
def s_zpoly_each_api_Int_int (fu : Nat) : Sig := ⟨97, [.d (.l (.p .b (.l .u))), .fn [.i, (.p .b (.l .u))] [.i]], [.own .i 3], fun x => M_zpoly_each_api_Int_int fu x.1 (fun z0 z1 => x.2.1 (z0, z1, ())), 0⟩
theorem g_zpoly_each_api_Int_int (fu : Nat) : SigOK Tryz.prog (s_zpoly_each_api_Int_int fu) := sg (fu := fu) ⟨[], [(262149, ⟨[5], [(.n, ⟨[(11, .d (.l (.p .b (.l .u)))), (12, .d .i), (14, .d .b)], []⟩)]⟩)], [(3, ⟨⟨[(13, .d .i), (5, .own .i 3)], []⟩, ⟨[], [(.x 0, ⟨[(5, .own .i 3)], []⟩)]⟩⟩)], [], []⟩ Tryz.func97 (cN) (by kernel_rfl) fun x => by kernel_rfl
def s_zpoly_Mod (fu : Nat) : Sig := ⟨31, [.d (.l (.p .b (.l .u))), .d .i], [.own .i 3, .d .i], fun x => M_zpoly_Mod fu x.1 x.2.1, 0⟩
theorem g_zpoly_Mod (fu : Nat) : SigOK Tryz.prog (s_zpoly_Mod fu) := sg (fu := fu) ⟨[], [], [(4, ⟨⟨[(6, .own .i 3)], []⟩, ⟨[], [(.x 0, ⟨[(6, .own .i 3)], []⟩)]⟩⟩)], [], []⟩ Tryz.func31 (cC (g_zpoly_each_api_Int_int fu) <| cC (g_zpoly_Mod_1 fu) <| cN) (by kernel_rfl) fun x => by kernel_rfl
def s_hensel_right (fu : Nat) : Sig := ⟨65, [.d (.l (.p .b (.l .u))), .d (.l (.l .i)), .d .i], [.d .b], fun x => M_hensel_right fu x.1 x.2.1 x.2.2.1, 0⟩
theorem g_hensel_right (fu : Nat) : SigOK Tryz.prog (s_hensel_right fu) := sg (fu := fu) ⟨[], [(393223, ⟨[7], [(.n, ⟨[(0, .d (.l (.p .b (.l .u)))), (1, .d (.l (.l .i))), (2, .d .i), (40, .d (.l (.l .i))), (41, .d .i), (43, .d .b)], []⟩)]⟩)], [(5, ⟨⟨[(42, .d .i), (7, .own .i 3)], []⟩, ⟨[], [(.x 0, ⟨[(7, .own .i 3)], []⟩), (.r, ⟨[], [(6, .kb false)]⟩)]⟩⟩), (10, ⟨⟨[(62, .d .i)], []⟩, ⟨[7], [(.x 2, ⟨[], []⟩), (.r, ⟨[], [(6, .kb false)]⟩)]⟩⟩)], [], []⟩ Tryz.func65 (cC (g_fpoly_Mul fu) <| cC (g_hensel_product fu) <| cC (g_hensel_equal fu) <| cC (g_zpoly_Mod fu) <| cC (g_hensel_plain fu) <| cC (g_fpoly_Gcd fu) <| cN) (by kernel_rfl) fun x => by kernel_rfl
def s_zint_Add (fu : Nat) : Sig := ⟨104, [.d (.p .b (.l .u)), .d (.p .b (.l .u))], [.d (.p .b (.l .u))], fun x => M_zint_Add fu x.1 x.2.1, 0⟩
theorem g_zint_Add (fu : Nat) : SigOK Tryz.prog (s_zint_Add fu) := sg (fu := fu) ⟨[2, 3], [(262150, ⟨[4], [(.n, ⟨[(2, .var (.p .b (.l .u)) 25), (3, .var (.p .b (.l .u)) 25)], []⟩)]⟩)], [], [], []⟩ Tryz.func104 (cC (g_zint_made fu) <| cC (g_nat_Add fu) <| cC (g_nat_Cmp fu) <| cC (g_nat_Sub fu) <| cN) (by kernel_rfl) fun x => by kernel_rfl
def s_zint_Neg (fu : Nat) : Sig := ⟨155, [.d (.p .b (.l .u))], [.d (.p .b (.l .u))], fun x => M_zint_Neg fu x.1, 0⟩
theorem g_zint_Neg (fu : Nat) : SigOK Tryz.prog (s_zint_Neg fu) := sg (fu := fu) ⟨[], [], [], [], []⟩ Tryz.func155 (cC (g_zint_made fu) <| cN) (by kernel_rfl) fun x => by kernel_rfl
def s_zint_Sub (fu : Nat) : Sig := ⟨100, [.d (.p .b (.l .u)), .d (.p .b (.l .u))], [.d (.p .b (.l .u))], fun x => M_zint_Sub fu x.1 x.2.1, 0⟩
theorem g_zint_Sub (fu : Nat) : SigOK Tryz.prog (s_zint_Sub fu) := sg (fu := fu) ⟨[], [], [], [], []⟩ Tryz.func100 (cC (g_zint_Add fu) <| cC (g_zint_Neg fu) <| cN) (by kernel_rfl) fun x => by kernel_rfl
def s_hensel_divided (fu : Nat) : Sig := ⟨102, [.d (.l (.p .b (.l .u))), .d (.l (.p .b (.l .u))), .d (.p .b (.l .u))], [.d (.l (.p .b (.l .u))), .own (.p .b (.l .u)) 25], fun x => M_hensel_divided fu x.1 x.2.1 x.2.2.1, 0⟩
theorem g_hensel_divided (fu : Nat) : SigOK Tryz.prog (s_hensel_divided fu) := sg (fu := fu) ⟨[], [(589834, ⟨[8, 9], [(.n, ⟨[(10, .d .i), (47, .d (.l (.p .b (.l .u)))), (48, .d .i), (50, .d .b)], []⟩)]⟩)], [(4, ⟨⟨[(10, .d .i), (8, .own (.p .b (.l .u)) 25), (9, .own (.p .b (.l .u)) 25)], []⟩, ⟨[], [(.x 0, ⟨[(8, .own (.p .b (.l .u)) 25), (9, .own (.p .b (.l .u)) 25)], []⟩)]⟩⟩), (8, ⟨⟨[(1, .d (.l (.p .b (.l .u)))), (5, .q (.p .b (.l .u))), (49, .d .i), (8, .own (.p .b (.l .u)) 25), (9, .own (.p .b (.l .u)) 25)], []⟩, ⟨[], [(.x 2, ⟨[(1, .d (.l (.p .b (.l .u)))), (5, .q (.p .b (.l .u))), (8, .own (.p .b (.l .u)) 25), (9, .own (.p .b (.l .u)) 25)], []⟩)]⟩⟩)], [(6, [])], []⟩ Tryz.func102 (cC (g_hensel_red fu) <| cC (g_zint_Sub fu) <| cC (g_zint_Mul fu) <| cC (g_prime_Rest fu) <| cN) (by kernel_rfl) fun x => by kernel_rfl
def s_zpoly_Add_1 (fu : Nat) : Sig := ⟨103, [.d .i, .d (.p .b (.l .u)), .q (.l (.p .b (.l .u)))], [.d (.p .b (.l .u))], fun x => M_zpoly_Add_1 fu x.1 x.2.1 x.2.2.1, 0⟩
theorem g_zpoly_Add_1 (fu : Nat) : SigOK Tryz.prog (s_zpoly_Add_1 fu) := sg (fu := fu) ⟨[], [], [], [], []⟩ Tryz.func103 (cC (g_zint_Add fu) <| cN) (by kernel_rfl) fun x => by kernel_rfl
def s_zpoly_Add (fu : Nat) : Sig := ⟨38, [.d (.l (.p .b (.l .u))), .d (.l (.p .b (.l .u)))], [.own (.p .b (.l .u)) 25], fun x => M_zpoly_Add fu x.1 x.2.1, 0⟩
theorem g_zpoly_Add (fu : Nat) : SigOK Tryz.prog (s_zpoly_Add fu) := sg (fu := fu) ⟨[3], [], [], [], []⟩ Tryz.func38 (cC (g_zpoly_Norm fu) <| cC (g_zpoly_each_api_Int_api_Int fu) <| cC (g_zpoly_Add_1 fu) <| cN) (by kernel_rfl) fun x => by kernel_rfl
def s_zpoly_Mul (fu : Nat) : Sig := ⟨39, [.d (.l (.p .b (.l .u))), .d (.l (.p .b (.l .u)))], [.own (.p .b (.l .u)) 25], fun x => M_zpoly_Mul fu x.1 x.2.1, 0⟩
theorem g_zpoly_Mul (fu : Nat) : SigOK Tryz.prog (s_zpoly_Mul fu) := sg (fu := fu) ⟨[], [(262149, ⟨[5], [(.n, ⟨[(1, .d (.l (.p .b (.l .u)))), (16, .d (.l (.p .b (.l .u)))), (17, .d .i), (19, .d .b)], []⟩)]⟩), (458760, ⟨[5, 7], [(.n, ⟨[(1, .d (.l (.p .b (.l .u)))), (6, .d .i), (16, .d (.l (.p .b (.l .u)))), (17, .d .i), (18, .d .i), (23, .d (.l (.p .b (.l .u)))), (24, .d .i), (26, .d .b)], []⟩)]⟩)], [(3, ⟨⟨[(18, .d .i), (5, .own (.p .b (.l .u)) 25)], []⟩, ⟨[], [(.x 0, ⟨[(5, .own (.p .b (.l .u)) 25)], []⟩)]⟩⟩), (6, ⟨⟨[(25, .d .i), (5, .own (.p .b (.l .u)) 25), (7, .var (.p .b (.l .u)) 25)], []⟩, ⟨[], [(.x 2, ⟨[(5, .own (.p .b (.l .u)) 25)], []⟩)]⟩⟩)], [], []⟩ Tryz.func39 (cC (g_zint_Add fu) <| cC (g_zint_Mul fu) <| cC (g_zpoly_Norm fu) <| cN) (by kernel_rfl) fun x => by kernel_rfl
def s_zpoly_Lift_1 (fu : Nat) : Sig := ⟨170, [.d .i, .d .i], [.d (.p .b (.l .u))], fun x => M_zpoly_Lift_1 fu x.1 x.2.1, 0⟩
theorem g_zpoly_Lift_1 (fu : Nat) : SigOK Tryz.prog (s_zpoly_Lift_1 fu) := sg (fu := fu) ⟨[], [], [], [], []⟩ Tryz.func170 (cC (g_zint_Of fu) <| cN) (by kernel_rfl) fun x => by kernel_rfl
def s_zpoly_each_int_api_Int (fu : Nat) : Sig := ⟨169, [.d (.l .i), .fn [.i, .i] [(.p .b (.l .u))]], [.own (.p .b (.l .u)) 25], fun x => M_zpoly_each_int_api_Int fu x.1 (fun z0 z1 => x.2.1 (z0, z1, ())), 0⟩
theorem g_zpoly_each_int_api_Int (fu : Nat) : SigOK Tryz.prog (s_zpoly_each_int_api_Int fu) := sg (fu := fu) ⟨[], [], [(3, ⟨⟨[(13, .d .i), (5, .own (.p .b (.l .u)) 25)], []⟩, ⟨[], [(.x 0, ⟨[(5, .own (.p .b (.l .u)) 25)], []⟩)]⟩⟩)], [], []⟩ Tryz.func169 (cN) (by kernel_rfl) fun x => by kernel_rfl
def s_zpoly_Lift (fu : Nat) : Sig := ⟨114, [.d (.l .i)], [.own (.p .b (.l .u)) 25], fun x => M_zpoly_Lift fu x.1, 0⟩
theorem g_zpoly_Lift (fu : Nat) : SigOK Tryz.prog (s_zpoly_Lift fu) := sg (fu := fu) ⟨[], [], [], [], []⟩ Tryz.func114 (cC (g_zpoly_each_int_api_Int fu) <| cC (g_zpoly_Lift_1 fu) <| cC (g_zpoly_Norm fu) <| cN) (by kernel_rfl) fun x => by kernel_rfl
def s_zpoly_Of (fu : Nat) : Sig := ⟨50, [.d (.l .i)], [.own (.p .b (.l .u)) 25], fun x => M_zpoly_Of fu x.1, 0⟩
theorem g_zpoly_Of (fu : Nat) : SigOK Tryz.prog (s_zpoly_Of fu) := sg (fu := fu) ⟨[], [], [], [], []⟩ Tryz.func50 (cC (g_zpoly_Lift fu) <| cN) (by kernel_rfl) fun x => by kernel_rfl
def s_zpoly_Scale_1 (fu : Nat) : Sig := ⟨238, [.d .i, .d (.p .b (.l .u)), .q (.p .b (.l .u))], [.d (.p .b (.l .u))], fun x => M_zpoly_Scale_1 fu x.1 x.2.1 x.2.2.1, 0⟩
theorem g_zpoly_Scale_1 (fu : Nat) : SigOK Tryz.prog (s_zpoly_Scale_1 fu) := sg (fu := fu) ⟨[], [], [], [], []⟩ Tryz.func238 (cC (g_zint_Mul fu) <| cN) (by kernel_rfl) fun x => by kernel_rfl
def s_zpoly_Scale (fu : Nat) : Sig := ⟨187, [.d (.l (.p .b (.l .u))), .d (.p .b (.l .u))], [.own (.p .b (.l .u)) 25], fun x => M_zpoly_Scale fu x.1 x.2.1, 0⟩
theorem g_zpoly_Scale (fu : Nat) : SigOK Tryz.prog (s_zpoly_Scale fu) := sg (fu := fu) ⟨[], [], [], [], []⟩ Tryz.func187 (cC (g_zpoly_each_api_Int_api_Int fu) <| cC (g_zpoly_Scale_1 fu) <| cC (g_zpoly_Norm fu) <| cN) (by kernel_rfl) fun x => by kernel_rfl
def s_zpoly_Sub (fu : Nat) : Sig := ⟨190, [.d (.l (.p .b (.l .u))), .d (.l (.p .b (.l .u)))], [.own (.p .b (.l .u)) 25], fun x => M_zpoly_Sub fu x.1 x.2.1, 0⟩
theorem g_zpoly_Sub (fu : Nat) : SigOK Tryz.prog (s_zpoly_Sub fu) := sg (fu := fu) ⟨[], [], [], [], []⟩ Tryz.func190 (cC (g_zint_Of fu) <| cC (g_zpoly_Scale fu) <| cC (g_zpoly_Add fu) <| cN) (by kernel_rfl) fun x => by kernel_rfl
def s_hensel_pair_up (fu : Nat) : Sig := ⟨133, [.d (.a 4 (.l (.p .b (.l .u)))), .d (.l (.p .b (.l .u))), .d (.p .b (.l .u))], [.d (.a 4 (.l (.p .b (.l .u))))], fun x => M_hensel_pair_up fu x.1 x.2.1 x.2.2.1, 0⟩
theorem g_hensel_pair_up (fu : Nat) : SigOK Tryz.prog (s_hensel_pair_up fu) := sg (fu := fu) ⟨[], [], [], [], []⟩ Tryz.func133 (cC (g_hensel_red fu) <| cC (g_zpoly_Add fu) <| cC (g_hensel_divided fu) <| cC (g_zpoly_Mul fu) <| cC (g_zpoly_Of fu) <| cC (g_zpoly_Sub fu) <| cN) (by kernel_rfl) fun x => by kernel_rfl
def s_zint_line_less (fu : Nat) : Sig := ⟨237, [.d (.p (.p .b (.l .u)) (.p (.p .b (.l .u)) (.p .b (.l .u)))), .d (.p .b (.l .u)), .d (.p (.p .b (.l .u)) (.p (.p .b (.l .u)) (.p .b (.l .u))))], [.d (.p (.p .b (.l .u)) (.p (.p .b (.l .u)) (.p .b (.l .u))))], fun x => M_zint_line_less fu x.1 x.2.1 x.2.2.1, 0⟩
theorem g_zint_line_less (fu : Nat) : SigOK Tryz.prog (s_zint_line_less fu) := sg (fu := fu) ⟨[], [], [], [], []⟩ Tryz.func237 (cC (g_zint_Sub fu) <| cC (g_zint_Mul fu) <| cN) (by kernel_rfl) fun x => by kernel_rfl
def s_zint_Bezout (fu : Nat) : Sig := ⟨186, [.d (.p .b (.l .u)), .d (.p .b (.l .u))], [.d (.p .b (.l .u)), .d (.p .b (.l .u)), .d (.p .b (.l .u))], fun x => M_zint_Bezout fu x.1 x.2.1, 0⟩
theorem g_zint_Bezout (fu : Nat) : SigOK Tryz.prog (s_zint_Bezout fu) := sg (fu := fu) ⟨[], [(393224, ⟨[4, 5, 6], [(.n, ⟨[(7, .var (.p (.p .b (.l .u)) (.p (.p .b (.l .u)) (.p .b (.l .u)))) 190)], []⟩)]⟩), (524298, ⟨[4, 5, 6], [(.n, ⟨[(7, .var (.p (.p .b (.l .u)) (.p (.p .b (.l .u)) (.p .b (.l .u)))) 190)], []⟩)]⟩)], [(2, ⟨⟨[(7, .var (.p (.p .b (.l .u)) (.p (.p .b (.l .u)) (.p .b (.l .u)))) 190), (8, .var (.p (.p .b (.l .u)) (.p (.p .b (.l .u)) (.p .b (.l .u)))) 190)], []⟩, ⟨[4, 5, 6], [(.x 0, ⟨[(7, .var (.p (.p .b (.l .u)) (.p (.p .b (.l .u)) (.p .b (.l .u)))) 190)], []⟩)]⟩⟩)], [(1, []), (9, [])], []⟩ Tryz.func186 (cC (g_zint_Of fu) <| cC (g_zint_Sign fu) <| cC (g_zint_made fu) <| cC (g_zint_Div fu) <| cC (g_zint_line_less fu) <| cC (g_zint_Neg fu) <| cN) (by kernel_rfl) fun x => by kernel_rfl
def s_hensel_one (fu : Nat) : Sig := ⟨131, [.d (.l (.p .b (.l .u))), .d (.p .b (.l .u))], [.own (.p .b (.l .u)) 25], fun x => M_hensel_one fu x.1 x.2.1, 0⟩
theorem g_hensel_one (fu : Nat) : SigOK Tryz.prog (s_hensel_one fu) := sg (fu := fu) ⟨[], [], [], [(1, [])], []⟩ Tryz.func131 (cC (g_hensel_red fu) <| cC (g_zint_Bezout fu) <| cC (g_zpoly_Scale fu) <| cN) (by kernel_rfl) fun x => by kernel_rfl
def s_hensel_tree (fu : Nat) : Sig := ⟨66, [.d (.l (.p .b (.l .u))), .d (.l (.l .i)), .d .i, .d .i, .d (.p .b (.l .u))], [.own (.l (.p .b (.l .u))) 31], fun x => M_hensel_tree fu x.1 x.2.1 x.2.2.1 x.2.2.2.1 x.2.2.2.2.1, 0⟩
theorem g_hensel_tree : ∀ fu : Nat, SigOK Tryz.prog (s_hensel_tree fu)
  | 0 => sg0 (by kernel_rfl) fun _ => rfl
  | fu + 1 => sg (fu := fu) ⟨[], [], [(10, ⟨⟨[(22, .d .i), (21, .var (.a 4 (.l (.p .b (.l .u)))) 125)], []⟩, ⟨[], [(.x 0, ⟨[(21, .var (.a 4 (.l (.p .b (.l .u)))) 125)], []⟩)]⟩⟩)], [(14, [])], []⟩ Tryz.func66 (cC (g_fpoly_Mul fu) <| cC (g_hensel_product fu) <| cC (g_hensel_tree fu) <| cC (g_hensel_one fu) <| cC (g_fpoly_Bezout fu) <| cC (g_hensel_pair_up fu) <| cC (g_hensel_Power fu) <| cC (g_zpoly_Lift fu) <| cC (g_zpoly_Mod fu) <| cN) (by kernel_rfl) fun x => by kernel_rfl
def s_hensel_Lift (fu : Nat) : Sig := ⟨19, [.d (.l (.p .b (.l .u))), .d (.l (.l .i)), .d .i, .d .i], [.own (.l (.p .b (.l .u))) 31, .d .i], fun x => M_hensel_Lift fu x.1 x.2.1 x.2.2.1 x.2.2.2.1, 0⟩
theorem g_hensel_Lift (fu : Nat) : SigOK Tryz.prog (s_hensel_Lift fu) := sg (fu := fu) ⟨[], [], [], [], []⟩ Tryz.func19 (cC (g_hensel_right fu) <| cC (g_hensel_tree fu) <| cC (g_hensel_red fu) <| cC (g_hensel_Power fu) <| cC (g_zpoly_Norm fu) <| cN) (by kernel_rfl) fun x => by kernel_rfl
def s_law13_awake (fu : Nat) : Sig := ⟨12, [], [.d .b], fun x => M_law13_awake fu , 0⟩
theorem g_law13_awake (fu : Nat) : SigOK Tryz.prog (s_law13_awake fu) := sg (fu := fu) ⟨[], [], [], [], []⟩ Tryz.func12 (cC (g_ref10_Of fu) <| cC (g_zpoly_Of fu) <| cC (g_hensel_Lift fu) <| cC (g_ref13_Same fu) <| cN) (by kernel_rfl) fun x => by kernel_rfl
def s_ref01_Bits (fu : Nat) : Sig := ⟨124, [.d (.l .u)], [.d .i], fun x => M_ref01_Bits fu x.1, 0⟩
theorem g_ref01_Bits (fu : Nat) : SigOK Tryz.prog (s_ref01_Bits fu) := sg (fu := fu) ⟨[], [], [(6, ⟨⟨[(4, .d .i), (5, .d .u)], []⟩, ⟨[3], [(.x 0, ⟨[(4, .d .i)], []⟩)]⟩⟩)], [], []⟩ Tryz.func124 (cC (g_ref01_Norm fu) <| cN) (by kernel_rfl) fun x => by kernel_rfl
def s_ref01_cut (fu : Nat) : Sig := ⟨241, [.d (.l .u)], [.d (.l .u)], fun x => M_ref01_cut fu x.1, 0⟩
theorem g_ref01_cut (fu : Nat) : SigOK Tryz.prog (s_ref01_cut fu) := sg (fu := fu) ⟨[], [], [(2, ⟨⟨[(3, .d .i)], []⟩, ⟨[], [(.x 0, ⟨[(3, .d .i)], []⟩)]⟩⟩)], [], []⟩ Tryz.func241 (cN) (by kernel_rfl) fun x => by kernel_rfl
def s_ref01_digits (fu : Nat) : Sig := ⟨191, [.d (.l .u)], [.d (.l .u)], fun x => M_ref01_digits fu x.1, 0⟩
theorem g_ref01_digits (fu : Nat) : SigOK Tryz.prog (s_ref01_digits fu) := sg (fu := fu) ⟨[], [], [(3, ⟨⟨[(3, .own .u 102), (4, .d .i)], []⟩, ⟨[], [(.x 0, ⟨[(3, .own .u 102)], []⟩)]⟩⟩)], [], []⟩ Tryz.func191 (cC (g_ref01_cut fu) <| cN) (by kernel_rfl) fun x => by kernel_rfl
def s_ref01_limbs (fu : Nat) : Sig := ⟨192, [.d (.l .u)], [.own .u 102], fun x => M_ref01_limbs fu x.1, 0⟩
theorem g_ref01_limbs (fu : Nat) : SigOK Tryz.prog (s_ref01_limbs fu) := sg (fu := fu) ⟨[], [], [(3, ⟨⟨[(3, .own .u 102), (4, .d .i)], []⟩, ⟨[], [(.x 0, ⟨[(3, .own .u 102)], []⟩)]⟩⟩)], [], []⟩ Tryz.func192 (cC (g_ref01_Norm fu) <| cN) (by kernel_rfl) fun x => by kernel_rfl
def s_ref01_Mul (fu : Nat) : Sig := ⟨136, [.d (.l .u), .d (.l .u)], [.own .u 102], fun x => M_ref01_Mul fu x.1 x.2.1, 0⟩
theorem g_ref01_Mul (fu : Nat) : SigOK Tryz.prog (s_ref01_Mul fu) := sg (fu := fu) ⟨[], [], [(5, ⟨⟨[(8, .d .i), (7, .own .u 102)], []⟩, ⟨[], [(.x 0, ⟨[(7, .own .u 102)], []⟩)]⟩⟩), (9, ⟨⟨[(5, .d (.l .u)), (6, .d (.l .u)), (9, .d .u), (10, .d .i), (7, .own .u 102)], []⟩, ⟨[], [(.x 2, ⟨[(5, .d (.l .u)), (6, .d (.l .u)), (9, .d .u), (7, .own .u 102)], []⟩)]⟩⟩)], [], []⟩ Tryz.func136 (cC (g_ref01_limbs fu) <| cC (g_ref01_digits fu) <| cN) (by kernel_rfl) fun x => by kernel_rfl
def s_ref02_Mul (fu : Nat) : Sig := ⟨76, [.d (.p .b (.l .u)), .d (.p .b (.l .u))], [.d (.p .b (.l .u))], fun x => M_ref02_Mul fu x.1 x.2.1, 0⟩
theorem g_ref02_Mul (fu : Nat) : SigOK Tryz.prog (s_ref02_Mul fu) := sg (fu := fu) ⟨[], [], [], [], []⟩ Tryz.func76 (cC (g_ref01_Mul fu) <| cC (g_ref02_Norm fu) <| cN) (by kernel_rfl) fun x => by kernel_rfl
def s_ref02_Pow (fu : Nat) : Sig := ⟨60, [.d (.p .b (.l .u)), .d .i], [.d (.p .b (.l .u)), .d .i], fun x => M_ref02_Pow fu x.1 x.2.1, 0⟩
theorem g_ref02_Pow (fu : Nat) : SigOK Tryz.prog (s_ref02_Pow fu) := sg (fu := fu) ⟨[], [(458761, ⟨[4, 6], [(.n, ⟨[(1, .d .i)], []⟩)]⟩)], [(9, ⟨⟨[(7, .d .i), (6, .var (.p .b (.l .u)) 25)], []⟩, ⟨[4], [(.x 0, ⟨[(6, .var (.p .b (.l .u)) 25)], []⟩)]⟩⟩)], [], []⟩ Tryz.func60 (cC (g_ref01_Bits fu) <| cC (g_ref02_Of fu) <| cC (g_ref02_Mul fu) <| cN) (by kernel_rfl) fun x => by kernel_rfl
def s_ref04_Is (fu : Nat) : Sig := ⟨59, [.d .i], [.d .b], fun x => M_ref04_Is fu x.1, 0⟩
theorem g_ref04_Is (fu : Nat) : SigOK Tryz.prog (s_ref04_Is fu) := sg (fu := fu) ⟨[], [], [(4, ⟨⟨[(3, .d .i)], []⟩, ⟨[], [(.x 0, ⟨[], []⟩), (.r, ⟨[], [(2, .kb false)]⟩)]⟩⟩)], [], []⟩ Tryz.func59 (cN) (by kernel_rfl) fun x => by kernel_rfl
def s_ref13_Power (fu : Nat) : Sig := ⟨14, [.d .i, .d .i], [.d (.p .b (.l .u)), .d .i], fun x => M_ref13_Power fu x.1 x.2.1, 0⟩
theorem g_ref13_Power (fu : Nat) : SigOK Tryz.prog (s_ref13_Power fu) := sg (fu := fu) ⟨[], [], [], [], []⟩ Tryz.func14 (cC (g_ref04_Is fu) <| cC (g_ref02_Pow fu) <| cC (g_ref02_Of fu) <| cN) (by kernel_rfl) fun x => by kernel_rfl
def s_law13_small (fu : Nat) : Sig := ⟨16, [.d .i, .d .i, .d (.l (.l (.p .b (.l .u))))], [.d .b], fun x => M_law13_small fu x.1 x.2.1 x.2.2.1, 0⟩
theorem g_law13_small (fu : Nat) : SigOK Tryz.prog (s_law13_small fu) := sg (fu := fu) ⟨[], [], [(2, ⟨⟨[(7, .d .i)], []⟩, ⟨[], [(.x 0, ⟨[], []⟩), (.r, ⟨[], [(6, .kb false)]⟩)]⟩⟩), (7, ⟨⟨[(0, .d .i), (1, .d .i), (2, .d (.l (.l (.p .b (.l .u))))), (8, .d .i)], []⟩, ⟨[], [(.x 2, ⟨[(0, .d .i), (1, .d .i), (2, .d (.l (.l (.p .b (.l .u)))))], []⟩), (.r, ⟨[], [(6, .kb false)]⟩)]⟩⟩)], [], []⟩ Tryz.func16 (cN) (by kernel_rfl) fun x => by kernel_rfl
def s_ref01_at (fu : Nat) : Sig := ⟨207, [.d (.l .u), .d .i], [.d .u], fun x => M_ref01_at fu x.1 x.2.1, 0⟩
theorem g_ref01_at (fu : Nat) : SigOK Tryz.prog (s_ref01_at fu) := sg (fu := fu) ⟨[], [], [], [], []⟩ Tryz.func207 (cN) (by kernel_rfl) fun x => by kernel_rfl
def s_ref01_Add (fu : Nat) : Sig := ⟨151, [.d (.l .u), .d (.l .u)], [.own .u 102], fun x => M_ref01_Add fu x.1 x.2.1, 0⟩
theorem g_ref01_Add (fu : Nat) : SigOK Tryz.prog (s_ref01_Add fu) := sg (fu := fu) ⟨[], [], [(6, ⟨⟨[(7, .own .u 102), (8, .d .u), (9, .d .i)], []⟩, ⟨[], [(.x 0, ⟨[(7, .own .u 102)], []⟩)]⟩⟩)], [], []⟩ Tryz.func151 (cC (g_ref01_limbs fu) <| cC (g_ref01_at fu) <| cC (g_ref01_digits fu) <| cN) (by kernel_rfl) fun x => by kernel_rfl
def s_ref01_compare (fu : Nat) : Sig := ⟨208, [.d (.l .u), .d (.l .u)], [.d .i], fun x => M_ref01_compare fu x.1 x.2.1, 0⟩
theorem g_ref01_compare (fu : Nat) : SigOK Tryz.prog (s_ref01_compare fu) := sg (fu := fu) ⟨[], [], [(2, ⟨⟨[(5, .d .i)], []⟩, ⟨[], [(.x 0, ⟨[], []⟩), (.r, ⟨[(4, .d .i)], []⟩)]⟩⟩)], [], []⟩ Tryz.func208 (cC (g_ref01_at fu) <| cN) (by kernel_rfl) fun x => by kernel_rfl
def s_ref01_less (fu : Nat) : Sig := ⟨209, [.d (.l .u), .d (.l .u)], [.d (.l .u)], fun x => M_ref01_less fu x.1 x.2.1, 0⟩
theorem g_ref01_less (fu : Nat) : SigOK Tryz.prog (s_ref01_less fu) := sg (fu := fu) ⟨[], [], [(4, ⟨⟨[(5, .own .u 102), (6, .d .u), (7, .d .i)], []⟩, ⟨[], [(.x 0, ⟨[(5, .own .u 102)], []⟩)]⟩⟩)], [], []⟩ Tryz.func209 (cC (g_ref01_cut fu) <| cC (g_ref01_at fu) <| cN) (by kernel_rfl) fun x => by kernel_rfl
def s_ref01_Sub (fu : Nat) : Sig := ⟨152, [.d (.l .u), .d (.l .u)], [.own .u 102, .d .i], fun x => M_ref01_Sub fu x.1 x.2.1, 0⟩
theorem g_ref01_Sub (fu : Nat) : SigOK Tryz.prog (s_ref01_Sub fu) := sg (fu := fu) ⟨[], [], [], [], []⟩ Tryz.func152 (cC (g_ref01_compare fu) <| cC (g_ref01_less fu) <| cC (g_ref01_limbs fu) <| cC (g_ref01_digits fu) <| cN) (by kernel_rfl) fun x => by kernel_rfl
def s_ref02_Add (fu : Nat) : Sig := ⟨90, [.d (.p .b (.l .u)), .d (.p .b (.l .u))], [.d (.p .b (.l .u))], fun x => M_ref02_Add fu x.1 x.2.1, 0⟩
theorem g_ref02_Add (fu : Nat) : SigOK Tryz.prog (s_ref02_Add fu) := sg (fu := fu) ⟨[], [], [], [], []⟩ Tryz.func90 (cC (g_ref02_Norm fu) <| cC (g_ref01_Sub fu) <| cC (g_ref01_Add fu) <| cN) (by kernel_rfl) fun x => by kernel_rfl
def s_ref10_At (fu : Nat) : Sig := ⟨135, [.d (.l (.p .b (.l .u))), .d .i], [.d (.p .b (.l .u))], fun x => M_ref10_At fu x.1 x.2.1, 0⟩
theorem g_ref10_At (fu : Nat) : SigOK Tryz.prog (s_ref10_At fu) := sg (fu := fu) ⟨[], [], [], [], []⟩ Tryz.func135 (cN) (by kernel_rfl) fun x => by kernel_rfl
def s_ref10_Add (fu : Nat) : Sig := ⟨75, [.d (.l (.p .b (.l .u))), .d (.l (.p .b (.l .u)))], [.own (.p .b (.l .u)) 25], fun x => M_ref10_Add fu x.1 x.2.1, 0⟩
theorem g_ref10_Add (fu : Nat) : SigOK Tryz.prog (s_ref10_Add fu) := sg (fu := fu) ⟨[], [], [(3, ⟨⟨[(5, .own (.p .b (.l .u)) 25), (6, .d .i)], []⟩, ⟨[], [(.x 0, ⟨[(5, .own (.p .b (.l .u)) 25)], []⟩)]⟩⟩)], [], []⟩ Tryz.func75 (cC (g_ref10_Norm fu) <| cC (g_ref02_Add fu) <| cC (g_ref10_At fu) <| cN) (by kernel_rfl) fun x => by kernel_rfl
def s_ref10_Mul (fu : Nat) : Sig := ⟨108, [.d (.l (.p .b (.l .u))), .d (.l (.p .b (.l .u)))], [.own (.p .b (.l .u)) 25], fun x => M_ref10_Mul fu x.1 x.2.1, 0⟩
theorem g_ref10_Mul (fu : Nat) : SigOK Tryz.prog (s_ref10_Mul fu) := sg (fu := fu) ⟨[], [], [(3, ⟨⟨[(6, .d .i), (5, .own (.p .b (.l .u)) 25)], []⟩, ⟨[], [(.x 0, ⟨[(5, .own (.p .b (.l .u)) 25)], []⟩)]⟩⟩), (6, ⟨⟨[(0, .d (.l (.p .b (.l .u)))), (1, .d (.l (.p .b (.l .u)))), (7, .d .i), (5, .own (.p .b (.l .u)) 25)], []⟩, ⟨[], [(.x 2, ⟨[(0, .d (.l (.p .b (.l .u)))), (1, .d (.l (.p .b (.l .u)))), (5, .own (.p .b (.l .u)) 25)], []⟩)]⟩⟩)], [], []⟩ Tryz.func108 (cC (g_ref10_Norm fu) <| cC (g_ref02_Add fu) <| cC (g_ref02_Mul fu) <| cN) (by kernel_rfl) fun x => by kernel_rfl
def s_ref10_Scale (fu : Nat) : Sig := ⟨73, [.d (.l (.p .b (.l .u))), .d (.p .b (.l .u))], [.own (.p .b (.l .u)) 25], fun x => M_ref10_Scale fu x.1 x.2.1, 0⟩
theorem g_ref10_Scale (fu : Nat) : SigOK Tryz.prog (s_ref10_Scale fu) := sg (fu := fu) ⟨[], [], [(3, ⟨⟨[(5, .own (.p .b (.l .u)) 25), (6, .d .i)], []⟩, ⟨[], [(.x 0, ⟨[(5, .own (.p .b (.l .u)) 25)], []⟩)]⟩⟩)], [], []⟩ Tryz.func73 (cC (g_ref10_Norm fu) <| cC (g_ref02_Mul fu) <| cN) (by kernel_rfl) fun x => by kernel_rfl
def s_ref10_Sub (fu : Nat) : Sig := ⟨72, [.d (.l (.p .b (.l .u))), .d (.l (.p .b (.l .u)))], [.own (.p .b (.l .u)) 25], fun x => M_ref10_Sub fu x.1 x.2.1, 0⟩
theorem g_ref10_Sub (fu : Nat) : SigOK Tryz.prog (s_ref10_Sub fu) := sg (fu := fu) ⟨[], [], [], [], []⟩ Tryz.func72 (cC (g_ref10_Scale fu) <| cC (g_ref10_Add fu) <| cC (g_ref02_Of fu) <| cN) (by kernel_rfl) fun x => by kernel_rfl
def s_ref01_Div (fu : Nat) : Sig := ⟨218, [.d (.l .u), .d (.l .u)], [.own .u 102, .own .u 102, .d .i], fun x => M_ref01_Div fu x.1 x.2.1, 0⟩
theorem g_ref01_Div (fu : Nat) : SigOK Tryz.prog (s_ref01_Div fu) := sg (fu := fu) ⟨[], [(1245204, ⟨[9], [(.n, ⟨[(72, .d .b)], []⟩)]⟩)], [(8, ⟨⟨[(10, .d (.l .u)), (11, .d .i), (9, .own .u 102)], []⟩, ⟨[], [(.x 0, ⟨[(10, .d (.l .u)), (9, .own .u 102)], []⟩)]⟩⟩), (13, ⟨⟨[(7, .d (.l .u)), (8, .d (.l .u)), (12, .own .u 102), (13, .d .u), (14, .d .i)], []⟩, ⟨[9], [(.x 2, ⟨[(7, .d (.l .u)), (8, .d (.l .u)), (12, .own .u 102), (13, .d .u)], []⟩)]⟩⟩)], [], []⟩ Tryz.func218 (cC (g_ref01_limbs fu) <| cC (g_ref01_compare fu) <| cC (g_ref01_cut fu) <| cC (g_ref01_less fu) <| cC (g_ref01_digits fu) <| cN) (by kernel_rfl) fun x => by kernel_rfl
def s_ref02_Div (fu : Nat) : Sig := ⟨160, [.d (.p .b (.l .u)), .d (.p .b (.l .u))], [.d (.p .b (.l .u)), .d (.p .b (.l .u)), .d .i], fun x => M_ref02_Div fu x.1 x.2.1, 0⟩
theorem g_ref02_Div (fu : Nat) : SigOK Tryz.prog (s_ref02_Div fu) := sg (fu := fu) ⟨[], [(327688, ⟨[4, 5], [(.n, ⟨[(7, .own .u 102), (8, .own .u 102)], []⟩)]⟩)], [], [], []⟩ Tryz.func160 (cC (g_ref01_Sub fu) <| cC (g_ref01_Div fu) <| cC (g_ref02_Norm fu) <| cC (g_ref01_Add fu) <| cN) (by kernel_rfl) fun x => by kernel_rfl
def s_ref04_Rest (fu : Nat) : Sig := ⟨105, [.d (.p .b (.l .u)), .d (.p .b (.l .u))], [.d (.p .b (.l .u)), .d .i], fun x => M_ref04_Rest fu x.1 x.2.1, 0⟩
theorem g_ref04_Rest (fu : Nat) : SigOK Tryz.prog (s_ref04_Rest fu) := sg (fu := fu) ⟨[], [], [], [], []⟩ Tryz.func105 (cC (g_ref02_Div fu) <| cC (g_ref02_Sign fu) <| cN) (by kernel_rfl) fun x => by kernel_rfl
def s_law13_few (fu : Nat) : Sig := ⟨18, [.d (.l (.l .i))], [.d .b], fun x => M_law13_few fu x.1, 0⟩
theorem g_law13_few (fu : Nat) : SigOK Tryz.prog (s_law13_few fu) := sg (fu := fu) ⟨[], [], [(4, ⟨⟨[(3, .d .i)], []⟩, ⟨[], [(.x 0, ⟨[], []⟩), (.r, ⟨[], [(2, .kb false)]⟩)]⟩⟩)], [], []⟩ Tryz.func18 (cN) (by kernel_rfl) fun x => by kernel_rfl
def s_ref06_Same (fu : Nat) : Sig := ⟨32, [.d (.l .i), .d (.l .i)], [.d .b], fun x => M_ref06_Same fu x.1 x.2.1, 0⟩
theorem g_ref06_Same (fu : Nat) : SigOK Tryz.prog (s_ref06_Same fu) := sg (fu := fu) ⟨[], [], [(4, ⟨⟨[(5, .d .i)], []⟩, ⟨[], [(.x 0, ⟨[], []⟩), (.r, ⟨[], [(4, .kb false)]⟩)]⟩⟩)], [], []⟩ Tryz.func32 (cN) (by kernel_rfl) fun x => by kernel_rfl
def s_ref02_Exact (fu : Nat) : Sig := ⟨116, [.d (.p .b (.l .u)), .d (.p .b (.l .u))], [.d (.p .b (.l .u)), .d .i], fun x => M_ref02_Exact fu x.1 x.2.1, 0⟩
theorem g_ref02_Exact (fu : Nat) : SigOK Tryz.prog (s_ref02_Exact fu) := sg (fu := fu) ⟨[], [], [], [], []⟩ Tryz.func116 (cC (g_ref02_Div fu) <| cC (g_ref02_Sign fu) <| cN) (by kernel_rfl) fun x => by kernel_rfl
def s_ref10_Div (fu : Nat) : Sig := ⟨52, [.d (.l (.p .b (.l .u))), .d (.l (.p .b (.l .u)))], [.own (.p .b (.l .u)) 25, .d .i], fun x => M_ref10_Div fu x.1 x.2.1, 0⟩
theorem g_ref10_Div (fu : Nat) : SigOK Tryz.prog (s_ref10_Div fu) := sg (fu := fu) ⟨[], [], [(6, ⟨⟨[(6, .d (.l (.p .b (.l .u)))), (7, .own (.p .b (.l .u)) 25), (8, .own (.p .b (.l .u)) 25)], []⟩, ⟨[], [(.x 0, ⟨[(8, .own (.p .b (.l .u)) 25)], []⟩), (.r, ⟨[], [(4, .nil), (5, .ci 4)]⟩)]⟩⟩)], [(8, [])], []⟩ Tryz.func52 (cC (g_ref10_Sub fu) <| cC (g_ref10_Add fu) <| cC (g_ref10_Mul fu) <| cC (g_ref10_Norm fu) <| cC (g_ref02_Exact fu) <| cN) (by kernel_rfl) fun x => by kernel_rfl
def s_ref05_Check (fu : Nat) : Sig := ⟨118, [.d .i], [.d .i], fun x => M_ref05_Check fu x.1, 0⟩
theorem g_ref05_Check (fu : Nat) : SigOK Tryz.prog (s_ref05_Check fu) := sg (fu := fu) ⟨[], [], [], [], []⟩ Tryz.func118 (cC (g_ref04_Is fu) <| cN) (by kernel_rfl) fun x => by kernel_rfl
def s_ref05_Red (fu : Nat) : Sig := ⟨174, [.d .i, .d .i], [.d .i], fun x => M_ref05_Red fu x.1 x.2.1, 0⟩
theorem g_ref05_Red (fu : Nat) : SigOK Tryz.prog (s_ref05_Red fu) := sg (fu := fu) ⟨[], [], [], [], []⟩ Tryz.func174 (cN) (by kernel_rfl) fun x => by kernel_rfl
def s_ref06_Plain (fu : Nat) : Sig := ⟨119, [.d (.l .i), .d .i], [.own .i 3], fun x => M_ref06_Plain fu x.1 x.2.1, 0⟩
theorem g_ref06_Plain (fu : Nat) : SigOK Tryz.prog (s_ref06_Plain fu) := sg (fu := fu) ⟨[], [], [(3, ⟨⟨[(5, .own .i 3), (6, .d .i)], []⟩, ⟨[], [(.x 0, ⟨[(5, .own .i 3)], []⟩)]⟩⟩), (7, ⟨⟨[(7, .d .i)], []⟩, ⟨[5], [(.x 2, ⟨[(7, .d .i)], []⟩)]⟩⟩)], [], []⟩ Tryz.func119 (cC (g_ref05_Red fu) <| cN) (by kernel_rfl) fun x => by kernel_rfl
def s_ref06_Times (fu : Nat) : Sig := ⟨71, [.d (.l .i), .d (.l .i), .d .i], [.own .i 3], fun x => M_ref06_Times fu x.1 x.2.1 x.2.2.1, 0⟩
theorem g_ref06_Times (fu : Nat) : SigOK Tryz.prog (s_ref06_Times fu) := sg (fu := fu) ⟨[], [], [(5, ⟨⟨[(10, .d .i), (7, .own .i 3), (8, .own .i 3), (9, .own .i 3)], []⟩, ⟨[], [(.x 0, ⟨[(9, .own .i 3)], []⟩)]⟩⟩), (8, ⟨⟨[(2, .d .i), (11, .d .i), (9, .own .i 3)], []⟩, ⟨[7, 8], [(.x 2, ⟨[(2, .d .i), (9, .own .i 3)], []⟩)]⟩⟩)], [], []⟩ Tryz.func71 (cC (g_ref06_Plain fu) <| cN) (by kernel_rfl) fun x => by kernel_rfl
def s_ref05_Pow (fu : Nat) : Sig := ⟨175, [.d .i, .d .i, .d .i], [.d .i, .d .i], fun x => M_ref05_Pow fu x.1 x.2.1 x.2.2.1, 0⟩
theorem g_ref05_Pow (fu : Nat) : SigOK Tryz.prog (s_ref05_Pow fu) := sg (fu := fu) ⟨[], [], [(6, ⟨⟨[(8, .d .i), (9, .d .i), (10, .d .i)], []⟩, ⟨[], [(.x 0, ⟨[(8, .d .i)], []⟩)]⟩⟩)], [], []⟩ Tryz.func175 (cC (g_ref05_Red fu) <| cC (g_ref05_Check fu) <| cN) (by kernel_rfl) fun x => by kernel_rfl
def s_ref06_inverse (fu : Nat) : Sig := ⟨120, [.d .i, .d .i], [.d .i], fun x => M_ref06_inverse fu x.1 x.2.1, 0⟩
theorem g_ref06_inverse (fu : Nat) : SigOK Tryz.prog (s_ref06_inverse fu) := sg (fu := fu) ⟨[], [], [], [], []⟩ Tryz.func120 (cC (g_ref05_Pow fu) <| cN) (by kernel_rfl) fun x => by kernel_rfl
def s_ref06_at (fu : Nat) : Sig := ⟨176, [.d (.l .i), .d .i], [.d .i], fun x => M_ref06_at fu x.1 x.2.1, 0⟩
theorem g_ref06_at (fu : Nat) : SigOK Tryz.prog (s_ref06_at fu) := sg (fu := fu) ⟨[], [], [], [], []⟩ Tryz.func176 (cN) (by kernel_rfl) fun x => by kernel_rfl
def s_ref06_Sum (fu : Nat) : Sig := ⟨121, [.d (.l .i), .d (.l .i), .d .i, .d .i], [.own .i 3], fun x => M_ref06_Sum fu x.1 x.2.1 x.2.2.1 x.2.2.2.1, 0⟩
theorem g_ref06_Sum (fu : Nat) : SigOK Tryz.prog (s_ref06_Sum fu) := sg (fu := fu) ⟨[], [], [(5, ⟨⟨[(9, .d (.l .i)), (10, .d (.l .i)), (11, .own .i 3), (12, .d .i)], []⟩, ⟨[], [(.x 0, ⟨[(11, .own .i 3)], []⟩)]⟩⟩)], [], []⟩ Tryz.func121 (cC (g_ref06_at fu) <| cC (g_ref06_Plain fu) <| cN) (by kernel_rfl) fun x => by kernel_rfl
def s_ref06_Div (fu : Nat) : Sig := ⟨54, [.d (.l .i), .d (.l .i), .d .i], [.own .i 3, .own .i 3, .d .i], fun x => M_ref06_Div fu x.1 x.2.1 x.2.2.1, 0⟩
theorem g_ref06_Div (fu : Nat) : SigOK Tryz.prog (s_ref06_Div fu) := sg (fu := fu) ⟨[], [], [(9, ⟨⟨[(10, .own .i 3), (9, .own .i 3), (11, .own .i 3)], []⟩, ⟨[], [(.x 0, ⟨[(10, .own .i 3), (11, .own .i 3)], []⟩)]⟩⟩), (15, ⟨⟨[(2, .d .i), (12, .d .i), (15, .own .i 3), (16, .d .i)], []⟩, ⟨[9, 10, 11], [(.x 2, ⟨[(2, .d .i), (12, .d .i), (15, .own .i 3)], []⟩)]⟩⟩), (19, ⟨⟨[(15, .own .i 3), (17, .d .i)], []⟩, ⟨[9, 10, 11], [(.x 4, ⟨[(15, .own .i 3)], []⟩)]⟩⟩)], [], []⟩ Tryz.func54 (cC (g_ref06_inverse fu) <| cC (g_ref06_Sum fu) <| cC (g_ref05_Check fu) <| cC (g_ref06_Plain fu) <| cN) (by kernel_rfl) fun x => by kernel_rfl
def s_ref06_Bezout (fu : Nat) : Sig := ⟨70, [.d (.l .i), .d (.l .i), .d .i], [.d (.l .i), .d (.l .i), .own .i 3, .d .i], fun x => M_ref06_Bezout fu x.1 x.2.1 x.2.2.1, 0⟩
theorem g_ref06_Bezout (fu : Nat) : SigOK Tryz.prog (s_ref06_Bezout fu) := sg (fu := fu) ⟨[], [], [(5, ⟨⟨[(10, .own (.l .i) 51), (11, .own (.l .i) 51)], []⟩, ⟨[], [(.x 0, ⟨[(10, .own (.l .i) 51)], []⟩)]⟩⟩), (9, ⟨⟨[(2, .d .i), (15, .own (.l .i) 51), (16, .d .i)], []⟩, ⟨[10, 11], [(.x 2, ⟨[(2, .d .i), (15, .own (.l .i) 51)], []⟩)]⟩⟩)], [], []⟩ Tryz.func70 (cC (g_ref06_Times fu) <| cC (g_ref06_Plain fu) <| cC (g_ref06_Div fu) <| cC (g_ref05_Check fu) <| cC (g_ref06_inverse fu) <| cC (g_ref06_Sum fu) <| cN) (by kernel_rfl) fun x => by kernel_rfl
def s_ref06_Gcd (fu : Nat) : Sig := ⟨134, [.d (.l .i), .d (.l .i), .d .i], [.d (.l .i), .d .i], fun x => M_ref06_Gcd fu x.1 x.2.1 x.2.2.1, 0⟩
theorem g_ref06_Gcd (fu : Nat) : SigOK Tryz.prog (s_ref06_Gcd fu) := sg (fu := fu) ⟨[], [], [], [], []⟩ Tryz.func134 (cC (g_ref06_Bezout fu) <| cN) (by kernel_rfl) fun x => by kernel_rfl
def s_ref02_Small (fu : Nat) : Sig := ⟨173, [.d (.p .b (.l .u))], [.d .i, .d .b], fun x => M_ref02_Small fu x.1, 0⟩
theorem g_ref02_Small (fu : Nat) : SigOK Tryz.prog (s_ref02_Small fu) := sg (fu := fu) ⟨[], [], [], [], []⟩ Tryz.func173 (cC (g_ref02_Norm fu) <| cN) (by kernel_rfl) fun x => by kernel_rfl
def s_ref04_Mod (fu : Nat) : Sig := ⟨117, [.d (.p .b (.l .u)), .d .i], [.d .i, .d .i], fun x => M_ref04_Mod fu x.1 x.2.1, 0⟩
theorem g_ref04_Mod (fu : Nat) : SigOK Tryz.prog (s_ref04_Mod fu) := sg (fu := fu) ⟨[], [], [], [(1, [])], []⟩ Tryz.func117 (cC (g_ref04_Rest fu) <| cC (g_ref02_Of fu) <| cC (g_ref02_Small fu) <| cN) (by kernel_rfl) fun x => by kernel_rfl
def s_ref10_Mod (fu : Nat) : Sig := ⟨53, [.d (.l (.p .b (.l .u))), .d .i], [.own .i 3, .d .i], fun x => M_ref10_Mod fu x.1 x.2.1, 0⟩
theorem g_ref10_Mod (fu : Nat) : SigOK Tryz.prog (s_ref10_Mod fu) := sg (fu := fu) ⟨[], [], [(5, ⟨⟨[(6, .own .i 3), (7, .d .i)], []⟩, ⟨[], [(.x 0, ⟨[(6, .own .i 3)], []⟩)]⟩⟩), (10, ⟨⟨[(10, .d .i)], []⟩, ⟨[6], [(.x 2, ⟨[(10, .d .i)], []⟩)]⟩⟩)], [], []⟩ Tryz.func53 (cC (g_ref04_Mod fu) <| cN) (by kernel_rfl) fun x => by kernel_rfl
def s_ref13_product (fu : Nat) : Sig := ⟨69, [.d (.l (.l .i)), .d .i, .d .i], [.own .i 3], fun x => M_ref13_product fu x.1 x.2.1 x.2.2.1, 0⟩
theorem g_ref13_product (fu : Nat) : SigOK Tryz.prog (s_ref13_product fu) := sg (fu := fu) ⟨[], [], [(3, ⟨⟨[(7, .own .i 3), (8, .d .i)], []⟩, ⟨[], [(.x 0, ⟨[(7, .own .i 3)], []⟩)]⟩⟩)], [], []⟩ Tryz.func69 (cC (g_ref06_Times fu) <| cN) (by kernel_rfl) fun x => by kernel_rfl
def s_ref13_Right (fu : Nat) : Sig := ⟨68, [.d (.l (.p .b (.l .u))), .d (.l (.l .i)), .d .i], [.d .b], fun x => M_ref13_Right fu x.1 x.2.1 x.2.2.1, 0⟩
theorem g_ref13_Right (fu : Nat) : SigOK Tryz.prog (s_ref13_Right fu) := sg (fu := fu) ⟨[], [], [(6, ⟨⟨[(10, .d .i), (7, .own .i 3), (9, .own (.p .b (.l .u)) 25)], []⟩, ⟨[], [(.x 0, ⟨[(7, .own .i 3)], []⟩), (.r, ⟨[], [(6, .kb false)]⟩)]⟩⟩), (12, ⟨⟨[(1, .d (.l (.l .i))), (2, .d .i), (12, .d .i)], []⟩, ⟨[7, 9], [(.x 2, ⟨[(1, .d (.l (.l .i))), (2, .d .i)], []⟩), (.r, ⟨[], [(6, .kb false)]⟩)]⟩⟩)], [], []⟩ Tryz.func68 (cC (g_ref06_Same fu) <| cC (g_ref13_product fu) <| cC (g_ref06_Gcd fu) <| cC (g_ref06_Times fu) <| cC (g_ref10_Norm fu) <| cC (g_ref10_Mod fu) <| cC (g_ref06_Plain fu) <| cN) (by kernel_rfl) fun x => by kernel_rfl
def s_ref13_all (fu : Nat) : Sig := ⟨74, [.d (.l (.l (.p .b (.l .u))))], [.own (.p .b (.l .u)) 25], fun x => M_ref13_all fu x.1, 0⟩
theorem g_ref13_all (fu : Nat) : SigOK Tryz.prog (s_ref13_all fu) := sg (fu := fu) ⟨[], [], [(3, ⟨⟨[(3, .own (.p .b (.l .u)) 25), (4, .d .i)], []⟩, ⟨[], [(.x 0, ⟨[(3, .own (.p .b (.l .u)) 25)], []⟩)]⟩⟩)], [], []⟩ Tryz.func74 (cC (g_ref10_Of fu) <| cC (g_ref10_Mul fu) <| cN) (by kernel_rfl) fun x => by kernel_rfl
def s_ref13_all_io (fu : Nat) : Sig := ⟨74, [.own (.l (.p .b (.l .u))) 31], [.d (.l (.p .b (.l .u))), .own (.l (.p .b (.l .u))) 31], fun x => M_ref13_all_io fu x.1, 1⟩
theorem g_ref13_all_io (fu : Nat) : SigOK Tryz.prog (s_ref13_all_io fu) := sgb (fu := fu) ⟨[], [], [(3, ⟨⟨[(3, .own (.p .b (.l .u)) 25), (4, .d .i)], []⟩, ⟨[0], [(.x 0, ⟨[(3, .own (.p .b (.l .u)) 25)], []⟩)]⟩⟩)], [], []⟩ Tryz.func74 (cC (g_ref10_Of fu) <| cC (g_ref10_Mul fu) <| cN) (by kernel_rfl) fun pn x => by kernel_rfl
def s_ref13_Lift (fu : Nat) : Sig := ⟨20, [.d (.l (.p .b (.l .u))), .d (.l (.l .i)), .d .i, .d .i], [.own (.l (.p .b (.l .u))) 31, .d .i], fun x => M_ref13_Lift fu x.1 x.2.1 x.2.2.1 x.2.2.2.1, 0⟩
theorem g_ref13_Lift (fu : Nat) : SigOK Tryz.prog (s_ref13_Lift fu) := sg (fu := fu) ⟨[], [], [(13, ⟨⟨[(14, .own (.l (.p .b (.l .u))) 31), (15, .own (.l .i) 51), (16, .d .i)], []⟩, ⟨[10, 12, 13, 45], [(.x 0, ⟨[(14, .own (.l (.p .b (.l .u))) 31), (15, .own (.l .i) 51)], []⟩)]⟩⟩), (22, ⟨⟨[(12, .d (.l (.p .b (.l .u)))), (25, .d .i), (13, .var (.p .b (.l .u)) 25), (14, .own (.l (.p .b (.l .u))) 31), (15, .own (.l .i) 51), (24, .var (.p .b (.l .u)) 25)], []⟩, ⟨[10, 45], [(.x 2, ⟨[(14, .own (.l (.p .b (.l .u))) 31)], []⟩)]⟩⟩), (28, ⟨⟨[(1, .d (.l (.l .i))), (2, .d .i), (3, .d .i), (29, .d (.l .i)), (31, .d .i), (14, .own (.l (.p .b (.l .u))) 31)], []⟩, ⟨[13, 15, 24], [(.x 4, ⟨[(1, .d (.l (.l .i))), (2, .d .i), (3, .d .i), (14, .own (.l (.p .b (.l .u))) 31)], []⟩)]⟩⟩)], [(24, [])], []⟩ Tryz.func20 (cC (g_ref13_Right fu) <| cC (g_ref13_product fu) <| cC (g_ref06_Bezout fu) <| cC (g_ref06_Times fu) <| cC (g_ref10_Sub fu) <| cC (g_ref10_Scale fu) <| cC (g_ref13_all_io fu) <| cC (g_ref13_all fu) <| cC (g_ref10_Add fu) <| cC (g_ref02_Mul fu) <| cC (g_ref13_Power fu) <| cC (g_ref10_Norm fu) <| cC (g_ref10_Div fu) <| cC (g_ref10_Mod fu) <| cC (g_ref06_Div fu) <| cC (g_ref10_Of fu) <| cC (g_ref02_Of fu) <| cN) (by kernel_rfl) fun x => by kernel_rfl
def s_law13_HenselLifts (fu : Nat) : Sig := ⟨4, [.d (.l (.p .b (.l .u))), .d (.l (.l .i)), .d .i, .d .i], [.d .b], fun x => M_law13_HenselLifts fu x.1 x.2.1 x.2.2.1 x.2.2.2.1, 0⟩
theorem g_law13_HenselLifts (fu : Nat) : SigOK Tryz.prog (s_law13_HenselLifts fu) := sg (fu := fu) ⟨[], [], [], [], []⟩ Tryz.func4 (cC (g_law13_awake fu) <| cC (g_law13_small fu) <| cC (g_ref10_Norm fu) <| cC (g_law13_few fu) <| cC (g_hensel_Lift fu) <| cC (g_ref13_Lift fu) <| cC (g_ref13_Same fu) <| cN) (by kernel_rfl) fun x => by kernel_rfl
end Go.Proofs.YtjnjfinbdfolkaaGreat
end

section
set_option linter.unusedVariables false
set_option linter.unusedSimpArgs false
set_option maxRecDepth 100000
namespace Go.Proofs.YtjnjfinbdfolkaaGreat
end Go.Proofs.YtjnjfinbdfolkaaGreat
end

section
set_option linter.unusedVariables false
set_option linter.unusedSimpArgs false
namespace Go.Proofs.YtjnjfinbdfolkaaGreat
theorem loop_eq {α β : Type} {f : (β → Option α) → β → Option α} (I : β → Prop) (m : β → Nat) (r : α)
    (step : ∀ s L, I s → (∀ s', I s' → m s' < m s → L s' = some r) → f L s = some r) : ∀ (n : Nat) (s : β), I s → m s < n → loopN f n s = some r
  | 0, s, _, h => absurd h (Nat.not_lt_zero _)
  | n + 1, s, hI, h => step s _ hI fun s' hI' hm => loop_eq I m r step n s' hI' (by omega)
theorem take_toL {a : List Nat} (h : Limbs a) : a.take (toL (nv a)).length = toL (nv a) := by
  refine limbs_ext (h.take _) (toL_limbs _) (by rw [List.length_take]; have := toL_nv_le h; omega) ?_
  rw [nv_take h, nv_toL]
  exact Nat.mod_eq_of_lt ((toL_length _ _).1 (Nat.le_refl _))
theorem nv_take_pred {a : List Nat} {k : Nat} (hk : k + 1 ≤ a.length) (h0 : a.getD k 0 = 0) : nv (a.take k) = nv (a.take (k + 1)) := by
  rw [nv_take_succ, h0]; simp
theorem toL_take_top {a : List Nat} (h : Limbs a) {k : Nat} (hk : k + 1 ≤ a.length) (h0 : a.getD k 0 ≠ 0) : toL (nv (a.take (k + 1))) = a.take (k + 1) := by
  refine toL_of_last (h.take _) (.inr ?_)
  have : (a.take (k + 1)).length - 1 = k := by rw [List.length_take]; omega
  rw [this, List.getD_eq_getElem?_getD, List.getElem?_take, if_pos (by omega), ← List.getD_eq_getElem?_getD]
  exact h0
theorem M_nat_plain_own_eq {fu : Nat} {a : List Nat} (h : Limbs a) (hl : a.length ≤ 17592186044416) (hf : a.length < fu) : M_nat_plain_own fu a = some (toL (nv a)) := by
  unfold M_nat_plain_own
  rw [bd_t (v := toL (nv a))]
  refine loop_eq (fun l => Limbs l ∧ nv l = nv a ∧ l.length ≤ 17592186044416) (fun l => l.length) _ ?_ _ _ ⟨h, rfl, hl⟩ hf
  rintro l L ⟨hL, hn, hk⟩ ih
  unfold B_nat_plain_own_0
  by_cases h0 : 0 < ((l.length : Nat) : Int)
  · obtain ⟨k, hk1⟩ : ∃ k, l.length = k + 1 := ⟨l.length - 1, by omega⟩
    have e1 : ((l.length : Nat) : Int) - 1 = (k : Int) := by omega
    rw [if_pos h0, e1, ck64_t ⟨by omega, by omega⟩, ckI_n (by omega), nm_t]
    by_cases h1 : l.getD k 0 = 0
    · rw [if_pos (by rw [h1]), ck64_t ⟨by omega, by omega⟩, ckN_n, ck_t (by omega), nm_t]
      refine ih _ ⟨hL.take _, ?_, by rw [List.length_take]; omega⟩ (by rw [List.length_take]; omega)
      rw [nv_take_pred (by omega) h1, ← hk1, List.take_length, hn]
    · rw [if_neg (by omega), ← hn]
      have := toL_take_top hL (k := k) (by omega) h1
      rw [← hk1, List.take_length] at this
      rw [this]
  · rw [if_neg h0, ← hn]
    have : l = [] := List.length_eq_zero_iff.1 (by omega)
    rw [this]; rfl
theorem M_nat_plain_eq {fu : Nat} {a : List Nat} (h : Limbs a) (hl : a.length ≤ 17592186044416) (hf : a.length < fu) : M_nat_plain fu a = some (toL (nv a)) := by
  have := M_nat_plain_own_eq h hl hf
  unfold M_nat_plain_own B_nat_plain_own_0 at this
  unfold M_nat_plain B_nat_plain_0
  exact this
theorem M_nat_Norm_eq {fu : Nat} {a : List Nat} (h : Limbs a) (hl : a.length ≤ 17592186044416) (hf : a.length < fu) : M_nat_Norm fu a = some (toL (nv a)) := by
  unfold M_nat_Norm M_slices_Clone_uint64_uint64
  rw [bd_t (M_nat_plain_eq h hl hf), bd_t (v := toL (nv a))]
  rw [ck_t (by have := toL_nv_le h; omega)]
theorem M_ref01_Norm_eq {fu : Nat} {a : List Nat} (h : Limbs a) (hl : a.length ≤ 17592186044416) (hf : a.length < fu) : M_ref01_Norm fu a = some (toL (nv a)) := by
  unfold M_ref01_Norm
  have h5 := toL_nv_le h
  rw [bd_t (v := ((toL (nv a)).length : Int)), ckN_n, ck_t h5, nm_t, take_toL h, ck_t (by simp; omega), nm_t]; rfl
  refine loop_eq (fun i : Int => 0 ≤ i ∧ i ≤ a.length ∧ nv (a.take i.toNat) = nv a) (fun i => i.toNat) _ ?_ _ _ ⟨by omega, by omega, by simp⟩ (by omega)
  rintro i L ⟨h0, h1, hn⟩ ih
  obtain ⟨k, rfl⟩ := Int.eq_ofNat_of_zero_le h0
  unfold B_ref01_Norm_0
  simp only [Int.toNat_natCast] at *
  by_cases hk : 0 < (k : Int)
  · obtain ⟨j, rfl⟩ : ∃ j, k = j + 1 := ⟨k - 1, by omega⟩
    have e1 : ((j + 1 : Nat) : Int) - 1 = (j : Int) := by omega
    rw [if_pos hk, e1, ck64_t ⟨by omega, by omega⟩, ckI_n (by omega), nm_t]
    by_cases h2 : a.getD j 0 = 0
    · rw [if_pos (by rw [h2]), ck64_t ⟨by omega, by omega⟩]
      refine ih _ ⟨by omega, by omega, ?_⟩ (by omega)
      rw [Int.toNat_natCast, nv_take_pred (by omega) h2, hn]
    · rw [if_neg (by omega), ← hn, toL_take_top h (by omega) h2, List.length_take]
      congr 1; omega
  · rw [if_neg hk, ← hn]
    have : k = 0 := by omega
    subst this; rfl
theorem and32 (x : Nat) : x &&& 4294967295 = x % 4294967296 := Nat.and_two_pow_sub_one_eq_mod x 32
theorem min32 : min (((32 : Nat) : Int)).toNat 64 = 32 := by decide
theorem M_math_bits_Mul64_eq {fu x y : Nat} (hx : x < 18446744073709551616) (hy : y < 18446744073709551616) : M_math_bits_Mul64 fu x y = some (x * y / 18446744073709551616, x * y % 18446744073709551616) := by
  unfold M_math_bits_Mul64
  simp only [nm, and32, min32]
  obtain ⟨b1, b2, b3, b4⟩ := mul64_b hx hy
  have e := mul64_eq x y
  generalize hA : (x % 4294967296) * (y % 4294967296) = A at *
  generalize hB : (x / 2 ^ 32) * (y % 4294967296) = B at *
  generalize hC : (x % 4294967296) * (y / 2 ^ 32) = C at *
  generalize hD : (x / 2 ^ 32) * (y / 2 ^ 32) = D at *
  have hz : x * y < 18446744073709551616 * 18446744073709551616 := Nat.mul_lt_mul'' hx hy
  generalize x * y = z at *
  congr 2
  omega
theorem M_nat_carried_eq {fu n : Nat} {f : Int → Nat → Option (Nat × Nat)} {step : Nat → Nat → Nat × Nat} (hn : n ≤ 17179869184) (hf : n < fu)
    (h : ∀ k, k < n → f (k : Int) (carS step k).2 = some (step k (carS step k).2)) : M_nat_carried fu n f = some (carS step n) := by
  unfold M_nat_carried
  rw [ckN_n, ck_t (by omega), nm_t, bd_t (v := ((carS step n).2, (carS step n).1))]
  refine loop_eq (fun s : Nat × Int × List Nat => ∃ k : Nat, k ≤ n ∧ s = ((carS step k).2, (k : Int), (carS step k).1 ++ List.replicate (n - k) 0)) (fun s => n - s.2.1.toNat) _ ?_ _ _ ⟨0, by omega, rfl⟩ (by simpa using hf)
  rintro s L ⟨k, hk, rfl⟩ ih
  unfold B_nat_carried_0
  simp only [List.length_replicate]
  by_cases h1 : (k : Int) < (n : Int)
  · have hl : (carS step k).1.length = k := carS_length step k
    rw [if_pos h1, bd_t (h k (by omega)), ckI_n (by simp [hl]; omega), nm_t, ck64_t ⟨by omega, by omega⟩]
    refine ih _ ⟨k + 1, by omega, ?_⟩ (by show n - ((k : Int) + 1).toNat < n - ((k : Int)).toNat; omega)
    rw [set_mid hl (by omega)]; rfl
  · rw [if_neg h1]
    obtain rfl : k = n := by omega
    simp
theorem M_nat_at_eq {fu k : Nat} (a : List Nat) (hl : a.length ≤ 9223372036854775807) : M_nat_at fu a (k : Int) = some (a.getD k 0) := by
  unfold M_nat_at
  by_cases h : k < a.length
  · rw [if_pos (by omega), ckI_n h, nm_t]
  · rw [if_neg (by omega), List.getD_eq_getElem?_getD, List.getElem?_eq_none (by omega)]; rfl
theorem M_nat_Add_eq {fu : Nat} {a b : List Nat} (ha : Limbs a) (hb : Limbs b) (hla : a.length ≤ 8589934592) (hlb : b.length ≤ 8589934592) (hf : max a.length b.length + 1 < fu) :
    M_nat_Add fu a b = some (toL (nv a + nv b)) := by
  unfold M_nat_Add
  have e : max ((a.length : Nat) : Int) ((b.length : Nat) : Int) = ((max a.length b.length : Nat) : Int) := by omega
  have hc : ∀ k, (carS (addS a b) k).2 ≤ 1 := by
    intro k
    induction k with
    | zero => exact Nat.zero_le _
    | succ k ih => exact addS_carry ha hb ih
  rw [nm_t, e, bd_t (M_nat_carried_eq (step := addS a b) (by omega) (by omega) ?_)]
  · have hl := carS_length (addS a b) (max a.length b.length)
    show ck _ _ = _
    rw [ck_t (by simp [hl]; omega), nm_t, bd_t (M_nat_plain_own_eq ?_ (by simp [hl]; omega) (by simp [hl]; omega)), addS_val (by omega) (by omega)]
    exact (addS_inv a b _).2.append (Limbs.cons (by have := hc (max a.length b.length); omega) Limbs.nil)
  · intro k hk
    unfold M_nat_Add_1
    rw [bd_t (M_nat_at_eq a (by omega)), bd_t (M_nat_at_eq b (by omega)), ck_t (hc k)]; rfl
theorem M_nat_Sub_eq {fu : Nat} {a b : List Nat} (ha : Limbs a) (hb : Limbs b) (hla : a.length ≤ 8589934592) (hlb : b.length ≤ 8589934592) (hf : max a.length b.length + 1 < fu) :
    M_nat_Sub fu a b = some (if nv a < nv b then ([], 1) else (toL (nv a - nv b), 0)) := by
  unfold M_nat_Sub
  have e : max ((a.length : Nat) : Int) ((b.length : Nat) : Int) = ((max a.length b.length : Nat) : Int) := by omega
  have hc : ∀ k, (carS (subS a b) k).2 ≤ 1 := by
    intro k
    cases k with
    | zero => exact Nat.zero_le _
    | succ k => exact subS_carry a b k _
  rw [nm_t, e, bd_t (M_nat_carried_eq (step := subS a b) (by omega) (by omega) ?_)]
  · have hl := carS_length (subS a b) (max a.length b.length)
    have hs := subS_less ha hb (Nat.le_max_left a.length b.length) (Nat.le_max_right a.length b.length)
    simp only []
    by_cases h : nv a < nv b
    · rw [if_pos (by have := hs.2 h; omega), if_pos h]
    · rw [if_neg (by intro h1; exact h (hs.1 (by omega))), if_neg h, bd_t (M_nat_plain_own_eq (subS_val ha hb (Nat.le_max_left a.length b.length) (Nat.le_max_right a.length b.length)).2.1 (by omega) (by omega)), subS_diff ha hb (Nat.le_max_left _ _) (Nat.le_max_right _ _) h]
  · intro k hk
    unfold M_nat_Sub_1
    rw [bd_t (M_nat_at_eq a (by omega)), bd_t (M_nat_at_eq b (by omega)), ck_t (hc k)]; rfl
theorem M_nat_less_eq {fu : Nat} {a b : List Nat} (ha : Limbs a) (hb : Limbs b) (hla : a.length ≤ 8589934592) (hlb : b.length ≤ 8589934592) (hf : max a.length b.length + 1 < fu) (h : nv b ≤ nv a) :
    M_nat_less fu a b = some (toL (nv a - nv b)) := by
  unfold M_nat_less
  rw [bd_t (M_nat_Sub_eq ha hb hla hlb hf), if_neg (by omega)]
theorem rowS_c {a : List Nat} {x : Nat} (ha : Limbs a) (hx : x < 18446744073709551616) : ∀ k, (carS (rowS a x) k).2 < 18446744073709551616
  | 0 => Nat.zero_lt_succ _
  | k + 1 => rowS_carry ha hx (rowS_c ha hx k)
theorem row_words {a x c : Nat} (ha : a < 18446744073709551616) (hx : x < 18446744073709551616) (hc : c < 18446744073709551616) :
    ((a * x % 18446744073709551616 + c) % 18446744073709551616, (a * x / 18446744073709551616 + (a * x % 18446744073709551616 + c) / 18446744073709551616) % 18446744073709551616) = ((a * x + c) % 18446744073709551616, (a * x + c) / 18446744073709551616) := by
  have := mul_lt_words ha hx hc
  generalize a * x = z at *
  congr 1 <;> omega
theorem M_nat_row_eq {fu : Nat} {a : List Nat} {x : Nat} (ha : Limbs a) (hx : x < 18446744073709551616) (hla : a.length ≤ 8589934592) (hf : a.length < fu) : M_nat_row fu a x = some (digs (a.length + 1) (nv a * x)) := by
  unfold M_nat_row
  rw [bd_t (M_nat_carried_eq (step := rowS a x) (by omega) hf ?_)]
  · have hl := carS_length (rowS a x) a.length
    simp only []
    rw [ck_t (by simp [hl]; omega), nm_t, rowS_row (rowS_c ha hx _)]
  · intro k hk
    unfold M_nat_row_1
    rw [ckI_n hk, nm_t, bd_t (M_math_bits_Mul64_eq (ha.getD k) hx)]
    simp only [nm, Nat.add_zero]
    exact congrArg some (row_words (ha.getD k) hx (rowS_c ha hx k))
theorem M_nat_moved_eq {fu n : Nat} {a : List Nat} (hn : n ≤ 1099511627776) (hl : a.length ≤ 1099511627776) : M_nat_moved fu a (n : Int) = some (List.replicate n 0 ++ a) := by
  unfold M_nat_moved
  rw [ckN_n, ck_t (by omega), nm_t, ck_t (by simp; omega), nm_t]
theorem school_inner {fu k n : Nat} {a b t3 t4 t6 : List Nat} {i2 : Int} (ha : Limbs a) (hb : Limbs b) (hk : k < b.length) (hn : n = a.length + b.length + 1) (hnb : n ≤ 17179869184) (h6 : t6 = digs (a.length + 1) (nv a * b.getD k 0)) (hf : a.length + 1 < fu) :
    loopN (B_nat_school_1 fu (k : Int) t3 t4 i2 t6) fu (0, 0, digs n (nv a * nv (b.take k)), t6) = some (digs n (nv a * nv (b.take (k + 1)))) := by
  have hl6 : t6.length = a.length + 1 := by rw [h6, digs_length]
  have h6L : Limbs t6 := h6 ▸ digs_limbs _ _
  have hB : nv a * nv (b.take k) < 18446744073709551616 ^ n := Nat.lt_of_lt_of_le (nv_le_of_all ha hb) (Nat.pow_le_pow_right (by decide) (by omega))
  have h0 : nv (digs n (nv a * nv (b.take k))) = nv a * nv (b.take k) := by rw [nv_digs, Nat.mod_eq_of_lt hB]
  refine loop_eq (fun s : Nat × Int × List Nat × List Nat => ∃ (c i : Nat) (o : List Nat), s = (c, (i : Int), o, t6) ∧ i ≤ t6.length ∧ c ≤ 1 ∧ Limbs o ∧ o.length = n ∧ nv o + 18446744073709551616 ^ (k + i) * c = nv a * nv (b.take k) + 18446744073709551616 ^ k * nv (t6.take i))
    (fun s => a.length + 1 - s.2.1.toNat) _ ?_ _ _ ⟨0, 0, _, rfl, by omega, by omega, digs_limbs _ _, digs_length _ _, by rw [h0]; simp [nv]⟩ (by simpa using hf)
  rintro s L ⟨c, i, o, rfl, hi, hc, hoL, hol, ho⟩ ih
  unfold B_nat_school_1
  simp only []
  by_cases h1 : i < t6.length
  · rw [if_pos (by omega), bd_t rfl]
    simp only [if_true]
    have e : (k : Int) + (i : Int) = ((k + i : Nat) : Int) := by omega
    rw [ckI_n h1, nm_t, e, ck64_t ⟨by omega, by omega⟩, ck64_t ⟨by omega, by omega⟩, ckI_n (by omega), nm_t, ck_t hc, nm_t, nm_t, ckI_n (by omega), nm_t, ck64_t ⟨by omega, by omega⟩]
    refine ih _ ⟨_, i + 1, _, rfl, by omega, ?_, hoL.set _ (Nat.mod_lt _ (by decide)), by rw [List.length_set, hol], ?_⟩ (by show a.length + 1 - ((i : Int) + 1).toNat < a.length + 1 - (i : Int).toNat; omega)
    · have := hoL.getD (k + i); have := h6L.getD i; omega
    · have := sum_step (o := o) (o0 := digs n (nv a * nv (b.take k))) (r := t6) (j := k) (i := i) (c := c) (by omega) (by rw [h0]; exact ho)
      rw [h0] at this; exact this
  · rw [if_neg (by omega), bd_t rfl]
    simp only [Bool.false_eq_true, if_false]
    subst h6
    refine congrArg some (limbs_ext hoL (digs_limbs _ _) (by rw [hol, digs_length]) ?_)
    rw [school_step ha hb (k := k) (i := i) (c := c) (p := o) (o := digs n (nv a * nv (b.take k))) (by omega) (by omega) h0 (by rw [h0]; exact ho), nv_digs, Nat.mod_eq_of_lt]
    exact Nat.lt_of_lt_of_le (nv_le_of_all ha hb) (Nat.pow_le_pow_right (by decide) (by omega))
theorem M_nat_school_eq {fu : Nat} {a b : List Nat} (ha : Limbs a) (hb : Limbs b) (hla : a.length ≤ 4294967296) (hlb : b.length ≤ 4294967296) (hf : a.length + b.length + 1 < fu) :
    M_nat_school fu a b = some (toL (nv a * nv b)) := by
  unfold M_nat_school
  have e1 : ((a.length : Nat) : Int) + ((b.length : Nat) : Int) = ((a.length + b.length : Nat) : Int) := by omega
  have e2 : ((a.length + b.length : Nat) : Int) + 1 = ((a.length + b.length + 1 : Nat) : Int) := by omega
  have hB : nv a * nv b < 18446744073709551616 ^ (a.length + b.length + 1) := by
    have := nv_le_of_all (k := b.length) ha hb
    rw [List.take_length] at this
    exact Nat.lt_of_lt_of_le this (Nat.pow_le_pow_right (by decide) (by omega))
  rw [e1, ck64_t ⟨by omega, by omega⟩, e2, ck64_t ⟨by omega, by omega⟩, ckN_n, ck_t (by omega), nm_t, bd_t (v := digs (a.length + b.length + 1) (nv a * nv b))]
  · rw [bd_t (M_nat_plain_own_eq (digs_limbs _ _) (by rw [digs_length]; omega) (by rw [digs_length]; omega)), nv_digs, Nat.mod_eq_of_lt hB]
  · refine loop_eq (fun s : Int × List Nat => ∃ k : Nat, k ≤ b.length ∧ s = ((k : Int), digs (a.length + b.length + 1) (nv a * nv (b.take k)))) (fun s => b.length - s.1.toNat) _ ?_ _ _ ⟨0, by omega, by simp [nv, digs_zero]⟩ (by simp; omega)
    rintro s L ⟨k, hk, rfl⟩ ih
    unfold B_nat_school_0
    simp only []
    by_cases h1 : k < b.length
    · rw [if_pos (by omega), bd_t rfl]
      simp only [if_true]
      rw [ckI_n h1, nm_t, bd_t (M_nat_row_eq ha (hb.getD k) (by omega) (by omega)), bd_t (school_inner ha hb h1 rfl (by omega) rfl (by omega)), ck64_t ⟨by omega, by omega⟩]
      exact ih _ ⟨k + 1, by omega, rfl⟩ (by show b.length - ((k : Int) + 1).toNat < b.length - (k : Int).toNat; omega)
    · rw [if_neg (by omega), bd_t rfl]
      simp only [Bool.false_eq_true, if_false]
      obtain rfl : k = b.length := by omega
      rw [List.take_length]
end Go.Proofs.YtjnjfinbdfolkaaGreat
end

section
set_option linter.unusedVariables false
set_option linter.unusedSimpArgs false
namespace Go.Proofs.YtjnjfinbdfolkaaGreat
theorem cast_tdiv2 (n : Nat) : Int.tdiv (n : Int) 2 = ((n / 2 : Nat) : Int) := rfl
theorem nv_toL_take_le (x h : Nat) : (toL (nv ((toL x).take h))).length ≤ h := by
  have := toL_nv_le ((toL_limbs x).take h); rw [List.length_take] at this; omega
theorem nv_toL_drop_le (x h : Nat) : (toL (nv ((toL x).drop h))).length ≤ (toL x).length - h := by
  have := toL_nv_le ((toL_limbs x).drop h); rw [List.length_drop] at this; omega
theorem M_nat_Mul_eq : ∀ {fu : Nat} {a b : List Nat}, Limbs a → Limbs b → a.length ≤ 1073741824 → b.length ≤ 1073741824 → 4 * (a.length + b.length) + 64 ≤ fu → M_nat_Mul fu a b = some (toL (nv a * nv b))
  | 0, a, b, _, _, _, _, hf => by omega
  | fu + 1, a, b, ha, hb, hla, hlb, hf => by
    have h1 := toL_nv_le ha
    have h2 := toL_nv_le hb
    show bd _ _ = _
    rw [bd_t (M_nat_plain_eq ha (by omega) (by omega)), bd_t (M_nat_plain_eq hb (by omega) (by omega))]
    have eA : nv (toL (nv a)) = nv a := nv_toL _
    have eB : nv (toL (nv b)) = nv b := nv_toL _
    generalize hx : nv a = x at *
    generalize hy : nv b = y at *
    generalize hp : (toL x).length = p at *
    generalize hq : (toL y).length = q at *
    have e1 : min ((p : Nat) : Int) ((q : Nat) : Int) = ((min p q : Nat) : Int) := by omega
    rw [nm_t, e1]
    by_cases h8 : ((min p q : Nat) : Int) < 8
    · rw [if_pos h8, bd_t (M_nat_school_eq (toL_limbs x) (toL_limbs y) (by omega) (by omega) (by omega)), eA, eB]
    · rw [if_neg h8]
      have e2 : max ((p : Nat) : Int) ((q : Nat) : Int) = ((max p q : Nat) : Int) := by omega
      rw [nm_t, e2, cast_tdiv2, ck64_t ⟨by omega, by omega⟩]
      obtain ⟨h, hh⟩ : ∃ h, h = max p q / 2 := ⟨_, rfl⟩
      have e3 : ∀ l : Nat, min ((h : Nat) : Int) ((l : Nat) : Int) = ((min h l : Nat) : Int) := by intro l; omega
      rw [← hh]
      simp only [nm, e3, ckN_n]
      rw [ck_t (by decide), ck_t (by omega)]
      have tx : (toL x).take (min h p) = (toL x).take h := by rw [← hp]; exact take_min h
      have dx : (toL x).drop (min h p) = (toL x).drop h := by rw [← hp]; exact drop_min h
      have ty : (toL y).take (min h q) = (toL y).take h := by rw [← hq]; exact take_min h
      have dy : (toL y).drop (min h q) = (toL y).drop h := by rw [← hq]; exact drop_min h
      rw [tx, ty, dx, dy]
      have lx0 := nv_toL_take_le x h
      have ly0 := nv_toL_take_le y h
      have lx1 : ((toL x).drop h).length = p - h := by rw [List.length_drop, hp]
      have ly1 : ((toL y).drop h).length = q - h := by rw [List.length_drop, hq]
      have lx2 := nv_toL_drop_le x h
      have ly2 := nv_toL_drop_le y h
      rw [bd_t (M_nat_plain_eq ((toL_limbs x).take h) (by rw [List.length_take]; omega) (by rw [List.length_take]; omega)), ck_t (by omega), ck_t (by omega), bd_t (M_nat_plain_eq ((toL_limbs y).take h) (by rw [List.length_take]; omega) (by rw [List.length_take]; omega)), ck_t (by omega)]
      have X1 := (toL_limbs x).drop h
      obtain ⟨m, hm⟩ : ∃ m, m = max p q := ⟨_, rfl⟩
      have f1 : p ≤ m := by omega
      have f2 : q ≤ m := by omega
      have f3 : m + 8 ≤ p + q := by omega
      have f4 : 2 * h ≤ m := by omega
      have f5 : m ≤ 2 * h + 1 := by omega
      clear hh hm h8 e1 e2 e3 tx ty dx dy
      have g1 : p - h ≤ m - h := by omega
      have g2 : q - h ≤ m - h := by omega
      have g3 : h ≤ m - h := by omega
      replace lx2 := Nat.le_trans lx2 (hp.symm ▸ g1)
      replace ly2 := Nat.le_trans ly2 (hq.symm ▸ g2)
      have lx3 : ((toL x).drop h).length ≤ m - h := lx1 ▸ g1
      have ly3 : ((toL y).drop h).length ≤ m - h := ly1 ▸ g2
      clear lx1 ly1 g1 g2
      have Y1 := (toL_limbs y).drop h
      generalize hx0 : nv ((toL x).take h) = x0 at *
      generalize hy0 : nv ((toL y).take h) = y0 at *
      generalize hX1 : (toL x).drop h = dX at *
      generalize hY1 : (toL y).drop h = dY at *
      generalize hx1 : nv dX = x1 at *
      generalize hy1 : nv dY = y1 at *
      have s1 := toL_add_len (x := x0) (y := x1) (k := m - h) (by omega) (by omega)
      have s2 := toL_add_len (x := y0) (y := y1) (k := m - h) (by omega) (by omega)
      have kle := kara_le x0 x1 y0 y1
      rw [bd_t (M_nat_Mul_eq (fu := fu) (toL_limbs x0) (toL_limbs y0) (by omega) (by omega) (by omega))]
      rw [bd_t (M_nat_Mul_eq (fu := fu) X1 Y1 (by omega) (by omega) (by omega))]
      rw [bd_t (M_nat_Add_eq (toL_limbs x0) X1 (by omega) (by omega) (by omega)), bd_t (M_nat_Add_eq (toL_limbs y0) Y1 (by omega) (by omega) (by omega))]
      rw [hx1, hy1, nv_toL, nv_toL]
      rw [bd_t (M_nat_Mul_eq (fu := fu) (toL_limbs (x0 + x1)) (toL_limbs (y0 + y1)) (by omega) (by omega) (by omega)), nv_toL, nv_toL]
      have l3 := toL_mul_len s1 s2
      have l1 := toL_mul_len lx0 ly0
      have l2 := toL_mul_len (x := x1) (y := y1) (j := m - h) (k := m - h) (by omega) (by omega)
      have l4 := toL_mono (Nat.sub_le ((x0 + x1) * (y0 + y1)) (x0 * y0))
      have l5 := toL_mono (Nat.sub_le ((x0 + x1) * (y0 + y1) - x0 * y0) (x1 * y1))
      rw [bd_t (M_nat_less_eq (toL_limbs ((x0 + x1) * (y0 + y1))) (toL_limbs (x0 * y0)) (by omega) (by omega) (by omega) (by rw [nv_toL, nv_toL]; exact kle.1)), nv_toL, nv_toL]
      rw [bd_t (M_nat_less_eq (toL_limbs ((x0 + x1) * (y0 + y1) - x0 * y0)) (toL_limbs (x1 * y1)) (by omega) (by omega) (by omega) (by rw [nv_toL, nv_toL]; exact kle.2)), nv_toL, nv_toL]
      have mL : ∀ n z : Nat, Limbs (List.replicate n 0 ++ toL z) := fun n z => (Limbs.replicate n).append (toL_limbs z)
      have ml : ∀ n z : Nat, (List.replicate n 0 ++ toL z).length = n + (toL z).length := fun n z => by rw [List.length_append, List.length_replicate]
      rw [bd_t (M_nat_moved_eq (by omega) (by omega)), bd_t (M_nat_Add_eq (toL_limbs _) (mL _ _) (by omega) (by rw [ml]; omega) (by rw [ml]; omega)), nv_toL, nv_moved, nv_toL]
      have e4 : 2 * ((h : Nat) : Int) = ((2 * h : Nat) : Int) := by omega
      rw [e4, ck64_t ⟨by omega, by omega⟩, bd_t (M_nat_moved_eq (by omega) (by omega))]
      have l6 := mul_pow_len h (Nat.le_trans l5 (Nat.le_trans l4 l3))
      have l7 := toL_add_len (x := x0 * y0) (y := 18446744073709551616 ^ h * ((x0 + x1) * (y0 + y1) - x0 * y0 - x1 * y1)) (k := 3 * (p + q)) (by clear l6; omega) (Nat.le_trans l6 (by clear l6; omega))
      have K := kara_toL x y h hx0.symm (by rw [hX1, hx1]) hy0.symm (by rw [hY1, hy1])
      generalize 18446744073709551616 ^ h * ((x0 + x1) * (y0 + y1) - x0 * y0 - x1 * y1) = z1 at *
      generalize hz : x0 * y0 + z1 = z at *
      clear l6
      rw [bd_t (M_nat_Add_eq (toL_limbs z) (mL (2 * h) (x1 * y1)) (by clear K; omega) (by rw [ml]; clear K; omega) (by rw [ml]; clear K; omega)), nv_toL, nv_moved, nv_toL, K]
end Go.Proofs.YtjnjfinbdfolkaaGreat
end

section
set_option linter.unusedVariables false
set_option linter.unusedSimpArgs false
namespace Go.Proofs.YtjnjfinbdfolkaaGreat
def blf : Nat → Nat → Nat
  | 0, _ => 0
  | f + 1, n => if n = 0 then 0 else blf f (n / 2) + 1
def bl (n : Nat) : Nat := blf n n
theorem blf_eq : ∀ f f' n, n ≤ f → n ≤ f' → blf f n = blf f' n
  | 0, f', n, h, h' => by
    obtain rfl : n = 0 := by omega
    cases f' <;> rfl
  | f + 1, 0, n, h, h' => by
    obtain rfl : n = 0 := by omega
    rfl
  | f + 1, f' + 1, n, h, h' => by
    unfold blf
    split
    · rfl
    · rw [blf_eq f f' (n / 2) (by omega) (by omega)]
theorem bl_zero : bl 0 = 0 := rfl
theorem bl_pos {n : Nat} (h : 0 < n) : bl n = bl (n / 2) + 1 := by
  obtain ⟨m, rfl⟩ : ∃ m, n = m + 1 := ⟨n - 1, by omega⟩
  show (if m + 1 = 0 then 0 else blf m ((m + 1) / 2) + 1) = _
  rw [if_neg (by omega), blf_eq m ((m + 1) / 2) ((m + 1) / 2) (by omega) (Nat.le_refl _)]; rfl
theorem bl_shift : ∀ (k : Nat) {n : Nat}, 2 ^ k ≤ n → bl n = bl (n / 2 ^ k) + k
  | 0, n, h => by simp
  | k + 1, n, h => by
    have h2 : 0 < 2 ^ k := Nat.two_pow_pos k
    rw [Nat.pow_succ] at h
    rw [bl_pos (by omega), bl_shift k (n := n / 2) (by omega), Nat.div_div_eq_div_mul, Nat.pow_succ, Nat.mul_comm 2]
    omega
theorem bl_le {n k : Nat} (h : n < 2 ^ k) : bl n ≤ k := by
  induction k generalizing n with
  | zero =>
    obtain rfl : n = 0 := by omega
    exact Nat.le_refl _
  | succ k ih =>
    rcases Nat.eq_zero_or_pos n with rfl | h0
    · exact Nat.zero_le _
    · rw [bl_pos h0]
      have := ih (n := n / 2) (by rw [Nat.pow_succ] at h; omega)
      omega
theorem lt_bl (n : Nat) : n < 2 ^ bl n := by
  induction n using Nat.strongRecOn with
  | ind n ih =>
    rcases Nat.eq_zero_or_pos n with rfl | h0
    · decide
    · rw [bl_pos h0, Nat.pow_succ]
      have := ih (n / 2) (by omega)
      omega
theorem bl_le_one {n : Nat} (h : bl n ≤ 1) : n ≤ 1 := by
  have h1 := lt_bl n
  have h2 : 2 ^ bl n ≤ 2 ^ 1 := Nat.pow_le_pow_right (by decide) h
  omega
theorem bitLen_bl : ∀ {n : Nat}, n < 256 → Lib.bitLen n = bl n := by decide +kernel
theorem M_math_bits_Len64_eq {fu x : Nat} (hx : x < 18446744073709551616) : M_math_bits_Len64 fu x = some ((bl x : Nat) : Int) := by
  unfold M_math_bits_Len64
  have e16 : min ((16 : Int)).toNat 64 = 16 := by decide
  have e8 : min ((8 : Int)).toNat 64 = 8 := by decide
  have e32 : min ((32 : Int)).toNat 64 = 32 := by decide
  simp only [nm, e32, e16, e8]
  have last : ∀ (d : Nat) (i : Int), d < 65536 → 0 ≤ i → i ≤ 48 → (if (256 : Int) ≤ ((d : Nat) : Int) then ck64 (i + 8) fun x2 => ck64 (x2 + ((Lib.bitLen (d / 2 ^ 8 % 256) : Nat) : Int)) fun x3 => some x3 else ck64 (i + ((Lib.bitLen (d % 256) : Nat) : Int)) fun x4 => some x4) = some (i + ((bl d : Nat) : Int)) := by
    intro d i hd h0 h1
    by_cases h : 256 ≤ d
    · have b := bl_le (n := d / 2 ^ 8) (k := 8) (by omega)
      rw [if_pos (by omega), ck64_t ⟨by omega, by omega⟩, Nat.mod_eq_of_lt (by omega), bitLen_bl (by omega), ck64_t ⟨by omega, by omega⟩, bl_shift 8 (n := d) (by omega)]
      congr 1; omega
    · have b := bl_le (n := d) (k := 8) (by omega)
      rw [if_neg (by omega), Nat.mod_eq_of_lt (by omega), bitLen_bl (by omega), ck64_t ⟨by omega, by omega⟩]
  have mid : ∀ (d : Nat) (i : Int), d < 4294967296 → 0 ≤ i → i ≤ 32 → (bd (if (65536 : Int) ≤ ((d : Nat) : Int) then ck64 (i + 16) fun x1 => some (d / 2 ^ 16, x1) else some (d, i)) fun (d2, i2) => if (256 : Int) ≤ ((d2 : Nat) : Int) then ck64 (i2 + 8) fun x2 => ck64 (x2 + ((Lib.bitLen (d2 / 2 ^ 8 % 256) : Nat) : Int)) fun x3 => some x3 else ck64 (i2 + ((Lib.bitLen (d2 % 256) : Nat) : Int)) fun x4 => some x4) = some (i + ((bl d : Nat) : Int)) := by
    intro d i hd h0 h1
    by_cases h : 65536 ≤ d
    · rw [if_pos (by omega), ck64_t ⟨by omega, by omega⟩, bd_t rfl]
      simp only []
      rw [last _ _ (by omega) (by omega) (by omega), bl_shift 16 (n := d) (by omega)]
      congr 1; omega
    · rw [if_neg (by omega), bd_t rfl]
      exact last _ _ (by omega) (by omega) (by omega)
  by_cases h : 4294967296 ≤ x
  · rw [if_pos (by omega), bd_t rfl]
    simp only []
    rw [mid _ _ (by omega) (by omega) (by omega), bl_shift 32 (n := x) (by omega)]
    congr 1; omega
  · rw [if_neg (by omega), bd_t rfl]
    simp only []
    rw [mid _ _ (by omega) (by omega) (by omega)]
    congr 1; omega
theorem bl_limbs {n : Nat} (h : 0 < n) : bl n = 64 * ((toL n).length - 1) + bl ((toL n).getD ((toL n).length - 1) 0) := by
  obtain ⟨k, hk⟩ : ∃ k, (toL n).length = k + 1 := ⟨(toL n).length - 1, by have := toL_len_pos h; omega⟩
  have h1 := (toL_length (k + 1) n).1 (by omega)
  have h2 : ¬ n < 18446744073709551616 ^ k := fun h => by have := (toL_length k n).2 h; omega
  rw [hk, toL_getD, show k + 1 - 1 = k by omega]
  have e : 18446744073709551616 ^ k = 2 ^ (64 * k) := by rw [Nat.pow_mul]
  have h3 : n / 18446744073709551616 ^ k < 18446744073709551616 := by
    rw [Nat.div_lt_iff_lt_mul (Nat.pow_pos (by decide))]; rw [Nat.pow_succ, Nat.mul_comm] at h1; exact h1
  rw [Nat.mod_eq_of_lt h3, e, bl_shift (64 * k) (by rw [← e]; omega)]
  omega
theorem bl_lim {a : List Nat} (h : Limbs a) {k : Nat} (hk : a.length ≤ k) : bl (nv a) ≤ 64 * k := by
  refine bl_le ?_
  rw [Nat.pow_mul]
  exact Nat.lt_of_lt_of_le (nv_lt h) (Nat.pow_le_pow_right (by decide) hk)
theorem M_nat_Bits_eq {fu : Nat} {a : List Nat} (h : Limbs a) (hl : a.length ≤ 1099511627776) (hf : a.length < fu) : M_nat_Bits fu a = some ((bl (nv a) : Nat) : Int) := by
  unfold M_nat_Bits
  rw [bd_t (M_nat_plain_eq h (Nat.le_trans hl (by decide)) hf)]
  have hL := toL_nv_le h
  have hb := bl_lim h hl
  rcases Nat.eq_zero_or_pos (nv a) with h0 | h0
  · rw [h0, toL_zero]; rfl
  · have h1 := toL_len_pos h0
    have hy := (toL_limbs (nv a)).getD ((toL (nv a)).length - 1)
    have e := bl_limbs h0
    obtain ⟨k, hk⟩ : ∃ k, (toL (nv a)).length = k + 1 := ⟨(toL (nv a)).length - 1, by omega⟩
    rw [hk] at e hy
    simp only [Nat.add_sub_cancel] at e hy
    have e1 : ((k + 1 : Nat) : Int) - 1 = (k : Int) := by omega
    rw [hk, if_neg (by omega), e1, ck64_t ⟨by omega, by omega⟩, ck64_t ⟨by omega, by omega⟩, ck64_t ⟨by omega, by omega⟩, ckI_n (by omega), nm_t, bd_t (M_math_bits_Len64_eq hy), ck64_t ⟨by omega, by omega⟩, e]
    congr 1
theorem M_ref01_Bits_eq {fu : Nat} {a : List Nat} (h : Limbs a) (hl : a.length ≤ 17179869184) (hf : a.length + 64 < fu) : M_ref01_Bits fu a = some ((bl (nv a) : Nat) : Int) := by
  unfold M_ref01_Bits
  rw [bd_t (M_ref01_Norm_eq h (Nat.le_trans hl (by decide)) (by omega))]
  have hL := toL_nv_le h
  have hb := bl_lim h hl
  rcases Nat.eq_zero_or_pos (nv a) with h0 | h0
  · rw [h0, toL_zero]; rfl
  · have h1 := toL_len_pos h0
    have hy := (toL_limbs (nv a)).getD ((toL (nv a)).length - 1)
    have e := bl_limbs h0
    obtain ⟨k, hk⟩ : ∃ k, (toL (nv a)).length = k + 1 := ⟨(toL (nv a)).length - 1, by omega⟩
    rw [hk] at e hy
    simp only [Nat.add_sub_cancel] at e hy
    have e1 : ((k + 1 : Nat) : Int) - 1 = (k : Int) := by omega
    rw [hk, if_neg (by omega), e1, ck64_t ⟨by omega, by omega⟩, ck64_t ⟨by omega, by omega⟩, ck64_t ⟨by omega, by omega⟩, ckI_n (by omega), nm_t]
    generalize (toL (nv a)).getD k 0 = y at *
    have hy64 := bl_le (n := y) (k := 64) hy
    rw [bd_t (v := ((bl (nv a) : Nat) : Int))]
    refine loop_eq (fun s : Int × Nat => 0 ≤ s.1 ∧ s.1 + ((bl s.2 : Nat) : Int) = ((bl (nv a) : Nat) : Int)) (fun s => bl s.2) _ ?_ _ _ ⟨by show (0 : Int) ≤ 64 * (k : Int); omega, by show (64 : Int) * (k : Int) + ((bl y : Nat) : Int) = _; omega⟩ (by show bl y < fu; omega)
    rintro ⟨i, d⟩ L ⟨hi, hd⟩ ih
    unfold B_ref01_Bits_0
    simp only [] at *
    by_cases hd0 : 0 < d
    · have hp := bl_pos hd0
      rw [if_pos (by omega), ck64_t ⟨by omega, by omega⟩, nm_t]
      exact ih (i + 1, d / 2) ⟨by show (0 : Int) ≤ i + 1; omega, by show i + 1 + ((bl (d / 2) : Nat) : Int) = _; omega⟩ (by show bl (d / 2) < bl d; omega)
    · obtain rfl : d = 0 := by omega
      rw [if_neg (by omega), ← hd, bl_zero]; simp
end Go.Proofs.YtjnjfinbdfolkaaGreat
end

