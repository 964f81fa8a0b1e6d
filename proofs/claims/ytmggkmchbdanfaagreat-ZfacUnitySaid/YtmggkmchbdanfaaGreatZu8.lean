/- What a proof needs: rules of walking, mirrors of functions and their plain laws. No condition. -/
import Derived.Test.YtmggkmchbdanfaaGreatZu7
section
set_option linter.unusedVariables false
set_option linter.unusedSimpArgs false
set_option maxRecDepth 100000
namespace Go.Proofs.YtmggkmchbdanfaaGreat
abbrev lr := @le_rfl
abbrev lb := @le_bd
abbrev ln := @le_nm
abbrev lc := @le_ck
abbrev l6 := @le_ck64
abbrev lI := @le_ckI
abbrev lN := @le_ckN
abbrev li := @le_if
abbrev ll := @le_loop
abbrev Hf (fu : Nat) : Prop := 3000000 <= fu
theorem le_ckl {α : Type} {p : Prop} [Decidable p] {k k' : Option α} (h : p -> Le k k') : Le (ck p k) k' := fun v hv => by
  unfold ck at hv
  split at hv
  · exact h ‹_› v hv
  · cases hv
def F_zpoly_Norm_1 (fu : Nat) (a0 : Int) (a1 : Zr) : Option Zr :=
 bd (F_zint_Norm fu a1) fun y1 =>
 some y1
theorem F_zpoly_Norm_1_le {fu : Nat} (hf : Hf fu) (a0 : Int) (a1 : Zr) : Le (F_zpoly_Norm_1 fu a0 a1) (M_zpoly_Norm_1 fu a0 a1) := by
  have h : True := trivial
  unfold F_zpoly_Norm_1 M_zpoly_Norm_1
  with_reducible repeat' first | exact lr | exact h _ | exact F_zint_Norm_le hf _ | refine lb ?_ fun _ => ?_ | simp only []
def G_zpoly_each_api_Int_api_Int_0 (fu : Nat) (a0 : List Zr) (a1 : Int -> Zr -> Option Zr) : ((Int × (List Zr)) -> Option (List Zr)) -> (Int × (List Zr)) -> Option (List Zr) := fun L (i1, t2) =>
 bd ((if i1 < ((a0.length : Nat) : Int) then
 some ((a0, ((a0.length : Nat) : Int), true))
 else
 some ((a0, ((a0.length : Nat) : Int), false)) : Option ((List Zr) × Int × Bool))) fun (t3, i2, b1) =>
 if b1 = true then
 ckI i1 (t3.length) fun j2 =>
 nm (t3.getD j2 (false, [])) fun y1 =>
 bd (a1 i1 y1) fun y2 =>
 ckI i1 (t2.length) fun j3 =>
 nm (t2.set j3 y2) fun t4 =>
 ck64 (i1 + ((1 : Int))) fun x1 =>
 L (x1, t4)
 else
 some t2
theorem G_zpoly_each_api_Int_api_Int_0_le {fu : Nat} (hf : Hf fu) (a0 : List Zr) (a1 a12 : Int -> Zr -> Option Zr) (ha1 : ∀ v0 v1, Le (a1 v0 v1) (a12 v0 v1)) : ∀ L L', (∀ s, Le (L s) (L' s)) -> ∀ s, Le (G_zpoly_each_api_Int_api_Int_0 fu a0 a1 L s) (B_zpoly_each_api_Int_api_Int_0 fu a0 a12 L' s) := by
  intro L L' h s
  unfold G_zpoly_each_api_Int_api_Int_0 B_zpoly_each_api_Int_api_Int_0
  with_reducible repeat' first | exact lr | exact h _ | exact ha1 _ _ | refine lb ?_ fun _ => ?_ | refine ln fun _ => ?_ | refine l6 fun _ => ?_ | refine lI fun _ => ?_ | refine li ?_ ?_ | simp only []
def F_zpoly_each_api_Int_api_Int (fu : Nat) (a0 : List Zr) (a1 : Int -> Zr -> Option Zr) : Option (List Zr) :=
 ckN (((a0.length : Nat) : Int)) fun j1 =>
 ck (32 * j1 <= 281474976710656) <|
 nm (List.replicate j1 (false, [])) fun t1 =>
 bd (loopN (G_zpoly_each_api_Int_api_Int_0 fu a0 a1) fu (((0 : Int), t1))) fun t5 =>
 some t5
theorem F_zpoly_each_api_Int_api_Int_le {fu : Nat} (hf : Hf fu) (a0 : List Zr) (a1 a12 : Int -> Zr -> Option Zr) (ha1 : ∀ v0 v1, Le (a1 v0 v1) (a12 v0 v1)) : Le (F_zpoly_each_api_Int_api_Int fu a0 a1) (M_zpoly_each_api_Int_api_Int fu a0 a12) := by
  have h : True := trivial
  unfold F_zpoly_each_api_Int_api_Int M_zpoly_each_api_Int_api_Int
  with_reducible repeat' first | exact lr | exact h _ | exact ha1 _ _ | refine ll (G_zpoly_each_api_Int_api_Int_0_le hf _ _ _ (fun _ _ => ?_)) _ _ | refine lb ?_ fun _ => ?_ | refine ln fun _ => ?_ | refine lc ?_ | refine lN fun _ => ?_ | simp only []
def G_zpoly_Norm_0 (fu : Nat)  : ((List Zr) -> Option (List Zr)) -> (List Zr) -> Option (List Zr) := fun L t1 =>
 if (0 : Int) < ((t1.length : Nat) : Int) then
 ck64 ((((t1.length : Nat) : Int)) - ((1 : Int))) fun x1 =>
 ckI x1 (t1.length) fun j1 =>
 nm (t1.getD j1 (false, [])) fun y1 =>
 bd (F_zint_Sign fu y1) fun x2 =>
 if x2 = (0 : Int) then
 ck64 ((((t1.length : Nat) : Int)) - ((1 : Int))) fun x3 =>
 ckN x3 fun j2 =>
 ck (j2 <= t1.length) <|
 nm (t1.take j2) fun t2 =>
 L t2
 else
 some t1
 else
 some t1
theorem G_zpoly_Norm_0_le {fu : Nat} (hf : Hf fu)  : ∀ L L', (∀ s, Le (L s) (L' s)) -> ∀ s, Le (G_zpoly_Norm_0 fu  L s) (B_zpoly_Norm_0 fu  L' s) := by
  intro L L' h s
  unfold G_zpoly_Norm_0 B_zpoly_Norm_0
  with_reducible repeat' first | exact lr | exact h _ | exact F_zint_Sign_le hf _ | refine lb ?_ fun _ => ?_ | refine ln fun _ => ?_ | refine lc ?_ | refine l6 fun _ => ?_ | refine lI fun _ => ?_ | refine lN fun _ => ?_ | refine li ?_ ?_ | simp only []
def F_zpoly_Norm (fu : Nat) (a0 : List Zr) : Option (List Zr) :=
 bd (loopN (G_zpoly_Norm_0 fu ) fu a0) fun t3 =>
 bd (F_zpoly_each_api_Int_api_Int fu t3 (fun zx0 zx1 => F_zpoly_Norm_1 fu zx0 zx1)) fun t4 =>
 some t4
theorem F_zpoly_Norm_le {fu : Nat} (hf : Hf fu) (a0 : List Zr) : Le (F_zpoly_Norm fu a0) (M_zpoly_Norm fu a0) := by
  have h : True := trivial
  unfold F_zpoly_Norm M_zpoly_Norm
  with_reducible repeat' first | exact lr | exact h _ | exact ll (G_zpoly_Norm_0_le hf) _ _ | refine F_zpoly_each_api_Int_api_Int_le hf _ _ _ (fun _ _ => ?_) | exact F_zpoly_Norm_1_le hf _ _ | refine lb ?_ fun _ => ?_ | simp only []
def G_hensel_rests_0 (fu : Nat) (a0 : List Zr) (a1 : Zr) (a2 : Zr -> Zr -> Option (Zr × Int)) : ((Int × (List Zr)) -> Option (List Zr)) -> (Int × (List Zr)) -> Option (List Zr) := fun L (i1, t2) =>
 bd ((if i1 < ((a0.length : Nat) : Int) then
 some ((a1, a0, ((a0.length : Nat) : Int), true))
 else
 some ((a1, a0, ((a0.length : Nat) : Int), false)) : Option (Zr × (List Zr) × Int × Bool))) fun (t3, t4, i2, b1) =>
 if b1 = true then
 ckI i1 (t4.length) fun j2 =>
 nm (t4.getD j2 (false, [])) fun y1 =>
 bd (a2 y1 t3) fun (y2, x2) =>
 ckI i1 (t2.length) fun j3 =>
 nm (t2.set j3 y2) fun t5 =>
 ck64 (i1 + ((1 : Int))) fun x3 =>
 L (x3, t5)
 else
 some t2
theorem G_hensel_rests_0_le {fu : Nat} (hf : Hf fu) (a0 : List Zr) (a1 : Zr) (a2 a22 : Zr -> Zr -> Option (Zr × Int)) (ha2 : ∀ v0 v1, Le (a2 v0 v1) (a22 v0 v1)) : ∀ L L', (∀ s, Le (L s) (L' s)) -> ∀ s, Le (G_hensel_rests_0 fu a0 a1 a2 L s) (B_hensel_rests_0 fu a0 a1 a22 L' s) := by
  intro L L' h s
  unfold G_hensel_rests_0 B_hensel_rests_0
  with_reducible repeat' first | exact lr | exact h _ | exact ha2 _ _ | refine lb ?_ fun _ => ?_ | refine ln fun _ => ?_ | refine l6 fun _ => ?_ | refine lI fun _ => ?_ | refine li ?_ ?_ | simp only []
def F_hensel_rests (fu : Nat) (a0 : List Zr) (a1 : Zr) (a2 : Zr -> Zr -> Option (Zr × Int)) : Option ((List Zr) × Int) :=
 bd (F_zint_Sign fu a1) fun x1 =>
 if x1 <= (0 : Int) then
 some (([], (1 : Int)))
 else
 ckN (((a0.length : Nat) : Int)) fun j1 =>
 ck (32 * j1 <= 281474976710656) <|
 nm (List.replicate j1 (false, [])) fun t1 =>
 bd (loopN (G_hensel_rests_0 fu a0 a1 a2) fu (((0 : Int), t1))) fun t6 =>
 bd (F_zpoly_Norm fu t6) fun t7 =>
 some ((t7, (0 : Int)))
theorem F_hensel_rests_le {fu : Nat} (hf : Hf fu) (a0 : List Zr) (a1 : Zr) (a2 a22 : Zr -> Zr -> Option (Zr × Int)) (ha2 : ∀ v0 v1, Le (a2 v0 v1) (a22 v0 v1)) : Le (F_hensel_rests fu a0 a1 a2) (M_hensel_rests fu a0 a1 a22) := by
  have h : True := trivial
  unfold F_hensel_rests M_hensel_rests
  with_reducible repeat' first | exact lr | exact h _ | exact ha2 _ _ | exact F_zint_Sign_le hf _ | refine ll (G_hensel_rests_0_le hf _ _ _ _ (fun _ _ => ?_)) _ _ | exact F_zpoly_Norm_le hf _ | refine lb ?_ fun _ => ?_ | refine ln fun _ => ?_ | refine lc ?_ | refine lN fun _ => ?_ | refine li ?_ ?_ | simp only []
def F_prime_Rest (fu : Nat) (a0 : Zr) (a1 : Zr) : Option (Zr × Int) :=
 bd (F_zint_Sign fu a1) fun x1 =>
 if x1 <= (0 : Int) then
 some (((false, []), (1 : Int)))
 else
 bd (F_zint_Div fu a0 a1) fun (y1, y2, x2) =>
 some ((y2, (0 : Int)))
theorem F_prime_Rest_le {fu : Nat} (hf : Hf fu) (a0 : Zr) (a1 : Zr) : Le (F_prime_Rest fu a0 a1) (M_prime_Rest fu a0 a1) := by
  have h : True := trivial
  unfold F_prime_Rest M_prime_Rest
  with_reducible repeat' first | exact lr | exact h _ | exact F_zint_Sign_le hf _ | exact F_zint_Div_le hf _ _ | refine lb ?_ fun _ => ?_ | refine li ?_ ?_ | simp only []
def F_hensel_Red (fu : Nat) (a0 : List Zr) (a1 : Zr) : Option ((List Zr) × Int) :=
 bd (F_hensel_rests fu a0 a1 (fun zx0 zx1 => F_prime_Rest fu zx0 zx1)) fun (t1, x1) =>
 some (t1, x1)
theorem F_hensel_Red_le {fu : Nat} (hf : Hf fu) (a0 : List Zr) (a1 : Zr) : Le (F_hensel_Red fu a0 a1) (M_hensel_Red fu a0 a1) := by
  have h : True := trivial
  unfold F_hensel_Red M_hensel_Red
  with_reducible repeat' first | exact lr | exact h _ | refine F_hensel_rests_le hf _ _ _ _ (fun _ _ => ?_) | exact F_prime_Rest_le hf _ _ | refine lb ?_ fun _ => ?_ | simp only []
def F_hensel_red (fu : Nat) (a0 : List Zr) (a1 : Zr) : Option (List Zr) :=
 bd (F_hensel_Red fu a0 a1) fun (t1, x1) =>
 some t1
theorem F_hensel_red_le {fu : Nat} (hf : Hf fu) (a0 : List Zr) (a1 : Zr) : Le (F_hensel_red fu a0 a1) (M_hensel_red fu a0 a1) := by
  have h : True := trivial
  unfold F_hensel_red M_hensel_red
  with_reducible repeat' first | exact lr | exact h _ | exact F_hensel_Red_le hf _ _ | refine lb ?_ fun _ => ?_ | simp only []
def G_fpoly_next_0 (fu : Nat) (a1 : List (List Int)) (a2 : Int) : (((List Int) × Int × (List (List Int)) × (List (List Int))) -> Option ((List (List Int)) × (List (List Int)))) -> ((List Int) × Int × (List (List Int)) × (List (List Int))) -> Option ((List (List Int)) × (List (List Int))) := fun L (t3, i1, t4, t5) =>
 bd ((if i1 < (3 : Int) then
 some (a2, a1, true)
 else
 some (a2, a1, false) : Option (Int × (List (List Int)) × Bool))) fun (i2, t6, b1) =>
 if b1 = true then
 ckI i1 (3) fun j3 =>
 ckI i1 (3) fun j4 =>
 nm (t6.getD j4 []) fun y2 =>
 bd (F_fpoly_product fu t3 y2 i2) fun t7 =>
 ck64 (i2 - ((1 : Int))) fun x1 =>
 bd (F_fpoly_sum fu (t4.getD j3 []) t7 x1 i2) fun t8 =>
 ckI i1 (3) fun j5 =>
 nm (t4.set j5 t8) fun t9 =>
 ck64 (i1 + ((1 : Int))) fun x2 =>
 L (t3, x2, t9, t5)
 else
 some (t4, t5)
theorem G_fpoly_next_0_le {fu : Nat} (hf : Hf fu) (a1 : List (List Int)) (a2 : Int) : ∀ L L', (∀ s, Le (L s) (L' s)) -> ∀ s, Le (G_fpoly_next_0 fu a1 a2 L s) (B_fpoly_next_0 fu a1 a2 L' s) := by
  intro L L' h s
  unfold G_fpoly_next_0 B_fpoly_next_0
  with_reducible repeat' first | exact lr | exact h _ | exact F_fpoly_product_le hf _ _ _ | exact F_fpoly_sum_le hf _ _ _ _ | refine lb ?_ fun _ => ?_ | refine ln fun _ => ?_ | refine l6 fun _ => ?_ | refine lI fun _ => ?_ | refine li ?_ ?_ | simp only []
def F_fpoly_next (fu : Nat) (a0 : List (List Int)) (a1 : List (List Int)) (a2 : Int) : Option (List (List Int)) :=
 ckI ((0 : Int)) (3) fun j1 =>
 ckI ((0 : Int)) (3) fun j2 =>
 nm (a1.getD j2 []) fun y1 =>
 bd (F_fpoly_divided fu (a0.getD j1 []) y1 a2) fun (t1, t2) =>
 bd (loopN (G_fpoly_next_0 fu a1 a2) fu ((t1, (0 : Int), a0, (List.replicate 3 [])))) fun (t10, t11) =>
 some t10
theorem F_fpoly_next_le {fu : Nat} (hf : Hf fu) (a0 : List (List Int)) (a1 : List (List Int)) (a2 : Int) : Le (F_fpoly_next fu a0 a1 a2) (M_fpoly_next fu a0 a1 a2) := by
  have h : True := trivial
  unfold F_fpoly_next M_fpoly_next
  with_reducible repeat' first | exact lr | exact h _ | exact F_fpoly_divided_le hf _ _ _ | exact ll (G_fpoly_next_0_le hf _ _) _ _ | refine lb ?_ fun _ => ?_ | refine ln fun _ => ?_ | refine lI fun _ => ?_ | simp only []
def F_fpoly_scaled (fu : Nat) (a0 : List Int) (a1 : Int) (a2 : Int) : Option (List Int) :=
 bd (M_fp_Inv fu a1 a2) fun (x1, x2) =>
 bd (F_fpoly_product fu a0 [x1] a2) fun t1 =>
 some t1
theorem F_fpoly_scaled_le {fu : Nat} (hf : Hf fu) (a0 : List Int) (a1 : Int) (a2 : Int) : Le (F_fpoly_scaled fu a0 a1 a2) (M_fpoly_scaled fu a0 a1 a2) := by
  have h : True := trivial
  unfold F_fpoly_scaled M_fpoly_scaled
  with_reducible repeat' first | exact lr | exact h _ | exact F_fpoly_product_le hf _ _ _ | refine lb ?_ fun _ => ?_ | simp only []
def G_fpoly_Bezout_0 (fu : Nat) (a2 : Int) : (((List (List Int)) × (List (List Int))) -> Option (List (List Int))) -> ((List (List Int)) × (List (List Int))) -> Option (List (List Int)) := fun L (t3, t4) =>
 ckI ((0 : Int)) (3) fun j1 =>
 if (0 : Int) < ((((t4.getD j1 [])).length : Nat) : Int) then
 bd (F_fpoly_next fu t3 t4 a2) fun t5 =>
 L (t4, t5)
 else
 some t3
theorem G_fpoly_Bezout_0_le {fu : Nat} (hf : Hf fu) (a2 : Int) : ∀ L L', (∀ s, Le (L s) (L' s)) -> ∀ s, Le (G_fpoly_Bezout_0 fu a2 L s) (B_fpoly_Bezout_0 fu a2 L' s) := by
  intro L L' h s
  unfold G_fpoly_Bezout_0 B_fpoly_Bezout_0
  with_reducible repeat' first | exact lr | exact h _ | exact F_fpoly_next_le hf _ _ _ | refine lb ?_ fun _ => ?_ | refine lI fun _ => ?_ | refine li ?_ ?_ | simp only []
def G_fpoly_Bezout_1 (fu : Nat) (a2 : Int) (y1 : Int) : ((Int × (List (List Int))) -> Option (List (List Int))) -> (Int × (List (List Int))) -> Option (List (List Int)) := fun L (i1, t7) =>
 if i1 < (3 : Int) then
 ckI i1 (3) fun j5 =>
 bd (F_fpoly_scaled fu (t7.getD j5 []) y1 a2) fun t8 =>
 ckI i1 (3) fun j6 =>
 nm (t7.set j6 t8) fun t9 =>
 ck64 (i1 + ((1 : Int))) fun x3 =>
 L (x3, t9)
 else
 some t7
theorem G_fpoly_Bezout_1_le {fu : Nat} (hf : Hf fu) (a2 : Int) (y1 : Int) : ∀ L L', (∀ s, Le (L s) (L' s)) -> ∀ s, Le (G_fpoly_Bezout_1 fu a2 y1 L s) (B_fpoly_Bezout_1 fu a2 y1 L' s) := by
  intro L L' h s
  unfold G_fpoly_Bezout_1 B_fpoly_Bezout_1
  with_reducible repeat' first | exact lr | exact h _ | exact F_fpoly_scaled_le hf _ _ _ | refine lb ?_ fun _ => ?_ | refine ln fun _ => ?_ | refine l6 fun _ => ?_ | refine lI fun _ => ?_ | refine li ?_ ?_ | simp only []
def F_fpoly_Bezout (fu : Nat) (a0 : List Int) (a1 : List Int) (a2 : Int) : Option ((List Int) × (List Int) × (List Int) × Int) :=
 bd (M_fp_Check fu a2) fun x1 =>
 if x1 = (0 : Int) then
 bd (F_fpoly_plain fu a0 a2) fun t1 =>
 bd (F_fpoly_plain fu a1 a2) fun t2 =>
 bd (loopN (G_fpoly_Bezout_0 fu a2) fu (([t1, [(1 : Int)], []], [t2, [], [(1 : Int)]]))) fun t6 =>
 ckI ((0 : Int)) (3) fun j2 =>
 bd ((if (0 : Int) < ((((t6.getD j2 [])).length : Nat) : Int) then
 some true
 else
 some false : Option Bool)) fun b1 =>
 if b1 = true then
 ckI ((0 : Int)) (3) fun j3 =>
 ck64 ((((((t6.getD j2 [])).length : Nat) : Int)) - ((1 : Int))) fun x2 =>
 ckI x2 (((t6.getD j3 [])).length) fun j4 =>
 nm (((t6.getD j3 [])).getD j4 0) fun y1 =>
 bd (loopN (G_fpoly_Bezout_1 fu a2 y1) fu (((0 : Int), t6))) fun t10 =>
 ckI ((0 : Int)) (3) fun j7 =>
 ckI ((1 : Int)) (3) fun j8 =>
 ckI ((2 : Int)) (3) fun j9 =>
 some (((t10.getD j7 []), (t10.getD j8 []), (t10.getD j9 []), (0 : Int)))
 else
 ckI ((0 : Int)) (3) fun j10 =>
 ckI ((1 : Int)) (3) fun j11 =>
 ckI ((2 : Int)) (3) fun j12 =>
 some (((t6.getD j10 []), (t6.getD j11 []), (t6.getD j12 []), (0 : Int)))
 else
 some ([], [], [], x1)
theorem F_fpoly_Bezout_le {fu : Nat} (hf : Hf fu) (a0 : List Int) (a1 : List Int) (a2 : Int) : Le (F_fpoly_Bezout fu a0 a1 a2) (M_fpoly_Bezout fu a0 a1 a2) := by
  have h : True := trivial
  unfold F_fpoly_Bezout M_fpoly_Bezout
  with_reducible repeat' first | exact lr | exact h _ | exact F_fpoly_plain_le hf _ _ | exact ll (G_fpoly_Bezout_0_le hf _) _ _ | exact ll (G_fpoly_Bezout_1_le hf _ _) _ _ | refine lb ?_ fun _ => ?_ | refine ln fun _ => ?_ | refine l6 fun _ => ?_ | refine lI fun _ => ?_ | refine li ?_ ?_ | simp only []
def F_fpoly_Gcd (fu : Nat) (a0 : List Int) (a1 : List Int) (a2 : Int) : Option ((List Int) × Int) :=
 bd (F_fpoly_Bezout fu a0 a1 a2) fun (t1, t2, t3, x1) =>
 some (t1, x1)
theorem F_fpoly_Gcd_le {fu : Nat} (hf : Hf fu) (a0 : List Int) (a1 : List Int) (a2 : Int) : Le (F_fpoly_Gcd fu a0 a1 a2) (M_fpoly_Gcd fu a0 a1 a2) := by
  have h : True := trivial
  unfold F_fpoly_Gcd M_fpoly_Gcd
  with_reducible repeat' first | exact lr | exact h _ | exact F_fpoly_Bezout_le hf _ _ _ | refine lb ?_ fun _ => ?_ | simp only []
def F_fpoly_Mul (fu : Nat) (a0 : List Int) (a1 : List Int) (a2 : Int) : Option ((List Int) × Int) :=
 bd (M_fp_Check fu a2) fun x1 =>
 if x1 = (0 : Int) then
 bd (F_fpoly_plain fu a0 a2) fun t1 =>
 bd (F_fpoly_plain fu a1 a2) fun t2 =>
 bd (F_fpoly_product fu t1 t2 a2) fun t3 =>
 some ((t3, (0 : Int)))
 else
 some ([], x1)
theorem F_fpoly_Mul_le {fu : Nat} (hf : Hf fu) (a0 : List Int) (a1 : List Int) (a2 : Int) : Le (F_fpoly_Mul fu a0 a1 a2) (M_fpoly_Mul fu a0 a1 a2) := by
  have h : True := trivial
  unfold F_fpoly_Mul M_fpoly_Mul
  with_reducible repeat' first | exact lr | exact h _ | exact F_fpoly_plain_le hf _ _ | exact F_fpoly_product_le hf _ _ _ | refine lb ?_ fun _ => ?_ | refine li ?_ ?_ | simp only []
def F_fpoly_Sub (fu : Nat) (a0 : List Int) (a1 : List Int) (a2 : Int) : Option ((List Int) × Int) :=
 bd (M_fp_Check fu a2) fun x1 =>
 if x1 = (0 : Int) then
 bd (F_fpoly_plain fu a0 a2) fun t1 =>
 bd (F_fpoly_plain fu a1 a2) fun t2 =>
 ck64 (a2 - ((1 : Int))) fun x2 =>
 bd (F_fpoly_sum fu t1 t2 x2 a2) fun t3 =>
 some ((t3, (0 : Int)))
 else
 some ([], x1)
theorem F_fpoly_Sub_le {fu : Nat} (hf : Hf fu) (a0 : List Int) (a1 : List Int) (a2 : Int) : Le (F_fpoly_Sub fu a0 a1 a2) (M_fpoly_Sub fu a0 a1 a2) := by
  have h : True := trivial
  unfold F_fpoly_Sub M_fpoly_Sub
  with_reducible repeat' first | exact lr | exact h _ | exact F_fpoly_plain_le hf _ _ | exact F_fpoly_sum_le hf _ _ _ _ | refine lb ?_ fun _ => ?_ | refine l6 fun _ => ?_ | refine li ?_ ?_ | simp only []
def F_hensel_equal (fu : Nat) (a0 : List Int) (a1 : List Int) (a2 : Int) : Option Bool :=
 bd (F_fpoly_Sub fu a0 a1 a2) fun (t1, x1) =>
 if ((t1.length : Nat) : Int) = (0 : Int) then
 some true
 else
 some false
theorem F_hensel_equal_le {fu : Nat} (hf : Hf fu) (a0 : List Int) (a1 : List Int) (a2 : Int) : Le (F_hensel_equal fu a0 a1 a2) (M_hensel_equal fu a0 a1 a2) := by
  have h : True := trivial
  unfold F_hensel_equal M_hensel_equal
  with_reducible repeat' first | exact lr | exact h _ | exact F_fpoly_Sub_le hf _ _ _ | refine lb ?_ fun _ => ?_ | refine li ?_ ?_ | simp only []
def G_hensel_product_0 (fu : Nat) (a0 : List (List Int)) (a1 : Int) : (((List Int) × Int) -> Option (List Int)) -> ((List Int) × Int) -> Option (List Int) := fun L (t1, i1) =>
 if i1 < ((a0.length : Nat) : Int) then
 ckI i1 (a0.length) fun j1 =>
 nm (a0.getD j1 []) fun y1 =>
 bd (F_fpoly_Mul fu t1 y1 a1) fun (t2, x1) =>
 ck64 (i1 + ((1 : Int))) fun x2 =>
 L (t2, x2)
 else
 some t1
theorem G_hensel_product_0_le {fu : Nat} (hf : Hf fu) (a0 : List (List Int)) (a1 : Int) : ∀ L L', (∀ s, Le (L s) (L' s)) -> ∀ s, Le (G_hensel_product_0 fu a0 a1 L s) (B_hensel_product_0 fu a0 a1 L' s) := by
  intro L L' h s
  unfold G_hensel_product_0 B_hensel_product_0
  with_reducible repeat' first | exact lr | exact h _ | exact F_fpoly_Mul_le hf _ _ _ | refine lb ?_ fun _ => ?_ | refine ln fun _ => ?_ | refine l6 fun _ => ?_ | refine lI fun _ => ?_ | refine li ?_ ?_ | simp only []
def F_hensel_product (fu : Nat) (a0 : List (List Int)) (a1 : Int) : Option (List Int) :=
 bd (loopN (G_hensel_product_0 fu a0 a1) fu (([(1 : Int)], (0 : Int)))) fun t3 =>
 some t3
theorem F_hensel_product_le {fu : Nat} (hf : Hf fu) (a0 : List (List Int)) (a1 : Int) : Le (F_hensel_product fu a0 a1) (M_hensel_product fu a0 a1) := by
  have h : True := trivial
  unfold F_hensel_product M_hensel_product
  with_reducible repeat' first | exact lr | exact h _ | exact ll (G_hensel_product_0_le hf _ _) _ _ | refine lb ?_ fun _ => ?_ | simp only []
def F_zint_Small (fu : Nat) (a0 : Zr) : Option (Int × Bool) :=
 bd (F_zint_Norm fu a0) fun y1 =>
 bd ((if ((y1.2.length : Nat) : Int) = (0 : Int) then
 some true
 else
 some false : Option Bool)) fun b1 =>
 if b1 = true then
 some (((0 : Int), true))
 else
 bd ((if (1 : Int) < ((y1.2.length : Nat) : Int) then
 some true
 else
 some false : Option Bool)) fun b2 =>
 if b2 = true then
 some (((0 : Int), false))
 else
 bd ((if y1.1 = true then
 ckI ((0 : Int)) (y1.2.length) fun j1 =>
 nm (y1.2.getD j1 0) fun y2 =>
 if ((y2 : Nat) : Int) <= (((9223372036854775808 : Nat) : Nat) : Int) then
 some true
 else
 some false
 else
 some false : Option Bool)) fun b3 =>
 if b3 = true then
 ckI ((0 : Int)) (y1.2.length) fun j2 =>
 nm (y1.2.getD j2 0) fun y3 =>
 nm ((18446744073709551616 - y3) % 18446744073709551616) fun m1 =>
 nm (sgn m1) fun x1 =>
 some (x1, true)
 else
 if y1.1 = true then
 some (((0 : Int), false))
 else
 ckI ((0 : Int)) (y1.2.length) fun j3 =>
 nm (y1.2.getD j3 0) fun y4 =>
 if (((9223372036854775807 : Nat) : Nat) : Int) < ((y4 : Nat) : Int) then
 some (((0 : Int), false))
 else
 ckI ((0 : Int)) (y1.2.length) fun j4 =>
 nm (y1.2.getD j4 0) fun y5 =>
 nm (sgn y5) fun x2 =>
 some (x2, true)
theorem F_zint_Small_le {fu : Nat} (hf : Hf fu) (a0 : Zr) : Le (F_zint_Small fu a0) (M_zint_Small fu a0) := by
  have h : True := trivial
  unfold F_zint_Small M_zint_Small
  with_reducible repeat' first | exact lr | exact h _ | exact F_zint_Norm_le hf _ | refine lb ?_ fun _ => ?_ | refine ln fun _ => ?_ | refine lI fun _ => ?_ | refine li ?_ ?_ | simp only []
def F_prime_Mod (fu : Nat) (a0 : Zr) (a1 : Int) : Option (Int × Int) :=
 bd (M_zint_Of fu a1) fun y1 =>
 bd (F_prime_Rest fu a0 y1) fun (y2, x1) =>
 if x1 = (0 : Int) then
 bd (F_zint_Small fu y2) fun (x2, c1) =>
 some ((x2, (0 : Int)))
 else
 some (((0 : Int), x1))
theorem F_prime_Mod_le {fu : Nat} (hf : Hf fu) (a0 : Zr) (a1 : Int) : Le (F_prime_Mod fu a0 a1) (M_prime_Mod fu a0 a1) := by
  have h : True := trivial
  unfold F_prime_Mod M_prime_Mod
  with_reducible repeat' first | exact lr | exact h _ | exact F_prime_Rest_le hf _ _ | exact F_zint_Small_le hf _ | refine lb ?_ fun _ => ?_ | refine li ?_ ?_ | simp only []
def F_zpoly_Mod_1 (fu : Nat) (a0 : Int) (a1 : Zr) (a2 : Int) : Option Int :=
 bd (F_prime_Mod fu a1 a2) fun (x1, x2) =>
 some x1
theorem F_zpoly_Mod_1_le {fu : Nat} (hf : Hf fu) (a0 : Int) (a1 : Zr) (a2 : Int) : Le (F_zpoly_Mod_1 fu a0 a1 a2) (M_zpoly_Mod_1 fu a0 a1 a2) := by
  have h : True := trivial
  unfold F_zpoly_Mod_1 M_zpoly_Mod_1
  with_reducible repeat' first | exact lr | exact h _ | exact F_prime_Mod_le hf _ _ | refine lb ?_ fun _ => ?_ | simp only []
def G_zpoly_each_api_Int_int_0 (fu : Nat) (a0 : List Zr) (a1 : Int -> Zr -> Option Int) : ((Int × (List Int)) -> Option (List Int)) -> (Int × (List Int)) -> Option (List Int) := fun L (i1, t2) =>
 bd ((if i1 < ((a0.length : Nat) : Int) then
 some ((a0, ((a0.length : Nat) : Int), true))
 else
 some ((a0, ((a0.length : Nat) : Int), false)) : Option ((List Zr) × Int × Bool))) fun (t3, i2, b1) =>
 if b1 = true then
 ckI i1 (t3.length) fun j2 =>
 nm (t3.getD j2 (false, [])) fun y1 =>
 bd (a1 i1 y1) fun x1 =>
 ckI i1 (t2.length) fun j3 =>
 nm (t2.set j3 x1) fun t4 =>
 ck64 (i1 + ((1 : Int))) fun x2 =>
 L (x2, t4)
 else
 some t2
theorem G_zpoly_each_api_Int_int_0_le {fu : Nat} (hf : Hf fu) (a0 : List Zr) (a1 a12 : Int -> Zr -> Option Int) (ha1 : ∀ v0 v1, Le (a1 v0 v1) (a12 v0 v1)) : ∀ L L', (∀ s, Le (L s) (L' s)) -> ∀ s, Le (G_zpoly_each_api_Int_int_0 fu a0 a1 L s) (B_zpoly_each_api_Int_int_0 fu a0 a12 L' s) := by
  intro L L' h s
  unfold G_zpoly_each_api_Int_int_0 B_zpoly_each_api_Int_int_0
  with_reducible repeat' first | exact lr | exact h _ | exact ha1 _ _ | refine lb ?_ fun _ => ?_ | refine ln fun _ => ?_ | refine l6 fun _ => ?_ | refine lI fun _ => ?_ | refine li ?_ ?_ | simp only []
def F_zpoly_each_api_Int_int (fu : Nat) (a0 : List Zr) (a1 : Int -> Zr -> Option Int) : Option (List Int) :=
 ckN (((a0.length : Nat) : Int)) fun j1 =>
 ck (8 * j1 <= 281474976710656) <|
 nm (List.replicate j1 0) fun t1 =>
 bd (loopN (G_zpoly_each_api_Int_int_0 fu a0 a1) fu (((0 : Int), t1))) fun t5 =>
 some t5
theorem F_zpoly_each_api_Int_int_le {fu : Nat} (hf : Hf fu) (a0 : List Zr) (a1 a12 : Int -> Zr -> Option Int) (ha1 : ∀ v0 v1, Le (a1 v0 v1) (a12 v0 v1)) : Le (F_zpoly_each_api_Int_int fu a0 a1) (M_zpoly_each_api_Int_int fu a0 a12) := by
  have h : True := trivial
  unfold F_zpoly_each_api_Int_int M_zpoly_each_api_Int_int
  with_reducible repeat' first | exact lr | exact h _ | exact ha1 _ _ | refine ll (G_zpoly_each_api_Int_int_0_le hf _ _ _ (fun _ _ => ?_)) _ _ | refine lb ?_ fun _ => ?_ | refine ln fun _ => ?_ | refine lc ?_ | refine lN fun _ => ?_ | simp only []
def F_zpoly_Mod (fu : Nat) (a0 : List Zr) (a1 : Int) : Option ((List Int) × Int) :=
 if a1 < (1 : Int) then
 some (([], (1 : Int)))
 else
 bd (F_zpoly_each_api_Int_int fu a0 (fun zx0 zx1 => F_zpoly_Mod_1 fu zx0 zx1 a1)) fun t1 =>
 bd (loopN (B_zpoly_Mod_0 fu ) fu t1) fun t4 =>
 some ((t4, (0 : Int)))
theorem F_zpoly_Mod_le {fu : Nat} (hf : Hf fu) (a0 : List Zr) (a1 : Int) : Le (F_zpoly_Mod fu a0 a1) (M_zpoly_Mod fu a0 a1) := by
  have h : True := trivial
  unfold F_zpoly_Mod M_zpoly_Mod
  with_reducible repeat' first | exact lr | exact h _ | refine F_zpoly_each_api_Int_int_le hf _ _ _ (fun _ _ => ?_) | exact F_zpoly_Mod_1_le hf _ _ _ | refine lb ?_ fun _ => ?_ | refine li ?_ ?_ | simp only []
def G_hensel_right_1 (fu : Nat) (i2 : Int) (y1 : List Int) (t6 : List (List Int)) : (Int -> Option (Unit ⊕ Unit)) -> Int -> Option (Unit ⊕ Unit) := fun L i4 =>
 if i4 < ((t6.length : Nat) : Int) then
 ckI i4 (t6.length) fun j3 =>
 nm (t6.getD j3 []) fun y2 =>
 bd (F_fpoly_Gcd fu y1 y2 i2) fun (t7, x2) =>
 if ((t7.length : Nat) : Int) = (1 : Int) then
 ck64 (i4 + ((1 : Int))) fun x3 =>
 L x3
 else
 some (.inr ())
 else
 some (.inl ())
theorem G_hensel_right_1_le {fu : Nat} (hf : Hf fu) (i2 : Int) (y1 : List Int) (t6 : List (List Int)) : ∀ L L', (∀ s, Le (L s) (L' s)) -> ∀ s, Le (G_hensel_right_1 fu i2 y1 t6 L s) (B_hensel_right_1 fu i2 y1 t6 L' s) := by
  intro L L' h s
  unfold G_hensel_right_1 B_hensel_right_1
  with_reducible repeat' first | exact lr | exact h _ | exact F_fpoly_Gcd_le hf _ _ _ | refine lb ?_ fun _ => ?_ | refine ln fun _ => ?_ | refine l6 fun _ => ?_ | refine lI fun _ => ?_ | refine li ?_ ?_ | simp only []
def G_hensel_right_0 (fu : Nat) (a0 : List Zr) (a1 : List (List Int)) (a2 : Int) : ((Int × (List Int)) -> Option ((List Int) ⊕ Unit)) -> (Int × (List Int)) -> Option ((List Int) ⊕ Unit) := fun L (i1, t2) =>
 bd ((if i1 < ((a1.length : Nat) : Int) then
 some ((a0, a1, a2, a1, ((a1.length : Nat) : Int), true))
 else
 some ((a0, a1, a2, a1, ((a1.length : Nat) : Int), false)) : Option ((List Zr) × (List (List Int)) × Int × (List (List Int)) × Int × Bool))) fun (t3, t4, i2, t5, i3, b1) =>
 if b1 = true then
 ckI i1 (t5.length) fun j1 =>
 nm (t5.getD j1 []) fun y1 =>
 if ((t3.length : Nat) : Int) < ((y1.length : Nat) : Int) then
 some (.inr ())
 else
 bd (M_hensel_plain fu y1 i2) fun c1 =>
 if ((!c1)) = true then
 some (.inr ())
 else
 ckN i1 fun j2 =>
 ck (j2 <= t4.length) <|
 nm (t4.take j2) fun t6 =>
 bd (loopN (G_hensel_right_1 fu i2 y1 t6) fu (0 : Int)) fun s1 => match s1 with
 | .inl _ =>
 ck64 (i1 + ((1 : Int))) fun x4 =>
 L (x4, t2)
 | .inr _ =>
 some (.inr ())
 else
 some (.inl t2)
theorem G_hensel_right_0_le {fu : Nat} (hf : Hf fu) (a0 : List Zr) (a1 : List (List Int)) (a2 : Int) : ∀ L L', (∀ s, Le (L s) (L' s)) -> ∀ s, Le (G_hensel_right_0 fu a0 a1 a2 L s) (B_hensel_right_0 fu a0 a1 a2 L' s) := by
  intro L L' h s
  unfold G_hensel_right_0 B_hensel_right_0
  with_reducible repeat' first | exact lr | exact h _ | exact ll (G_hensel_right_1_le hf _ _ _) _ _ | refine lb ?_ fun _ => ?_ | refine ln fun _ => ?_ | refine lc ?_ | refine l6 fun _ => ?_ | refine lI fun _ => ?_ | refine lN fun _ => ?_ | refine li ?_ ?_ | simp only [] | split
def F_hensel_right (fu : Nat) (a0 : List Zr) (a1 : List (List Int)) (a2 : Int) : Option Bool :=
 bd (F_zpoly_Mod fu a0 a2) fun (t1, x1) =>
 if ((a0.length : Nat) : Int) = (0 : Int) then
 some false
 else
 if ((t1.length : Nat) : Int) = ((a0.length : Nat) : Int) then
 if ((a0.length : Nat) : Int) < ((a1.length : Nat) : Int) then
 some false
 else
 bd (loopN (G_hensel_right_0 fu a0 a1 a2) fu (((0 : Int), t1))) fun s2 => match s2 with
 | .inl t8 =>
 bd (F_hensel_product fu a1 a2) fun t9 =>
 ck64 ((((t8.length : Nat) : Int)) - ((1 : Int))) fun x5 =>
 ckN x5 fun j4 =>
 ck (j4 <= t8.length) <|
 nm (t8.drop j4) fun t10 =>
 bd (F_fpoly_Mul fu t9 t10 a2) fun (t11, x6) =>
 bd (F_hensel_equal fu t11 t8 a2) fun c2 =>
 some c2
 | .inr _ =>
 some false
 else
 some false
theorem F_hensel_right_le {fu : Nat} (hf : Hf fu) (a0 : List Zr) (a1 : List (List Int)) (a2 : Int) : Le (F_hensel_right fu a0 a1 a2) (M_hensel_right fu a0 a1 a2) := by
  have h : True := trivial
  unfold F_hensel_right M_hensel_right
  with_reducible repeat' first | exact lr | exact h _ | exact F_zpoly_Mod_le hf _ _ | exact ll (G_hensel_right_0_le hf _ _ _) _ _ | exact F_hensel_product_le hf _ _ | exact F_fpoly_Mul_le hf _ _ _ | exact F_hensel_equal_le hf _ _ _ | refine lb ?_ fun _ => ?_ | refine ln fun _ => ?_ | refine lc ?_ | refine l6 fun _ => ?_ | refine lN fun _ => ?_ | refine li ?_ ?_ | simp only [] | split
def G_hensel_divided_1 (fu : Nat) (a1 : List Zr) (i1 : Int) : (((List Zr) × Zr × Int × (List Zr) × (List Zr)) -> Option ((List Zr) × Zr × (List Zr) × (List Zr))) -> ((List Zr) × Zr × Int × (List Zr) × (List Zr)) -> Option ((List Zr) × Zr × (List Zr) × (List Zr)) := fun L (t6, t7, i2, t8, t9) =>
 bd ((if i2 < ((a1.length : Nat) : Int) then
 some ((i1, a1, ((a1.length : Nat) : Int), true))
 else
 some ((i1, a1, ((a1.length : Nat) : Int), false)) : Option (Int × (List Zr) × Int × Bool))) fun (i3, t10, i4, b1) =>
 if b1 = true then
 ckI i2 (t10.length) fun j4 =>
 nm (t10.getD j4 (false, [])) fun y3 =>
 ck64 (i3 + i2) fun x8 =>
 ck64 (i3 + i2) fun x9 =>
 ckI x9 (t8.length) fun j5 =>
 nm ((t8.getD j5 (false, []))) fun y4 =>
 ckI i3 (t9.length) fun j6 =>
 nm ((t9.getD j6 (false, []))) fun y5 =>
 bd (F_zint_Mul fu y5 y3) fun y6 =>
 bd (F_zint_Sub fu y4 y6) fun y7 =>
 ckI x8 (t8.length) fun j7 =>
 nm (t8.set j7 y7) fun t11 =>
 ck64 (i2 + ((1 : Int))) fun x10 =>
 L (t6, t7, x10, t11, t9)
 else
 some (t6, t7, t8, t9)
theorem G_hensel_divided_1_le {fu : Nat} (hf : Hf fu) (a1 : List Zr) (i1 : Int) : ∀ L L', (∀ s, Le (L s) (L' s)) -> ∀ s, Le (G_hensel_divided_1 fu a1 i1 L s) (B_hensel_divided_1 fu a1 i1 L' s) := by
  intro L L' h s
  unfold G_hensel_divided_1 B_hensel_divided_1
  with_reducible repeat' first | exact lr | exact h _ | exact F_zint_Mul_le hf _ _ | exact F_zint_Sub_le hf _ _ | refine lb ?_ fun _ => ?_ | refine ln fun _ => ?_ | refine l6 fun _ => ?_ | refine lI fun _ => ?_ | refine li ?_ ?_ | simp only []
def G_hensel_divided_0 (fu : Nat) (a1 : List Zr) (a2 : Zr) : ((Int × (List Zr) × (List Zr)) -> Option ((List Zr) × (List Zr))) -> (Int × (List Zr) × (List Zr)) -> Option ((List Zr) × (List Zr)) := fun L (i1, t3, t4) =>
 if (0 : Int) <= i1 then
 ck64 (i1 + (((a1.length : Nat) : Int))) fun x5 =>
 ck64 (x5 - ((1 : Int))) fun x6 =>
 ckI x6 (t3.length) fun j2 =>
 nm ((t3.getD j2 (false, []))) fun y1 =>
 bd (F_prime_Rest fu y1 a2) fun (y2, x7) =>
 ckI i1 (t4.length) fun j3 =>
 nm (t4.set j3 y2) fun t5 =>
 bd (loopN (G_hensel_divided_1 fu a1 i1) fu ((a1, a2, (0 : Int), t3, t5))) fun (t12, t13, t14, t15) =>
 ck64 (i1 - ((1 : Int))) fun x11 =>
 L (x11, t14, t15)
 else
 some (t3, t4)
theorem G_hensel_divided_0_le {fu : Nat} (hf : Hf fu) (a1 : List Zr) (a2 : Zr) : ∀ L L', (∀ s, Le (L s) (L' s)) -> ∀ s, Le (G_hensel_divided_0 fu a1 a2 L s) (B_hensel_divided_0 fu a1 a2 L' s) := by
  intro L L' h s
  unfold G_hensel_divided_0 B_hensel_divided_0
  with_reducible repeat' first | exact lr | exact h _ | exact F_prime_Rest_le hf _ _ | exact ll (G_hensel_divided_1_le hf _ _) _ _ | refine lb ?_ fun _ => ?_ | refine ln fun _ => ?_ | refine l6 fun _ => ?_ | refine lI fun _ => ?_ | refine li ?_ ?_ | simp only []
def F_hensel_divided (fu : Nat) (a0 : List Zr) (a1 : List Zr) (a2 : Zr) : Option ((List Zr) × (List Zr)) :=
 bd (F_hensel_red fu a0 a2) fun t1 =>
 ck64 ((((t1.length : Nat) : Int)) - (((a1.length : Nat) : Int))) fun x1 =>
 ck64 (x1 + ((1 : Int))) fun x2 =>
 nm (max x2 ((0 : Int))) fun x3 =>
 ckN x3 fun j1 =>
 ck (32 * j1 <= 281474976710656) <|
 nm (List.replicate j1 (false, [])) fun t2 =>
 ck64 ((((t2.length : Nat) : Int)) - ((1 : Int))) fun x4 =>
 bd (loopN (G_hensel_divided_0 fu a1 a2) fu (x4, t1, t2)) fun (t16, t17) =>
 bd (F_hensel_red fu t17 a2) fun t18 =>
 bd (F_hensel_red fu t16 a2) fun t19 =>
 some (t18, t19)
theorem F_hensel_divided_le {fu : Nat} (hf : Hf fu) (a0 : List Zr) (a1 : List Zr) (a2 : Zr) : Le (F_hensel_divided fu a0 a1 a2) (M_hensel_divided fu a0 a1 a2) := by
  have h : True := trivial
  unfold F_hensel_divided M_hensel_divided
  with_reducible repeat' first | exact lr | exact h _ | exact F_hensel_red_le hf _ _ | exact ll (G_hensel_divided_0_le hf _ _) _ _ | refine lb ?_ fun _ => ?_ | refine ln fun _ => ?_ | refine lc ?_ | refine l6 fun _ => ?_ | refine lN fun _ => ?_ | simp only []
def F_zpoly_Add_1 (fu : Nat) (a0 : Int) (a1 : Zr) (a2 : List Zr) : Option Zr :=
 if a0 < ((a2.length : Nat) : Int) then
 ckI a0 (a2.length) fun j1 =>
 nm (a2.getD j1 (false, [])) fun y1 =>
 bd (F_zint_Add fu a1 y1) fun y2 =>
 some y2
 else
 some a1
theorem F_zpoly_Add_1_le {fu : Nat} (hf : Hf fu) (a0 : Int) (a1 : Zr) (a2 : List Zr) : Le (F_zpoly_Add_1 fu a0 a1 a2) (M_zpoly_Add_1 fu a0 a1 a2) := by
  have h : True := trivial
  unfold F_zpoly_Add_1 M_zpoly_Add_1
  with_reducible repeat' first | exact lr | exact h _ | exact F_zint_Add_le hf _ _ | refine lb ?_ fun _ => ?_ | refine ln fun _ => ?_ | refine lI fun _ => ?_ | refine li ?_ ?_ | simp only []
def F_zpoly_Add (fu : Nat) (a0 : List Zr) (a1 : List Zr) : Option (List Zr) :=
 if ((a0.length : Nat) : Int) < ((a1.length : Nat) : Int) then
 bd (F_zpoly_each_api_Int_api_Int fu a1 (fun zx0 zx1 => F_zpoly_Add_1 fu zx0 zx1 a0)) fun t1 =>
 bd (F_zpoly_Norm fu t1) fun t2 =>
 some t2
 else
 bd (F_zpoly_each_api_Int_api_Int fu a0 (fun zx0 zx1 => F_zpoly_Add_1 fu zx0 zx1 a1)) fun t3 =>
 bd (F_zpoly_Norm fu t3) fun t4 =>
 some t4
theorem F_zpoly_Add_le {fu : Nat} (hf : Hf fu) (a0 : List Zr) (a1 : List Zr) : Le (F_zpoly_Add fu a0 a1) (M_zpoly_Add fu a0 a1) := by
  have h : True := trivial
  unfold F_zpoly_Add M_zpoly_Add
  with_reducible repeat' first | exact lr | exact h _ | refine F_zpoly_each_api_Int_api_Int_le hf _ _ _ (fun _ _ => ?_) | exact F_zpoly_Add_1_le hf _ _ _ | exact F_zpoly_Norm_le hf _ | refine lb ?_ fun _ => ?_ | refine li ?_ ?_ | simp only []
def G_zpoly_Mul_1 (fu : Nat) (i1 : Int) (t3 : List Zr) (t4 : List Zr) (i2 : Int) : ((Int × (List Zr) × Zr) -> Option (List Zr)) -> (Int × (List Zr) × Zr) -> Option (List Zr) := fun L (i3, t5, t6) =>
 bd ((if i3 < ((t3.length : Nat) : Int) then
 some ((t3, i1, t4, i2, i1, t3, ((t3.length : Nat) : Int), true))
 else
 some ((t3, i1, t4, i2, i1, t3, ((t3.length : Nat) : Int), false)) : Option ((List Zr) × Int × (List Zr) × Int × Int × (List Zr) × Int × Bool))) fun (t7, i4, t8, i5, i6, t9, i7, b2) =>
 if b2 = true then
 ckI i3 (t9.length) fun j3 =>
 nm (t9.getD j3 (false, [])) fun y2 =>
 ck64 (i4 + i3) fun x2 =>
 ck64 (i4 + i3) fun x3 =>
 ckI x3 (t5.length) fun j4 =>
 nm ((t5.getD j4 (false, []))) fun y3 =>
 bd (F_zint_Mul fu t6 y2) fun y4 =>
 bd (F_zint_Add fu y3 y4) fun y5 =>
 ckI x2 (t5.length) fun j5 =>
 nm (t5.set j5 y5) fun t10 =>
 ck64 (i3 + ((1 : Int))) fun x4 =>
 L (x4, t10, t6)
 else
 some t5
theorem G_zpoly_Mul_1_le {fu : Nat} (hf : Hf fu) (i1 : Int) (t3 : List Zr) (t4 : List Zr) (i2 : Int) : ∀ L L', (∀ s, Le (L s) (L' s)) -> ∀ s, Le (G_zpoly_Mul_1 fu i1 t3 t4 i2 L s) (B_zpoly_Mul_1 fu i1 t3 t4 i2 L' s) := by
  intro L L' h s
  unfold G_zpoly_Mul_1 B_zpoly_Mul_1
  with_reducible repeat' first | exact lr | exact h _ | exact F_zint_Mul_le hf _ _ | exact F_zint_Add_le hf _ _ | refine lb ?_ fun _ => ?_ | refine ln fun _ => ?_ | refine l6 fun _ => ?_ | refine lI fun _ => ?_ | refine li ?_ ?_ | simp only []
def G_zpoly_Mul_0 (fu : Nat) (a0 : List Zr) (a1 : List Zr) : ((Int × (List Zr)) -> Option (List Zr)) -> (Int × (List Zr)) -> Option (List Zr) := fun L (i1, t2) =>
 bd ((if i1 < ((a0.length : Nat) : Int) then
 some ((a1, a0, ((a0.length : Nat) : Int), true))
 else
 some ((a1, a0, ((a0.length : Nat) : Int), false)) : Option ((List Zr) × (List Zr) × Int × Bool))) fun (t3, t4, i2, b1) =>
 if b1 = true then
 ckI i1 (t4.length) fun j2 =>
 nm (t4.getD j2 (false, [])) fun y1 =>
 bd (loopN (G_zpoly_Mul_1 fu i1 t3 t4 i2) fu (((0 : Int), t2, y1))) fun t11 =>
 ck64 (i1 + ((1 : Int))) fun x5 =>
 L (x5, t11)
 else
 some t2
theorem G_zpoly_Mul_0_le {fu : Nat} (hf : Hf fu) (a0 : List Zr) (a1 : List Zr) : ∀ L L', (∀ s, Le (L s) (L' s)) -> ∀ s, Le (G_zpoly_Mul_0 fu a0 a1 L s) (B_zpoly_Mul_0 fu a0 a1 L' s) := by
  intro L L' h s
  unfold G_zpoly_Mul_0 B_zpoly_Mul_0
  with_reducible repeat' first | exact lr | exact h _ | exact ll (G_zpoly_Mul_1_le hf _ _ _ _) _ _ | refine lb ?_ fun _ => ?_ | refine ln fun _ => ?_ | refine l6 fun _ => ?_ | refine lI fun _ => ?_ | refine li ?_ ?_ | simp only []
def F_zpoly_Mul (fu : Nat) (a0 : List Zr) (a1 : List Zr) : Option (List Zr) :=
 ck64 ((((a0.length : Nat) : Int)) + (((a1.length : Nat) : Int))) fun x1 =>
 ckN x1 fun j1 =>
 ck (32 * j1 <= 281474976710656) <|
 nm (List.replicate j1 (false, [])) fun t1 =>
 bd (loopN (G_zpoly_Mul_0 fu a0 a1) fu (((0 : Int), t1))) fun t12 =>
 bd (F_zpoly_Norm fu t12) fun t13 =>
 some t13
theorem F_zpoly_Mul_le {fu : Nat} (hf : Hf fu) (a0 : List Zr) (a1 : List Zr) : Le (F_zpoly_Mul fu a0 a1) (M_zpoly_Mul fu a0 a1) := by
  have h : True := trivial
  unfold F_zpoly_Mul M_zpoly_Mul
  with_reducible repeat' first | exact lr | exact h _ | exact ll (G_zpoly_Mul_0_le hf _ _) _ _ | exact F_zpoly_Norm_le hf _ | refine lb ?_ fun _ => ?_ | refine ln fun _ => ?_ | refine lc ?_ | refine l6 fun _ => ?_ | refine lN fun _ => ?_ | simp only []
def G_zpoly_each_int_api_Int_0 (fu : Nat) (a0 : List Int) (a1 : Int -> Int -> Option Zr) : ((Int × (List Zr)) -> Option (List Zr)) -> (Int × (List Zr)) -> Option (List Zr) := fun L (i1, t2) =>
 if i1 < ((a0.length : Nat) : Int) then
 ckI i1 (a0.length) fun j2 =>
 nm (a0.getD j2 0) fun y1 =>
 bd (a1 i1 y1) fun y2 =>
 ckI i1 (t2.length) fun j3 =>
 nm (t2.set j3 y2) fun t3 =>
 ck64 (i1 + ((1 : Int))) fun x1 =>
 L (x1, t3)
 else
 some t2
theorem G_zpoly_each_int_api_Int_0_le {fu : Nat} (hf : Hf fu) (a0 : List Int) (a1 a12 : Int -> Int -> Option Zr) (ha1 : ∀ v0 v1, Le (a1 v0 v1) (a12 v0 v1)) : ∀ L L', (∀ s, Le (L s) (L' s)) -> ∀ s, Le (G_zpoly_each_int_api_Int_0 fu a0 a1 L s) (B_zpoly_each_int_api_Int_0 fu a0 a12 L' s) := by
  intro L L' h s
  unfold G_zpoly_each_int_api_Int_0 B_zpoly_each_int_api_Int_0
  with_reducible repeat' first | exact lr | exact h _ | exact ha1 _ _ | refine lb ?_ fun _ => ?_ | refine ln fun _ => ?_ | refine l6 fun _ => ?_ | refine lI fun _ => ?_ | refine li ?_ ?_ | simp only []
def F_zpoly_each_int_api_Int (fu : Nat) (a0 : List Int) (a1 : Int -> Int -> Option Zr) : Option (List Zr) :=
 ckN (((a0.length : Nat) : Int)) fun j1 =>
 ck (32 * j1 <= 281474976710656) <|
 nm (List.replicate j1 (false, [])) fun t1 =>
 bd (loopN (G_zpoly_each_int_api_Int_0 fu a0 a1) fu (((0 : Int), t1))) fun t4 =>
 some t4
theorem F_zpoly_each_int_api_Int_le {fu : Nat} (hf : Hf fu) (a0 : List Int) (a1 a12 : Int -> Int -> Option Zr) (ha1 : ∀ v0 v1, Le (a1 v0 v1) (a12 v0 v1)) : Le (F_zpoly_each_int_api_Int fu a0 a1) (M_zpoly_each_int_api_Int fu a0 a12) := by
  have h : True := trivial
  unfold F_zpoly_each_int_api_Int M_zpoly_each_int_api_Int
  with_reducible repeat' first | exact lr | exact h _ | exact ha1 _ _ | refine ll (G_zpoly_each_int_api_Int_0_le hf _ _ _ (fun _ _ => ?_)) _ _ | refine lb ?_ fun _ => ?_ | refine ln fun _ => ?_ | refine lc ?_ | refine lN fun _ => ?_ | simp only []
def F_zpoly_Lift (fu : Nat) (a0 : List Int) : Option (List Zr) :=
 bd (F_zpoly_each_int_api_Int fu a0 (fun zx0 zx1 => M_zpoly_Lift_1 fu zx0 zx1)) fun t1 =>
 bd (F_zpoly_Norm fu t1) fun t2 =>
 some t2
theorem F_zpoly_Lift_le {fu : Nat} (hf : Hf fu) (a0 : List Int) : Le (F_zpoly_Lift fu a0) (M_zpoly_Lift fu a0) := by
  have h : True := trivial
  unfold F_zpoly_Lift M_zpoly_Lift
  with_reducible repeat' first | exact lr | exact h _ | refine F_zpoly_each_int_api_Int_le hf _ _ _ (fun _ _ => ?_) | exact F_zpoly_Norm_le hf _ | refine lb ?_ fun _ => ?_ | simp only []
def F_zpoly_Of (fu : Nat) (a0 : List Int) : Option (List Zr) :=
 bd (F_zpoly_Lift fu a0) fun t1 =>
 some t1
theorem F_zpoly_Of_le {fu : Nat} (hf : Hf fu) (a0 : List Int) : Le (F_zpoly_Of fu a0) (M_zpoly_Of fu a0) := by
  have h : True := trivial
  unfold F_zpoly_Of M_zpoly_Of
  with_reducible repeat' first | exact lr | exact h _ | exact F_zpoly_Lift_le hf _ | refine lb ?_ fun _ => ?_ | simp only []
def F_zpoly_Scale_1 (fu : Nat) (a0 : Int) (a1 : Zr) (a2 : Zr) : Option Zr :=
 bd (F_zint_Mul fu a1 a2) fun y1 =>
 some y1
theorem F_zpoly_Scale_1_le {fu : Nat} (hf : Hf fu) (a0 : Int) (a1 : Zr) (a2 : Zr) : Le (F_zpoly_Scale_1 fu a0 a1 a2) (M_zpoly_Scale_1 fu a0 a1 a2) := by
  have h : True := trivial
  unfold F_zpoly_Scale_1 M_zpoly_Scale_1
  with_reducible repeat' first | exact lr | exact h _ | exact F_zint_Mul_le hf _ _ | refine lb ?_ fun _ => ?_ | simp only []
def F_zpoly_Scale (fu : Nat) (a0 : List Zr) (a1 : Zr) : Option (List Zr) :=
 bd (F_zpoly_each_api_Int_api_Int fu a0 (fun zx0 zx1 => F_zpoly_Scale_1 fu zx0 zx1 a1)) fun t1 =>
 bd (F_zpoly_Norm fu t1) fun t2 =>
 some t2
theorem F_zpoly_Scale_le {fu : Nat} (hf : Hf fu) (a0 : List Zr) (a1 : Zr) : Le (F_zpoly_Scale fu a0 a1) (M_zpoly_Scale fu a0 a1) := by
  have h : True := trivial
  unfold F_zpoly_Scale M_zpoly_Scale
  with_reducible repeat' first | exact lr | exact h _ | refine F_zpoly_each_api_Int_api_Int_le hf _ _ _ (fun _ _ => ?_) | exact F_zpoly_Scale_1_le hf _ _ _ | exact F_zpoly_Norm_le hf _ | refine lb ?_ fun _ => ?_ | simp only []
def F_zpoly_Sub (fu : Nat) (a0 : List Zr) (a1 : List Zr) : Option (List Zr) :=
 bd (M_zint_Of fu (-1 : Int)) fun y1 =>
 bd (F_zpoly_Scale fu a1 y1) fun t1 =>
 bd (F_zpoly_Add fu a0 t1) fun t2 =>
 some t2
theorem F_zpoly_Sub_le {fu : Nat} (hf : Hf fu) (a0 : List Zr) (a1 : List Zr) : Le (F_zpoly_Sub fu a0 a1) (M_zpoly_Sub fu a0 a1) := by
  have h : True := trivial
  unfold F_zpoly_Sub M_zpoly_Sub
  with_reducible repeat' first | exact lr | exact h _ | exact F_zpoly_Scale_le hf _ _ | exact F_zpoly_Add_le hf _ _ | refine lb ?_ fun _ => ?_ | simp only []
def F_hensel_pair_up (fu : Nat) (a0 : List (List Zr)) (a1 : List Zr) (a2 : Zr) : Option (List (List Zr)) :=
 ckI ((0 : Int)) (4) fun j1 =>
 nm (a0.getD j1 []) fun y1 =>
 ckI ((1 : Int)) (4) fun j2 =>
 nm (a0.getD j2 []) fun y2 =>
 ckI ((2 : Int)) (4) fun j3 =>
 nm (a0.getD j3 []) fun y3 =>
 ckI ((3 : Int)) (4) fun j4 =>
 nm (a0.getD j4 []) fun y4 =>
 bd (F_zpoly_Mul fu y1 y2) fun t1 =>
 bd (F_zpoly_Sub fu a1 t1) fun t2 =>
 bd (F_hensel_red fu t2 a2) fun t3 =>
 bd (F_zpoly_Mul fu y3 t3) fun t4 =>
 bd (F_hensel_divided fu t4 y2 a2) fun (t5, t6) =>
 bd (F_zpoly_Mul fu y4 t3) fun t7 =>
 bd (F_zpoly_Mul fu t5 y1) fun t8 =>
 bd (F_zpoly_Add fu t7 t8) fun t9 =>
 bd (F_zpoly_Add fu y1 t9) fun t10 =>
 bd (F_hensel_red fu t10 a2) fun t11 =>
 bd (F_zpoly_Add fu y2 t6) fun t12 =>
 bd (F_hensel_red fu t12 a2) fun t13 =>
 bd (F_zpoly_Mul fu y3 t11) fun t14 =>
 bd (F_zpoly_Mul fu y4 t13) fun t15 =>
 bd (F_zpoly_Add fu t14 t15) fun t16 =>
 bd (F_zpoly_Of fu [(1 : Int)]) fun t17 =>
 bd (F_zpoly_Sub fu t16 t17) fun t18 =>
 bd (F_hensel_red fu t18 a2) fun t19 =>
 bd (F_zpoly_Mul fu y3 t19) fun t20 =>
 bd (F_hensel_divided fu t20 t13 a2) fun (t21, t22) =>
 bd (F_zpoly_Sub fu y3 t22) fun t23 =>
 bd (F_hensel_red fu t23 a2) fun t24 =>
 bd (F_zpoly_Mul fu y4 t19) fun t25 =>
 bd (F_zpoly_Mul fu t21 t11) fun t26 =>
 bd (F_zpoly_Add fu t25 t26) fun t27 =>
 bd (F_zpoly_Sub fu y4 t27) fun t28 =>
 bd (F_hensel_red fu t28 a2) fun t29 =>
 some [t11, t13, t24, t29]
theorem F_hensel_pair_up_le {fu : Nat} (hf : Hf fu) (a0 : List (List Zr)) (a1 : List Zr) (a2 : Zr) : Le (F_hensel_pair_up fu a0 a1 a2) (M_hensel_pair_up fu a0 a1 a2) := by
  have h : True := trivial
  unfold F_hensel_pair_up M_hensel_pair_up
  with_reducible repeat' first | exact lr | exact h _ | exact F_zpoly_Mul_le hf _ _ | exact F_zpoly_Sub_le hf _ _ | exact F_hensel_red_le hf _ _ | exact F_hensel_divided_le hf _ _ _ | exact F_zpoly_Add_le hf _ _ | exact F_zpoly_Of_le hf _ | refine lb ?_ fun _ => ?_ | refine ln fun _ => ?_ | refine lI fun _ => ?_ | simp only []
def F_zint_line_less (fu : Nat) (a0 : Zr × (Zr × Zr)) (a1 : Zr) (a2 : Zr × (Zr × Zr)) : Option (Zr × (Zr × Zr)) :=
 bd (F_zint_Mul fu a1 a2.1) fun y1 =>
 bd (F_zint_Sub fu a0.1 y1) fun y2 =>
 bd (F_zint_Mul fu a1 a2.2.1) fun y3 =>
 bd (F_zint_Sub fu a0.2.1 y3) fun y4 =>
 bd (F_zint_Mul fu a1 a2.2.2) fun y5 =>
 bd (F_zint_Sub fu a0.2.2 y5) fun y6 =>
 some (y2, y4, y6)
theorem F_zint_line_less_le {fu : Nat} (hf : Hf fu) (a0 : Zr × (Zr × Zr)) (a1 : Zr) (a2 : Zr × (Zr × Zr)) : Le (F_zint_line_less fu a0 a1 a2) (M_zint_line_less fu a0 a1 a2) := by
  have h : True := trivial
  unfold F_zint_line_less M_zint_line_less
  with_reducible repeat' first | exact lr | exact h _ | exact F_zint_Mul_le hf _ _ | exact F_zint_Sub_le hf _ _ | refine lb ?_ fun _ => ?_ | simp only []
def G_zint_Bezout_0 (fu : Nat)  : (((Zr × (Zr × Zr)) × (Zr × (Zr × Zr))) -> Option (Zr × (Zr × Zr))) -> ((Zr × (Zr × Zr)) × (Zr × (Zr × Zr))) -> Option (Zr × (Zr × Zr)) := fun L (t1, t2) =>
 bd (F_zint_Sign fu t2.1) fun x1 =>
 if x1 = (0 : Int) then
 some t1
 else
 bd (F_zint_Div fu t1.1 t2.1) fun (y7, y8, x2) =>
 bd (F_zint_line_less fu t1 y7 t2) fun y9 =>
 L (t2, y9)
theorem G_zint_Bezout_0_le {fu : Nat} (hf : Hf fu)  : ∀ L L', (∀ s, Le (L s) (L' s)) -> ∀ s, Le (G_zint_Bezout_0 fu  L s) (B_zint_Bezout_0 fu  L' s) := by
  intro L L' h s
  unfold G_zint_Bezout_0 B_zint_Bezout_0
  with_reducible repeat' first | exact lr | exact h _ | exact F_zint_Sign_le hf _ | exact F_zint_Div_le hf _ _ | exact F_zint_line_less_le hf _ _ _ | refine lb ?_ fun _ => ?_ | refine li ?_ ?_ | simp only []
def F_zint_Bezout (fu : Nat) (a0 : Zr) (a1 : Zr) : Option (Zr × Zr × Zr) :=
 bd (M_zint_made fu false a0.2) fun y1 =>
 bd (M_zint_Of fu (1 : Int)) fun y2 =>
 bd (M_zint_Of fu (0 : Int)) fun y3 =>
 bd (M_zint_made fu false a1.2) fun y4 =>
 bd (M_zint_Of fu (0 : Int)) fun y5 =>
 bd (M_zint_Of fu (1 : Int)) fun y6 =>
 bd (loopN (G_zint_Bezout_0 fu ) fu (((y1, y2, y3), (y4, y5, y6)))) fun t3 =>
 bd ((bd (F_zint_Sign fu a0) fun x3 =>
 if x3 < (0 : Int) then
 bd (F_zint_Neg fu t3.2.1) fun y10 =>
 nm ((t3.1, (y10, t3.2.2))) fun t4 =>
 some t4
 else
 some t3 : Option (Zr × (Zr × Zr)))) fun t5 =>
 bd ((bd (F_zint_Sign fu a1) fun x4 =>
 if x4 < (0 : Int) then
 bd (F_zint_Neg fu t5.2.2) fun y11 =>
 nm ((t5.1, (t5.2.1, y11))) fun t6 =>
 some t6
 else
 some t5 : Option (Zr × (Zr × Zr)))) fun t7 =>
 some (t7.1, t7.2.1, t7.2.2)
theorem F_zint_Bezout_le {fu : Nat} (hf : Hf fu) (a0 : Zr) (a1 : Zr) : Le (F_zint_Bezout fu a0 a1) (M_zint_Bezout fu a0 a1) := by
  have h : True := trivial
  unfold F_zint_Bezout M_zint_Bezout
  with_reducible repeat' first | exact lr | exact h _ | exact ll (G_zint_Bezout_0_le hf) _ _ | exact F_zint_Sign_le hf _ | exact F_zint_Neg_le hf _ | refine lb ?_ fun _ => ?_ | refine ln fun _ => ?_ | refine li ?_ ?_ | simp only []
def F_hensel_one (fu : Nat) (a0 : List Zr) (a1 : Zr) : Option (List Zr) :=
 ck64 ((((a0.length : Nat) : Int)) - ((1 : Int))) fun x1 =>
 ckI x1 (a0.length) fun j1 =>
 nm (a0.getD j1 (false, [])) fun y1 =>
 bd (F_zint_Bezout fu y1 a1) fun (y2, y3, y4) =>
 bd (F_zpoly_Scale fu a0 y3) fun t1 =>
 bd (F_hensel_red fu t1 a1) fun t2 =>
 some t2
theorem F_hensel_one_le {fu : Nat} (hf : Hf fu) (a0 : List Zr) (a1 : Zr) : Le (F_hensel_one fu a0 a1) (M_hensel_one fu a0 a1) := by
  have h : True := trivial
  unfold F_hensel_one M_hensel_one
  with_reducible repeat' first | exact lr | exact h _ | exact F_zint_Bezout_le hf _ _ | exact F_zpoly_Scale_le hf _ _ | exact F_hensel_red_le hf _ _ | refine lb ?_ fun _ => ?_ | refine ln fun _ => ?_ | refine l6 fun _ => ?_ | refine lI fun _ => ?_ | simp only []
def G_hensel_tree_0 (fu : Nat) (a0 : List Zr) (a2 : Int) (a3 : Int) : ((Int × (List (List Zr))) -> Option (List (List Zr))) -> (Int × (List (List Zr))) -> Option (List (List Zr)) := fun L (i1, t16) =>
 if i1 < a3 then
 ck64 (((2 : Int)) * i1) fun x6 =>
 nm (min x6 a3) fun x7 =>
 bd (M_hensel_Power fu a2 x7) fun (y1, x8) =>
 bd (F_hensel_pair_up fu t16 a0 y1) fun t17 =>
 L (x7, t17)
 else
 some t16
theorem G_hensel_tree_0_le {fu : Nat} (hf : Hf fu) (a0 : List Zr) (a2 : Int) (a3 : Int) : ∀ L L', (∀ s, Le (L s) (L' s)) -> ∀ s, Le (G_hensel_tree_0 fu a0 a2 a3 L s) (B_hensel_tree_0 fu a0 a2 a3 L' s) := by
  intro L L' h s
  unfold G_hensel_tree_0 B_hensel_tree_0
  with_reducible repeat' first | exact lr | exact h _ | exact F_hensel_pair_up_le hf _ _ _ | refine lb ?_ fun _ => ?_ | refine ln fun _ => ?_ | refine l6 fun _ => ?_ | refine li ?_ ?_ | simp only []
def F_hensel_tree : Nat -> (List Zr) -> (List (List Int)) -> Int -> Int -> Zr -> Option (List (List Zr))
  | 0, _, _, _, _, _ => none
  | fu + 1, a0, a1, a2, a3, a4 =>
    ck (3000000 <= fu) <|
    if ((a1.length : Nat) : Int) = (1 : Int) then
    bd (F_hensel_one fu a0 a4) fun t1 =>
    some [t1]
    else
    ck ((2 : Int) ≠ 0) <|
    ck64 (Int.tdiv (((a1.length : Nat) : Int)) ((2 : Int))) fun x1 =>
    ck64 ((((a0.length : Nat) : Int)) - ((1 : Int))) fun x2 =>
    ckN x2 fun j1 =>
    ck (j1 <= a0.length) <|
    nm (a0.drop j1) fun t2 =>
    bd (F_zpoly_Mod fu t2 a2) fun (t3, x3) =>
    ckN x1 fun j2 =>
    ck (j2 <= a1.length) <|
    nm (a1.take j2) fun t4 =>
    bd (F_hensel_product fu t4 a2) fun t5 =>
    bd (F_fpoly_Mul fu t5 t3 a2) fun (t6, x4) =>
    ckN x1 fun j3 =>
    ck (j3 <= a1.length) <|
    nm (a1.drop j3) fun t7 =>
    bd (F_hensel_product fu t7 a2) fun t8 =>
    bd (F_fpoly_Bezout fu t6 t8 a2) fun (t9, t10, t11, x5) =>
    bd (F_zpoly_Lift fu t6) fun t12 =>
    bd (F_zpoly_Lift fu t8) fun t13 =>
    bd (F_zpoly_Lift fu t10) fun t14 =>
    bd (F_zpoly_Lift fu t11) fun t15 =>
    bd (loopN (G_hensel_tree_0 fu a0 a2 a3) fu (((1 : Int), [t12, t13, t14, t15]))) fun t18 =>
    ckI ((0 : Int)) (4) fun j4 =>
    ckN x1 fun j5 =>
    ck (j5 <= a1.length) <|
    nm (a1.take j5) fun t19 =>
    bd (F_hensel_tree fu (t18.getD j4 []) t19 a2 a3 a4) fun t20 =>
    ckI ((1 : Int)) (4) fun j6 =>
    ckN x1 fun j7 =>
    ck (j7 <= a1.length) <|
    nm (a1.drop j7) fun t21 =>
    bd (F_hensel_tree fu (t18.getD j6 []) t21 a2 a3 a4) fun t22 =>
    ck ((t20.length + t22.length) * 24 <= 140737488355328) <|
    nm (t20 ++ t22) fun t23 =>
    some t23
theorem F_hensel_tree_le0 : ∀ (fu : Nat) a0 a1 a2 a3 a4, Le (F_hensel_tree fu a0 a1 a2 a3 a4) (M_hensel_tree fu a0 a1 a2 a3 a4)
  | 0, _, _, _, _, _ => le_none
  | fu + 1, a0, a1, a2, a3, a4 => by
    have ih := F_hensel_tree_le0 fu
    have h : True := trivial
    unfold F_hensel_tree M_hensel_tree
    refine le_ckl fun hf => ?_
    with_reducible repeat' first | exact lr | exact h _ | exact F_hensel_one_le hf _ _ | exact F_zpoly_Mod_le hf _ _ | exact F_hensel_product_le hf _ _ | exact F_fpoly_Mul_le hf _ _ _ | exact F_fpoly_Bezout_le hf _ _ _ | exact F_zpoly_Lift_le hf _ | exact ll (G_hensel_tree_0_le hf _ _ _) _ _ | exact ih _ _ _ _ _ | refine lb ?_ fun _ => ?_ | refine ln fun _ => ?_ | refine lc ?_ | refine l6 fun _ => ?_ | refine lI fun _ => ?_ | refine lN fun _ => ?_ | refine li ?_ ?_ | simp only []
theorem F_hensel_tree_le {fu : Nat} (hf : Hf fu) (a0 : List Zr) (a1 : List (List Int)) (a2 a3 : Int) (a4 : Zr) : Le (F_hensel_tree fu a0 a1 a2 a3 a4) (M_hensel_tree fu a0 a1 a2 a3 a4) := F_hensel_tree_le0 fu a0 a1 a2 a3 a4
def F_hensel_Lift (fu : Nat) (a0 : List Zr) (a1 : List (List Int)) (a2 : Int) (a3 : Int) : Option ((List (List Zr)) × Int) :=
 bd (M_hensel_Power fu a2 a3) fun (y1, x1) =>
 bd (F_zpoly_Norm fu a0) fun t1 =>
 if x1 = (0 : Int) then
 if (65 : Int) < ((t1.length : Nat) : Int) then
 some (([], (6 : Int)))
 else
 bd (F_hensel_right fu t1 a1 a2) fun c1 =>
 if ((!c1)) = true then
 some (([], (1 : Int)))
 else
 if ((a1.length : Nat) : Int) = (0 : Int) then
 some (([], (0 : Int)))
 else
 bd (F_hensel_red fu t1 y1) fun t2 =>
 bd (F_hensel_tree fu t2 a1 a2 a3 y1) fun t3 =>
 some ((t3, (0 : Int)))
 else
 some ([], x1)
theorem F_hensel_Lift_le {fu : Nat} (hf : Hf fu) (a0 : List Zr) (a1 : List (List Int)) (a2 : Int) (a3 : Int) : Le (F_hensel_Lift fu a0 a1 a2 a3) (M_hensel_Lift fu a0 a1 a2 a3) := by
  have h : True := trivial
  unfold F_hensel_Lift M_hensel_Lift
  with_reducible repeat' first | exact lr | exact h _ | exact F_zpoly_Norm_le hf _ | exact F_hensel_right_le hf _ _ _ | exact F_hensel_red_le hf _ _ | exact F_hensel_tree_le hf _ _ _ _ _ | refine lb ?_ fun _ => ?_ | refine li ?_ ?_ | simp only []
def G_slices_IndexFunc_int_int_0 (fu : Nat) (a0 : List (List Int)) (a1 : (List Int) -> Option Bool) : (Int -> Option (Unit ⊕ Int)) -> Int -> Option (Unit ⊕ Int) := fun L i1 =>
 if i1 < ((a0.length : Nat) : Int) then
 ckI i1 (a0.length) fun j1 =>
 nm (a0.getD j1 []) fun y1 =>
 bd (a1 y1) fun c1 =>
 if c1 = true then
 some (.inr i1)
 else
 ck64 (i1 + ((1 : Int))) fun x1 =>
 L x1
 else
 some (.inl ())
theorem G_slices_IndexFunc_int_int_0_le {fu : Nat} (hf : Hf fu) (a0 : List (List Int)) (a1 a12 : (List Int) -> Option Bool) (ha1 : ∀ v0, Le (a1 v0) (a12 v0)) : ∀ L L', (∀ s, Le (L s) (L' s)) -> ∀ s, Le (G_slices_IndexFunc_int_int_0 fu a0 a1 L s) (B_slices_IndexFunc_int_int_0 fu a0 a12 L' s) := by
  intro L L' h s
  unfold G_slices_IndexFunc_int_int_0 B_slices_IndexFunc_int_int_0
  with_reducible repeat' first | exact lr | exact h _ | exact ha1 _ | refine lb ?_ fun _ => ?_ | refine ln fun _ => ?_ | refine l6 fun _ => ?_ | refine lI fun _ => ?_ | refine li ?_ ?_ | simp only []
def F_slices_IndexFunc_int_int (fu : Nat) (a0 : List (List Int)) (a1 : (List Int) -> Option Bool) : Option Int :=
 bd (loopN (G_slices_IndexFunc_int_int_0 fu a0 a1) fu (0 : Int)) fun s1 => match s1 with
 | .inl _ =>
 some (-1 : Int)
 | .inr i2 =>
 some i2
theorem F_slices_IndexFunc_int_int_le {fu : Nat} (hf : Hf fu) (a0 : List (List Int)) (a1 a12 : (List Int) -> Option Bool) (ha1 : ∀ v0, Le (a1 v0) (a12 v0)) : Le (F_slices_IndexFunc_int_int fu a0 a1) (M_slices_IndexFunc_int_int fu a0 a12) := by
  have h : True := trivial
  unfold F_slices_IndexFunc_int_int M_slices_IndexFunc_int_int
  with_reducible repeat' first | exact lr | exact h _ | exact ha1 _ | refine ll (G_slices_IndexFunc_int_int_0_le hf _ _ _ (fun _ => ?_)) _ _ | refine lb ?_ fun _ => ?_ | simp only [] | split
def F_flin_Echelon (fu : Nat) (rows : List (List Int)) (p : Int) : Option (List (List Int) × Int) :=
 bd (M_flin_right fu rows p) fun e =>
 if e = 0 then
  bd (loopN (fun L (x : (List (List Int) × List Nat) × Int) =>
   if x.2 < (rows.length : Int) then
    ckI x.2 rows.length fun j =>
    nm (rows.getD j []) fun y =>
    bd (M_flin_plain fu y p) fun r =>
    ck ((x.1.2.length + 1) * 24 <= 140737488355328) <|
    nm (x.1.1 ++ [r]) fun zss =>
    nm (x.1.2 ++ [x.1.1.length]) fun iz =>
    ck64 (x.2 + 1) fun i => L ((zss, iz), i)
   else some x.1) fu (([], []), 0)) fun x =>
  bd (loopN (fun L (x : (List (List Int) × List Nat) × Int × Int) =>
   if x.2.1 < (x.1.2.length : Int) then
    ckI 0 x.1.2.length fun j =>
    nm (x.1.2.getD j 0) fun r =>
    if x.2.2 < ((x.1.1.getD r []).length : Int) then
     ckN x.2.1 fun j =>
     ck (j <= x.1.2.length) <|
     bd (F_slices_IndexFunc_int_int fu (List.take (x.1.2.length - j) (List.drop j (x.1.2.map fun r => x.1.1.getD r []))) fun z => M_flin_Echelon_1 fu z x.2.2) fun i =>
     if i < 0 then ck64 (x.2.2 + 1) fun c => L (x.1, x.2.1, c)
     else
      ck64 (x.2.1 + i) fun a =>
      ck64 (x.2.1 + i) fun b =>
      ckI b x.1.2.length fun j =>
      nm (x.1.2.getD j 0) fun r1 =>
      ckI x.2.1 x.1.2.length fun j =>
      nm (x.1.2.getD j 0) fun r2 =>
      ckI x.2.1 x.1.2.length fun j =>
      nm (x.1.2.set j r1) fun ix =>
      ckI a ix.length fun j =>
      nm (ix.set j r2) fun ix =>
      ckI x.2.1 ix.length fun j =>
      nm (ix.getD j 0) fun r =>
      ckI x.2.2 (x.1.1.getD r []).length fun j =>
      nm ((x.1.1.getD r []).getD j 0) fun y =>
      bd (M_fp_Inv fu y p) fun q =>
      ckI x.2.1 ix.length fun j =>
      nm (ix.getD j 0) fun r =>
      bd (loopN (fun L (z : (List (List Int) × List Nat) × Nat × Int) =>
       if z.2.2 < ((x.1.1.getD r []).length : Int) then
        ckI z.2.2 (z.1.1.getD z.2.1 []).length fun j =>
        nm ((z.1.1.getD z.2.1 []).getD j 0) fun y =>
        ckI x.2.1 z.1.2.length fun j =>
        nm (z.1.2.getD j 0) fun r =>
        ck64 (y * q.1) fun e =>
        ck (p ≠ 0) <|
        nm (Int.tmod e p) fun e =>
        ckI z.2.2 (z.1.1.getD r []).length fun j =>
        nm (z.1.1.set r ((z.1.1.getD r []).set j e)) fun yss =>
        ck64 (z.2.2 + 1) fun i => L ((yss, z.1.2), z.2.1, i)
       else some z.1) fu ((x.1.1, ix), r, 0)) fun m =>
      ckI x.2.1 m.2.length fun j =>
      nm (m.2.getD j 0) fun r =>
      ckN x.2.1 fun j =>
      ck (j <= m.2.length) <|
      bd (M_flin_strike fu m.1 m.2 r x.2.2 p 0 j) fun yss =>
      ckI x.2.1 m.2.length fun j =>
      nm (m.2.getD j 0) fun r =>
      ck64 (x.2.1 + 1) fun e =>
      ckN e fun j =>
      ck (j <= m.2.length) <|
      bd (M_flin_strike fu yss m.2 r x.2.2 p j (m.2.length - j)) fun yss =>
      ck64 (x.2.1 + 1) fun k =>
      ck64 (x.2.2 + 1) fun c => L ((yss, m.2), k, c)
    else some (x.1, x.2.1)
   else some (x.1, x.2.1)) fu (x, 0, 0)) fun x =>
  ckN x.2 fun j =>
  ck (j <= (x.1.2.map fun r => x.1.1.getD r []).length) <|
  nm (List.take j (x.1.2.map fun r => x.1.1.getD r [])) fun ys => some (ys, 0)
 else some ([], e)
theorem F_flin_Echelon_le {fu : Nat} (hf : Hf fu) (rows : List (List Int)) (p : Int) : Le (F_flin_Echelon fu rows p) (M_flin_Echelon fu rows p) := by
  have h : True := trivial
  unfold F_flin_Echelon M_flin_Echelon
  with_reducible repeat' first | exact lr | exact h _ | refine F_slices_IndexFunc_int_int_le hf _ _ _ (fun _ => ?_) | refine lb ?_ fun _ => ?_ | refine ln fun _ => ?_ | refine lc ?_ | refine l6 fun _ => ?_ | refine lI fun _ => ?_ | refine lN fun _ => ?_ | refine li ?_ ?_ | refine ll (fun L L' h s => ?_) _ _ | simp only []
def G_slices_IndexFunc_int_int_2_0 (fu : Nat) (a0 : List Int) (a1 : Int -> Option Bool) : (Int -> Option (Unit ⊕ Int)) -> Int -> Option (Unit ⊕ Int) := fun L i1 =>
 if i1 < ((a0.length : Nat) : Int) then
 ckI i1 (a0.length) fun j1 =>
 nm (a0.getD j1 0) fun y1 =>
 bd (a1 y1) fun c1 =>
 if c1 = true then
 some (.inr i1)
 else
 ck64 (i1 + ((1 : Int))) fun x1 =>
 L x1
 else
 some (.inl ())
theorem G_slices_IndexFunc_int_int_2_0_le {fu : Nat} (hf : Hf fu) (a0 : List Int) (a1 a12 : Int -> Option Bool) (ha1 : ∀ v0, Le (a1 v0) (a12 v0)) : ∀ L L', (∀ s, Le (L s) (L' s)) -> ∀ s, Le (G_slices_IndexFunc_int_int_2_0 fu a0 a1 L s) (B_slices_IndexFunc_int_int_2_0 fu a0 a12 L' s) := by
  intro L L' h s
  unfold G_slices_IndexFunc_int_int_2_0 B_slices_IndexFunc_int_int_2_0
  with_reducible repeat' first | exact lr | exact h _ | exact ha1 _ | refine lb ?_ fun _ => ?_ | refine ln fun _ => ?_ | refine l6 fun _ => ?_ | refine lI fun _ => ?_ | refine li ?_ ?_ | simp only []
def F_slices_IndexFunc_int_int_2 (fu : Nat) (a0 : List Int) (a1 : Int -> Option Bool) : Option Int :=
 bd (loopN (G_slices_IndexFunc_int_int_2_0 fu a0 a1) fu (0 : Int)) fun s1 => match s1 with
 | .inl _ =>
 some (-1 : Int)
 | .inr i2 =>
 some i2
theorem F_slices_IndexFunc_int_int_2_le {fu : Nat} (hf : Hf fu) (a0 : List Int) (a1 a12 : Int -> Option Bool) (ha1 : ∀ v0, Le (a1 v0) (a12 v0)) : Le (F_slices_IndexFunc_int_int_2 fu a0 a1) (M_slices_IndexFunc_int_int_2 fu a0 a12) := by
  have h : True := trivial
  unfold F_slices_IndexFunc_int_int_2 M_slices_IndexFunc_int_int_2
  with_reducible repeat' first | exact lr | exact h _ | exact ha1 _ | refine ll (G_slices_IndexFunc_int_int_2_0_le hf _ _ _ (fun _ => ?_)) _ _ | refine lb ?_ fun _ => ?_ | simp only [] | split
def F_flin_lead (fu : Nat) (a0 : List Int) : Option Int :=
 bd (F_slices_IndexFunc_int_int_2 fu a0 (fun zx0 => M_flin_lead_1 fu zx0)) fun x1 =>
 some x1
theorem F_flin_lead_le {fu : Nat} (hf : Hf fu) (a0 : List Int) : Le (F_flin_lead fu a0) (M_flin_lead fu a0) := by
  have h : True := trivial
  unfold F_flin_lead M_flin_lead
  with_reducible repeat' first | exact lr | exact h _ | refine F_slices_IndexFunc_int_int_2_le hf _ _ _ (fun _ => ?_) | refine lb ?_ fun _ => ?_ | simp only []
def F_flin_Null_1 (fu : Nat) (a0 : List Int) (a1 : Int) : Option Bool :=
 bd (F_flin_lead fu a0) fun x1 =>
 if x1 = a1 then
 some true
 else
 some false
theorem F_flin_Null_1_le {fu : Nat} (hf : Hf fu) (a0 : List Int) (a1 : Int) : Le (F_flin_Null_1 fu a0 a1) (M_flin_Null_1 fu a0 a1) := by
  have h : True := trivial
  unfold F_flin_Null_1 M_flin_Null_1
  with_reducible repeat' first | exact lr | exact h _ | exact F_flin_lead_le hf _ | refine lb ?_ fun _ => ?_ | refine li ?_ ?_ | simp only []
def F_slices_ContainsFunc_int_int (fu : Nat) (a0 : List (List Int)) (a1 : (List Int) -> Option Bool) : Option Bool :=
 bd (F_slices_IndexFunc_int_int fu a0 a1) fun x1 =>
 if (0 : Int) <= x1 then
 some true
 else
 some false
theorem F_slices_ContainsFunc_int_int_le {fu : Nat} (hf : Hf fu) (a0 : List (List Int)) (a1 a12 : (List Int) -> Option Bool) (ha1 : ∀ v0, Le (a1 v0) (a12 v0)) : Le (F_slices_ContainsFunc_int_int fu a0 a1) (M_slices_ContainsFunc_int_int fu a0 a12) := by
  have h : True := trivial
  unfold F_slices_ContainsFunc_int_int M_slices_ContainsFunc_int_int
  with_reducible repeat' first | exact lr | exact h _ | exact ha1 _ | refine F_slices_IndexFunc_int_int_le hf _ _ _ (fun _ => ?_) | refine lb ?_ fun _ => ?_ | refine li ?_ ?_ | simp only []
def G_flin_Null_1 (fu : Nat) (i1 : Int) (i2 : Int) (i3 : Int) (t3 : List (List Int)) (i4 : Int) : ((Int × (List (List Int)) × (List Int)) -> Option ((List (List Int)) × (List Int))) -> (Int × (List (List Int)) × (List Int)) -> Option ((List (List Int)) × (List Int)) := fun L (i5, t6, t7) =>
 bd ((if i5 < ((t3.length : Nat) : Int) then
 some ((i2, i3, t3, i1, i4, i1, t3, ((t3.length : Nat) : Int), true))
 else
 some ((i2, i3, t3, i1, i4, i1, t3, ((t3.length : Nat) : Int), false)) : Option (Int × Int × (List (List Int)) × Int × Int × Int × (List (List Int)) × Int × Bool))) fun (i6, i7, t8, t9, i8, i9, t10, i10, b2) =>
 if b2 = true then
 ckI i5 (t10.length) fun j4 =>
 nm (t10.getD j4 []) fun y2 =>
 bd (F_flin_lead fu y2) fun x4 =>
 ckI t9 (y2.length) fun j5 =>
 nm (y2.getD j5 0) fun y3 =>
 ck64 (0 - y3) fun x5 =>
 bd (M_fp_Red fu x5 i7) fun x6 =>
 ckI x4 (t7.length) fun j6 =>
 nm (t7.set j6 x6) fun t11 =>
 ck64 (i5 + ((1 : Int))) fun x7 =>
 L (x7, t6, t11)
 else
 some (t6, t7)
theorem G_flin_Null_1_le {fu : Nat} (hf : Hf fu) (i1 : Int) (i2 : Int) (i3 : Int) (t3 : List (List Int)) (i4 : Int) : ∀ L L', (∀ s, Le (L s) (L' s)) -> ∀ s, Le (G_flin_Null_1 fu i1 i2 i3 t3 i4 L s) (B_flin_Null_1 fu i1 i2 i3 t3 i4 L' s) := by
  intro L L' h s
  unfold G_flin_Null_1 B_flin_Null_1
  with_reducible repeat' first | exact lr | exact h _ | exact F_flin_lead_le hf _ | refine lb ?_ fun _ => ?_ | refine ln fun _ => ?_ | refine l6 fun _ => ?_ | refine lI fun _ => ?_ | refine li ?_ ?_ | simp only []
def G_flin_Null_0 (fu : Nat) (a1 : Int) (a2 : Int) (t1 : List (List Int)) : (((List (List Int)) × Int) -> Option (List (List Int))) -> ((List (List Int)) × Int) -> Option (List (List Int)) := fun L (t2, i1) =>
 bd ((if i1 < a1 then
 some (a1, a2, t1, a1, true)
 else
 some (a1, a2, t1, a1, false) : Option (Int × Int × (List (List Int)) × Int × Bool))) fun (i2, i3, t3, i4, b1) =>
 if b1 = true then
 bd (F_slices_ContainsFunc_int_int fu t3 (fun zx0 => F_flin_Null_1 fu zx0 i1)) fun c1 =>
 if c1 = true then
 ck64 (i1 + ((1 : Int))) fun x3 =>
 L (t2, x3)
 else
 ckN i2 fun j2 =>
 ck (8 * j2 <= 281474976710656) <|
 nm (List.replicate j2 0) fun t4 =>
 ckI i1 (t4.length) fun j3 =>
 nm (t4.set j3 (1 : Int)) fun t5 =>
 bd (loopN (G_flin_Null_1 fu i1 i2 i3 t3 i4) fu (((0 : Int), t2, t5))) fun (t12, t13) =>
 ck ((t12.length + ([t13]).length) * 24 <= 140737488355328) <|
 nm (t12 ++ ([t13])) fun t14 =>
 ck64 (i1 + ((1 : Int))) fun x8 =>
 L (t14, x8)
 else
 some t2
theorem G_flin_Null_0_le {fu : Nat} (hf : Hf fu) (a1 : Int) (a2 : Int) (t1 : List (List Int)) : ∀ L L', (∀ s, Le (L s) (L' s)) -> ∀ s, Le (G_flin_Null_0 fu a1 a2 t1 L s) (B_flin_Null_0 fu a1 a2 t1 L' s) := by
  intro L L' h s
  unfold G_flin_Null_0 B_flin_Null_0
  with_reducible repeat' first | exact lr | exact h _ | refine F_slices_ContainsFunc_int_int_le hf _ _ _ (fun _ => ?_) | exact F_flin_Null_1_le hf _ _ | exact ll (G_flin_Null_1_le hf _ _ _ _ _) _ _ | refine lb ?_ fun _ => ?_ | refine ln fun _ => ?_ | refine lc ?_ | refine l6 fun _ => ?_ | refine lI fun _ => ?_ | refine lN fun _ => ?_ | refine li ?_ ?_ | simp only []
def F_flin_Null (fu : Nat) (a0 : List (List Int)) (a1 : Int) (a2 : Int) : Option ((List (List Int)) × Int) :=
 bd ((bd (M_flin_right fu a0 a2) fun x1 =>
 if x1 = (0 : Int) then
 if a1 < (0 : Int) then
 some (.inr ())
 else
 if (64 : Int) < a1 then
 some (.inr ())
 else
 if (0 : Int) < ((a0.length : Nat) : Int) then
 ckI ((0 : Int)) (a0.length) fun j1 =>
 nm (a0.getD j1 []) fun y1 =>
 if ((y1.length : Nat) : Int) = a1 then
 some (.inl ())
 else
 some (.inr ())
 else
 some (.inl ())
 else
 some (.inr ()) : Option (Unit ⊕ Unit))) fun s1 => match s1 with
 | .inl _ =>
 bd (F_flin_Echelon fu a0 a2) fun (t1, x2) =>
 bd (loopN (G_flin_Null_0 fu a1 a2 t1) fu (([], (0 : Int)))) fun t15 =>
 some ((t15, (0 : Int)))
 | .inr _ =>
 some (([], (1 : Int)))
theorem F_flin_Null_le {fu : Nat} (hf : Hf fu) (a0 : List (List Int)) (a1 : Int) (a2 : Int) : Le (F_flin_Null fu a0 a1 a2) (M_flin_Null fu a0 a1 a2) := by
  have h : True := trivial
  unfold F_flin_Null M_flin_Null
  with_reducible repeat' first | exact lr | exact h _ | exact F_flin_Echelon_le hf _ _ | exact ll (G_flin_Null_0_le hf _ _ _) _ _ | refine lb ?_ fun _ => ?_ | refine ln fun _ => ?_ | refine lI fun _ => ?_ | refine li ?_ ?_ | simp only [] | split
def F_fpoly_Div (fu : Nat) (a0 : List Int) (a1 : List Int) (a2 : Int) : Option ((List Int) × (List Int) × Int) :=
 bd (M_fp_Check fu a2) fun x1 =>
 if x1 = (0 : Int) then
 bd (F_fpoly_plain fu a1 a2) fun t1 =>
 if ((t1.length : Nat) : Int) = (0 : Int) then
 some (([], [], (3 : Int)))
 else
 bd (F_fpoly_plain fu a0 a2) fun t2 =>
 bd (F_fpoly_divided fu t2 t1 a2) fun (t3, t4) =>
 some ((t3, t4, (0 : Int)))
 else
 some ([], [], x1)
theorem F_fpoly_Div_le {fu : Nat} (hf : Hf fu) (a0 : List Int) (a1 : List Int) (a2 : Int) : Le (F_fpoly_Div fu a0 a1 a2) (M_fpoly_Div fu a0 a1 a2) := by
  have h : True := trivial
  unfold F_fpoly_Div M_fpoly_Div
  with_reducible repeat' first | exact lr | exact h _ | exact F_fpoly_plain_le hf _ _ | exact F_fpoly_divided_le hf _ _ _ | refine lb ?_ fun _ => ?_ | refine li ?_ ?_ | simp only []
def G_fpoly_PowMod_0 (fu : Nat) (a1 : Zr) (a3 : Int) (t1 : List Int) : (((List Int) × (List Int) × Int) -> Option (List Int)) -> ((List Int) × (List Int) × Int) -> Option (List Int) := fun L (t7, t8, i1) =>
 if (0 : Int) <= i1 then
 bd (F_fpoly_product fu t7 t7 a3) fun t9 =>
 bd (F_fpoly_divided fu t9 t1 a3) fun (t10, t11) =>
 ck ((64 : Int) ≠ 0) <|
 ck64 (Int.tdiv i1 ((64 : Int))) fun x5 =>
 ckI x5 (a1.2.length) fun j1 =>
 nm (a1.2.getD j1 0) fun y1 =>
 ck ((64 : Int) ≠ 0) <|
 nm (Int.tmod i1 ((64 : Int))) fun x6 =>
 ck (0 <= x6) <|
 nm (y1 / 2 ^ (min (x6 : Int).toNat 64)) fun m1 =>
 nm (m1 &&& ((1 : Nat))) fun m2 =>
 if ((m2 : Nat) : Int) = (((1 : Nat) : Nat) : Int) then
 bd (F_fpoly_product fu t11 t8 a3) fun t12 =>
 bd (F_fpoly_divided fu t12 t1 a3) fun (t13, t14) =>
 ck64 (i1 - ((1 : Int))) fun x7 =>
 L (t14, t8, x7)
 else
 ck64 (i1 - ((1 : Int))) fun x8 =>
 L (t11, t8, x8)
 else
 some t7
theorem G_fpoly_PowMod_0_le {fu : Nat} (hf : Hf fu) (a1 : Zr) (a3 : Int) (t1 : List Int) : ∀ L L', (∀ s, Le (L s) (L' s)) -> ∀ s, Le (G_fpoly_PowMod_0 fu a1 a3 t1 L s) (B_fpoly_PowMod_0 fu a1 a3 t1 L' s) := by
  intro L L' h s
  unfold G_fpoly_PowMod_0 B_fpoly_PowMod_0
  with_reducible repeat' first | exact lr | exact h _ | exact F_fpoly_product_le hf _ _ _ | exact F_fpoly_divided_le hf _ _ _ | refine lb ?_ fun _ => ?_ | refine ln fun _ => ?_ | refine lc ?_ | refine l6 fun _ => ?_ | refine lI fun _ => ?_ | refine li ?_ ?_ | simp only []
def F_fpoly_PowMod (fu : Nat) (a0 : List Int) (a1 : Zr) (a2 : List Int) (a3 : Int) : Option ((List Int) × Int) :=
 bd (M_fp_Check fu a3) fun x1 =>
 if x1 = (0 : Int) then
 bd (F_zint_Sign fu a1) fun x2 =>
 if x2 < (0 : Int) then
 some (([], (1 : Int)))
 else
 bd (F_fpoly_plain fu a2 a3) fun t1 =>
 if ((t1.length : Nat) : Int) = (0 : Int) then
 some (([], (3 : Int)))
 else
 bd (F_fpoly_divided fu [(1 : Int)] t1 a3) fun (t2, t3) =>
 bd (F_fpoly_plain fu a0 a3) fun t4 =>
 bd (F_fpoly_divided fu t4 t1 a3) fun (t5, t6) =>
 bd (M_nat_Bits fu a1.2) fun x3 =>
 ck64 (x3 - ((1 : Int))) fun x4 =>
 bd (loopN (G_fpoly_PowMod_0 fu a1 a3 t1) fu (t3, t6, x4)) fun t15 =>
 some ((t15, (0 : Int)))
 else
 some (([], (1 : Int)))
theorem F_fpoly_PowMod_le {fu : Nat} (hf : Hf fu) (a0 : List Int) (a1 : Zr) (a2 : List Int) (a3 : Int) : Le (F_fpoly_PowMod fu a0 a1 a2 a3) (M_fpoly_PowMod fu a0 a1 a2 a3) := by
  have h : True := trivial
  unfold F_fpoly_PowMod M_fpoly_PowMod
  with_reducible repeat' first | exact lr | exact h _ | exact F_zint_Sign_le hf _ | exact F_fpoly_plain_le hf _ _ | exact F_fpoly_divided_le hf _ _ _ | exact ll (G_fpoly_PowMod_0_le hf _ _ _) _ _ | refine lb ?_ fun _ => ?_ | refine l6 fun _ => ?_ | refine li ?_ ?_ | simp only []
def F_ffac_fixed (fu : Nat) (f : List Int) (p : Int) : Option (List (List Int)) :=
 ck64 ((f.length : Int) - 1) fun n =>
 ckN n fun m =>
 ck (24 * m <= 281474976710656) <|
 nm (List.replicate m 0) fun ix =>
 bd (loopN (fun L (x : (List (List Int) × List Nat) × Int) =>
  if x.2 < (ix.length : Int) then
   ckN n fun m =>
   ck (8 * m <= 281474976710656) <|
   nm (List.replicate m 0) fun ys =>
   ckI x.2 x.1.2.length fun j =>
   nm (x.1.1 ++ [ys]) fun xss =>
   nm (x.1.2.set j x.1.1.length) fun ix =>
   ck64 (x.2 + 1) fun i => L ((xss, ix), i)
  else some x.1) fu (([[]], ix), 0)) fun x =>
 bd (M_zint_Of fu p) fun z =>
 bd (F_fpoly_PowMod fu [0, 1] z f p) fun q =>
 bd (loopN (fun L (x : (List (List Int) × List Nat) × List Int × List Int × Int) =>
  if x.2.2.2 < n then
   bd (loopN (fun L (y : (List (List Int) × List Nat) × Int) =>
    if y.2 < (x.2.1.length : Int) then
     ckI y.2 x.2.1.length fun j =>
     nm (x.2.1.getD j 0) fun v =>
     ckI y.2 y.1.2.length fun j =>
     nm (y.1.2.getD j 0) fun r =>
     ckI x.2.2.2 (y.1.1.getD r []).length fun j =>
     nm (y.1.1.set r ((y.1.1.getD r []).set j v)) fun yss =>
     ck64 (y.2 + 1) fun i => L ((yss, y.1.2), i)
    else some y.1) fu (x.1, 0)) fun y =>
   ckI x.2.2.2 y.2.length fun j =>
   nm (y.2.getD j 0) fun r =>
   ckI x.2.2.2 (y.1.getD r []).length fun j =>
   nm ((y.1.getD r []).getD j 0) fun v =>
   ck64 (v - 1) fun e =>
   ckI x.2.2.2 (y.1.getD r []).length fun j =>
   nm (y.1.set r ((y.1.getD r []).set j e)) fun yss =>
   bd (F_fpoly_Mul fu x.2.1 x.2.2.1 p) fun u =>
   bd (F_fpoly_Div fu u.1 f p) fun w =>
   ck64 (x.2.2.2 + 1) fun i => L ((yss, y.2), w.2.1, x.2.2.1, i)
  else some x.1) fu (x, [1], q.1, 0)) fun x =>
 bd (F_flin_Null fu (x.2.map fun r => x.1.getD r []) n p) fun r => some r.1
theorem F_ffac_fixed_le {fu : Nat} (hf : Hf fu) (f : List Int) (p : Int) : Le (F_ffac_fixed fu f p) (M_ffac_fixed fu f p) := by
  have h : True := trivial
  unfold F_ffac_fixed M_ffac_fixed
  with_reducible repeat' first | exact lr | exact h _ | exact F_fpoly_PowMod_le hf _ _ _ _ | exact F_fpoly_Mul_le hf _ _ _ | exact F_fpoly_Div_le hf _ _ _ | exact F_flin_Null_le hf _ _ _ | refine lb ?_ fun _ => ?_ | refine ln fun _ => ?_ | refine lc ?_ | refine l6 fun _ => ?_ | refine lI fun _ => ?_ | refine lN fun _ => ?_ | refine li ?_ ?_ | refine ll (fun L L' h s => ?_) _ _ | simp only []
def F_ffac_by (fu : Nat) (a0 : List Int) (a1 : List Int) (a2 : Int) : Option (List Int) :=
 bd (F_fpoly_Div fu a0 a1 a2) fun (t1, t2, x1) =>
 some t1
theorem F_ffac_by_le {fu : Nat} (hf : Hf fu) (a0 : List Int) (a1 : List Int) (a2 : Int) : Le (F_ffac_by fu a0 a1 a2) (M_ffac_by fu a0 a1 a2) := by
  have h : True := trivial
  unfold F_ffac_by M_ffac_by
  with_reducible repeat' first | exact lr | exact h _ | exact F_fpoly_Div_le hf _ _ _ | refine lb ?_ fun _ => ?_ | simp only []
def F_ffac_gcd (fu : Nat) (a0 : List Int) (a1 : List Int) (a2 : Int) : Option (List Int) :=
 bd (F_fpoly_Gcd fu a0 a1 a2) fun (t1, x1) =>
 some t1
theorem F_ffac_gcd_le {fu : Nat} (hf : Hf fu) (a0 : List Int) (a1 : List Int) (a2 : Int) : Le (F_ffac_gcd fu a0 a1 a2) (M_ffac_gcd fu a0 a1 a2) := by
  have h : True := trivial
  unfold F_ffac_gcd M_ffac_gcd
  with_reducible repeat' first | exact lr | exact h _ | exact F_fpoly_Gcd_le hf _ _ _ | refine lb ?_ fun _ => ?_ | simp only []
def F_fpoly_Add (fu : Nat) (a0 : List Int) (a1 : List Int) (a2 : Int) : Option ((List Int) × Int) :=
 bd (M_fp_Check fu a2) fun x1 =>
 if x1 = (0 : Int) then
 bd (F_fpoly_plain fu a0 a2) fun t1 =>
 bd (F_fpoly_plain fu a1 a2) fun t2 =>
 bd (F_fpoly_sum fu t1 t2 (1 : Int) a2) fun t3 =>
 some ((t3, (0 : Int)))
 else
 some ([], x1)
theorem F_fpoly_Add_le {fu : Nat} (hf : Hf fu) (a0 : List Int) (a1 : List Int) (a2 : Int) : Le (F_fpoly_Add fu a0 a1 a2) (M_fpoly_Add fu a0 a1 a2) := by
  have h : True := trivial
  unfold F_fpoly_Add M_fpoly_Add
  with_reducible repeat' first | exact lr | exact h _ | exact F_fpoly_plain_le hf _ _ | exact F_fpoly_sum_le hf _ _ _ _ | refine lb ?_ fun _ => ?_ | refine li ?_ ?_ | simp only []
def F_ffac_trial (fu : Nat) (a0 : List Int) (a1 : Int) (a2 : List Int) (a3 : Int) : Option (List Int) :=
 bd (F_fpoly_Add fu a0 [a1] a3) fun (t1, x1) =>
 if (2 : Int) < a3 then
 ck64 (a3 - ((1 : Int))) fun x2 =>
 ck ((2 : Int) ≠ 0) <|
 ck64 (Int.tdiv x2 ((2 : Int))) fun x3 =>
 bd (M_zint_Of fu x3) fun y1 =>
 bd (F_fpoly_PowMod fu t1 y1 a2 a3) fun (t2, x4) =>
 bd (F_fpoly_Sub fu t2 [(1 : Int)] a3) fun (t3, x5) =>
 some t3
 else
 some t1
theorem F_ffac_trial_le {fu : Nat} (hf : Hf fu) (a0 : List Int) (a1 : Int) (a2 : List Int) (a3 : Int) : Le (F_ffac_trial fu a0 a1 a2 a3) (M_ffac_trial fu a0 a1 a2 a3) := by
  have h : True := trivial
  unfold F_ffac_trial M_ffac_trial
  with_reducible repeat' first | exact lr | exact h _ | exact F_fpoly_Add_le hf _ _ _ | exact F_fpoly_PowMod_le hf _ _ _ _ | exact F_fpoly_Sub_le hf _ _ _ | refine lb ?_ fun _ => ?_ | refine lc ?_ | refine l6 fun _ => ?_ | refine li ?_ ?_ | simp only []
def G_ffac_parted_2 (fu : Nat) (a2 : Int) (a3 : List Int) (t3 : List (List Int)) (t4 : Int) (t5 : List Int) (i2 : Int) (i3 : Int) (t7 : List (List Int)) (i4 : Int) (y1 : List Int) : (((List (List Int)) × Int) -> Option ((List (List Int)) ⊕ (List (List Int)))) -> ((List (List Int)) × Int) -> Option ((List (List Int)) ⊕ (List (List Int))) := fun L (t8, i5) =>
 if i5 < ((t8.length : Nat) : Int) then
 if ((t8.length : Nat) : Int) = ((t3.length : Nat) : Int) then
 some (.inl t8)
 else
 bd (M_ffac_parted_1 fu i3 a3 a2) fun x2 =>
 ckI i5 (t8.length) fun j3 =>
 nm ((t8.getD j3 [])) fun t9 =>
 bd (F_ffac_trial fu y1 x2 t9 t4) fun t10 =>
 ckI i5 (t8.length) fun j4 =>
 nm ((t8.getD j4 [])) fun t11 =>
 bd (F_ffac_gcd fu t10 t11 t4) fun t12 =>
 bd ((if (1 : Int) < ((t12.length : Nat) : Int) then
 ckI i5 (t8.length) fun j5 =>
 nm ((t8.getD j5 [])) fun t13 =>
 if ((t12.length : Nat) : Int) < ((t13.length : Nat) : Int) then
 some (t3, t4, t5, i3, y1, t7, i4, i2, true)
 else
 some (t3, t4, t5, i3, y1, t7, i4, i2, false)
 else
 some (t3, t4, t5, i3, y1, t7, i4, i2, false) : Option ((List (List Int)) × Int × (List Int) × Int × (List Int) × (List (List Int)) × Int × Int × Bool))) fun (t14, t15, t16, i6, t17, t18, i7, i8, b2) =>
 if b2 = true then
 ckI i5 (t8.length) fun j6 =>
 nm ((t8.getD j6 [])) fun t19 =>
 bd (F_ffac_by fu t19 t12 t15) fun t20 =>
 ck ((t8.length + ([t20]).length) * 24 <= 140737488355328) <|
 nm (t8 ++ ([t20])) fun t21 =>
 ckI i5 (t21.length) fun j7 =>
 nm (t21.set j7 t12) fun t22 =>
 ck64 (i5 + ((1 : Int))) fun x3 =>
 L (t22, x3)
 else
 ck64 (i5 + ((1 : Int))) fun x4 =>
 L (t8, x4)
 else
 some (.inr t8)
theorem G_ffac_parted_2_le {fu : Nat} (hf : Hf fu) (a2 : Int) (a3 : List Int) (t3 : List (List Int)) (t4 : Int) (t5 : List Int) (i2 : Int) (i3 : Int) (t7 : List (List Int)) (i4 : Int) (y1 : List Int) : ∀ L L', (∀ s, Le (L s) (L' s)) -> ∀ s, Le (G_ffac_parted_2 fu a2 a3 t3 t4 t5 i2 i3 t7 i4 y1 L s) (B_ffac_parted_2 fu a2 a3 t3 t4 t5 i2 i3 t7 i4 y1 L' s) := by
  intro L L' h s
  unfold G_ffac_parted_2 B_ffac_parted_2
  with_reducible repeat' first | exact lr | exact h _ | exact F_ffac_trial_le hf _ _ _ _ | exact F_ffac_gcd_le hf _ _ _ | exact F_ffac_by_le hf _ _ _ | refine lb ?_ fun _ => ?_ | refine ln fun _ => ?_ | refine lc ?_ | refine l6 fun _ => ?_ | refine lI fun _ => ?_ | refine li ?_ ?_ | simp only []
def G_ffac_parted_1 (fu : Nat) (a2 : Int) (a3 : List Int) (i1 : Int) (t2 : List (List Int)) : (((List (List Int)) × Int × (List Int) × (List (List Int)) × Int) -> Option ((List (List Int)) ⊕ ((List (List Int)) × Int × (List Int) × (List (List Int))))) -> ((List (List Int)) × Int × (List Int) × (List (List Int)) × Int) -> Option ((List (List Int)) ⊕ ((List (List Int)) × Int × (List Int) × (List (List Int)))) := fun L (t3, t4, t5, t6, i2) =>
 bd ((if i2 < ((t2.length : Nat) : Int) then
 some ((i1, t2, ((t2.length : Nat) : Int), true))
 else
 some ((i1, t2, ((t2.length : Nat) : Int), false)) : Option (Int × (List (List Int)) × Int × Bool))) fun (i3, t7, i4, b1) =>
 if b1 = true then
 ckI i2 (t7.length) fun j2 =>
 nm (t7.getD j2 []) fun y1 =>
 bd (loopN (G_ffac_parted_2 fu a2 a3 t3 t4 t5 i2 i3 t7 i4 y1) fu ((t6, (0 : Int)))) fun s1 => match s1 with
 | .inl t23 =>
 some (.inl t23)
 | .inr t24 =>
 ck64 (i2 + ((1 : Int))) fun x5 =>
 L (t3, t4, t5, t24, x5)
 else
 some (.inr (t3, t4, t5, t6))
theorem G_ffac_parted_1_le {fu : Nat} (hf : Hf fu) (a2 : Int) (a3 : List Int) (i1 : Int) (t2 : List (List Int)) : ∀ L L', (∀ s, Le (L s) (L' s)) -> ∀ s, Le (G_ffac_parted_1 fu a2 a3 i1 t2 L s) (B_ffac_parted_1 fu a2 a3 i1 t2 L' s) := by
  intro L L' h s
  unfold G_ffac_parted_1 B_ffac_parted_1
  with_reducible repeat' first | exact lr | exact h _ | exact ll (G_ffac_parted_2_le hf _ _ _ _ _ _ _ _ _ _) _ _ | refine lb ?_ fun _ => ?_ | refine ln fun _ => ?_ | refine l6 fun _ => ?_ | refine lI fun _ => ?_ | refine li ?_ ?_ | simp only [] | split
def G_ffac_parted_0 (fu : Nat) (a1 : List (List Int)) (a2 : Int) (a3 : List Int) : (((List (List Int)) × Int) -> Option (List (List Int))) -> ((List (List Int)) × Int) -> Option (List (List Int)) := fun L (t1, i1) =>
 ck64 (a2 + (((a3.length : Nat) : Int))) fun x1 =>
 if i1 < x1 then
 ckN ((1 : Int)) fun j1 =>
 ck (j1 <= a1.length) <|
 nm (a1.drop j1) fun t2 =>
 bd (loopN (G_ffac_parted_1 fu a2 a3 i1 t2) fu ((a1, a2, a3, t1, (0 : Int)))) fun s2 => match s2 with
 | .inl t25 =>
 some t25
 | .inr (t26, t27, t28, t29) =>
 ck64 (i1 + ((1 : Int))) fun x6 =>
 L (t29, x6)
 else
 some t1
theorem G_ffac_parted_0_le {fu : Nat} (hf : Hf fu) (a1 : List (List Int)) (a2 : Int) (a3 : List Int) : ∀ L L', (∀ s, Le (L s) (L' s)) -> ∀ s, Le (G_ffac_parted_0 fu a1 a2 a3 L s) (B_ffac_parted_0 fu a1 a2 a3 L' s) := by
  intro L L' h s
  unfold G_ffac_parted_0 B_ffac_parted_0
  with_reducible repeat' first | exact lr | exact h _ | exact ll (G_ffac_parted_1_le hf _ _ _ _) _ _ | refine lb ?_ fun _ => ?_ | refine ln fun _ => ?_ | refine lc ?_ | refine l6 fun _ => ?_ | refine lN fun _ => ?_ | refine li ?_ ?_ | simp only [] | split
def F_ffac_parted (fu : Nat) (a0 : List Int) (a1 : List (List Int)) (a2 : Int) (a3 : List Int) : Option (List (List Int)) :=
 bd (loopN (G_ffac_parted_0 fu a1 a2 a3) fu (([a0], (0 : Int)))) fun t30 =>
 some t30
theorem F_ffac_parted_le {fu : Nat} (hf : Hf fu) (a0 : List Int) (a1 : List (List Int)) (a2 : Int) (a3 : List Int) : Le (F_ffac_parted fu a0 a1 a2 a3) (M_ffac_parted fu a0 a1 a2 a3) := by
  have h : True := trivial
  unfold F_ffac_parted M_ffac_parted
  with_reducible repeat' first | exact lr | exact h _ | exact ll (G_ffac_parted_0_le hf _ _ _) _ _ | refine lb ?_ fun _ => ?_ | simp only []
def F_fpoly_Monic (fu : Nat) (a0 : List Int) (a1 : Int) : Option ((List Int) × Int) :=
 bd (M_fp_Check fu a1) fun x1 =>
 if x1 = (0 : Int) then
 bd (F_fpoly_plain fu a0 a1) fun t1 =>
 if ((t1.length : Nat) : Int) = (0 : Int) then
 some (([], (0 : Int)))
 else
 ck64 ((((t1.length : Nat) : Int)) - ((1 : Int))) fun x2 =>
 ckI x2 (t1.length) fun j1 =>
 nm ((t1.getD j1 0)) fun x3 =>
 bd (F_fpoly_scaled fu t1 x3 a1) fun t2 =>
 some ((t2, (0 : Int)))
 else
 some ([], x1)
theorem F_fpoly_Monic_le {fu : Nat} (hf : Hf fu) (a0 : List Int) (a1 : Int) : Le (F_fpoly_Monic fu a0 a1) (M_fpoly_Monic fu a0 a1) := by
  have h : True := trivial
  unfold F_fpoly_Monic M_fpoly_Monic
  with_reducible repeat' first | exact lr | exact h _ | exact F_fpoly_plain_le hf _ _ | exact F_fpoly_scaled_le hf _ _ _ | refine lb ?_ fun _ => ?_ | refine ln fun _ => ?_ | refine l6 fun _ => ?_ | refine lI fun _ => ?_ | refine li ?_ ?_ | simp only []
def F_ffac_monic (fu : Nat) (a0 : List Int) (a1 : Int) : Option ((List Int) × Int) :=
 bd (F_fpoly_Monic fu a0 a1) fun (t1, x1) =>
 if x1 = (0 : Int) then
 if ((t1.length : Nat) : Int) = (0 : Int) then
 some (([], (8 : Int)))
 else
 if (65 : Int) < ((t1.length : Nat) : Int) then
 some (([], (6 : Int)))
 else
 some ((t1, (0 : Int)))
 else
 some ([], x1)
theorem F_ffac_monic_le {fu : Nat} (hf : Hf fu) (a0 : List Int) (a1 : Int) : Le (F_ffac_monic fu a0 a1) (M_ffac_monic fu a0 a1) := by
  have h : True := trivial
  unfold F_ffac_monic M_ffac_monic
  with_reducible repeat' first | exact lr | exact h _ | exact F_fpoly_Monic_le hf _ _ | refine lb ?_ fun _ => ?_ | refine li ?_ ?_ | simp only []
def F_fpoly_Deriv (fu : Nat) (a0 : List Int) (a1 : Int) : Option ((List Int) × Int) :=
 bd (M_fp_Check fu a1) fun x1 =>
 if x1 = (0 : Int) then
 bd (F_fpoly_plain fu a0 a1) fun t1 =>
 bd (loopN (B_fpoly_Deriv_0 fu a1 t1) fu (([], (0 : Int), t1))) fun t5 =>
 bd (F_fpoly_plain fu t5 a1) fun t6 =>
 some ((t6, (0 : Int)))
 else
 some ([], x1)
theorem F_fpoly_Deriv_le {fu : Nat} (hf : Hf fu) (a0 : List Int) (a1 : Int) : Le (F_fpoly_Deriv fu a0 a1) (M_fpoly_Deriv fu a0 a1) := by
  have h : True := trivial
  unfold F_fpoly_Deriv M_fpoly_Deriv
  with_reducible repeat' first | exact lr | exact h _ | exact F_fpoly_plain_le hf _ _ | refine lb ?_ fun _ => ?_ | refine li ?_ ?_ | simp only []
def F_fsqf_monic (fu : Nat) (a0 : List Int) (a1 : Int) : Option ((List Int) × Int) :=
 bd (F_fpoly_Monic fu a0 a1) fun (t1, x1) =>
 if x1 = (0 : Int) then
 if ((t1.length : Nat) : Int) = (0 : Int) then
 some (([], (8 : Int)))
 else
 some (t1, x1)
 else
 some (t1, x1)
theorem F_fsqf_monic_le {fu : Nat} (hf : Hf fu) (a0 : List Int) (a1 : Int) : Le (F_fsqf_monic fu a0 a1) (M_fsqf_monic fu a0 a1) := by
  have h : True := trivial
  unfold F_fsqf_monic M_fsqf_monic
  with_reducible repeat' first | exact lr | exact h _ | exact F_fpoly_Monic_le hf _ _ | refine lb ?_ fun _ => ?_ | refine li ?_ ?_ | simp only []
def F_fsqf_Is (fu : Nat) (a0 : List Int) (a1 : Int) : Option (Bool × Int) :=
 bd (F_fsqf_monic fu a0 a1) fun (t1, x1) =>
 if x1 = (0 : Int) then
 bd (F_fpoly_Deriv fu t1 a1) fun (t2, x2) =>
 bd (F_fpoly_Gcd fu t1 t2 a1) fun (t3, x3) =>
 if ((t3.length : Nat) : Int) = (1 : Int) then
 some ((true, (0 : Int)))
 else
 some ((false, (0 : Int)))
 else
 some (false, x1)
theorem F_fsqf_Is_le {fu : Nat} (hf : Hf fu) (a0 : List Int) (a1 : Int) : Le (F_fsqf_Is fu a0 a1) (M_fsqf_Is fu a0 a1) := by
  have h : True := trivial
  unfold F_fsqf_Is M_fsqf_Is
  with_reducible repeat' first | exact lr | exact h _ | exact F_fsqf_monic_le hf _ _ | exact F_fpoly_Deriv_le hf _ _ | exact F_fpoly_Gcd_le hf _ _ _ | refine lb ?_ fun _ => ?_ | refine li ?_ ?_ | simp only []
def F_ffac_square (fu : Nat) (a0 : List Int) (a1 : Int) : Option ((List Int) × Int) :=
 bd (F_ffac_monic fu a0 a1) fun (t1, x1) =>
 if x1 = (0 : Int) then
 bd (F_fsqf_Is fu t1 a1) fun (c1, x2) =>
 if ((!c1)) = true then
 some (([], (1 : Int)))
 else
 some ((t1, (0 : Int)))
 else
 some ([], x1)
theorem F_ffac_square_le {fu : Nat} (hf : Hf fu) (a0 : List Int) (a1 : Int) : Le (F_ffac_square fu a0 a1) (M_ffac_square fu a0 a1) := by
  have h : True := trivial
  unfold F_ffac_square M_ffac_square
  with_reducible repeat' first | exact lr | exact h _ | exact F_ffac_monic_le hf _ _ | exact F_fsqf_Is_le hf _ _ | refine lb ?_ fun _ => ?_ | refine li ?_ ?_ | simp only []
def F_ffac_Split (fu : Nat) (a0 : List Int) (a1 : Int) (a2 : List Int) : Option ((List (List Int)) × Int) :=
 bd (F_ffac_square fu a0 a1) fun (t1, x1) =>
 if x1 = (0 : Int) then
 if ((t1.length : Nat) : Int) = (1 : Int) then
 some ([], x1)
 else
 bd (F_ffac_fixed fu t1 a1) fun t2 =>
 nm (min (((a2.length : Nat) : Int)) ((64 : Int))) fun x2 =>
 ckN x2 fun j1 =>
 ck (j1 <= a2.length) <|
 nm (a2.take j1) fun t3 =>
 bd (F_ffac_parted fu t1 t2 a1 t3) fun t4 =>
 bd (M_slices_SortFunc_int_int_io fu t4 (fun zx0 zx1 => M_ffac_compare fu zx0 zx1)) fun t5 =>
 some ((t5, (0 : Int)))
 else
 some ([], x1)
theorem F_ffac_Split_le {fu : Nat} (hf : Hf fu) (a0 : List Int) (a1 : Int) (a2 : List Int) : Le (F_ffac_Split fu a0 a1 a2) (M_ffac_Split fu a0 a1 a2) := by
  have h : True := trivial
  unfold F_ffac_Split M_ffac_Split
  with_reducible repeat' first | exact lr | exact h _ | exact F_ffac_square_le hf _ _ | exact F_ffac_fixed_le hf _ _ | exact F_ffac_parted_le hf _ _ _ _ | refine lb ?_ fun _ => ?_ | refine ln fun _ => ?_ | refine lc ?_ | refine lN fun _ => ?_ | refine li ?_ ?_ | simp only []
def F_short_Good (fu : Nat) (a0 : List Zr) (a1 : Int) : Option (Bool × Int) :=
 bd (M_zsqf_Bound fu a0) fun (y1, x1) =>
 if x1 = (0 : Int) then
 bd (M_prime_Is fu a1) fun c1 =>
 if ((!c1)) = true then
 some ((false, (0 : Int)))
 else
 bd (F_zpoly_Mod fu a0 a1) fun (t1, x2) =>
 bd (F_zpoly_Norm fu a0) fun t2 =>
 if ((t1.length : Nat) : Int) = ((t2.length : Nat) : Int) then
 bd (F_fsqf_Is fu t1 a1) fun (c2, x3) =>
 some ((c2, (0 : Int)))
 else
 some ((false, (0 : Int)))
 else
 some (false, x1)
theorem F_short_Good_le {fu : Nat} (hf : Hf fu) (a0 : List Zr) (a1 : Int) : Le (F_short_Good fu a0 a1) (M_short_Good fu a0 a1) := by
  have h : True := trivial
  unfold F_short_Good M_short_Good
  with_reducible repeat' first | exact lr | exact h _ | exact F_zpoly_Mod_le hf _ _ | exact F_zpoly_Norm_le hf _ | exact F_fsqf_Is_le hf _ _ | refine lb ?_ fun _ => ?_ | refine li ?_ ?_ | simp only []
def G_zfac_local_0 (fu : Nat) (a0 : List Zr) (a1 : List Int) : ((Int × Int × (List (List Int)) × Int × Int) -> Option (Int × (List (List Int)))) -> (Int × Int × (List (List Int)) × Int × Int) -> Option (Int × (List (List Int))) := fun L (i1, i2, t1, i3, i4) =>
 if i4 = (0 : Int) then
 if i2 < (5 : Int) then
 bd (F_short_Good fu a0 i3) fun (c1, x3) =>
 if ((!c1)) = true then
 bd (M_prime_Next fu i3) fun (x4, x5) =>
 L (i1, i2, t1, x4, x5)
 else
 ck64 (i2 + ((1 : Int))) fun x6 =>
 bd (F_zpoly_Mod fu a0 i3) fun (t2, x7) =>
 bd (F_ffac_Split fu t2 i3 a1) fun (t3, x8) =>
 if i1 = (0 : Int) then
 bd (M_prime_Next fu i3) fun (x9, x10) =>
 L (i3, x6, t3, x9, x10)
 else
 if ((t3.length : Nat) : Int) < ((t1.length : Nat) : Int) then
 bd (M_prime_Next fu i3) fun (x11, x12) =>
 L (i3, x6, t3, x11, x12)
 else
 bd (M_prime_Next fu i3) fun (x13, x14) =>
 L (i1, x6, t1, x13, x14)
 else
 some (i1, t1)
 else
 some (i1, t1)
theorem G_zfac_local_0_le {fu : Nat} (hf : Hf fu) (a0 : List Zr) (a1 : List Int) : ∀ L L', (∀ s, Le (L s) (L' s)) -> ∀ s, Le (G_zfac_local_0 fu a0 a1 L s) (B_zfac_local_0 fu a0 a1 L' s) := by
  intro L L' h s
  unfold G_zfac_local_0 B_zfac_local_0
  with_reducible repeat' first | exact lr | exact h _ | exact F_short_Good_le hf _ _ | exact F_zpoly_Mod_le hf _ _ | exact F_ffac_Split_le hf _ _ _ | refine lb ?_ fun _ => ?_ | refine l6 fun _ => ?_ | refine li ?_ ?_ | simp only []
def F_zfac_local (fu : Nat) (a0 : List Zr) (a1 : List Int) : Option (Int × (List (List Int))) :=
 bd (M_prime_Next fu (1 : Int)) fun (x1, x2) =>
 bd (loopN (G_zfac_local_0 fu a0 a1) fu (((0 : Int), (0 : Int), [], x1, x2))) fun (i5, t4) =>
 some (i5, t4)
theorem F_zfac_local_le {fu : Nat} (hf : Hf fu) (a0 : List Zr) (a1 : List Int) : Le (F_zfac_local fu a0 a1) (M_zfac_local fu a0 a1) := by
  have h : True := trivial
  unfold F_zfac_local M_zfac_local
  with_reducible repeat' first | exact lr | exact h _ | exact ll (G_zfac_local_0_le hf _ _) _ _ | refine lb ?_ fun _ => ?_ | simp only []
def F_zfac_split (fu : Nat) (a0 : List Zr) (a1 : List Int) : Option ((List (List Zr)) × Bool) :=
 if ((a0.length : Nat) : Int) < (2 : Int) then
 some ([], true)
 else
 bd (M_zfac_great fu a0) fun c1 =>
 if c1 = true then
 some ([], false)
 else
 bd (F_zfac_local fu a0 a1) fun (x1, t1) =>
 if x1 = (0 : Int) then
 some ([], false)
 else
 bd (M_zfac_enough fu a0 x1) fun x2 =>
 bd (M_hensel_Power fu x1 x2) fun (y1, x3) =>
 bd (M_zfac_sought fu a0 t1 x1) fun (t2, t3, t4) =>
 if (1 : Int) < ((t3.length : Nat) : Int) then
 bd (F_hensel_Lift fu t3 t4 x1 x2) fun (t5, x4) =>
 bd (M_zfac_chosen fu t3 t5 y1) fun t6 =>
 ck ((t2.length + t6.length) * 24 <= 140737488355328) <|
 nm (t2 ++ t6) fun t7 =>
 bd (M_slices_SortFunc_api_Int_api_Int_io fu t7 (fun zx0 zx1 => M_zfac_compare fu zx0 zx1)) fun t8 =>
 some (t8, true)
 else
 bd (M_slices_SortFunc_api_Int_api_Int_io fu t2 (fun zx0 zx1 => M_zfac_compare fu zx0 zx1)) fun t9 =>
 some (t9, true)
theorem F_zfac_split_le {fu : Nat} (hf : Hf fu) (a0 : List Zr) (a1 : List Int) : Le (F_zfac_split fu a0 a1) (M_zfac_split fu a0 a1) := by
  have h : True := trivial
  unfold F_zfac_split M_zfac_split
  with_reducible repeat' first | exact lr | exact h _ | exact F_zfac_local_le hf _ _ | exact F_hensel_Lift_le hf _ _ _ _ | refine lb ?_ fun _ => ?_ | refine ln fun _ => ?_ | refine lc ?_ | refine li ?_ ?_ | simp only []
def F_zfac_Factors (fu : Nat) (a0 : List Zr) (a1 : List Int) : Option (Zr × (List ((List Zr) × Int)) × Int) :=
 bd (M_zsqf_Radical fu a0) fun (t1, x1) =>
 if x1 = (0 : Int) then
 bd (F_zfac_split fu t1 a1) fun (t2, c1) =>
 if ((!c1)) = true then
 some (((false, []), [], (6 : Int)))
 else
 bd (loopN (B_zfac_Factors_0 fu a0 t2) fu (([], (0 : Int), (false, []), t2))) fun (t9, t10) =>
 bd (M_zpoly_Content fu a0) fun y1 =>
 some ((y1, t9, (0 : Int)))
 else
 some (((false, []), [], x1))
theorem F_zfac_Factors_le {fu : Nat} (hf : Hf fu) (a0 : List Zr) (a1 : List Int) : Le (F_zfac_Factors fu a0 a1) (M_zfac_Factors fu a0 a1) := by
  have h : True := trivial
  unfold F_zfac_Factors M_zfac_Factors
  with_reducible repeat' first | exact lr | exact h _ | exact F_zfac_split_le hf _ _ | refine lb ?_ fun _ => ?_ | refine li ?_ ?_ | simp only []
def F_law16_ZfacUnity (fu : Nat) (a0 : Int) : Option Bool :=
 bd (M_law16_awake fu) fun c1 =>
 nm (andI a0 ((15 : Int))) fun x1 =>
 ck64 (((1 : Int)) + x1) fun x2 =>
 ckN x2 fun j1 =>
 ck (32 * j1 <= 281474976710656) <|
 nm (List.replicate j1 (false, [])) fun t1 =>
 bd (M_zint_Of fu (-1 : Int)) fun y1 =>
 ckI ((0 : Int)) (t1.length) fun j2 =>
 nm (t1.set j2 y1) fun t2 =>
 bd (M_zint_Of fu (1 : Int)) fun y2 =>
 ck ((t2.length + ([y2]).length) * 32 <= 140737488355328) <|
 nm (t2 ++ ([y2])) fun t3 =>
 bd (F_zfac_Factors fu t3 []) fun (y3, t4, x3) =>
 if x3 = (0 : Int) then
 if ((!c1)) = true then
 some false
 else
 ck64 (x2 + ((1 : Int))) fun x4 =>
 ckN x4 fun j3 =>
 ck (8 * j3 <= 281474976710656) <|
 nm (List.replicate j3 0) fun t5 =>
 bd (loopN (B_law16_ZfacUnity_0 fu x2) fu (((0 : Int), (1 : Int), t4, t5))) fun (i15, t13, t14) =>
 if ((t13.length : Nat) : Int) = i15 then
 bd (loopN (B_law16_ZfacUnity_3 fu x2 t13) fu (((0 : Int), t14))) fun s1 => match s1 with
 | .inl _ =>
 some true
 | .inr _ =>
 some false
 else
 some false
 else
 some false
theorem F_law16_ZfacUnity_le {fu : Nat} (hf : Hf fu) (a0 : Int) : Le (F_law16_ZfacUnity fu a0) (M_law16_ZfacUnity fu a0) := by
  have h : True := trivial
  unfold F_law16_ZfacUnity M_law16_ZfacUnity
  with_reducible repeat' first | exact lr | exact h _ | exact F_zfac_Factors_le hf _ _ | refine lb ?_ fun _ => ?_ | refine ln fun _ => ?_ | refine lc ?_ | refine l6 fun _ => ?_ | refine lI fun _ => ?_ | refine lN fun _ => ?_ | refine li ?_ ?_ | simp only [] | split
end Go.Proofs.YtmggkmchbdanfaaGreat
end

