/- What a proof needs: rules of walking, mirrors of functions and their plain laws. No condition. -/
import Derived.Test.YtjnjfinbdfolkaaGreatHp2
section
set_option linter.unusedVariables false
set_option linter.unusedSimpArgs false
namespace Go.Proofs.YtjnjfinbdfolkaaGreat
theorem cast_tdiv2 (n : Nat) : Int.tdiv (n : Int) 2 = ((n / 2 : Nat) : Int) := rfl
theorem nv_toL_take_le (x h : Nat) : (toL (nv ((toL x).take h))).length ≤ h := by
  have := toL_nv_le ((toL_limbs x).take h); rw [List.length_take] at this; omega
theorem nv_toL_drop_le (x h : Nat) : (toL (nv ((toL x).drop h))).length ≤ (toL x).length - h := by
  have := toL_nv_le ((toL_limbs x).drop h); rw [List.length_drop] at this; omega
theorem M_nat_Mul_eq : ∀ {fu : Nat} {a b : List Nat}, Limbs a → Limbs b → a.length ≤ 1073741824 → b.length ≤ 1073741824 → 4 * (a.length + b.length) + 64 ≤ fu → M_nat_Mul fu a b = some (toL (nv a * nv b))
  | 0, a, b, _, _, _, _, hf => by omega
  | fu + 1, a, b, ha, hb, hla, hlb, hf => by
    have h1 := toL_nv_le ha
    have h2 := toL_nv_le hb
    show bd _ _ = _
    rw [bd_t (M_nat_plain_eq ha (by omega) (by omega)), bd_t (M_nat_plain_eq hb (by omega) (by omega))]
    have eA : nv (toL (nv a)) = nv a := nv_toL _
    have eB : nv (toL (nv b)) = nv b := nv_toL _
    generalize hx : nv a = x at *
    generalize hy : nv b = y at *
    generalize hp : (toL x).length = p at *
    generalize hq : (toL y).length = q at *
    have e1 : min ((p : Nat) : Int) ((q : Nat) : Int) = ((min p q : Nat) : Int) := by omega
    rw [nm_t, e1]
    by_cases h8 : ((min p q : Nat) : Int) < 8
    · rw [if_pos h8, bd_t (M_nat_school_eq (toL_limbs x) (toL_limbs y) (by omega) (by omega) (by omega)), eA, eB]
    · rw [if_neg h8]
      have e2 : max ((p : Nat) : Int) ((q : Nat) : Int) = ((max p q : Nat) : Int) := by omega
      rw [nm_t, e2, cast_tdiv2, ck64_t ⟨by omega, by omega⟩]
      obtain ⟨h, hh⟩ : ∃ h, h = max p q / 2 := ⟨_, rfl⟩
      have e3 : ∀ l : Nat, min ((h : Nat) : Int) ((l : Nat) : Int) = ((min h l : Nat) : Int) := by intro l; omega
      rw [← hh]
      simp only [nm, e3, ckN_n]
      rw [ck_t (by omega)]
      have tx : (toL x).take (min h p) = (toL x).take h := by rw [← hp]; exact take_min h
      have dx : (toL x).drop (min h p) = (toL x).drop h := by rw [← hp]; exact drop_min h
      have ty : (toL y).take (min h q) = (toL y).take h := by rw [← hq]; exact take_min h
      have dy : (toL y).drop (min h q) = (toL y).drop h := by rw [← hq]; exact drop_min h
      rw [tx, ty, dx, dy]
      have lx0 := nv_toL_take_le x h
      have ly0 := nv_toL_take_le y h
      have lx1 : ((toL x).drop h).length = p - h := by rw [List.length_drop, hp]
      have ly1 : ((toL y).drop h).length = q - h := by rw [List.length_drop, hq]
      have lx2 := nv_toL_drop_le x h
      have ly2 := nv_toL_drop_le y h
      rw [bd_t (M_nat_plain_eq ((toL_limbs x).take h) (by rw [List.length_take]; omega) (by rw [List.length_take]; omega)), ck_t (by omega), ck_t (by omega), bd_t (M_nat_plain_eq ((toL_limbs y).take h) (by rw [List.length_take]; omega) (by rw [List.length_take]; omega)), ck_t (by omega)]
      have X1 := (toL_limbs x).drop h
      obtain ⟨m, hm⟩ : ∃ m, m = max p q := ⟨_, rfl⟩
      have f1 : p ≤ m := by omega
      have f2 : q ≤ m := by omega
      have f3 : m + 8 ≤ p + q := by omega
      have f4 : 2 * h ≤ m := by omega
      have f5 : m ≤ 2 * h + 1 := by omega
      clear hh hm h8 e1 e2 e3 tx ty dx dy
      have g1 : p - h ≤ m - h := by omega
      have g2 : q - h ≤ m - h := by omega
      have g3 : h ≤ m - h := by omega
      replace lx2 := Nat.le_trans lx2 (hp.symm ▸ g1)
      replace ly2 := Nat.le_trans ly2 (hq.symm ▸ g2)
      have lx3 : ((toL x).drop h).length ≤ m - h := lx1 ▸ g1
      have ly3 : ((toL y).drop h).length ≤ m - h := ly1 ▸ g2
      clear lx1 ly1 g1 g2
      have Y1 := (toL_limbs y).drop h
      generalize hx0 : nv ((toL x).take h) = x0 at *
      generalize hy0 : nv ((toL y).take h) = y0 at *
      generalize hX1 : (toL x).drop h = dX at *
      generalize hY1 : (toL y).drop h = dY at *
      generalize hx1 : nv dX = x1 at *
      generalize hy1 : nv dY = y1 at *
      have s1 := toL_add_len (x := x0) (y := x1) (k := m - h) (by omega) (by omega)
      have s2 := toL_add_len (x := y0) (y := y1) (k := m - h) (by omega) (by omega)
      have kle := kara_le x0 x1 y0 y1
      rw [bd_t (M_nat_Mul_eq (fu := fu) (toL_limbs x0) (toL_limbs y0) (by omega) (by omega) (by omega))]
      rw [bd_t (M_nat_Mul_eq (fu := fu) X1 Y1 (by omega) (by omega) (by omega))]
      rw [bd_t (M_nat_Add_eq (toL_limbs x0) X1 (by omega) (by omega) (by omega)), bd_t (M_nat_Add_eq (toL_limbs y0) Y1 (by omega) (by omega) (by omega))]
      rw [hx1, hy1, nv_toL, nv_toL]
      rw [bd_t (M_nat_Mul_eq (fu := fu) (toL_limbs (x0 + x1)) (toL_limbs (y0 + y1)) (by omega) (by omega) (by omega)), nv_toL, nv_toL]
      have l3 := toL_mul_len s1 s2
      have l1 := toL_mul_len lx0 ly0
      have l2 := toL_mul_len (x := x1) (y := y1) (j := m - h) (k := m - h) (by omega) (by omega)
      have l4 := toL_mono (Nat.sub_le ((x0 + x1) * (y0 + y1)) (x0 * y0))
      have l5 := toL_mono (Nat.sub_le ((x0 + x1) * (y0 + y1) - x0 * y0) (x1 * y1))
      rw [bd_t (M_nat_less_eq (toL_limbs ((x0 + x1) * (y0 + y1))) (toL_limbs (x0 * y0)) (by omega) (by omega) (by omega) (by rw [nv_toL, nv_toL]; exact kle.1)), nv_toL, nv_toL]
      rw [bd_t (M_nat_less_eq (toL_limbs ((x0 + x1) * (y0 + y1) - x0 * y0)) (toL_limbs (x1 * y1)) (by omega) (by omega) (by omega) (by rw [nv_toL, nv_toL]; exact kle.2)), nv_toL, nv_toL]
      have mL : ∀ n z : Nat, Limbs (List.replicate n 0 ++ toL z) := fun n z => (Limbs.replicate n).append (toL_limbs z)
      have ml : ∀ n z : Nat, (List.replicate n 0 ++ toL z).length = n + (toL z).length := fun n z => by rw [List.length_append, List.length_replicate]
      rw [bd_t (M_nat_moved_eq (by omega) (by omega)), bd_t (M_nat_Add_eq (toL_limbs _) (mL _ _) (by omega) (by rw [ml]; omega) (by rw [ml]; omega)), nv_toL, nv_moved, nv_toL]
      have e4 : 2 * ((h : Nat) : Int) = ((2 * h : Nat) : Int) := by omega
      rw [e4, ck64_t ⟨by omega, by omega⟩, bd_t (M_nat_moved_eq (by omega) (by omega))]
      have l6 := mul_pow_len h (Nat.le_trans l5 (Nat.le_trans l4 l3))
      have l7 := toL_add_len (x := x0 * y0) (y := 18446744073709551616 ^ h * ((x0 + x1) * (y0 + y1) - x0 * y0 - x1 * y1)) (k := 3 * (p + q)) (by clear l6; omega) (Nat.le_trans l6 (by clear l6; omega))
      have K := kara_toL x y h hx0.symm (by rw [hX1, hx1]) hy0.symm (by rw [hY1, hy1])
      generalize 18446744073709551616 ^ h * ((x0 + x1) * (y0 + y1) - x0 * y0 - x1 * y1) = z1 at *
      generalize hz : x0 * y0 + z1 = z at *
      clear l6
      rw [bd_t (M_nat_Add_eq (toL_limbs z) (mL (2 * h) (x1 * y1)) (by clear K; omega) (by rw [ml]; clear K; omega) (by rw [ml]; clear K; omega)), nv_toL, nv_moved, nv_toL, K]
end Go.Proofs.YtjnjfinbdfolkaaGreat
end

section
set_option linter.unusedVariables false
set_option linter.unusedSimpArgs false
namespace Go.Proofs.YtjnjfinbdfolkaaGreat
/-- how many bits -/
def blf : Nat → Nat → Nat
  | 0, _ => 0
  | f + 1, n => if n = 0 then 0 else blf f (n / 2) + 1
def bl (n : Nat) : Nat := blf n n
theorem blf_eq : ∀ f f' n, n ≤ f → n ≤ f' → blf f n = blf f' n
  | 0, f', n, h, h' => by
    obtain rfl : n = 0 := by omega
    cases f' <;> rfl
  | f + 1, 0, n, h, h' => by
    obtain rfl : n = 0 := by omega
    rfl
  | f + 1, f' + 1, n, h, h' => by
    unfold blf
    split
    · rfl
    · rw [blf_eq f f' (n / 2) (by omega) (by omega)]
theorem bl_zero : bl 0 = 0 := rfl
theorem bl_pos {n : Nat} (h : 0 < n) : bl n = bl (n / 2) + 1 := by
  obtain ⟨m, rfl⟩ : ∃ m, n = m + 1 := ⟨n - 1, by omega⟩
  show (if m + 1 = 0 then 0 else blf m ((m + 1) / 2) + 1) = _
  rw [if_neg (by omega), blf_eq m ((m + 1) / 2) ((m + 1) / 2) (by omega) (Nat.le_refl _)]; rfl
theorem bl_shift : ∀ (k : Nat) {n : Nat}, 2 ^ k ≤ n → bl n = bl (n / 2 ^ k) + k
  | 0, n, h => by simp
  | k + 1, n, h => by
    have h2 : 0 < 2 ^ k := Nat.two_pow_pos k
    rw [Nat.pow_succ] at h
    rw [bl_pos (by omega), bl_shift k (n := n / 2) (by omega), Nat.div_div_eq_div_mul, Nat.pow_succ, Nat.mul_comm 2]
    omega
theorem bl_le {n k : Nat} (h : n < 2 ^ k) : bl n ≤ k := by
  induction k generalizing n with
  | zero =>
    obtain rfl : n = 0 := by omega
    exact Nat.le_refl _
  | succ k ih =>
    rcases Nat.eq_zero_or_pos n with rfl | h0
    · exact Nat.zero_le _
    · rw [bl_pos h0]
      have := ih (n := n / 2) (by rw [Nat.pow_succ] at h; omega)
      omega
theorem lt_bl (n : Nat) : n < 2 ^ bl n := by
  induction n using Nat.strongRecOn with
  | ind n ih =>
    rcases Nat.eq_zero_or_pos n with rfl | h0
    · decide
    · rw [bl_pos h0, Nat.pow_succ]
      have := ih (n / 2) (by omega)
      omega
theorem bl_le_one {n : Nat} (h : bl n ≤ 1) : n ≤ 1 := by
  have h1 := lt_bl n
  have h2 : 2 ^ bl n ≤ 2 ^ 1 := Nat.pow_le_pow_right (by decide) h
  omega
theorem bitLen_bl : ∀ {n : Nat}, n < 256 → Lib.bitLen n = bl n := by decide +kernel
theorem M_math_bits_Len64_eq {fu x : Nat} (hx : x < 18446744073709551616) : M_math_bits_Len64 fu x = some ((bl x : Nat) : Int) := by
  unfold M_math_bits_Len64
  have e16 : min ((16 : Int)).toNat 64 = 16 := by decide
  have e8 : min ((8 : Int)).toNat 64 = 8 := by decide
  simp only [nm, min32, e16, e8]
  have last : ∀ (d : Nat) (i : Int), d < 65536 → 0 ≤ i → i ≤ 48 → (if (256 : Int) ≤ ((d : Nat) : Int) then ck64 (i + 8) fun x2 => ck64 (x2 + ((Lib.bitLen (d / 2 ^ 8 % 256) : Nat) : Int)) fun x3 => some x3 else ck64 (i + ((Lib.bitLen (d % 256) : Nat) : Int)) fun x4 => some x4) = some (i + ((bl d : Nat) : Int)) := by
    intro d i hd h0 h1
    by_cases h : 256 ≤ d
    · have b := bl_le (n := d / 2 ^ 8) (k := 8) (by omega)
      rw [if_pos (by omega), ck64_t ⟨by omega, by omega⟩, Nat.mod_eq_of_lt (by omega), bitLen_bl (by omega), ck64_t ⟨by omega, by omega⟩, bl_shift 8 (n := d) (by omega)]
      congr 1; omega
    · have b := bl_le (n := d) (k := 8) (by omega)
      rw [if_neg (by omega), Nat.mod_eq_of_lt (by omega), bitLen_bl (by omega), ck64_t ⟨by omega, by omega⟩]
  have mid : ∀ (d : Nat) (i : Int), d < 4294967296 → 0 ≤ i → i ≤ 32 → (bd (if (65536 : Int) ≤ ((d : Nat) : Int) then ck64 (i + 16) fun x1 => some (d / 2 ^ 16, x1) else some (d, i)) fun (d2, i2) => if (256 : Int) ≤ ((d2 : Nat) : Int) then ck64 (i2 + 8) fun x2 => ck64 (x2 + ((Lib.bitLen (d2 / 2 ^ 8 % 256) : Nat) : Int)) fun x3 => some x3 else ck64 (i2 + ((Lib.bitLen (d2 % 256) : Nat) : Int)) fun x4 => some x4) = some (i + ((bl d : Nat) : Int)) := by
    intro d i hd h0 h1
    by_cases h : 65536 ≤ d
    · rw [if_pos (by omega), ck64_t ⟨by omega, by omega⟩, bd_t rfl]
      simp only []
      rw [last _ _ (by omega) (by omega) (by omega), bl_shift 16 (n := d) (by omega)]
      congr 1; omega
    · rw [if_neg (by omega), bd_t rfl]
      exact last _ _ (by omega) (by omega) (by omega)
  by_cases h : 4294967296 ≤ x
  · rw [if_pos (by omega), bd_t rfl]
    simp only []
    rw [mid _ _ (by omega) (by omega) (by omega), bl_shift 32 (n := x) (by omega)]
    congr 1; omega
  · rw [if_neg (by omega), bd_t rfl]
    simp only []
    rw [mid _ _ (by omega) (by omega) (by omega)]
    congr 1; omega
theorem bl_limbs {n : Nat} (h : 0 < n) : bl n = 64 * ((toL n).length - 1) + bl ((toL n).getD ((toL n).length - 1) 0) := by
  obtain ⟨k, hk⟩ : ∃ k, (toL n).length = k + 1 := ⟨(toL n).length - 1, by have := toL_len_pos h; omega⟩
  have h1 := (toL_length (k + 1) n).1 (by omega)
  have h2 : ¬ n < 18446744073709551616 ^ k := fun h => by have := (toL_length k n).2 h; omega
  rw [hk, toL_getD, show k + 1 - 1 = k by omega]
  have e : 18446744073709551616 ^ k = 2 ^ (64 * k) := by rw [Nat.pow_mul]
  have h3 : n / 18446744073709551616 ^ k < 18446744073709551616 := by
    rw [Nat.div_lt_iff_lt_mul (Nat.pow_pos (by decide))]; rw [Nat.pow_succ, Nat.mul_comm] at h1; exact h1
  rw [Nat.mod_eq_of_lt h3, e, bl_shift (64 * k) (by rw [← e]; omega)]
  omega
theorem bl_lim {a : List Nat} (h : Limbs a) {k : Nat} (hk : a.length ≤ k) : bl (nv a) ≤ 64 * k := by
  refine bl_le ?_
  rw [Nat.pow_mul]
  exact Nat.lt_of_lt_of_le (nv_lt h) (Nat.pow_le_pow_right (by decide) hk)
theorem M_nat_Bits_eq {fu : Nat} {a : List Nat} (h : Limbs a) (hl : a.length ≤ 1099511627776) (hf : a.length < fu) : M_nat_Bits fu a = some ((bl (nv a) : Nat) : Int) := by
  unfold M_nat_Bits
  rw [bd_t (M_nat_plain_eq h hl hf)]
  have hL := toL_nv_le h
  have hb := bl_lim h hl
  rcases Nat.eq_zero_or_pos (nv a) with h0 | h0
  · rw [h0, toL_zero]; rfl
  · have h1 := toL_len_pos h0
    have hy := (toL_limbs (nv a)).getD ((toL (nv a)).length - 1)
    have e := bl_limbs h0
    obtain ⟨k, hk⟩ : ∃ k, (toL (nv a)).length = k + 1 := ⟨(toL (nv a)).length - 1, by omega⟩
    rw [hk] at e hy
    simp only [Nat.add_sub_cancel] at e hy
    have e1 : ((k + 1 : Nat) : Int) - 1 = (k : Int) := by omega
    rw [hk, if_neg (by omega), e1, ck64_t ⟨by omega, by omega⟩, ck64_t ⟨by omega, by omega⟩, ck64_t ⟨by omega, by omega⟩, ckI_n (by omega), nm_t, bd_t (M_math_bits_Len64_eq hy), ck64_t ⟨by omega, by omega⟩, e]
    congr 1
theorem M_ref01_Bits_eq {fu : Nat} {a : List Nat} (h : Limbs a) (hl : a.length ≤ 17179869184) (hf : a.length + 64 < fu) : M_ref01_Bits fu a = some ((bl (nv a) : Nat) : Int) := by
  unfold M_ref01_Bits
  rw [bd_t (M_ref01_Norm_eq h hl (by omega))]
  have hL := toL_nv_le h
  have hb := bl_lim h hl
  rcases Nat.eq_zero_or_pos (nv a) with h0 | h0
  · rw [h0, toL_zero]; rfl
  · have h1 := toL_len_pos h0
    have hy := (toL_limbs (nv a)).getD ((toL (nv a)).length - 1)
    have e := bl_limbs h0
    obtain ⟨k, hk⟩ : ∃ k, (toL (nv a)).length = k + 1 := ⟨(toL (nv a)).length - 1, by omega⟩
    rw [hk] at e hy
    simp only [Nat.add_sub_cancel] at e hy
    have e1 : ((k + 1 : Nat) : Int) - 1 = (k : Int) := by omega
    rw [hk, if_neg (by omega), e1, ck64_t ⟨by omega, by omega⟩, ck64_t ⟨by omega, by omega⟩, ck64_t ⟨by omega, by omega⟩, ckI_n (by omega), nm_t]
    generalize (toL (nv a)).getD k 0 = y at *
    have hy64 := bl_le (n := y) (k := 64) hy
    rw [bd_t (v := ((bl (nv a) : Nat) : Int))]
    refine loop_eq (fun s : Int × Nat => 0 ≤ s.1 ∧ s.1 + ((bl s.2 : Nat) : Int) = ((bl (nv a) : Nat) : Int)) (fun s => bl s.2) _ ?_ _ _ ⟨by show (0 : Int) ≤ 64 * (k : Int); omega, by show (64 : Int) * (k : Int) + ((bl y : Nat) : Int) = _; omega⟩ (by show bl y < fu; omega)
    rintro ⟨i, d⟩ L ⟨hi, hd⟩ ih
    unfold B_ref01_Bits_0
    simp only [] at *
    by_cases hd0 : 0 < d
    · have hp := bl_pos hd0
      rw [if_pos (by omega), ck64_t ⟨by omega, by omega⟩, nm_t]
      exact ih (i + 1, d / 2) ⟨by show (0 : Int) ≤ i + 1; omega, by show i + 1 + ((bl (d / 2) : Nat) : Int) = _; omega⟩ (by show bl (d / 2) < bl d; omega)
    · obtain rfl : d = 0 := by omega
      rw [if_neg (by omega), ← hd, bl_zero]; simp
end Go.Proofs.YtjnjfinbdfolkaaGreat
end

section
set_option linter.unusedVariables false
set_option linter.unusedSimpArgs false
namespace Go.Proofs.YtjnjfinbdfolkaaGreat
/-- the value of lims -/
def nw : List Nat → Nat
  | [] => 0
  | x :: r => x + 4294967296 * nw r
/-- so many lims of a number -/
def digw : Nat → Nat → List Nat
  | 0, _ => []
  | k + 1, n => n % 4294967296 :: digw k (n / 4294967296)
def toWf : Nat → Nat → List Nat
  | 0, _ => []
  | f + 1, n => if n = 0 then [] else n % 4294967296 :: toWf f (n / 4294967296)
/-- the lims of a number, none of them nought at the end -/
def toW (n : Nat) : List Nat := toWf n n
/-- without noughts at the end -/
def trimW : List Nat → List Nat
  | [] => []
  | x :: r => match trimW r with
    | [] => if x = 0 then [] else [x]
    | y :: s => x :: y :: s
/-- digits below 2^32 -/
def Digs (l : List Nat) : Prop := ∀ x ∈ l, x < 4294967296
theorem Digs.nil : Digs [] := fun x hx => absurd hx List.not_mem_nil
theorem Digs.cons {x : Nat} {r : List Nat} (h : x < 4294967296) (hr : Digs r) : Digs (x :: r) := fun y hy => by
  rcases List.mem_cons.1 hy with rfl | hy
  · exact h
  · exact hr y hy
theorem Digs.head {x : Nat} {r : List Nat} (h : Digs (x :: r)) : x < 4294967296 := h x (List.mem_cons_self ..)
theorem Digs.tail {x : Nat} {r : List Nat} (h : Digs (x :: r)) : Digs r := fun y hy => h y (List.mem_cons_of_mem _ hy)
theorem Digs.append {a b : List Nat} (ha : Digs a) (hb : Digs b) : Digs (a ++ b) := fun x hx => by
  rcases List.mem_append.1 hx with h | h
  · exact ha x h
  · exact hb x h
theorem Digs.take {a : List Nat} (h : Digs a) (k : Nat) : Digs (a.take k) := fun x hx => h x (List.mem_of_mem_take hx)
theorem Digs.drop {a : List Nat} (h : Digs a) (k : Nat) : Digs (a.drop k) := fun x hx => h x (List.mem_of_mem_drop hx)
theorem Digs.getD {a : List Nat} (h : Digs a) (k : Nat) : a.getD k 0 < 4294967296 := by
  rw [List.getD_eq_getElem?_getD]
  by_cases hk : k < a.length
  · rw [List.getElem?_eq_getElem hk]; exact h _ (List.getElem_mem hk)
  · rw [List.getElem?_eq_none (by omega)]; exact Nat.zero_lt_succ _
theorem Digs.replicate (k : Nat) : Digs (List.replicate k 0) := fun x hx => by rw [List.eq_of_mem_replicate hx]; exact Nat.zero_lt_succ _
theorem nw_nil : nw [] = 0 := rfl
theorem nw_cons (x : Nat) (r : List Nat) : nw (x :: r) = x + 4294967296 * nw r := rfl
theorem nw_append : ∀ (a b : List Nat), nw (a ++ b) = nw a + 4294967296 ^ a.length * nw b
  | [], b => by simp [nw]
  | x :: a, b => by
    rw [List.cons_append, nw_cons, nw_append a b, nw_cons, List.length_cons, Nat.pow_succ, Nat.mul_add]
    rw [Nat.mul_comm (4294967296 ^ a.length) 4294967296, Nat.mul_assoc, Nat.add_assoc]
theorem nw_lt : ∀ {l : List Nat}, Digs l → nw l < 4294967296 ^ l.length
  | [], _ => by simp [nw]
  | x :: r, h => by
    have h1 := h.head
    have h2 := nw_lt h.tail
    rw [nw_cons, List.length_cons, Nat.pow_succ]
    omega
theorem digw_length : ∀ k n, (digw k n).length = k
  | 0, _ => rfl
  | k + 1, n => by rw [digw, List.length_cons, digw_length]
theorem digw_lims : ∀ k n, Digs (digw k n)
  | 0, _ => Digs.nil
  | k + 1, n => Digs.cons (Nat.mod_lt _ (by decide)) (digw_lims k _)
theorem nw_digw : ∀ k n, nw (digw k n) = n % 4294967296 ^ k
  | 0, n => by simp [digw, nw, Nat.mod_one]
  | k + 1, n => by
    rw [digw, nw_cons, nw_digw k, Nat.pow_succ, Nat.mul_comm (4294967296 ^ k), Nat.mod_mul]
theorem digw_nw : ∀ {l : List Nat}, Digs l → digw l.length (nw l) = l
  | [], _ => rfl
  | x :: r, h => by
    have h1 := h.head
    rw [List.length_cons, digw, nw_cons, Nat.add_mul_mod_self_left, Nat.mod_eq_of_lt h1, Nat.add_mul_div_left _ _ (by decide), Nat.div_eq_of_lt h1, Nat.zero_add, digw_nw h.tail]
/-- lims of one length are told by their value -/
theorem digw_ext {a b : List Nat} (ha : Digs a) (hb : Digs b) (hl : a.length = b.length) (h : nw a = nw b) : a = b := by
  rw [← digw_nw ha, ← digw_nw hb, hl, h]
theorem digw_zero : ∀ k, digw k 0 = List.replicate k 0
  | 0 => rfl
  | k + 1 => by rw [digw, Nat.zero_mod, Nat.zero_div, digw_zero k, List.replicate_succ]
theorem digw_snoc : ∀ k n, digw (k + 1) n = digw k n ++ [n / 4294967296 ^ k % 4294967296]
  | 0, n => by simp [digw]
  | k + 1, n => by
    rw [digw, digw_snoc k, digw, List.cons_append, Nat.div_div_eq_div_mul, ← Nat.pow_succ']
theorem toWf_lims : ∀ f n, Digs (toWf f n)
  | 0, _ => Digs.nil
  | f + 1, n => by
    rw [toWf]; split
    · exact Digs.nil
    · exact Digs.cons (Nat.mod_lt _ (by decide)) (toWf_lims f _)
theorem toW_lims (n : Nat) : Digs (toW n) := toWf_lims n n
theorem nw_toWf : ∀ f n, n ≤ f → nw (toWf f n) = n
  | 0, n, h => by rw [toWf, nw_nil]; omega
  | f + 1, n, h => by
    rw [toWf]; split
    · rename_i h0; rw [nw_nil, h0]
    · rename_i h0
      have hlt : n / 4294967296 ≤ f := by
        have := Nat.div_lt_self (n := n) (k := 4294967296) (by omega) (by decide); omega
      rw [nw_cons, nw_toWf f _ hlt, Nat.mod_add_div]
theorem nw_toW (n : Nat) : nw (toW n) = n := nw_toWf n n (Nat.le_refl _)
theorem toWf_eq : ∀ f f' n, n ≤ f → n ≤ f' → toWf f n = toWf f' n
  | 0, f', n, h, h' => by
    have : n = 0 := by omega
    subst this
    cases f' <;> simp [toWf]
  | f + 1, 0, n, h, h' => by
    have : n = 0 := by omega
    subst this
    simp [toWf]
  | f + 1, f' + 1, n, h, h' => by
    rw [toWf, toWf]; split
    · rfl
    · rename_i h0
      have := Nat.div_lt_self (n := n) (k := 4294967296) (by omega) (by decide)
      rw [toWf_eq f f' _ (by omega) (by omega)]
theorem toW_zero : toW 0 = [] := rfl
theorem toW_pos {n : Nat} (h : 0 < n) : toW n = n % 4294967296 :: toW (n / 4294967296) := by
  have e : toW n = toWf ((n - 1) + 1) n := by unfold toW; congr 1; omega
  have := Nat.div_lt_self (n := n) (k := 4294967296) h (by decide)
  rw [e, toWf, if_neg (by omega)]
  congr 1
  exact toWf_eq _ _ _ (by omega) (by omega)
theorem toW_small {n : Nat} (h0 : 0 < n) (h : n < 4294967296) : toW n = [n] := by
  rw [toW_pos h0, Nat.mod_eq_of_lt h, Nat.div_eq_of_lt h, toW_zero]
theorem toW_nil {n : Nat} : toW n = [] ↔ n = 0 := by
  constructor
  · intro h; rw [← nw_toW n, h]; rfl
  · rintro rfl; rfl
theorem toW_length : ∀ (k n : Nat), (toW n).length ≤ k ↔ n < 4294967296 ^ k
  | 0, n => by
    rw [Nat.le_zero, List.length_eq_zero_iff, toW_nil]; simp; 
  | k + 1, n => by
    by_cases h : n = 0
    · subst h; simp [toW_zero]; exact Nat.pow_pos (by decide)
    · rw [toW_pos (by omega), List.length_cons, Nat.add_le_add_iff_right, toW_length k, Nat.div_lt_iff_lt_mul (by decide), Nat.pow_succ]
theorem trimW_of_last : ∀ (l : List Nat) (k : Nat), k + 1 = l.length → l.getD k 0 ≠ 0 → trimW l = l
  | [], _, h, _ => by simp at h
  | [x], 0, _, h => by simp at h; simp [trimW, h]
  | [x], k + 1, h, _ => by simp at h
  | x :: y :: r, 0, h, _ => by simp at h
  | x :: y :: r, k + 1, h, h0 => by
    have := trimW_of_last (y :: r) k (by simpa using h) (by simpa using h0)
    simp only [trimW] at this ⊢
    rw [this]
theorem trimW_eq : ∀ {l : List Nat}, Digs l → trimW l = toW (nw l)
  | [], _ => rfl
  | x :: r, h => by
    have ih := trimW_eq h.tail
    have hx := h.head
    rw [trimW, ih, nw_cons]
    by_cases hr : nw r = 0
    · rw [hr, toW_zero]
      by_cases h0 : x = 0
      · simp [h0, toW_zero]
      · simp only [h0, if_false, Nat.mul_zero, Nat.add_zero]; rw [toW_small (by omega) hx]
    · have e1 := toW_pos (n := nw r) (by omega)
      have e2 := toW_pos (n := x + 4294967296 * nw r) (by omega)
      rw [Nat.add_mul_mod_self_left, Nat.mod_eq_of_lt hx, Nat.add_mul_div_left _ _ (by decide), Nat.div_eq_of_lt hx, Nat.zero_add] at e2
      rw [e2, e1]
theorem toW_of_last {l : List Nat} (hl : Digs l) (h : l = [] ∨ l.getD (l.length - 1) 0 ≠ 0) : toW (nw l) = l := by
  rw [← trimW_eq hl]
  rcases h with rfl | h
  · rfl
  · cases hn : l.length with
    | zero => rw [List.eq_nil_of_length_eq_zero hn]; rfl
    | succ k => exact trimW_of_last l k hn.symm (by rw [hn] at h; exact h)
/-- a part of lims -/
theorem nw_take {l : List Nat} (hl : Digs l) (k : Nat) : nw (l.take k) = nw l % 4294967296 ^ k := by
  by_cases hk : k ≤ l.length
  · have e := nw_append (l.take k) (l.drop k)
    rw [List.take_append_drop, List.length_take, Nat.min_eq_left hk] at e
    have := nw_lt (hl.take k)
    rw [List.length_take, Nat.min_eq_left hk] at this
    rw [e, Nat.add_mul_mod_self_left, Nat.mod_eq_of_lt this]
  · rw [List.take_of_length_le (by omega), Nat.mod_eq_of_lt]
    exact Nat.lt_of_lt_of_le (nw_lt hl) (Nat.pow_le_pow_right (by decide) (by omega))
theorem nw_drop {l : List Nat} (hl : Digs l) (k : Nat) : nw (l.drop k) = nw l / 4294967296 ^ k := by
  by_cases hk : k ≤ l.length
  · have e := nw_append (l.take k) (l.drop k)
    rw [List.take_append_drop, List.length_take, Nat.min_eq_left hk] at e
    have := nw_lt (hl.take k)
    rw [List.length_take, Nat.min_eq_left hk] at this
    rw [e, Nat.add_mul_div_left _ _ (Nat.pow_pos (by decide)), Nat.div_eq_of_lt this, Nat.zero_add]
  · rw [List.drop_eq_nil_of_le (by omega), nw_nil, Nat.div_eq_of_lt]
    exact Nat.lt_of_lt_of_le (nw_lt hl) (Nat.pow_le_pow_right (by decide) (by omega))
theorem getD_nw : ∀ {l : List Nat}, Digs l → ∀ k, l.getD k 0 = nw l / 4294967296 ^ k % 4294967296
  | [], _, k => by simp [nw]
  | x :: r, h, 0 => by
    rw [List.getD_cons_zero, nw_cons, Nat.pow_zero, Nat.div_one, Nat.add_mul_mod_self_left, Nat.mod_eq_of_lt h.head]
  | x :: r, h, k + 1 => by
    rw [List.getD_cons_succ, getD_nw h.tail k, nw_cons, Nat.pow_succ', ← Nat.div_div_eq_div_mul, Nat.add_mul_div_left _ _ (by decide), Nat.div_eq_of_lt h.head, Nat.zero_add]
theorem take_toW {a : List Nat} (h : Digs a) : a.take (toW (nw a)).length = toW (nw a) := by
  have hle : (toW (nw a)).length ≤ a.length := (toW_length _ _).2 (nw_lt h)
  refine digw_ext (h.take _) (toW_lims _) (by rw [List.length_take]; omega) ?_
  rw [nw_take h, nw_toW]
  exact Nat.mod_eq_of_lt ((toW_length _ _).1 (Nat.le_refl _))
theorem pow32 (k : Nat) : (4294967296 : Nat) ^ (2 * k) = 18446744073709551616 ^ k := by
  rw [Nat.pow_mul, show (4294967296 : Nat) ^ 2 = 18446744073709551616 from rfl]
theorem pow32s (k : Nat) : (4294967296 : Nat) ^ (2 * k + 1) = 18446744073709551616 ^ k * 4294967296 := by
  rw [Nat.pow_succ, pow32]
theorem nw_take_succ (l : List Nat) : ∀ k, nw (l.take (k + 1)) = nw (l.take k) + 4294967296 ^ k * l.getD k 0 := by
  induction l with
  | nil => intro k; simp [nw]
  | cons x r ih =>
    intro k
    cases k with
    | zero => simp [nw]
    | succ k =>
      rw [List.take_succ_cons, nw_cons, ih k, List.take_succ_cons, nw_cons, List.getD_cons_succ, Nat.pow_succ, Nat.mul_add]
      rw [Nat.mul_comm (4294967296 ^ k) 4294967296, Nat.mul_assoc, Nat.add_assoc]
theorem nw_take_pred {a : List Nat} {k : Nat} (hk : k + 1 ≤ a.length) (h0 : a.getD k 0 = 0) : nw (a.take k) = nw (a.take (k + 1)) := by
  rw [nw_take_succ, h0]; simp
theorem toW_take_top {a : List Nat} (h : Digs a) {k : Nat} (hk : k + 1 ≤ a.length) (h0 : a.getD k 0 ≠ 0) : toW (nw (a.take (k + 1))) = a.take (k + 1) := by
  refine toW_of_last (h.take _) (.inr ?_)
  have : (a.take (k + 1)).length - 1 = k := by rw [List.length_take]; omega
  rw [this, List.getD_eq_getElem?_getD, List.getElem?_take, if_pos (by omega), ← List.getD_eq_getElem?_getD]
  exact h0
theorem toW_nw_le {l : List Nat} (h : Digs l) : (toW (nw l)).length ≤ l.length := (toW_length _ _).2 (nw_lt h)
theorem nw_set : ∀ (o : List Nat) (j v : Nat), j < o.length → nw (o.set j v) + 4294967296 ^ j * o.getD j 0 = nw o + 4294967296 ^ j * v
  | [], j, v, h => by simp at h
  | x :: r, 0, v, h => by simp [nw]; omega
  | x :: r, j + 1, v, h => by
    have ih := nw_set r j v (by simpa using h)
    rw [List.set_cons_succ, nw_cons, nw_cons, List.getD_cons_succ, Nat.pow_succ, Nat.mul_comm (4294967296 ^ j), Nat.mul_assoc, Nat.mul_assoc]
    omega
theorem Digs.set {o : List Nat} (h : Digs o) (j : Nat) {v : Nat} (hv : v < 4294967296) : Digs (o.set j v) := fun x hx => by
  rcases List.mem_or_eq_of_mem_set hx with h1 | h1
  · exact h x h1
  · rw [h1]; exact hv
theorem M_ref01_cut_eq {fu : Nat} {a : List Nat} (h : Digs a) (hl : a.length ≤ 1099511627776) (hf : a.length < fu) : M_ref01_cut fu a = some (toW (nw a)) := by
  unfold M_ref01_cut
  have h5 := toW_nw_le h
  rw [bd_t (v := ((toW (nw a)).length : Int)), ckN_n, ck_t h5, nm_t, take_toW h]
  refine loop_eq (fun i : Int => 0 ≤ i ∧ i ≤ a.length ∧ nw (a.take i.toNat) = nw a) (fun i => i.toNat) _ ?_ _ _ ⟨by omega, by omega, by simp⟩ (by omega)
  rintro i L ⟨h0, h1, hn⟩ ih
  obtain ⟨k, rfl⟩ := Int.eq_ofNat_of_zero_le h0
  unfold B_ref01_cut_0
  simp only [Int.toNat_natCast] at *
  by_cases hk : 0 < (k : Int)
  · obtain ⟨j, rfl⟩ : ∃ j, k = j + 1 := ⟨k - 1, by omega⟩
    have e1 : ((j + 1 : Nat) : Int) - 1 = (j : Int) := by omega
    rw [if_pos hk, e1, ck64_t ⟨by omega, by omega⟩, ckI_n (by omega), nm_t]
    by_cases h2 : a.getD j 0 = 0
    · rw [if_pos (by rw [h2]; rfl), ck64_t ⟨by omega, by omega⟩]
      refine ih _ ⟨by omega, by omega, ?_⟩ (by omega)
      rw [Int.toNat_natCast, nw_take_pred (by omega) h2, hn]
    · rw [if_neg (by omega), ← hn, toW_take_top h (by omega) h2, List.length_take]
      congr 1; omega
  · rw [if_neg hk, ← hn]
    have : k = 0 := by omega
    subst this; rfl
theorem digw_two {a : List Nat} (h : Limbs a) {k : Nat} (hk : k < a.length) : digw (2 * k) (nv a) ++ [a.getD k 0 &&& 4294967295, a.getD k 0 / 2 ^ 32] = digw (2 * (k + 1)) (nv a) := by
  rw [show 2 * (k + 1) = (2 * k + 1) + 1 by omega, digw_snoc, digw_snoc, List.append_assoc, getD_nv h, and32]
  congr 1
  rw [pow32s, pow32, ← Nat.div_div_eq_div_mul]
  generalize nv a / 18446744073709551616 ^ k = z
  congr 1
  · omega
  · congr 1; omega
theorem digits_loop {fu : Nat} {a : List Nat} (h : Limbs a) (hl : a.length ≤ 4294967296) (hf : 2 * a.length < fu) : loopN (B_ref01_digits_0 fu a) fu ([], 0) = some (digw (2 * a.length) (nv a)) := by
  refine loop_eq (fun s : List Nat × Int => ∃ k : Nat, k ≤ a.length ∧ s = (digw (2 * k) (nv a), (k : Int))) (fun s => a.length - s.2.toNat) _ ?_ _ _ ⟨0, by omega, rfl⟩ (by show a.length - 0 < fu; omega)
  rintro s L ⟨k, hk, rfl⟩ ih
  unfold B_ref01_digits_0
  simp only []
  by_cases h1 : k < a.length
  · rw [if_pos (by omega), ckI_n h1, nm_t, nm_t, ckI_n h1, nm_t, nm_t, min32, ck_t (by simp only [digw_length, List.length_cons, List.length_nil]; omega), nm_t, ck64_t ⟨by omega, by omega⟩, digw_two h h1]
    exact ih _ ⟨k + 1, by omega, rfl⟩ (by show a.length - ((k : Int) + 1).toNat < a.length - (k : Int).toNat; omega)
  · rw [if_neg (by omega)]
    obtain rfl : k = a.length := by omega
    rfl
theorem M_ref01_digits_eq {fu : Nat} {a : List Nat} (h : Limbs a) (hl : a.length ≤ 4294967296) (hf : 2 * a.length < fu) : M_ref01_digits fu a = some (toW (nv a)) := by
  unfold M_ref01_digits
  have hlt : nv a < 4294967296 ^ (2 * a.length) := by rw [pow32]; exact nv_lt h
  rw [bd_t (digits_loop h hl hf), bd_t (M_ref01_cut_eq (digw_lims _ _) (by rw [digw_length]; omega) (by rw [digw_length]; omega)), nw_digw, Nat.mod_eq_of_lt hlt]
theorem digs_pair {d : List Nat} (h : Digs d) (k : Nat) : d.getD (2 * k) 0 + d.getD (2 * k + 1) 0 * 2 ^ 32 = nw d / 18446744073709551616 ^ k % 18446744073709551616 := by
  rw [getD_nw h, getD_nw h, pow32s, ← Nat.div_div_eq_div_mul, pow32]
  generalize nw d / 18446744073709551616 ^ k = z
  omega
theorem limbs_loop {fu n : Nat} {d : List Nat} (h : Digs d) (hl : d.length ≤ 4294967296) (hn : n = (d.length + 1) / 2) (hf : d.length + 1 < fu) : loopN (B_ref01_limbs_0 fu d) fu ([], 0) = some (digs n (nw d)) := by
  refine loop_eq (fun s : List Nat × Int => ∃ k : Nat, k ≤ n ∧ s = (digs k (nw d), 2 * (k : Int))) (fun s => 2 * n - s.2.toNat) _ ?_ _ _ ⟨0, by omega, rfl⟩ (by show 2 * n - 0 < fu; omega)
  rintro s L ⟨k, hk, rfl⟩ ih
  unfold B_ref01_limbs_0
  simp only []
  have e2 : 2 * (k : Int) = ((2 * k : Nat) : Int) := by omega
  have hp := digs_pair h k
  by_cases h1 : 2 * k < d.length
  · have d0 := h.getD (2 * k)
    have d1 := h.getD (2 * k + 1)
    rw [e2, if_pos (by omega), ckI_n h1, nm_t, ck64_t ⟨by omega, by omega⟩]
    have e3 : ((2 * k : Nat) : Int) + 1 = ((2 * k + 1 : Nat) : Int) := by omega
    have e4 : ((2 * k : Nat) : Int) + 2 = 2 * ((k + 1 : Nat) : Int) := by omega
    by_cases h3 : 2 * k + 1 < d.length
    · rw [if_pos (by omega), ck64_t ⟨by omega, by omega⟩, e3, ckI_n h3, nm_t, min32, nm_t, nm_t, ck_t (by simp only [digs_length, List.length_cons, List.length_nil]; omega), nm_t, ck64_t ⟨by omega, by omega⟩, e4]
      refine ih _ ⟨k + 1, by omega, ?_⟩ (by show 2 * n - (2 * ((k + 1 : Nat) : Int)).toNat < 2 * n - (((2 * k : Nat) : Int)).toNat; omega)
      rw [digs_snoc, ← hp, Nat.mod_eq_of_lt (by omega), Nat.mod_eq_of_lt (by omega)]
    · rw [if_neg (by omega), ck_t (by simp only [digs_length, List.length_cons, List.length_nil]; omega), nm_t, ck64_t ⟨by omega, by omega⟩, e4]
      refine ih _ ⟨k + 1, by omega, ?_⟩ (by show 2 * n - (2 * ((k + 1 : Nat) : Int)).toNat < 2 * n - (((2 * k : Nat) : Int)).toNat; omega)
      have z : d.getD (2 * k + 1) 0 = 0 := by rw [List.getD_eq_getElem?_getD, List.getElem?_eq_none (by omega)]; rfl
      rw [z, Nat.zero_mul, Nat.add_zero] at hp
      rw [digs_snoc, ← hp]
  · rw [if_neg (by omega)]
    obtain rfl : k = n := by omega
    rfl
theorem M_ref01_limbs_eq {fu : Nat} {d : List Nat} (h : Digs d) (hl : d.length ≤ 4294967296) (hf : d.length + 1 < fu) : M_ref01_limbs fu d = some (toL (nw d)) := by
  unfold M_ref01_limbs
  obtain ⟨n, hn⟩ : ∃ n, n = (d.length + 1) / 2 := ⟨_, rfl⟩
  have hlt : nw d < 18446744073709551616 ^ n := by
    rw [← pow32]
    exact Nat.lt_of_lt_of_le (nw_lt h) (Nat.pow_le_pow_right (by decide) (by omega))
  rw [bd_t (limbs_loop h hl hn hf), bd_t (M_ref01_Norm_eq (digs_limbs _ _) (by rw [digs_length]; omega) (by rw [digs_length]; omega)), nv_digs, Nat.mod_eq_of_lt hlt]
end Go.Proofs.YtjnjfinbdfolkaaGreat
end

section
set_option linter.unusedVariables false
set_option linter.unusedSimpArgs false
namespace Go.Proofs.YtjnjfinbdfolkaaGreat
theorem mulw_step {o y : List Nat} {T i k x c : Nat} (hj : i + k < o.length) (h : nw o + 4294967296 ^ (i + k) * c = T + 4294967296 ^ i * (x * nw (y.take k))) :
    nw (o.set (i + k) ((x * y.getD k 0 + o.getD (i + k) 0 + c) % 4294967296)) + 4294967296 ^ (i + (k + 1)) * ((x * y.getD k 0 + o.getD (i + k) 0 + c) / 4294967296) = T + 4294967296 ^ i * (x * nw (y.take (k + 1))) := by
  have h1 := nw_set o (i + k) ((x * y.getD k 0 + o.getD (i + k) 0 + c) % 4294967296) hj
  rw [nw_take_succ, Nat.mul_add x, Nat.mul_add (4294967296 ^ i), Nat.mul_left_comm x, ← Nat.mul_assoc (4294967296 ^ i) (4294967296 ^ k), ← Nat.pow_add]
  have e := Nat.mod_add_div (x * y.getD k 0 + o.getD (i + k) 0 + c) 4294967296
  rw [show i + (k + 1) = (i + k) + 1 by omega, Nat.pow_succ]
  generalize (x * y.getD k 0 + o.getD (i + k) 0 + c) % 4294967296 = u at *
  generalize (x * y.getD k 0 + o.getD (i + k) 0 + c) / 4294967296 = q at *
  generalize 4294967296 ^ (i + k) = p at *
  have e2 : p * u + p * 4294967296 * q = p * (x * y.getD k 0) + p * o.getD (i + k) 0 + p * c := by
    rw [Nat.mul_assoc, ← Nat.mul_add, e, Nat.mul_add, Nat.mul_add]
  omega
theorem nw_set_lt {o : List Nat} (ho : Digs o) {j m v : Nat} (hj : j < m) (hv : v < 4294967296) (h : nw o < 4294967296 ^ m) : nw (o.set j v) < 4294967296 ^ m := by
  have e : (o.set j v).drop m = o.drop m := List.drop_set_of_lt hj
  have h1 := nw_drop (ho.set j hv) m
  have h2 := nw_drop ho m
  rw [e, h2, Nat.div_eq_of_lt h] at h1
  have hp : 0 < 4294967296 ^ m := Nat.pow_pos (by decide)
  rcases Nat.lt_or_ge (nw (o.set j v)) (4294967296 ^ m) with h3 | h3
  · exact h3
  · have := Nat.div_pos h3 hp; omega
theorem nw_zero_at {o : List Nat} (ho : Digs o) {m : Nat} (h : nw o < 4294967296 ^ m) : o.getD m 0 = 0 := by
  rw [getD_nw ho, Nat.div_eq_of_lt h]
theorem mw_bound {x y o c : Nat} (hx : x < 4294967296) (hy : y < 4294967296) (ho : o < 4294967296) (hc : c < 4294967296) : x * y + o + c < 18446744073709551616 := by
  have : x * y ≤ 4294967295 * 4294967295 := Nat.mul_le_mul (by omega) (by omega)
  omega
theorem refmul_inner {fu i n : Nat} {x y o0 : List Nat} (hx : Digs x) (hy : Digs y) (hi : i < x.length) (hn : n = x.length + y.length) (hnb : n ≤ 4294967296) (h0 : Digs o0) (h0l : o0.length = n) (h0v : nw o0 = nw (x.take i) * nw y) (h0b : nw o0 < 4294967296 ^ (i + y.length)) (hf : y.length < fu) :
    loopN (B_ref01_Mul_1 fu x y (i : Int)) fu (0, 0, o0) = some (nw (x.take (i + 1)) * nw y / 4294967296 ^ (i + y.length), digw n (nw (x.take (i + 1)) * nw y % 4294967296 ^ (i + y.length))) := by
  refine loop_eq (fun s : Nat × Int × List Nat => ∃ (c k : Nat) (o : List Nat), s = (c, (k : Int), o) ∧ k ≤ y.length ∧ c < 4294967296 ∧ Digs o ∧ o.length = n ∧ nw o < 4294967296 ^ (i + y.length) ∧ nw o + 4294967296 ^ (i + k) * c = nw o0 + 4294967296 ^ i * (x.getD i 0 * nw (y.take k)))
    (fun s => y.length - s.2.1.toNat) _ ?_ _ _ ⟨0, 0, o0, rfl, by omega, by omega, h0, h0l, h0b, by simp [nw]⟩ (by show y.length - 0 < fu; omega)
  rintro s L ⟨c, k, o, rfl, hk, hc, hoD, hol, hob, ho⟩ ih
  unfold B_ref01_Mul_1
  simp only []
  by_cases h1 : k < y.length
  · have e : (i : Int) + (k : Int) = ((i + k : Nat) : Int) := by omega
    have bx := hx.getD i
    have by' := hy.getD k
    have bo := hoD.getD (i + k)
    have hb := mw_bound bx by' bo hc
    rw [if_pos (by omega), ckI_n hi, nm_t, ckI_n h1, nm_t, nm_t, e, ck64_t ⟨by omega, by omega⟩, ckI_n (by omega), nm_t, nm_t, nm_t, ck64_t ⟨by omega, by omega⟩, nm_t, and32, ckI_n (by omega), nm_t, nm_t, min32, ck64_t ⟨by omega, by omega⟩]
    have e5 : ((x.getD i 0 * y.getD k 0 % 18446744073709551616 + o.getD (i + k) 0) % 18446744073709551616 + c) % 18446744073709551616 = x.getD i 0 * y.getD k 0 + o.getD (i + k) 0 + c := by
      generalize x.getD i 0 * y.getD k 0 = z at *
      omega
    rw [e5]
    refine ih _ ⟨_, k + 1, _, rfl, by omega, ?_, hoD.set _ (Nat.mod_lt _ (by decide)), by rw [List.length_set, hol], nw_set_lt hoD (by omega) (Nat.mod_lt _ (by decide)) hob, mulw_step (by omega) ho⟩ (by show y.length - ((k : Int) + 1).toNat < y.length - (k : Int).toNat; omega)
    generalize x.getD i 0 * y.getD k 0 + o.getD (i + k) 0 + c = z at *
    omega
  · rw [if_neg (by omega)]
    obtain rfl : k = y.length := by omega
    rw [List.take_length, h0v] at ho
    have e6 : nw (x.take (i + 1)) * nw y = nw (x.take i) * nw y + 4294967296 ^ i * (x.getD i 0 * nw y) := by rw [nw_take_succ, Nat.add_mul, Nat.mul_assoc]
    rw [← e6] at ho
    have hp : 0 < 4294967296 ^ (i + y.length) := Nat.pow_pos (by decide)
    rw [← ho, Nat.add_mul_div_left _ _ hp, Nat.div_eq_of_lt hob, Nat.add_mul_mod_self_left, Nat.mod_eq_of_lt hob, Nat.zero_add]
    have := digw_nw hoD
    rw [hol] at this
    rw [this]
theorem nw_take_lt {x : List Nat} (hx : Digs x) (k : Nat) : nw (x.take k) < 4294967296 ^ k := by
  rw [nw_take hx]; exact Nat.mod_lt _ (Nat.pow_pos (by decide))
theorem nw_mul_lt {x y : List Nat} (hx : Digs x) (hy : Digs y) (k : Nat) : nw (x.take k) * nw y < 4294967296 ^ (k + y.length) := by
  rw [Nat.pow_add]; exact Nat.mul_lt_mul'' (nw_take_lt hx k) (nw_lt hy)
theorem refmul_loop {fu n : Nat} {x y : List Nat} (hx : Digs x) (hy : Digs y) (hn : n = x.length + y.length) (hnb : n ≤ 4294967296) (hf : n < fu) :
    loopN (B_ref01_Mul_0 fu x y) fu (0, digw n 0) = some (digw n (nw x * nw y)) := by
  refine loop_eq (fun s : Int × List Nat => ∃ k : Nat, k ≤ x.length ∧ s = ((k : Int), digw n (nw (x.take k) * nw y))) (fun s => x.length - s.1.toNat) _ ?_ _ _ ⟨0, by omega, by simp [nw]⟩ (by show x.length - 0 < fu; omega)
  rintro s L ⟨k, hk, rfl⟩ ih
  unfold B_ref01_Mul_0
  simp only []
  by_cases h1 : k < x.length
  · have hb := nw_mul_lt hx hy k
    have hb1 := nw_mul_lt hx hy (k + 1)
    have hle : 4294967296 ^ (k + y.length) ≤ 4294967296 ^ n := Nat.pow_le_pow_right (by decide) (by omega)
    have hv : nw (digw n (nw (x.take k) * nw y)) = nw (x.take k) * nw y := by rw [nw_digw, Nat.mod_eq_of_lt (by omega)]
    have e : (k : Int) + ((y.length : Nat) : Int) = ((k + y.length : Nat) : Int) := by omega
    rw [if_pos (by omega), bd_t (refmul_inner (n := n) hx hy h1 hn hnb (digw_lims _ _) (digw_length _ _) hv (by rw [hv]; exact hb) (by omega))]
    simp only []
    rw [e, ck64_t ⟨by omega, by omega⟩, ckI_n (by rw [digw_length]; omega), nm_t, ck64_t ⟨by omega, by omega⟩]
    refine ih _ ⟨k + 1, by omega, ?_⟩ (by show x.length - ((k : Int) + 1).toNat < x.length - (k : Int).toNat; omega)
    have hS : nw (x.take (k + 1)) * nw y / 4294967296 ^ (k + y.length) < 4294967296 := by
      rw [Nat.div_lt_iff_lt_mul (Nat.pow_pos (by decide))]
      rw [show k + 1 + y.length = (k + y.length) + 1 by omega, Nat.pow_succ, Nat.mul_comm (4294967296 ^ (k + y.length))] at hb1
      exact hb1
    have hp : 0 < 4294967296 ^ (k + y.length) := Nat.pow_pos (by decide)
    generalize nw (x.take (k + 1)) * nw y = S at *
    have hm := Nat.mod_lt S hp
    have hnv : nw (digw n (S % 4294967296 ^ (k + y.length))) = S % 4294967296 ^ (k + y.length) := by rw [nw_digw, Nat.mod_eq_of_lt (by omega)]
    have hz := nw_zero_at (digw_lims n (S % 4294967296 ^ (k + y.length))) (m := k + y.length) (by rw [hnv]; exact hm)
    have hset := nw_set (digw n (S % 4294967296 ^ (k + y.length))) (k + y.length) (S / 4294967296 ^ (k + y.length)) (by rw [digw_length]; omega)
    rw [hz, hnv, Nat.mul_zero, Nat.add_zero, Nat.mod_add_div] at hset
    have hd := digw_nw ((digw_lims n (S % 4294967296 ^ (k + y.length))).set (k + y.length) hS)
    rw [hset, List.length_set, digw_length] at hd
    rw [hd]; rfl
  · rw [if_neg (by omega)]
    obtain rfl : k = x.length := by omega
    rw [List.take_length]
theorem toW_len2 {a : List Nat} (h : Limbs a) : (toW (nv a)).length ≤ 2 * a.length := by
  rw [toW_length, pow32]; exact nv_lt h
theorem M_ref01_Mul_eq {fu : Nat} {a b : List Nat} (ha : Limbs a) (hb : Limbs b) (hla : a.length ≤ 268435456) (hlb : b.length ≤ 268435456) (hf : 2 * (a.length + b.length) + 1 < fu) :
    M_ref01_Mul fu a b = some (toL (nv a * nv b)) := by
  unfold M_ref01_Mul
  have l1 := toW_len2 ha
  have l2 := toW_len2 hb
  rw [bd_t (M_ref01_digits_eq ha (by omega) (by omega)), bd_t (M_ref01_digits_eq hb (by omega) (by omega))]
  have e1 : nw (toW (nv a)) = nv a := nw_toW _
  have e2 : nw (toW (nv b)) = nv b := nw_toW _
  have L1 := toW_lims (nv a)
  have L2 := toW_lims (nv b)
  generalize toW (nv a) = x at *
  generalize toW (nv b) = y at *
  have e : ((x.length : Nat) : Int) + ((y.length : Nat) : Int) = ((x.length + y.length : Nat) : Int) := by omega
  have hlt : nv a * nv b < 4294967296 ^ (x.length + y.length) := by
    have := nw_mul_lt L1 L2 x.length
    rwa [List.take_length, e1, e2] at this
  rw [e, ck64_t ⟨by omega, by omega⟩, ckN_n, ck_t (by omega), nm_t, ← digw_zero, bd_t (refmul_loop L1 L2 rfl (by omega) (by omega)), e1, e2, bd_t (M_ref01_limbs_eq (digw_lims _ _) (by rw [digw_length]; omega) (by rw [digw_length]; omega)), nw_digw, Nat.mod_eq_of_lt hlt]
theorem M_ref01_Same_eq {fu : Nat} {a b : List Nat} (hla : a.length ≤ 1099511627776) (hf : a.length < fu) : M_ref01_Same fu a b = some (decide (a = b)) := by
  unfold M_ref01_Same
  by_cases hl : a.length = b.length
  · rw [if_pos (by omega), bd_t (v := if a = b then .inl () else .inr ())]
    · by_cases h : a = b
      · rw [if_pos h, decide_eq_true h]
      · rw [if_neg h, decide_eq_false h]
    · refine loop_eq (fun i : Int => ∃ k : Nat, i = (k : Int) ∧ k ≤ a.length ∧ a.take k = b.take k) (fun i => a.length - i.toNat) _ ?_ _ _ ⟨0, rfl, by omega, rfl⟩ (by show a.length - 0 < fu; omega)
      rintro i L ⟨k, rfl, hk, ht⟩ ih
      unfold B_ref01_Same_0
      by_cases h1 : k < a.length
      · rw [if_pos (by omega), ckI_n h1, nm_t, ckI_n (by omega), nm_t]
        by_cases h2 : a.getD k 0 = b.getD k 0
        · rw [if_pos (by omega), ck64_t ⟨by omega, by omega⟩]
          refine ih _ ⟨k + 1, by omega, by omega, ?_⟩ (by show a.length - ((k : Int) + 1).toNat < a.length - (k : Int).toNat; omega)
          rw [List.take_add_one, List.take_add_one, ht, getD_some 0 h1, getD_some 0 (by omega : k < b.length), h2]
        · rw [if_neg (by omega), if_neg (fun h => h2 (by rw [h]))]
      · rw [if_neg (by omega)]
        obtain rfl : k = a.length := by omega
        rw [List.take_length, List.take_of_length_le (by omega)] at ht
        rw [if_pos ht]
  · rw [if_neg (by omega), decide_eq_false (fun h => hl (by rw [h]))]
end Go.Proofs.YtjnjfinbdfolkaaGreat
end

section
set_option linter.unusedVariables false
set_option linter.unusedSimpArgs false
namespace Go.Proofs.YtjnjfinbdfolkaaGreat
/-- the value of an integer, and the integer of a value -/
def zv (z : Zr) : Int := if z.1 = true then -((nv z.2 : Nat) : Int) else ((nv z.2 : Nat) : Int)
def ofI (x : Int) : Zr := (decide (x < 0), toL x.natAbs)
theorem zv_ofI (x : Int) : zv (ofI x) = x := by
  unfold zv ofI
  simp only [nv_toL, decide_eq_true_eq]
  split <;> omega
theorem ofI_limbs (x : Int) : Limbs (ofI x).2 := toL_limbs _
theorem natAbs_zv (z : Zr) : (zv z).natAbs = nv z.2 := by unfold zv; split <;> omega
theorem mk_ofI (s : Bool) (n : Nat) : (if s = true then if 0 < (((toL n).length : Nat) : Int) then some (true, toL n) else some (false, toL n) else some (false, toL n)) = some (ofI (if s = true then -(n : Int) else (n : Int))) := by
  have h1 := @toL_nil n
  cases s
  · simp [ofI]
  · simp only [if_true]
    by_cases h : n = 0
    · subst h; rfl
    · have := toL_len_pos (n := n) (by omega)
      rw [if_pos (by omega)]
      unfold ofI
      rw [decide_eq_true (by omega)]
      congr 2
      congr 1
      omega
theorem M_zint_made_eq {fu : Nat} {s : Bool} {a : List Nat} (h : Limbs a) (hl : a.length ≤ 1099511627776) (hf : a.length < fu) : M_zint_made fu s a = some (ofI (if s = true then -((nv a : Nat) : Int) else ((nv a : Nat) : Int))) := by
  unfold M_zint_made
  rw [bd_t (M_nat_Norm_eq h hl hf)]
  exact mk_ofI s _
theorem M_ref02_Norm_eq {fu : Nat} {z : Zr} (h : Limbs z.2) (hl : z.2.length ≤ 17179869184) (hf : z.2.length < fu) : M_ref02_Norm fu z = some (ofI (zv z)) := by
  unfold M_ref02_Norm
  rw [bd_t (M_ref01_Norm_eq h hl hf)]
  exact mk_ofI z.1 _
theorem M_zint_Norm_eq {fu : Nat} {z : Zr} (h : Limbs z.2) (hl : z.2.length ≤ 1099511627776) (hf : z.2.length < fu) : M_zint_Norm fu z = some (ofI (zv z)) := by
  unfold M_zint_Norm
  rw [bd_t (M_zint_made_eq h hl hf)]; rfl
theorem uns_nonneg {x : Int} (h0 : 0 ≤ x) (h : x < 18446744073709551616) : ((uns x : Nat) : Int) = x := by unfold uns; omega
theorem one_limb {x : Nat} (h : x < 18446744073709551616) : Limbs [x] := Limbs.cons h Limbs.nil
theorem nv_one (x : Nat) : nv [x] = x := by simp [nv]
theorem M_zint_Of_eq {fu : Nat} {x : Int} (h : InR x) (hf : 1 < fu) : M_zint_Of fu x = some (ofI x) := by
  obtain ⟨h1, h2⟩ := h
  unfold M_zint_Of
  have hu := uns_r x
  by_cases h0 : x < 0
  · have e : (18446744073709551616 - uns x) % 18446744073709551616 = x.natAbs := by unfold uns; omega
    rw [if_pos h0, nm_t, nm_t, e, bd_t (M_zint_made_eq (one_limb (by omega)) (by simp) (by simpa using hf)), nv_one]
    congr 2
    rw [if_pos rfl]; omega
  · have e := uns_nonneg (x := x) (by omega) (by omega)
    rw [if_neg h0, nm_t, bd_t (M_zint_made_eq (one_limb hu) (by simp) (by simpa using hf)), nv_one]
    congr 2
theorem M_ref02_Of_eq {fu : Nat} {x : Int} (h : -9223372036854775807 ≤ x ∧ x ≤ 9223372036854775807) (hf : 1 < fu) : M_ref02_Of fu x = some (ofI x) := by
  obtain ⟨h1, h2⟩ := h
  unfold M_ref02_Of
  by_cases h0 : x < 0
  · have e := uns_nonneg (x := 0 - x) (by omega) (by omega)
    have hu := uns_r (0 - x)
    rw [if_pos h0, ck64_t ⟨by omega, by omega⟩, nm_t, bd_t (M_ref02_Norm_eq (one_limb hu) (by simp) (by simpa using hf))]
    unfold zv
    rw [if_pos rfl, nv_one]
    congr 2; omega
  · have e := uns_nonneg (x := x) (by omega) (by omega)
    have hu := uns_r x
    rw [if_neg h0, nm_t, bd_t (M_ref02_Norm_eq (one_limb hu) (by simp) (by simpa using hf))]
    unfold zv
    simp only [Bool.false_eq_true, if_false, nv_one, e]
theorem sgn_mul (a b : Zr) : (if (!(a.1 == b.1)) = true then -((nv a.2 * nv b.2 : Nat) : Int) else ((nv a.2 * nv b.2 : Nat) : Int)) = zv a * zv b := by
  unfold zv
  cases a.1 <;> cases b.1 <;> simp [Int.neg_mul, Int.mul_neg]
theorem M_zint_Mul_eq {fu : Nat} {a b : Zr} (ha : Limbs a.2) (hb : Limbs b.2) (hla : a.2.length ≤ 1073741824) (hlb : b.2.length ≤ 1073741824) (hf : 4 * (a.2.length + b.2.length) + 64 ≤ fu) : M_zint_Mul fu a b = some (ofI (zv a * zv b)) := by
  unfold M_zint_Mul
  have hl := toL_mul_len (toL_nv_le ha) (toL_nv_le hb)
  rw [nm_t, bd_t (M_nat_Mul_eq ha hb hla hlb hf), bd_t (M_zint_made_eq (toL_limbs _) (by omega) (by omega)), nv_toL, ← sgn_mul]
theorem M_ref02_Mul_eq {fu : Nat} {a b : Zr} (ha : Limbs a.2) (hb : Limbs b.2) (hla : a.2.length ≤ 268435456) (hlb : b.2.length ≤ 268435456) (hf : 2 * (a.2.length + b.2.length) + 1 < fu) : M_ref02_Mul fu a b = some (ofI (zv a * zv b)) := by
  unfold M_ref02_Mul
  have hl := toL_mul_len (toL_nv_le ha) (toL_nv_le hb)
  rw [nm_t, bd_t (M_ref01_Mul_eq ha hb hla hlb hf), bd_t (M_ref02_Norm_eq (toL_limbs _) (by show (toL _).length ≤ _; omega) (by show (toL _).length < _; omega))]
  rw [← sgn_mul]
  show some (ofI (if _ then -((nv (toL _) : Nat) : Int) else ((nv (toL _) : Nat) : Int))) = _
  rw [nv_toL]
theorem M_ref02_Same_eq {fu : Nat} {a b : Zr} (hl : a.2.length ≤ 1099511627776) (hf : a.2.length < fu) : M_ref02_Same fu a b = some (decide (a = b)) := by
  obtain ⟨s, a⟩ := a
  obtain ⟨t, b⟩ := b
  unfold M_ref02_Same
  rw [nm_t]
  cases s <;> cases t
  · simp only [beq_self_eq_true, if_true]
    rw [bd_t (M_ref01_Same_eq hl hf)]
    simp
  · simp
  · simp
  · simp only [beq_self_eq_true, if_true]
    rw [bd_t (M_ref01_Same_eq hl hf)]
    simp
theorem pow_len {a : Int} {e b : Nat} (h : bl a.natAbs * e ≤ b * 64) : (toL (a ^ e).natAbs).length ≤ b + 1 := by
  rw [toL_length, Int.natAbs_pow]
  have h1 : a.natAbs ^ e ≤ (2 ^ bl a.natAbs) ^ e := Nat.pow_le_pow_left (Nat.le_of_lt (lt_bl _)) e
  rw [← Nat.pow_mul] at h1
  have h2 : 2 ^ (bl a.natAbs * e) ≤ 2 ^ (64 * b) := Nat.pow_le_pow_right (by decide) (by omega)
  rw [Nat.pow_mul 2 64 b, show (2 : Nat) ^ 64 = 18446744073709551616 from rfl] at h2
  have h3 : 18446744073709551616 ^ b < 18446744073709551616 ^ (b + 1) := Nat.pow_lt_pow_right (by decide) (Nat.lt_succ_self b)
  omega
theorem andI_one (i : Nat) (h : i ≤ 65536) : andI (i : Int) 1 = ((i % 2 : Nat) : Int) := by
  unfold andI
  have e1 : uns (i : Int) = i := by unfold uns; omega
  have e2 : uns 1 = 1 := by decide
  rw [e1, e2, Nat.and_one_is_mod]
  unfold sgn
  rw [if_pos (by omega)]
theorem half (i : Nat) : Int.fdiv (i : Int) (2 ^ (min ((1 : Int)).toNat 64)) = ((i / 2 : Nat) : Int) := by
  have : min ((1 : Int)).toNat 64 = 1 := by decide
  rw [this]
  rw [Int.fdiv_eq_ediv_of_nonneg _ (by decide)]
  show (i : Int) / 2 = _
  omega
theorem zpow_loop {fu n : Nat} {a : Int} (hn : n ≤ 65536) (hb : bl a.natAbs * n ≤ 262144) (hf : 65600 < fu) :
    loopN (B_zint_Pow_0 fu) fu ((n : Int), ofI a, ofI 1) = some (ofI (a ^ n)) := by
  have hlen : ∀ e, e ≤ n → (toL (a ^ e).natAbs).length ≤ 4097 := fun e he => pow_len (b := 4096) (Nat.le_trans (Nat.mul_le_mul_left _ he) hb)
  refine loop_eq (fun s : Int × Zr × Zr => ∃ i d e : Nat, s = ((i : Int), ofI (a ^ d), ofI (a ^ e)) ∧ e + d * i = n ∧ (0 < i → d ≤ n) ∧ 0 < d) (fun s => s.1.toNat) _ ?_ _ _ ⟨n, 1, 0, by simp [Int.pow_succ], by omega, by omega, by omega⟩ (by show ((n : Int)).toNat < fu; omega)
  rintro s L ⟨i, d, e, rfl, he, hd, hd0⟩ ih
  unfold B_zint_Pow_0
  simp only []
  have mul : ∀ p q, p ≤ n → q ≤ n → M_zint_Mul fu (ofI (a ^ p)) (ofI (a ^ q)) = some (ofI (a ^ (p + q))) := by
    intro p q hp hq
    have h1 := hlen p hp
    have h2 := hlen q hq
    rw [M_zint_Mul_eq (ofI_limbs _) (ofI_limbs _) (by show (toL _).length ≤ _; omega) (by show (toL _).length ≤ _; omega) (by show 4 * ((toL _).length + (toL _).length) + 64 ≤ fu; omega), zv_ofI, zv_ofI, Int.pow_add]
  by_cases h0 : 0 < i
  · have hd' := hd h0
    have hin : i ≤ n := by
      have := Nat.le_mul_of_pos_left i hd0; omega
    have hdi : d * i = d * (i / 2) * 2 + d * (i % 2) := by
      rw [Nat.mul_assoc, ← Nat.mul_add]; congr 1; omega
    rw [if_pos (by omega), nm_t, andI_one i (by omega)]
    by_cases h1 : i % 2 = 1
    · rw [if_pos (by omega)]
      rw [h1, Nat.mul_one] at hdi
      rw [bd_t (mul e d (by omega) hd')]
      by_cases h2 : 1 < i
      · have h3 : d * 1 ≤ d * (i / 2) := Nat.mul_le_mul_left d (by omega)
        rw [if_pos (by omega), bd_t (mul d d hd' hd'), nm_t, half]
        refine ih _ ⟨i / 2, d + d, e + d, rfl, ?_, by omega, by omega⟩ (by show ((i / 2 : Nat) : Int).toNat < ((i : Nat) : Int).toNat; omega)
        rw [Nat.add_mul]; omega
      · rw [if_neg (by omega), nm_t, half]
        refine ih _ ⟨i / 2, d, e + d, rfl, ?_, by omega, by omega⟩ (by show ((i / 2 : Nat) : Int).toNat < ((i : Nat) : Int).toNat; omega)
        rw [show i / 2 = 0 by omega, Nat.mul_zero] at hdi ⊢
        omega
    · rw [if_neg (by omega)]
      rw [show i % 2 = 0 by omega, Nat.mul_zero, Nat.add_zero] at hdi
      by_cases h2 : 1 < i
      · have h3 : d * 1 ≤ d * (i / 2) := Nat.mul_le_mul_left d (by omega)
        rw [if_pos (by omega), bd_t (mul d d hd' hd'), nm_t, half]
        refine ih _ ⟨i / 2, d + d, e, rfl, ?_, by omega, by omega⟩ (by show ((i / 2 : Nat) : Int).toNat < ((i : Nat) : Int).toNat; omega)
        rw [Nat.add_mul]; omega
      · omega
  · rw [if_neg (by omega)]
    obtain rfl : i = 0 := by omega
    rw [Nat.mul_zero, Nat.add_zero] at he
    rw [he]
theorem M_zint_Pow_eq {fu n : Nat} {z : Zr} (h : Limbs z.2) (hl : z.2.length ≤ 1000000) (hn : n ≤ 65536) (hf : 1000100 < fu) :
    M_zint_Pow fu z (n : Int) = some (if 262144 < bl (nv z.2) * n then ((false, []), 6) else (ofI (zv z ^ n), 0)) := by
  unfold M_zint_Pow
  have hb := bl_lim h hl
  have hm : bl (nv z.2) * n ≤ 64000000 * 65536 := Nat.mul_le_mul hb hn
  have e : ((bl (nv z.2) : Nat) : Int) * (n : Int) = ((bl (nv z.2) * n : Nat) : Int) := by simp
  rw [if_neg (by omega), if_neg (by omega), bd_t rfl]
  simp only [Bool.false_eq_true, if_false]
  rw [bd_t (M_nat_Bits_eq h (by omega) (by omega)), e, ck64_t ⟨by omega, by omega⟩]
  by_cases h1 : 262144 < bl (nv z.2) * n
  · rw [if_pos (by omega), if_pos h1]
  · rw [if_neg (by omega), if_neg h1, bd_t (M_zint_Of_eq (by decide) (by omega)), bd_t (M_zint_Norm_eq h (by omega) (by omega)), bd_t (zpow_loop hn (by rw [natAbs_zv]; omega) (by omega))]
theorem rpow_loop {fu n : Nat} {z : Zr} (h : Limbs z.2) (hl : z.2.length ≤ 1000000) (hn : n ≤ 65536) (hb : bl (nv z.2) * n ≤ 262144) (hf : 2010000 < fu) :
    loopN (B_ref02_Pow_0 fu z (n : Int)) fu (0, ofI 1) = some (ofI (zv z ^ n)) := by
  refine loop_eq (fun s : Int × Zr => ∃ i : Nat, i ≤ n ∧ s = ((i : Int), ofI (zv z ^ i))) (fun s => n - s.1.toNat) _ ?_ _ _ ⟨0, by omega, by simp⟩ (by show n - 0 < fu; omega)
  rintro s L ⟨i, hi, rfl⟩ ih
  unfold B_ref02_Pow_0
  simp only []
  by_cases h1 : i < n
  · have hlen : (toL (zv z ^ i).natAbs).length ≤ 4097 := pow_len (b := 4096) (by rw [natAbs_zv]; exact Nat.le_trans (Nat.mul_le_mul_left _ hi) hb)
    rw [if_pos (by omega), bd_t (M_ref02_Mul_eq (ofI_limbs _) h (by show (toL _).length ≤ _; omega) (by omega) (by show 2 * ((toL _).length + _) + 1 < fu; omega)), ck64_t ⟨by omega, by omega⟩, zv_ofI]
    exact ih _ ⟨i + 1, by omega, by rw [Int.pow_succ]; rfl⟩ (by show n - ((i : Int) + 1).toNat < n - (i : Int).toNat; omega)
  · rw [if_neg (by omega)]
    obtain rfl : i = n := by omega
    rfl
theorem small_pow {a : Int} (h : a.natAbs ≤ 1) (n : Nat) : a ^ (2 * min n 1 - n % 2) = a ^ n := by
  have h3 : a = 0 ∨ a = 1 ∨ a = -1 := by omega
  have e : ∀ m, (-1 : Int) ^ (2 * m) = 1 := fun m => by rw [Int.pow_mul]; exact Int.one_pow
  rcases h3 with rfl | rfl | rfl
  · rcases Nat.eq_zero_or_pos n with rfl | h0
    · rfl
    · rw [Int.zero_pow (by omega), Int.zero_pow (by omega)]
  · rw [Int.one_pow, Int.one_pow]
  · rcases Nat.eq_zero_or_pos n with rfl | h0
    · rfl
    · rcases (by omega : n % 2 = 0 ∨ n % 2 = 1) with h | h
      · have e1 : 2 * min n 1 - n % 2 = 2 * 1 := by omega
        obtain ⟨m, rfl⟩ : ∃ m, n = 2 * m := ⟨n / 2, by omega⟩
        rw [e1, e, e]
      · have e1 : 2 * min n 1 - n % 2 = 1 := by omega
        obtain ⟨m, rfl⟩ : ∃ m, n = 2 * m + 1 := ⟨n / 2, by omega⟩
        rw [e1, Int.pow_succ (-1) (2 * m), e]; rfl
theorem M_ref02_Pow_eq {fu n : Nat} {z : Zr} (h : Limbs z.2) (hl : z.2.length ≤ 1000000) (hn : n ≤ 65536) (hf : 2010000 < fu) :
    M_ref02_Pow fu z (n : Int) = some (if 262144 < bl (nv z.2) * n then ((false, []), 6) else (ofI (zv z ^ n), 0)) := by
  unfold M_ref02_Pow
  have hb := bl_lim h hl
  have hm : bl (nv z.2) * n ≤ 64000000 * 65536 := Nat.mul_le_mul hb hn
  have e : ((bl (nv z.2) : Nat) : Int) * (n : Int) = ((bl (nv z.2) * n : Nat) : Int) := by simp
  rw [if_neg (by omega), if_neg (by omega), bd_t (M_ref01_Bits_eq h (by omega) (by omega)), e, ck64_t ⟨by omega, by omega⟩]
  by_cases h1 : 262144 < bl (nv z.2) * n
  · rw [if_pos (by omega), if_pos h1]
  · rw [if_neg (by omega), if_neg h1, bd_t (M_ref02_Of_eq (by decide) (by omega)), bd_t (M_ref01_Bits_eq h (by omega) (by omega))]
    by_cases h2 : bl (nv z.2) ≤ 1
    · have e1 : min (n : Int) 1 = ((min n 1 : Nat) : Int) := by omega
      have e2 : Int.tmod (n : Int) 2 = ((n % 2 : Nat) : Int) := rfl
      have e3 : 2 * ((min n 1 : Nat) : Int) - ((n % 2 : Nat) : Int) = ((2 * min n 1 - n % 2 : Nat) : Int) := by omega
      have h3 := bl_le_one h2
      have h4 : bl (nv z.2) * (2 * min n 1 - n % 2) ≤ 1 * 2 := Nat.mul_le_mul h2 (by omega)
      rw [if_pos (by omega), nm_t, e1, ck64_t ⟨by omega, by omega⟩, nm_t, e2, e3, ck64_t ⟨by omega, by omega⟩, bd_t rfl, bd_t (rpow_loop h hl (by omega) (by omega) hf), small_pow (by rw [natAbs_zv]; exact h3)]
    · rw [if_neg (by omega), bd_t rfl, bd_t (rpow_loop h hl hn (by omega) hf)]
end Go.Proofs.YtjnjfinbdfolkaaGreat
end

section
set_option linter.unusedVariables false
set_option linter.unusedSimpArgs false
namespace Go.Proofs.YtjnjfinbdfolkaaGreat
/-- no divisor up to the root -/
def NoDiv (p : Nat) : Prop := ∀ d, 2 ≤ d → d * d ≤ p → p % d ≠ 0
open Classical in
/-- a prime of those that are known -/
noncomputable def prm (p : Int) : Bool := decide (2 ≤ p ∧ p ≤ 65521 ∧ NoDiv p.toNat)
open Classical in
theorem prm_t {p : Int} (h : 2 ≤ p ∧ p ≤ 65521 ∧ NoDiv p.toNat) : prm p = true := by unfold prm; exact decide_eq_true h
open Classical in
theorem prm_f {p : Int} (h : ¬ (2 ≤ p ∧ p ≤ 65521 ∧ NoDiv p.toNat)) : prm p = false := by unfold prm; exact decide_eq_false h
theorem sq_cast (d : Nat) : (d : Int) * (d : Int) = ((d * d : Nat) : Int) := by simp
theorem sq_le {d p : Nat} (h : p ≤ 65521) (hd : d ≤ 300) : d * d ≤ 90000 := Nat.le_trans (Nat.mul_le_mul hd hd) (by decide)
theorem sq_lt {d p : Nat} (h : p ≤ 65521) (hd : d * d ≤ p) : d < 256 := by
  rcases Nat.lt_or_ge d 256 with h1 | h1
  · exact h1
  · have := Nat.mul_le_mul h1 h1; omega
theorem prime_loop {fu p : Nat} (h : p ≤ 65521) (hf : 400 < fu) : (NoDiv p → loopN (B_prime_Is_0 fu (p : Int)) fu 2 = some true) ∧ (¬ NoDiv p → loopN (B_prime_Is_0 fu (p : Int)) fu 2 = some false) := by
  constructor
  · intro hn
    refine loop_eq (fun i : Int => ∃ d : Nat, i = (d : Int) ∧ 2 ≤ d ∧ d ≤ 256) (fun i => 300 - i.toNat) _ ?_ _ _ ⟨2, rfl, by omega, by omega⟩ (by show 300 - 2 < fu; omega)
    rintro i L ⟨d, rfl, h2, h3⟩ ih
    unfold B_prime_Is_0
    have hs := sq_le h (d := d) (by omega)
    rw [sq_cast, ck64_t ⟨by omega, by omega⟩]
    by_cases h4 : d * d ≤ p
    · have h5 := hn d h2 h4
      have := sq_lt h h4
      have e : Int.tmod (p : Int) (d : Int) = ((p % d : Nat) : Int) := rfl
      rw [if_pos (by omega), ck_t (by omega), nm_t, e, if_neg (by omega), ck64_t ⟨by omega, by omega⟩]
      exact ih _ ⟨d + 1, by omega, by omega, by omega⟩ (by show 300 - ((d : Int) + 1).toNat < 300 - (d : Int).toNat; omega)
    · rw [if_neg (by omega)]
  · intro hn
    obtain ⟨d0, hd0⟩ := Classical.not_forall.1 hn
    obtain ⟨h20, hd0⟩ := Classical.not_imp.1 hd0
    obtain ⟨h4, h5⟩ := Classical.not_imp.1 hd0
    have h5 : p % d0 = 0 := Classical.not_not.1 h5
    have h6 := sq_lt h h4
    refine loop_eq (fun i : Int => ∃ d : Nat, i = (d : Int) ∧ 2 ≤ d ∧ d ≤ d0) (fun i => 300 - i.toNat) _ ?_ _ _ ⟨2, rfl, by omega, by omega⟩ (by show 300 - 2 < fu; omega)
    rintro i L ⟨d, rfl, h2, h3⟩ ih
    unfold B_prime_Is_0
    have hs := sq_le h (d := d) (by omega)
    have hs2 := Nat.mul_le_mul h3 h3
    rw [sq_cast, ck64_t ⟨by omega, by omega⟩]
    have e : Int.tmod (p : Int) (d : Int) = ((p % d : Nat) : Int) := rfl
    rw [if_pos (by omega), ck_t (by omega), nm_t, e]
    by_cases h7 : p % d = 0
    · rw [if_pos (by omega)]
    · rw [if_neg (by omega), ck64_t ⟨by omega, by omega⟩]
      refine ih _ ⟨d + 1, by omega, by omega, ?_⟩ (by show 300 - ((d : Int) + 1).toNat < 300 - (d : Int).toNat; omega)
      rcases Nat.lt_or_ge d d0 with h8 | h8
      · exact h8
      · exact absurd (by rw [show d = d0 by omega]; exact h5) h7
theorem unit_loop1 {fu : Nat} (hf : 400 < fu) : loopN (B_prime_Is_1 fu) fu () = some () := by
  obtain ⟨k, rfl⟩ : ∃ k, fu = k + 1 := ⟨fu - 1, by omega⟩
  rfl
theorem unit_loop2 {fu : Nat} (hf : 400 < fu) : loopN (B_prime_Is_2 fu) fu () = some () := by
  obtain ⟨k, rfl⟩ : ∃ k, fu = k + 1 := ⟨fu - 1, by omega⟩
  rfl
theorem M_prime_Is_eq {fu : Nat} {p : Int} (hf : 400 < fu) : M_prime_Is fu p = some (prm p) := by
  unfold M_prime_Is
  by_cases h2 : 2 ≤ p
  · rw [if_pos h2]
    by_cases h3 : p ≤ 65521
    · rw [if_pos h3]
      obtain ⟨q, rfl⟩ := Int.eq_ofNat_of_zero_le (by omega : 0 ≤ p)
      obtain ⟨l1, l2⟩ := prime_loop (fu := fu) (p := q) (by omega) hf
      by_cases h4 : NoDiv q
      · rw [bd_t (l1 h4), prm_t (p := (q : Int)) ⟨h2, h3, h4⟩]
      · rw [bd_t (l2 h4), prm_f (p := (q : Int)) (fun h => h4 h.2.2)]
    · rw [if_neg h3, bd_t (unit_loop1 hf)]
      rw [prm_f (fun h => h3 h.2.1)]
  · rw [if_neg h2, bd_t (unit_loop2 hf)]
    rw [prm_f (fun h => h2 h.1)]
theorem loop_map {α β γ : Type} {f : (β → Option α) → β → Option α} {g : (β → Option γ) → β → Option γ} {h : α → γ}
    (step : ∀ L K s, (∀ s, K s = (L s).map h) → g K s = (f L s).map h) : ∀ n s, loopN g n s = (loopN f n s).map h
  | 0, s => rfl
  | n + 1, s => step _ _ s fun s => loop_map step n s
theorem is_map (fu : Nat) (p : Int) : ∀ n s, loopN (B_ref04_Is_0 fu p) n s = (loopN (B_prime_Is_0 fu p) n s).map (fun b => if b = true then Sum.inl () else Sum.inr ()) := by
  refine loop_map fun L K s h => ?_
  unfold B_prime_Is_0 B_ref04_Is_0
  by_cases h1 : InR (s * s)
  · rw [ck64_t h1, ck64_t h1]
    by_cases h2 : s * s ≤ p
    · rw [if_pos h2, if_pos h2]
      by_cases h3 : s ≠ 0
      · rw [ck_t h3, ck_t h3, nm_t, nm_t]
        by_cases h4 : p.tmod s = 0
        · rw [if_pos h4, if_pos h4]; rfl
        · rw [if_neg h4, if_neg h4]
          by_cases h5 : InR (s + 1)
          · rw [ck64_t h5, ck64_t h5]; exact h _
          · unfold ck64; rw [if_neg h5, if_neg h5]; rfl
      · unfold ck; rw [if_neg h3, if_neg h3]; rfl
    · rw [if_neg h2, if_neg h2]; rfl
  · unfold ck64; rw [if_neg h1, if_neg h1]; rfl
theorem M_ref04_Is_eq {fu : Nat} {p : Int} (hf : 400 < fu) : M_ref04_Is fu p = some (prm p) := by
  unfold M_ref04_Is
  by_cases h2 : p < 2
  · rw [if_pos h2]
    rw [prm_f (fun h => by omega)]
  · rw [if_neg h2]
    by_cases h3 : 65521 < p
    · rw [if_pos h3]
      rw [prm_f (fun h => by omega)]
    · rw [if_neg h3]
      obtain ⟨q, rfl⟩ := Int.eq_ofNat_of_zero_le (by omega : 0 ≤ p)
      obtain ⟨l1, l2⟩ := prime_loop (fu := fu) (p := q) (by omega) hf
      by_cases h4 : NoDiv q
      · rw [bd_t (v := .inl ()) (by rw [is_map, l1 h4]; rfl), prm_t (p := (q : Int)) ⟨by omega, by omega, h4⟩]
      · rw [bd_t (v := .inr ()) (by rw [is_map, l2 h4]; rfl), prm_f (p := (q : Int)) (fun h => h4 h.2.2)]
/-- which power -/
noncomputable def powR (p k : Int) : Zr × Int := if prm p = true ∧ 1 ≤ k ∧ k ≤ 1000 then (ofI (p ^ k.toNat), 0) else ((false, []), 1)
theorem prm_rng {p : Int} (h : prm p = true) : 2 ≤ p ∧ p ≤ 65521 := by
  refine Classical.byContradiction fun hn => ?_
  rw [prm_f (fun h => hn ⟨h.1, h.2.1⟩)] at h
  cases h
theorem bl_prm {p : Int} (h : prm p = true) : bl (nv (ofI p).2) ≤ 16 := by
  have := prm_rng h
  refine bl_le ?_
  show nv (toL p.natAbs) < _
  rw [nv_toL]; omega
theorem ofI_len {x : Int} (h : x.natAbs < 18446744073709551616) : (ofI x).2.length ≤ 1 := by
  show (toL _).length ≤ 1
  rw [toL_length]; omega
theorem M_hensel_Power_eq {fu : Nat} {p k : Int} (hf : 3000000 < fu) : M_hensel_Power fu p k = some (powR p k) := by
  unfold M_hensel_Power powR
  rw [bd_t (M_prime_Is_eq (by omega))]
  by_cases h1 : prm p = true
  · have hr := prm_rng h1
    rw [if_neg (by simp [h1])]
    by_cases h2 : k < 1
    · rw [if_pos h2, if_neg (fun h => by omega)]
    · rw [if_neg h2]
      by_cases h3 : 1000 < k
      · rw [if_pos h3, if_neg (fun h => by omega)]
      · obtain ⟨n, rfl⟩ := Int.eq_ofNat_of_zero_le (by omega : 0 ≤ k)
        have hl := ofI_len (x := p) (by omega)
        have hb : bl (nv (ofI p).2) * n ≤ 16 * 1000 := Nat.mul_le_mul (bl_prm h1) (by omega)
        rw [if_neg h3, if_pos ⟨h1, by omega, by omega⟩, bd_t (M_zint_Of_eq ⟨by omega, by omega⟩ (by omega)), bd_t (M_zint_Pow_eq (ofI_limbs p) (by omega) (by omega) (by omega)), if_neg (by omega), zv_ofI]
        rfl
  · rw [if_pos (by simp [h1]), if_neg (fun h => h1 h.1)]
theorem M_ref13_Power_eq {fu : Nat} {p k : Int} (hf : 3000000 < fu) : M_ref13_Power fu p k = some (powR p k) := by
  unfold M_ref13_Power powR
  rw [bd_t (M_ref04_Is_eq (by omega))]
  by_cases h1 : prm p = true
  · have hr := prm_rng h1
    rw [if_neg (by simp [h1])]
    by_cases h2 : k < 1
    · rw [if_pos h2, if_neg (fun h => by omega)]
    · rw [if_neg h2]
      by_cases h3 : 1000 < k
      · rw [if_pos h3, if_neg (fun h => by omega)]
      · obtain ⟨n, rfl⟩ := Int.eq_ofNat_of_zero_le (by omega : 0 ≤ k)
        have hl := ofI_len (x := p) (by omega)
        have hb : bl (nv (ofI p).2) * n ≤ 16 * 1000 := Nat.mul_le_mul (bl_prm h1) (by omega)
        rw [if_neg h3, if_pos ⟨h1, by omega, by omega⟩, bd_t (M_ref02_Of_eq ⟨by omega, by omega⟩ (by omega)), bd_t (M_ref02_Pow_eq (ofI_limbs p) (by omega) (by omega) (by omega)), if_neg (by omega), zv_ofI]
        rfl
  · rw [if_pos (by simp [h1]), if_neg (fun h => h1 h.1)]
theorem powR_len (p k : Int) : (powR p k).1.2.length ≤ 1000 := by
  unfold powR
  split
  · next h =>
    have hb := bl_prm h.1
    rw [show nv (ofI p).2 = p.natAbs from nv_toL _] at hb
    have : bl p.natAbs * k.toNat ≤ 16 * 1000 := Nat.mul_le_mul hb (by omega)
    have := pow_len (a := p) (e := k.toNat) (b := 999) (by omega)
    exact this
  · exact Nat.zero_le _
set_option maxRecDepth 100000 in
theorem law13_awake : M_law13_awake 4000000 = some true := by decide +kernel
theorem hensel_powers (p k : Int) : M_law13_HenselPowers 4000000 p k = some true := by
  unfold M_law13_HenselPowers
  have rest : (bd (M_hensel_Power 4000000 p k) fun (t1, x1) => bd (M_ref13_Power 4000000 p k) fun (t2, x2) => if true = true then if x1 = x2 then bd (M_ref02_Same 4000000 t1 t2) fun c2 => some c2 else some false else some false) = some true := by
    have hl := powR_len p k
    have h1 := M_hensel_Power_eq (fu := 4000000) (p := p) (k := k) (by decide)
    have h2 := M_ref13_Power_eq (fu := 4000000) (p := p) (k := k) (by decide)
    obtain ⟨a, e⟩ := powR p k
    rw [bd_t h1]
    simp only []
    rw [bd_t h2]
    simp only [if_true]
    rw [bd_t (M_ref02_Same_eq (by exact Nat.le_trans hl (by decide)) (by exact Nat.lt_of_le_of_lt hl (by decide)))]
    simp
  rw [bd_t law13_awake]
  by_cases h1 : 60 < k
  · rw [if_pos h1]
    by_cases h2 : k ≤ 1000
    · rw [if_pos h2, bd_t rfl]
    · rw [if_neg h2, bd_t rfl]; exact rest
  · rw [if_neg h1, bd_t rfl]; exact rest
end Go.Proofs.YtjnjfinbdfolkaaGreat
end

section
set_option linter.unusedVariables false
set_option linter.unusedSimpArgs false
namespace Go.Proofs.YtjnjfinbdfolkaaGreat
set_option maxRecDepth 100000 in
set_option maxHeartbeats 1000000 in
theorem c_ref01_Norm (fu : Nat) (a0 : List Nat) (va0 : Value) (r0 : List Nat) (H : M_ref01_Norm fu a0 = some r0) : FnG Tryz.prog 125 [va0].toArray [] [fV (eS eU) (a0) va0] (fun u : Value => u) (fun u => [mO eU 102 u (r0)]) (fun u => []) (fun _ => True) := by
 unfold M_ref01_Norm at H
 refine FnG_intro Tryz.func125 rfl rfl fun we Se F G rest => T_seq <| T_region <| TL_mv 1 [(0, va0)] rfl fun rest => TL_nil <| T_seq ?_
 refine T_region <| TL_mv 1 [(0, va0), (4, va0)] rfl fun rest => TL_step rfl rfl (oe_len (e := eU) (xs := a0) Tryz.underlying23 rfl (fun S w h => h.1)) fun _ hl1 => TL_mv 1 [(0, va0), (3, iv ((a0.length : Nat) : Int))] rfl fun rest => TL_nil <| T_seq ?_
 refine T_block ?_
 obtain ⟨s1, hL, Hc⟩ := bd_s H
 refine T_X [(.x 0, JQ we Se (G := Int) (fun i4 => (⟨(F), (fV (eS eU) (a0) va0 :: G), [(0, va0), (3, iv (i4))]⟩ : Inv)) (fun i4 => i4 = s1 ∧ InR i4))] ?_ ⟨?_, trivial⟩
 ·refine T_loop_s (G := Nat × Int) (s1 := _) (f := _) (k := fun (n1, i3) => n1) (σ := fun (n1, i3) => i3) (fun (n1, i3) => (⟨(F), (fV (eS eU) (a0) va0 :: G), [(0, va0), (3, iv (i3))]⟩ : Inv)) (fun (n1, i3) => InR i3) (fu, ((a0.length : Nat) : Int)) hL (len_r hl1) rfl (fun w h => St.weak h (fun S w h => ⟨h.1, h.2⟩)) ?_
  rintro ⟨n1, i3⟩ ⟨H, hr3⟩ rest
  rcases n1 with _ | n1
  ·exact (loopN_z H).elim
  replace H := loopN_s H
  unfold B_ref01_Norm_0 at H
  refine T_prune [(0, va0), (3, iv (i3))] rfl fun rest => T_weak (F) (fV (eS eU) (a0) va0 :: G) (fun w h => h) <| T_seq <| T_seq <| T_region <| TL_mv 1 [(0, va0), (3, iv (i3)), (6, iv (i3))] rfl fun rest => ?_
  refine TL_gtr rfl rfl rfl rfl (fun h1 => ?_) (fun h1 => ?_)
  ·replace H := if_t h1 H
   refine TL_mv 3 [(0, va0), (3, iv (i3)), (8, .bool true), (9, va0), (10, iv (i3))] rfl fun rest => ?_
   obtain ⟨x1, hx1, hrx1, H⟩ := ck64_s H
   refine TL_val rfl rfl (r_sub (c := x1) rfl rfl (w_x hx1 hrx1)) ?_
   obtain ⟨j1, hj1, hlj1, H⟩ := ckI_s H
   obtain ⟨y1, hy1, H⟩ := nm_s H
   refine TL_step rfl rfl (oe_index (e := eU) (xs := a0) (k := j1) (y := y1) rfl (vi hj1) Tryz.underlying23 ty102 (getE (z := 0) hlj1 hy1) (fun S w h => h.1)) fun p1 _ => TL_step rfl rfl (oe_load_u64 (y := y1) rfl ty102 (fun S w h => h.1)) fun _ hv1 => TL_eql rfl rfl rfl rfl (fun h2 => ?_) (fun h2 => ?_)
   ·replace H := if_t h2 H
    refine TL_mv 1 [(0, va0), (3, iv (i3)), (9, va0), (10, iv (i3)), (11, iv (x1)), (12, p1), (13, uv y1), (14, .bool true), (15, .bool true)] rfl fun rest => TL_nil <| T_cond_true rfl <| T_skip <| T_block <| T_region ?_
    refine TL_mv 1 [(0, va0), (9, va0), (10, iv (i3)), (11, iv (x1)), (12, p1), (13, uv y1), (14, .bool true), (16, iv (i3))] rfl fun rest => ?_
    obtain ⟨x2, hx2, hrx2, H⟩ := ck64_s H
    refine TL_val rfl rfl (r_sub (c := x2) rfl rfl (w_x hx2 hrx2)) <| TL_mv 1 [(0, va0), (3, iv (x2)), (9, va0), (10, iv (i3)), (11, iv (x1)), (12, p1), (13, uv y1), (14, .bool true)] rfl fun rest => TL_nil ?_
    exact St_round_s (n1, x2) H hrx2 (Nat.lt_succ_self _) rfl (fun w h => St.weak h (fun S w h => ⟨h.2.1, h.2.2⟩))
   replace H := if_f h2 H
   refine TL_mv 1 [(0, va0), (3, iv (i3)), (9, va0), (10, iv (i3)), (11, iv (x1)), (12, p1), (13, uv y1), (14, .bool false), (15, .bool false)] rfl fun rest => TL_nil <| T_cond_false rfl <| T_exit ?_
   exact JQ_mk i3 (And.intro (Option.some.inj H) hr3) rfl (fun w h => St.weak h (fun S w h => ⟨h.2.1, h.2.2⟩))
  replace H := if_f h1 H
  refine TL_mv 8 [(0, va0), (3, iv (i3)), (15, .bool false)] rfl fun rest => TL_nil <| T_cond_false rfl <| T_exit ?_
  exact JQ_mk i3 (And.intro (Option.some.inj H) hr3) rfl (fun w h => St.weak h (fun S w h => ⟨h.1, h.2⟩))
 refine JQ_el' ?_
 rintro i4 ⟨hs, hr4⟩ rest
 subst hs
 replace H := Hc
 clear hL
 refine JG_to (ms' := (F)) (Γ' := (fV (eS eU) (a0) va0 :: G)) (live' := [(0, va0), (3, iv (i4))]) rfl <| T_seq <| T_region <| TL_og rfl rfl (og_empty (e := eU) Tryz.underlying23 ty102) fun w1 _ => ?_
 show TL _ _ _ _ (mO eU 102 w1 (([] : List Nat)) :: F) (fV (eS eU) (a0) va0 :: G) _ _ _ _
 refine TL_mv 2 [(18, w1), (19, va0), (20, iv (i4))] rfl fun rest => ?_
 obtain ⟨j2, hj2, H⟩ := ckN_s H
 obtain ⟨hk1, H⟩ := ck_s H
 obtain ⟨y2, hy2, H⟩ := nm_s H
 refine TL_step rfl rfl (oe_as (oe_sliceT (e := eU) (xs := a0) (h := j2) rfl Tryz.underlying23 ty102 (vi hj2) hk1 (fun S w h => h.1)) hy2) fun u1 _ => ?_
 obtain ⟨hk2, H⟩ := ck_s H
 obtain ⟨t1, ht1, H⟩ := nm_s H
 refine TL_og rfl rfl (og_append' (e := eU) (xs := ([] : List Nat)) (ys := y2) 0 Tryz.underlying23 ty102 rfl (by decide) (by decide) rfl rfl rfl (fun S w h => h.1) hk2 ht1) fun w2 _ => ?_
 show TL _ _ _ _ (mO eU 102 w2 (t1) :: F) (fV (eS eU) (y2) u1 :: fV (eS eU) (a0) va0 :: G) _ _ _ _
 refine TL_mv 1 [(2, w2)] rfl fun rest => TL_nil <| T_ret ?_
 obtain rfl := inj1 H
 intro w hw
 exact RetG (vs := [w2]) w2 Tryz.results125 (by exact ⟨rfl, trivial⟩) rfl trivial (St.weak hw (fun S w h => h.2.2))
set_option maxRecDepth 100000 in
set_option maxHeartbeats 1000000 in
theorem c_ref02_Norm (fu : Nat) (a0 : Zr) (va0 : Value) (r0 : Zr) (H : M_ref02_Norm fu a0 = some r0) : Fn Tryz.prog 64 [va0].toArray [fV eZ (a0) va0] (fun u : Value => u) (fun u => [fV eZ (r0) u]) (fun _ => True) := by
 unfold M_ref02_Norm at H
 refine Fn_intro Tryz.func64 rfl rfl fun we Se rest => T_seq <| T_region <| TL_step rfl rfl (oe_box (e := eZ) (z := a0) rfl (fun S w h => h.1)) fun p1 _ => TL_og rfl rfl (og_allocM (e := ERep.c eZ) (z := (false, [])) ty25 (fun S w => z25 S w)) fun b1 _ => ?_
 show TL _ _ _ _ [mB (ERep.c eZ) 25 b1 ((false, []))] [fP eZ (a0) p1, fV eZ (a0) va0] _ _ _ _
 refine TL_mv 0 [(1, p1), (2, .pointer (some ⟨b1, 0, none⟩))] rfl fun rest => TL_nil <| T_seq <| T_region <| TL_step rfl rfl (oe_field (e := eZ) (z := a0) fl25_1 rfl (Sub.snd eBool (eS eU) (a0)) (fun S w h => h.1)) fun p2 _ => TL_step rfl rfl (oe_load (e := (eS eU)) (y := a0.2) rfl ty23 (fun S w h => h.1)) fun u1 _ => ?_
 obtain ⟨t1, he1, H⟩ := bd_s H
 refine TL_og rfl rfl (og_callG (F := [mB (ERep.c eZ) 25 b1 ((false, []))]) (by kernel_rfl) (c_ref01_Norm fu a0.2 u1 t1 he1) rfl (fun S w h => ⟨h.1, trivial⟩)) fun u2 _ => ?_
 show TL _ _ _ _ [mO eU 102 u2 (t1), mB (ERep.c eZ) 25 b1 ((false, []))] [fV (eS eU) (a0.2) u1, fP (eS eU) (a0.2) p2, fP eZ (a0) p1, fV eZ (a0) va0] _ _ _ _
 refine TL_mv 1 [(1, p1), (2, .pointer (some ⟨b1, 0, none⟩)), (3, u2)] rfl fun rest => TL_nil <| T_seq <| T_region <| TL_step rfl rfl (oe_field (e := eZ) (z := a0) fl25_0 rfl (Sub.fst eBool (eS eU) (a0)) (fun S w h => h.2.2.1)) fun p3 _ => TL_step rfl rfl (oe_load_bool (y := a0.1) rfl ty4 (fun S w h => h.1)) fun _ _ => ?_
 refine TL_mv 1 [(2, .pointer (some ⟨b1, 0, none⟩)), (3, u2), (9, .bool (a0.1))] rfl fun rest => ?_
 rcases Bool.eq_false_or_eq_true (a0.1) with hd1 | hd1
 ·refine TL_prune [(2, .pointer (some ⟨b1, 0, none⟩)), (3, u2), (9, .bool true)] (agr ⟨rfl, rfl, (congrArg Value.bool hd1), trivial⟩) fun rest => ?_
  replace H := if_t hd1 H
  refine TL_mv 1 [(2, .pointer (some ⟨b1, 0, none⟩)), (3, u2), (9, .bool true), (10, u2)] rfl fun rest => TL_step rfl rfl (oe_lenM 0 rfl Tryz.underlying23 rfl) fun _ hl1 => TL_gtr rfl rfl rfl rfl (fun h1 => ?_) (fun h1 => ?_)
  ·replace H := if_t h1 H
   refine TL_mv 2 [(2, .pointer (some ⟨b1, 0, none⟩)), (13, .bool true), (14, u2)] rfl fun rest => TL_weak_st (fun w h => fz_own 0 h rfl) <| TL_step rfl rfl (oe_build (e := eZ) (z := (true, t1)) ty25 rfl rfl (vs := [(0, .bool true), (1, u2)]) rfl (.inl (plx pl25 fun S w h => (by refine pl_eq [1, 1] ?_ ?_; exact ⟨fV_sz (S := S) (w := w) bool_fV, fV_sz (S := S) (w := w) h.1, trivial⟩; rfl))) (fun S w h => bp_cons bool_fV (bp_last h.1))) fun u4 _ => ?_
   refine TL_og rfl rfl (og_store' (f := eZ) (y' := (true, t1)) (z2 := (true, t1)) 0 rfl rfl rfl (Sub.self eZ ((false, []))) ty25 (fun S w h => h.1) rfl) fun _ _ => ?_
   show TL _ _ _ _ [mB (ERep.c eZ) 25 b1 ((true, t1))] [fV eZ ((true, t1)) u4, fV (eS eU) (t1) u2, fP eBool (a0.1) p3, fV (eS eU) (a0.2) u1, fP (eS eU) (a0.2) p2, fP eZ (a0) p1, fV eZ (a0) va0] _ _ _ _
   refine TL_mv 0 [(2, .pointer (some ⟨b1, 0, none⟩))] rfl fun rest => TL_sel [] (fun S w h => trivial) <| TL_nil <| T_ret ?_
   obtain rfl := inj1 H
   intro w hw
   change RetQ _ _ _ _ _ _ _ .ret _ w
   refine Ret_cN (e := eZ) (z := (true, t1)) 2 0 hw rfl (by exact rfl) ty25 fun r_1 hw hr_1 => ?_
   exact RetN (vs := [r_1]) r_1 Tryz.results64 (by exact ⟨hr_1, trivial⟩) rfl trivial hw (fun S w h => ⟨h.1, trivial⟩)
  replace H := if_f h1 H
  refine TL_mv 2 [(2, .pointer (some ⟨b1, 0, none⟩)), (13, .bool false), (14, u2)] rfl fun rest => TL_weak_st (fun w h => fz_own 0 h rfl) <| TL_step rfl rfl (oe_build (e := eZ) (z := (false, t1)) ty25 rfl rfl (vs := [(0, .bool false), (1, u2)]) rfl (.inl (plx pl25 fun S w h => (by refine pl_eq [1, 1] ?_ ?_; exact ⟨fV_sz (S := S) (w := w) bool_fV, fV_sz (S := S) (w := w) h.1, trivial⟩; rfl))) (fun S w h => bp_cons bool_fV (bp_last h.1))) fun u6 _ => ?_
  refine TL_og rfl rfl (og_store' (f := eZ) (y' := (false, t1)) (z2 := (false, t1)) 0 rfl rfl rfl (Sub.self eZ ((false, []))) ty25 (fun S w h => h.1) rfl) fun _ _ => ?_
  show TL _ _ _ _ [mB (ERep.c eZ) 25 b1 ((false, t1))] [fV eZ ((false, t1)) u6, fV (eS eU) (t1) u2, fP eBool (a0.1) p3, fV (eS eU) (a0.2) u1, fP (eS eU) (a0.2) p2, fP eZ (a0) p1, fV eZ (a0) va0] _ _ _ _
  refine TL_mv 0 [(2, .pointer (some ⟨b1, 0, none⟩))] rfl fun rest => TL_sel [] (fun S w h => trivial) <| TL_nil <| T_ret ?_
  obtain rfl := inj1 H
  intro w hw
  change RetQ _ _ _ _ _ _ _ .ret _ w
  refine Ret_cN (e := eZ) (z := (false, t1)) 2 0 hw rfl (by exact rfl) ty25 fun r_2 hw hr_2 => ?_
  exact RetN (vs := [r_2]) r_2 Tryz.results64 (by exact ⟨hr_2, trivial⟩) rfl trivial hw (fun S w h => ⟨h.1, trivial⟩)
 refine TL_prune [(2, .pointer (some ⟨b1, 0, none⟩)), (3, u2), (9, .bool false)] (agr ⟨rfl, rfl, (congrArg Value.bool hd1), trivial⟩) fun rest => ?_
 replace H := ifb_f hd1 H
 refine TL_mv 5 [(2, .pointer (some ⟨b1, 0, none⟩)), (13, .bool false), (14, u2)] rfl fun rest => TL_weak_st (fun w h => fz_own 0 h rfl) <| TL_step rfl rfl (oe_build (e := eZ) (z := (false, t1)) ty25 rfl rfl (vs := [(0, .bool false), (1, u2)]) rfl (.inl (plx pl25 fun S w h => (by refine pl_eq [1, 1] ?_ ?_; exact ⟨fV_sz (S := S) (w := w) bool_fV, fV_sz (S := S) (w := w) h.1, trivial⟩; rfl))) (fun S w h => bp_cons bool_fV (bp_last h.1))) fun u8 _ => ?_
 refine TL_og rfl rfl (og_store' (f := eZ) (y' := (false, t1)) (z2 := (false, t1)) 0 rfl rfl rfl (Sub.self eZ ((false, []))) ty25 (fun S w h => h.1) rfl) fun _ _ => ?_
 show TL _ _ _ _ [mB (ERep.c eZ) 25 b1 ((false, t1))] [fV eZ ((false, t1)) u8, fV (eS eU) (t1) u2, fP eBool (a0.1) p3, fV (eS eU) (a0.2) u1, fP (eS eU) (a0.2) p2, fP eZ (a0) p1, fV eZ (a0) va0] _ _ _ _
 refine TL_mv 0 [(2, .pointer (some ⟨b1, 0, none⟩))] rfl fun rest => TL_sel [] (fun S w h => trivial) <| TL_nil <| T_ret ?_
 obtain rfl := inj1 H
 intro w hw
 change RetQ _ _ _ _ _ _ _ .ret _ w
 refine Ret_cN (e := eZ) (z := (false, t1)) 2 0 hw rfl (by exact rfl) ty25 fun r_3 hw hr_3 => ?_
 exact RetN (vs := [r_3]) r_3 Tryz.results64 (by exact ⟨hr_3, trivial⟩) rfl trivial hw (fun S w h => ⟨h.1, trivial⟩)
set_option maxRecDepth 100000 in
set_option maxHeartbeats 1000000 in
theorem c_ref02_Of (fu : Nat) (a0 : Int) (qa0 : InR a0) (r0 : Zr) (H : M_ref02_Of fu a0 = some r0) : Fn Tryz.prog 61 [iv a0].toArray [] (fun u : Value => u) (fun u => [fV eZ (r0) u]) (fun _ => True) := by
 unfold M_ref02_Of at H
 refine Fn_intro Tryz.func61 rfl rfl fun we Se rest => T_seq <| T_region <| TL_og rfl rfl (og_allocM (e := ERep.c eZ) (z := (false, [])) ty25 (fun S w => z25 S w)) fun b1 _ => ?_
 show TL _ _ _ _ [mB (ERep.c eZ) 25 b1 ((false, []))] [] _ _ _ _
 refine TL_mv 0 [(0, iv (a0)), (2, .pointer (some ⟨b1, 0, none⟩))] rfl fun rest => TL_nil <| T_seq <| T_seq <| T_region <| TL_mv 1 [(0, iv (a0)), (2, .pointer (some ⟨b1, 0, none⟩)), (3, iv (a0))] rfl fun rest => ?_
 refine TL_lss rfl rfl rfl rfl (fun h1 => ?_) (fun h1 => ?_)
 ·replace H := if_t h1 H
  refine TL_mv 0 [(0, iv (a0)), (2, .pointer (some ⟨b1, 0, none⟩)), (4, .bool true)] rfl fun rest => TL_nil <| T_cond_true rfl <| T_seq <| T_region <| TL_mv 1 [(2, .pointer (some ⟨b1, 0, none⟩)), (5, iv (a0))] rfl fun rest => ?_
  obtain ⟨x1, hx1, hrx1, H⟩ := ck64_s H
  refine TL_val rfl rfl (r_neg (c := x1) rfl (w_x hx1 hrx1)) ?_
  obtain ⟨m1, hm1, H⟩ := nm_s H
  refine TL_val rfl rfl (r_conv (c := ((m1 : Nat) : Int)) Tryz.underlying3 Tryz.underlying102 rfl (wu_x hm1 (wrap_uns _))) <| TL_step rfl rfl (oe_lit (e := eU) (zs := [m1]) Tryz.underlying23 ty102 (by decide) rfl (by decide) (vs := [(0, uv m1)]) rfl (fun S w h => (by refine fill_eq eU ?_; exact ⟨fV_sz (S := S) (w := w) (u64_fV (eq_u hm1 (uns_r _))), trivial⟩)) (fun S w h => (elems_one (u64_fV (eq_u hm1 (uns_r _)))))) fun u1 _ => ?_
  refine TL_step rfl rfl (oe_build (e := eZ) (z := (true, [m1])) ty25 rfl rfl (vs := [(0, .bool true), (1, u1)]) rfl (.inl (plx pl25 fun S w h => (by refine pl_eq [1, 1] ?_ ?_; exact ⟨fV_sz (S := S) (w := w) bool_fV, fV_sz (S := S) (w := w) h.1, trivial⟩; rfl))) (fun S w h => bp_cons bool_fV (bp_last h.1))) fun u2 _ => ?_
  obtain ⟨t1, he1, H⟩ := bd_s H
  refine TL_step rfl rfl (oe_call (by kernel_rfl) (c_ref02_Norm fu (true, [m1]) u2 t1 he1) rfl (fun S w h => ⟨h.1, trivial⟩)) fun u3 _ => TL_og rfl rfl (og_store' (f := eZ) (y' := t1) (z2 := t1) 0 rfl rfl rfl (Sub.self eZ ((false, []))) ty25 (fun S w h => h.1) rfl) fun _ _ => ?_
  show TL _ _ _ _ [mB (ERep.c eZ) 25 b1 (t1)] [fV eZ (t1) u3, fV eZ ((true, [m1])) u2, fV (eS eU) ([m1]) u1] _ _ _ _
  refine TL_mv 0 [(2, .pointer (some ⟨b1, 0, none⟩))] rfl fun rest => TL_nil <| T_ret ?_
  obtain rfl := inj1 H
  intro w hw
  change RetQ _ _ _ _ _ _ _ .ret _ w
  refine Ret_cN (e := eZ) (z := t1) 2 0 hw rfl (by exact rfl) ty25 fun r_1 hw hr_1 => ?_
  exact RetN (vs := [r_1]) r_1 Tryz.results61 (by exact ⟨hr_1, trivial⟩) rfl trivial hw (fun S w h => ⟨h.1, trivial⟩)
 replace H := if_f h1 H
 refine TL_mv 0 [(0, iv (a0)), (2, .pointer (some ⟨b1, 0, none⟩)), (4, .bool false)] rfl fun rest => TL_nil <| T_cond_false rfl <| T_skip <| T_seq <| T_region ?_
 refine TL_mv 1 [(2, .pointer (some ⟨b1, 0, none⟩)), (11, iv (a0))] rfl fun rest => ?_
 obtain ⟨m2, hm2, H⟩ := nm_s H
 refine TL_val rfl rfl (r_conv (c := ((m2 : Nat) : Int)) Tryz.underlying3 Tryz.underlying102 rfl (wu_x hm2 (wrap_uns _))) <| TL_step rfl rfl (oe_lit (e := eU) (zs := [m2]) Tryz.underlying23 ty102 (by decide) rfl (by decide) (vs := [(0, uv m2)]) rfl (fun S w h => (by refine fill_eq eU ?_; exact ⟨fV_sz (S := S) (w := w) (u64_fV (eq_u hm2 (uns_r _))), trivial⟩)) (fun S w h => (elems_one (u64_fV (eq_u hm2 (uns_r _)))))) fun u4 _ => ?_
 refine TL_step rfl rfl (oe_build1 (e := eZ) (z0 := (false, [])) (z := (false, [m2])) (y := [m2]) ty25 rfl (fun S w => z25 S w) (Sub.snd eBool (eS eU) ((false, []))) pl25 rfl rfl (fun S w h => h.1) rfl) fun u5 _ => ?_
 obtain ⟨t2, he2, H⟩ := bd_s H
 refine TL_step rfl rfl (oe_call (by kernel_rfl) (c_ref02_Norm fu (false, [m2]) u5 t2 he2) rfl (fun S w h => ⟨h.1, trivial⟩)) fun u6 _ => TL_og rfl rfl (og_store' (f := eZ) (y' := t2) (z2 := t2) 0 rfl rfl rfl (Sub.self eZ ((false, []))) ty25 (fun S w h => h.1) rfl) fun _ _ => ?_
 show TL _ _ _ _ [mB (ERep.c eZ) 25 b1 (t2)] [fV eZ (t2) u6, fV eZ ((false, [m2])) u5, fV (eS eU) ([m2]) u4] _ _ _ _
 refine TL_mv 0 [(2, .pointer (some ⟨b1, 0, none⟩))] rfl fun rest => TL_nil <| T_ret ?_
 obtain rfl := inj1 H
 intro w hw
 change RetQ _ _ _ _ _ _ _ .ret _ w
 refine Ret_cN (e := eZ) (z := t2) 2 0 hw rfl (by exact rfl) ty25 fun r_2 hw hr_2 => ?_
 exact RetN (vs := [r_2]) r_2 Tryz.results61 (by exact ⟨hr_2, trivial⟩) rfl trivial hw (fun S w h => ⟨h.1, trivial⟩)
set_option maxRecDepth 100000 in
set_option maxHeartbeats 1000000 in
theorem c_ref02_Sign (fu : Nat) (a0 : Zr) (va0 : Value) (r0 : Int) (H : M_ref02_Sign fu a0 = some r0) : Fn Tryz.prog 63 [va0].toArray [fV eZ (a0) va0] (fun _ : Unit => iv (r0)) (fun _ => []) (fun _ => InR r0) := by
 unfold M_ref02_Sign at H
 refine Fn_intro Tryz.func63 rfl rfl fun we Se rest => T_seq <| T_region <| TL_step rfl rfl (oe_box (e := eZ) (z := a0) rfl (fun S w h => h.1)) fun p1 _ => TL_mv 1 [(1, p1)] rfl fun rest => TL_nil ?_
 refine T_seq <| T_region <| TL_step rfl rfl (oe_load (e := eZ) (y := a0) rfl ty25 (fun S w h => h.1)) fun u1 _ => ?_
 obtain ⟨t1, he1, H⟩ := bd_s H
 refine TL_step rfl rfl (oe_call (by kernel_rfl) (c_ref02_Norm fu a0 u1 t1 he1) rfl (fun S w h => ⟨h.1, trivial⟩)) fun u2 _ => TL_og rfl rfl (og_allocM (e := ERep.c eZ) (z := (false, [])) ty25 (fun S w => z25 S w)) fun b1 _ => ?_
 show TL _ _ _ _ [mB (ERep.c eZ) 25 b1 ((false, []))] [fV eZ (t1) u2, fV eZ (a0) u1, fP eZ (a0) p1, fV eZ (a0) va0] _ _ _ _
 refine TL_og rfl rfl (og_store' (f := eZ) (y' := t1) (z2 := t1) 0 rfl rfl rfl (Sub.self eZ ((false, []))) ty25 (fun S w h => h.1) rfl) fun _ _ => ?_
 show TL _ _ _ _ [mB (ERep.c eZ) 25 b1 (t1)] [fV eZ (t1) u2, fV eZ (a0) u1, fP eZ (a0) p1, fV eZ (a0) va0] _ _ _ _
 refine TL_mv 0 [(3, .pointer (some ⟨b1, 0, none⟩))] rfl fun rest => TL_nil <| T_seq <| T_seq <| T_region <| TL_val rfl rfl (r_field fl25_0 rfl) ?_
 refine TL_step rfl rfl (oe_loadM_bool (z' := t1.1) 0 rfl rfl (Sub.fst eBool (eS eU) (t1)) ty4) fun _ _ => TL_mv 0 [(3, .pointer (some ⟨b1, 0, none⟩)), (7, .bool (t1.1))] rfl fun rest => TL_nil <| T_cond (t1.1) rfl (fun hb1 => ?_) (fun hb1 => ?_)
 ·replace H := if_t hb1 H
  refine T_seq <| T_region <| TL_mv 1 [(2, iv (-1))] rfl fun rest => TL_nil <| T_ret ?_
  obtain rfl := inj1 H
  exact Ret1 () Tryz.results63 rfl (show InR (-1) by decide) (fun S w h => trivial)
 replace H := ifb_f hb1 H
 refine T_skip <| T_seq <| T_seq <| T_region <| TL_val rfl rfl (r_field fl25_1 rfl) <| TL_step rfl rfl (oe_loadM (z' := t1.2) 0 rfl rfl (Sub.snd eBool (eS eU) (t1)) ty23) fun u3 _ => ?_
 refine TL_step rfl rfl (oe_len (e := eU) (xs := t1.2) Tryz.underlying23 rfl (fun S w h => h.1)) fun _ hl1 => TL_gtr rfl rfl rfl rfl (fun h1 => ?_) (fun h1 => ?_)
 ·replace H := if_t h1 H
  refine TL_mv 0 [(11, .bool true)] rfl fun rest => TL_nil <| T_cond_true rfl <| T_seq <| T_region <| TL_mv 1 [(2, iv 1)] rfl fun rest => ?_
  refine TL_nil <| T_ret ?_
  obtain rfl := inj1 H
  exact Ret1 () Tryz.results63 rfl (show InR (1) by decide) (fun S w h => trivial)
 replace H := if_f h1 H
 refine TL_mv 0 [(11, .bool false)] rfl fun rest => TL_nil <| T_cond_false rfl <| T_skip <| T_seq <| T_region ?_
 refine TL_mv 1 [(2, iv 0)] rfl fun rest => TL_nil <| T_ret ?_
 obtain rfl := inj1 H
 exact Ret1 () Tryz.results63 rfl (show InR (0) by decide) (fun S w h => trivial)
set_option maxRecDepth 100000 in
set_option maxHeartbeats 1000000 in
theorem c_ref10_Norm (fu : Nat) (a0 : List Zr) (va0 : Value) (r0 : List Zr) (H : M_ref10_Norm fu a0 = some r0) : FnG Tryz.prog 17 [va0].toArray [] [fV (eS eZ) (a0) va0] (fun u : Value => u) (fun u => [mO eZ 25 u (r0)]) (fun u => []) (fun _ => True) := by
 unfold M_ref10_Norm at H
 refine FnG_intro Tryz.func17 rfl rfl fun we Se F G rest => T_seq <| T_region <| TL_mv 1 [(0, va0)] rfl fun rest => TL_nil <| T_seq ?_
 refine T_region <| TL_mv 1 [(0, va0), (6, va0)] rfl fun rest => TL_step rfl rfl (oe_len (e := eZ) (xs := a0) Tryz.underlying31 rfl (fun S w h => h.1)) fun _ hl1 => TL_mv 1 [(0, va0), (3, iv ((a0.length : Nat) : Int))] rfl fun rest => TL_nil <| T_seq ?_
 refine T_block ?_
 obtain ⟨s1, hL, Hc⟩ := bd_s H
 refine T_X [(.x 0, JQ we Se (G := Int) (fun i4 => (⟨(F), (fV (eS eZ) (a0) va0 :: G), [(0, va0), (3, iv (i4))]⟩ : Inv)) (fun i4 => i4 = s1 ∧ InR i4))] ?_ ⟨?_, trivial⟩
 ·refine T_loop_s (G := Nat × Int) (s1 := _) (f := _) (k := fun (n1, i3) => n1) (σ := fun (n1, i3) => i3) (fun (n1, i3) => (⟨(F), (fV (eS eZ) (a0) va0 :: G), [(0, va0), (3, iv (i3))]⟩ : Inv)) (fun (n1, i3) => InR i3) (fu, ((a0.length : Nat) : Int)) hL (len_r hl1) rfl (fun w h => St.weak h (fun S w h => ⟨h.1, h.2⟩)) ?_
  rintro ⟨n1, i3⟩ ⟨H, hr3⟩ rest
  rcases n1 with _ | n1
  ·exact (loopN_z H).elim
  replace H := loopN_s H
  unfold B_ref10_Norm_0 at H
  refine T_prune [(0, va0), (3, iv (i3))] rfl fun rest => T_weak (F) (fV (eS eZ) (a0) va0 :: G) (fun w h => h) <| T_seq <| T_seq <| T_region <| TL_mv 1 [(0, va0), (3, iv (i3)), (8, iv (i3))] rfl fun rest => ?_
  refine TL_gtr rfl rfl rfl rfl (fun h1 => ?_) (fun h1 => ?_)
  ·replace H := if_t h1 H
   refine TL_mv 3 [(0, va0), (3, iv (i3)), (10, .bool true), (11, va0), (12, iv (i3))] rfl fun rest => ?_
   obtain ⟨x1, hx1, hrx1, H⟩ := ck64_s H
   refine TL_val rfl rfl (r_sub (c := x1) rfl rfl (w_x hx1 hrx1)) ?_
   obtain ⟨j1, hj1, hlj1, H⟩ := ckI_s H
   obtain ⟨y1, hy1, H⟩ := nm_s H
   refine TL_step rfl rfl (oe_index (e := eZ) (xs := a0) (k := j1) (y := y1) rfl (vi hj1) Tryz.underlying31 ty25 (getE (z := (false, [])) hlj1 hy1) (fun S w h => h.1)) fun p1 _ => TL_step rfl rfl (oe_load (e := eZ) (y := y1) rfl ty25 (fun S w h => h.1)) fun u1 _ => ?_
   obtain ⟨x2, he1, H⟩ := bd_s H
   refine TL_step rfl rfl (oe_call (by kernel_rfl) (c_ref02_Sign fu y1 u1 x2 he1) rfl (fun S w h => ⟨h.1, trivial⟩)) fun _ hk1 => TL_eql rfl rfl rfl rfl (fun h2 => ?_) (fun h2 => ?_)
   ·replace H := if_t h2 H
    refine TL_mv 1 [(0, va0), (3, iv (i3)), (11, va0), (12, iv (i3)), (13, iv (x1)), (14, p1), (15, u1), (16, iv (x2)), (17, .bool true), (18, .bool true)] rfl fun rest => TL_nil <| T_cond_true rfl <| T_skip <| T_block <| T_region ?_
    refine TL_mv 1 [(0, va0), (11, va0), (12, iv (i3)), (13, iv (x1)), (14, p1), (15, u1), (16, iv (x2)), (17, .bool true), (19, iv (i3))] rfl fun rest => ?_
    obtain ⟨x3, hx3, hrx3, H⟩ := ck64_s H
    refine TL_val rfl rfl (r_sub (c := x3) rfl rfl (w_x hx3 hrx3)) <| TL_mv 1 [(0, va0), (3, iv (x3)), (11, va0), (12, iv (i3)), (13, iv (x1)), (14, p1), (15, u1), (16, iv (x2)), (17, .bool true)] rfl fun rest => TL_nil ?_
    exact St_round_s (n1, x3) H hrx3 (Nat.lt_succ_self _) rfl (fun w h => St.weak h (fun S w h => ⟨h.2.2.1, h.2.2.2⟩))
   replace H := if_f h2 H
   refine TL_mv 1 [(0, va0), (3, iv (i3)), (11, va0), (12, iv (i3)), (13, iv (x1)), (14, p1), (15, u1), (16, iv (x2)), (17, .bool false), (18, .bool false)] rfl fun rest => TL_nil <| T_cond_false rfl <| T_exit ?_
   exact JQ_mk i3 (And.intro (Option.some.inj H) hr3) rfl (fun w h => St.weak h (fun S w h => ⟨h.2.2.1, h.2.2.2⟩))
  replace H := if_f h1 H
  refine TL_mv 9 [(0, va0), (3, iv (i3)), (18, .bool false)] rfl fun rest => TL_nil <| T_cond_false rfl <| T_exit ?_
  exact JQ_mk i3 (And.intro (Option.some.inj H) hr3) rfl (fun w h => St.weak h (fun S w h => ⟨h.1, h.2⟩))
 refine JQ_el' ?_
 rintro i4 ⟨hs, hr4⟩ rest
 subst hs
 replace H := Hc
 clear hL
 refine JG_to (ms' := (F)) (Γ' := (fV (eS eZ) (a0) va0 :: G)) (live' := [(0, va0), (3, iv (i4))]) rfl <| T_seq <| T_region <| TL_mv 1 [(0, va0), (3, iv (i4)), (4, .slice none 0 0)] rfl fun rest => TL_nil <| T_seq ?_
 refine T_seq <| T_region <| TL_mv 1 [(0, va0), (3, iv (i4)), (4, .slice none 0 0), (5, iv 0)] rfl fun rest => TL_nil <| T_block ?_
 obtain ⟨s2, hL, Hc⟩ := bd_s H
 refine T_X [(.x 2, JQ we Se (G := (List Zr) × Value) (fun (t4, w4) => (⟨(mO eZ 25 w4 (t4) :: F), (G), [(4, w4)]⟩ : Inv)) (fun (t4, w4) => t4 = s2))] ?_ ⟨?_, trivial⟩
 ·refine T_weak_st (fun w h => St.nilO (e := eZ) (E := 25) h) <| T_loop_s (G := Nat × (List Zr) × Int × Value) (s1 := _) (f := _) (k := fun (n2, t3, i7, w3) => n2) (σ := fun (n2, t3, i7, w3) => (t3, i7)) (fun (n2, t3, i7, w3) => (⟨(mO eZ 25 w3 (t3) :: F), (fV (eS eZ) (a0) va0 :: G), [(0, va0), (3, iv (i4)), (4, w3), (5, iv (i7))]⟩ : Inv)) (fun (n2, t3, i7, w3) => InR i7) (fu, ([] : List Zr), 0, (.slice none 0 0 : Value)) hL (show InR (0) by decide) rfl (fun w h => St.weak h (fun S w h => ⟨h.1, h.2⟩)) ?_
  rintro ⟨n2, t3, i7, w3⟩ ⟨H, hr7⟩ rest
  rcases n2 with _ | n2
  ·exact (loopN_z H).elim
  replace H := loopN_s H
  unfold B_ref10_Norm_1 at H
  refine T_prune [(0, va0), (3, iv (i4)), (4, w3), (5, iv (i7))] rfl fun rest => T_weak (mO eZ 25 w3 (t3) :: F) (fV (eS eZ) (a0) va0 :: G) (fun w h => h) <| T_seq <| T_seq <| T_region <| TL_mv 2 [(0, va0), (3, iv (i4)), (4, w3), (5, iv (i7)), (21, iv (i7)), (22, iv (i4))] rfl fun rest => ?_
  refine TL_lss rfl rfl rfl rfl (fun h3 => ?_) (fun h3 => ?_)
  ·replace H := if_t h3 H
   refine TL_mv 0 [(0, va0), (3, iv (i4)), (4, w3), (5, iv (i7)), (23, .bool true)] rfl fun rest => TL_nil <| T_cond_true rfl <| T_skip <| T_seq <| T_block ?_
   refine T_region <| TL_mv 3 [(0, va0), (3, iv (i4)), (5, iv (i7)), (26, w3), (27, va0), (28, iv (i7))] rfl fun rest => ?_
   obtain ⟨j2, hj2, hlj2, H⟩ := ckI_s H
   obtain ⟨y2, hy2, H⟩ := nm_s H
   refine TL_step rfl rfl (oe_index (e := eZ) (xs := a0) (k := j2) (y := y2) rfl (vi hj2) Tryz.underlying31 ty25 (getE (z := (false, [])) hlj2 hy2) (fun S w h => h.1)) fun p2 _ => TL_step rfl rfl (oe_load (e := eZ) (y := y2) rfl ty25 (fun S w h => h.1)) fun u2 _ => ?_
   obtain ⟨t5, he2, H⟩ := bd_s H
   refine TL_step rfl rfl (oe_call (by kernel_rfl) (c_ref02_Norm fu y2 u2 t5 he2) rfl (fun S w h => ⟨h.1, trivial⟩)) fun u3 _ => TL_step rfl rfl (oe_lit (e := eZ) (zs := [t5]) Tryz.underlying31 ty25 (by decide) rfl (by decide) (vs := [(0, u3)]) rfl (fun S w h => (by refine fill_eq eZ ?_; exact ⟨fV_sz (S := S) (w := w) h.1, trivial⟩)) (fun S w h => (elems_one h.1))) fun u4 _ => ?_
   obtain ⟨hk2, H⟩ := ck_s H
   obtain ⟨t6, ht6, H⟩ := nm_s H
   refine TL_og rfl rfl (og_append' (e := eZ) (xs := t3) (ys := [t5]) 0 Tryz.underlying31 ty25 rfl (by decide) (by decide) rfl rfl rfl (fun S w h => h.1) hk2 ht6) fun w5 _ => ?_
   show TL _ _ _ _ (mO eZ 25 w5 (t6) :: F) (fV (eS eZ) ([t5]) u4 :: fV eZ (t5) u3 :: fV eZ (y2) u2 :: fP eZ (y2) p2 :: fV (eS eZ) (a0) va0 :: G) _ _ _ _
   refine TL_mv 1 [(0, va0), (3, iv (i4)), (4, w5), (5, iv (i7))] rfl fun rest => TL_nil <| T_region <| TL_mv 1 [(0, va0), (3, iv (i4)), (4, w5), (24, iv (i7))] rfl fun rest => ?_
   obtain ⟨x4, hx4, hrx4, H⟩ := ck64_s H
   refine TL_val rfl rfl (r_add (c := x4) rfl rfl (w_x hx4 hrx4)) <| TL_mv 1 [(0, va0), (3, iv (i4)), (4, w5), (5, iv (x4))] rfl fun rest => TL_nil ?_
   exact St_round_s (n2, t6, x4, w5) H hrx4 (Nat.lt_succ_self _) rfl (fun w h => St.weak h (fun S w h => ⟨h.2.2.2.2.1, h.2.2.2.2.2⟩))
  replace H := if_f h3 H
  refine TL_mv 0 [(0, va0), (3, iv (i4)), (4, w3), (5, iv (i7)), (23, .bool false)] rfl fun rest => TL_nil <| T_cond_false rfl <| T_exit ?_
  exact JQ_mk (t3, w3) (Option.some.inj H) rfl (fun w h => St.weak h (fun S w h => h.2))
 refine JQ_el' ?_
 rintro ⟨t4, w4⟩ hs rest
 subst hs
 replace H := Hc
 clear hL
 refine JG_to (ms' := (mO eZ 25 w4 (t4) :: F)) (Γ' := (G)) (live' := [(4, w4)]) rfl <| T_seq <| T_region <| TL_mv 2 [(2, w4)] rfl fun rest => TL_nil <| T_ret ?_
 obtain rfl := inj1 H
 intro w hw
 exact RetG (vs := [w4]) w4 Tryz.results17 (by exact ⟨rfl, trivial⟩) rfl trivial (St.weak hw (fun S w h => h))
set_option maxRecDepth 100000 in
set_option maxHeartbeats 1000000 in
theorem c_ref10_Of (fu : Nat) (a0 : List Int) (va0 : Value) (r0 : List Zr) (H : M_ref10_Of fu a0 = some r0) : FnG Tryz.prog 56 [va0].toArray [] [fV (eS eI) (a0) va0] (fun u : Value => u) (fun u => [mO eZ 25 u (r0)]) (fun u => []) (fun _ => True) := by
 unfold M_ref10_Of at H
 refine FnG_intro Tryz.func56 rfl rfl fun we Se F G rest => T_seq <| T_region <| TL_mv 1 [(0, va0)] rfl fun rest => TL_nil <| T_seq ?_
 refine T_region <| TL_mv 1 [(0, va0), (3, .slice none 0 0)] rfl fun rest => TL_nil <| T_seq <| T_seq <| T_region ?_
 refine TL_mv 1 [(0, va0), (3, .slice none 0 0), (4, iv 0)] rfl fun rest => TL_nil <| T_block ?_
 obtain ⟨s1, hL, Hc⟩ := bd_s H
 refine T_X [(.x 0, JQ we Se (G := (List Zr) × Value) (fun (t4, w4) => (⟨(mO eZ 25 w4 (t4) :: F), (G), [(3, w4)]⟩ : Inv)) (fun (t4, w4) => t4 = s1))] ?_ ⟨?_, trivial⟩
 ·refine T_weak_st (fun w h => St.nilO (e := eZ) (E := 25) h) <| T_loop_s (G := Nat × (List Zr) × Int × Value) (s1 := _) (f := _) (k := fun (n1, t3, i3, w3) => n1) (σ := fun (n1, t3, i3, w3) => (t3, i3)) (fun (n1, t3, i3, w3) => (⟨(mO eZ 25 w3 (t3) :: F), (fV (eS eI) (a0) va0 :: G), [(0, va0), (3, w3), (4, iv (i3))]⟩ : Inv)) (fun (n1, t3, i3, w3) => InR i3) (fu, ([] : List Zr), 0, (.slice none 0 0 : Value)) hL (show InR (0) by decide) rfl (fun w h => St.weak h (fun S w h => ⟨h.1, h.2⟩)) ?_
  rintro ⟨n1, t3, i3, w3⟩ ⟨H, hr3⟩ rest
  rcases n1 with _ | n1
  ·exact (loopN_z H).elim
  replace H := loopN_s H
  unfold B_ref10_Of_0 at H
  refine T_prune [(0, va0), (3, w3), (4, iv (i3))] rfl fun rest => T_weak (mO eZ 25 w3 (t3) :: F) (fV (eS eI) (a0) va0 :: G) (fun w h => h) <| T_seq <| T_seq <| T_region <| TL_mv 2 [(0, va0), (3, w3), (4, iv (i3)), (5, iv (i3)), (6, va0)] rfl fun rest => ?_
  refine TL_step rfl rfl (oe_len (e := eI) (xs := a0) Tryz.underlying51 rfl (fun S w h => h.1)) fun _ hl1 => TL_lss rfl rfl rfl rfl (fun h1 => ?_) (fun h1 => ?_)
  ·replace H := if_t h1 H
   refine TL_mv 0 [(0, va0), (3, w3), (4, iv (i3)), (8, .bool true)] rfl fun rest => TL_nil <| T_cond_true rfl <| T_skip <| T_seq <| T_block ?_
   refine T_region <| TL_mv 3 [(0, va0), (4, iv (i3)), (11, w3), (12, va0), (13, iv (i3))] rfl fun rest => ?_
   obtain ⟨j1, hj1, hlj1, H⟩ := ckI_s H
   obtain ⟨y1, hy1, H⟩ := nm_s H
   refine TL_step rfl rfl (oe_index (e := eI) (xs := a0) (k := j1) (y := y1) rfl (vi hj1) Tryz.underlying51 ty3 (getE (z := 0) hlj1 hy1) (fun S w h => h.1)) fun p1 _ => TL_step rfl rfl (oe_load_i64 (y := y1) rfl ty3 (fun S w h => h.1)) fun _ hv1 => ?_
   obtain ⟨t5, he1, H⟩ := bd_s H
   refine TL_step rfl rfl (oe_call (by kernel_rfl) (c_ref02_Of fu y1 hv1 t5 he1) rfl (fun S w h => trivial)) fun u1 _ => TL_step rfl rfl (oe_lit (e := eZ) (zs := [t5]) Tryz.underlying31 ty25 (by decide) rfl (by decide) (vs := [(0, u1)]) rfl (fun S w h => (by refine fill_eq eZ ?_; exact ⟨fV_sz (S := S) (w := w) h.1, trivial⟩)) (fun S w h => (elems_one h.1))) fun u2 _ => ?_
   obtain ⟨hk1, H⟩ := ck_s H
   obtain ⟨t6, ht6, H⟩ := nm_s H
   refine TL_og rfl rfl (og_append' (e := eZ) (xs := t3) (ys := [t5]) 0 Tryz.underlying31 ty25 rfl (by decide) (by decide) rfl rfl rfl (fun S w h => h.1) hk1 ht6) fun w5 _ => ?_
   show TL _ _ _ _ (mO eZ 25 w5 (t6) :: F) (fV (eS eZ) ([t5]) u2 :: fV eZ (t5) u1 :: fP eI (y1) p1 :: fV (eS eI) (a0) va0 :: G) _ _ _ _
   refine TL_mv 1 [(0, va0), (3, w5), (4, iv (i3))] rfl fun rest => TL_nil <| T_region <| TL_mv 1 [(0, va0), (3, w5), (9, iv (i3))] rfl fun rest => ?_
   obtain ⟨x1, hx1, hrx1, H⟩ := ck64_s H
   refine TL_val rfl rfl (r_add (c := x1) rfl rfl (w_x hx1 hrx1)) <| TL_mv 1 [(0, va0), (3, w5), (4, iv (x1))] rfl fun rest => TL_nil ?_
   exact St_round_s (n1, t6, x1, w5) H hrx1 (Nat.lt_succ_self _) rfl (fun w h => St.weak h (fun S w h => ⟨h.2.2.2.1, h.2.2.2.2⟩))
  replace H := if_f h1 H
  refine TL_mv 0 [(0, va0), (3, w3), (4, iv (i3)), (8, .bool false)] rfl fun rest => TL_nil <| T_cond_false rfl <| T_exit ?_
  exact JQ_mk (t3, w3) (Option.some.inj H) rfl (fun w h => St.weak h (fun S w h => h.2))
 refine JQ_el' ?_
 rintro ⟨t4, w4⟩ hs rest
 subst hs
 replace H := Hc
 clear hL
 refine JG_to (ms' := (mO eZ 25 w4 (t4) :: F)) (Γ' := (G)) (live' := [(3, w4)]) rfl <| T_seq <| T_region <| TL_mv 1 [(19, w4)] rfl fun rest => TL_weak_st (fun w h => fz_own 0 h rfl) ?_
 obtain ⟨t7, he2, H⟩ := bd_s H
 refine TL_og rfl rfl (og_callG (F := (F)) (by kernel_rfl) (c_ref10_Norm fu t4 w4 t7 he2) rfl (fun S w h => ⟨h.1, trivial⟩)) fun u3 _ => ?_
 show TL _ _ _ _ (mO eZ 25 u3 (t7) :: F) (fV (eS eZ) (t4) w4 :: G) _ _ _ _
 refine TL_mv 1 [(2, u3)] rfl fun rest => TL_nil <| T_ret ?_
 obtain rfl := inj1 H
 intro w hw
 exact RetG (vs := [u3]) u3 Tryz.results56 (by exact ⟨rfl, trivial⟩) rfl trivial (St.weak hw (fun S w h => h.2))
set_option maxRecDepth 100000 in
set_option maxHeartbeats 1000000 in
theorem c_ref01_Same (fu : Nat) (a0 : List Nat) (va0 : Value) (a1 : List Nat) (va1 : Value) (r0 : Bool) (H : M_ref01_Same fu a0 a1 = some r0) : Fn Tryz.prog 62 [va0, va1].toArray [fV (eS eU) (a0) va0, fV (eS eU) (a1) va1] (fun _ : Unit => .bool (r0)) (fun _ => []) (fun _ => True) := by
 unfold M_ref01_Same at H
 refine Fn_intro Tryz.func62 rfl rfl fun we Se rest => T_seq <| T_region <| TL_mv 1 [(0, va0), (1, va1)] rfl fun rest => TL_nil <| T_seq ?_
 refine T_seq <| T_region <| TL_mv 1 [(0, va0), (1, va1), (6, va0)] rfl fun rest => TL_step rfl rfl (oe_len (e := eU) (xs := a0) Tryz.underlying23 rfl (fun S w h => h.1)) fun _ hl1 => TL_mv 1 [(0, va0), (1, va1), (7, iv ((a0.length : Nat) : Int)), (8, va1)] rfl fun rest => TL_step rfl rfl (oe_len (e := eU) (xs := a1) Tryz.underlying23 rfl (fun S w h => h.2.1)) fun _ hl2 => ?_
 refine TL_neq rfl rfl rfl rfl (fun h1 => ?_) (fun h1 => ?_)
 ·replace H := if_f h1 H
  refine TL_mv 0 [(0, va0), (1, va1), (10, .bool true)] rfl fun rest => TL_nil <| T_cond_true rfl <| T_seq <| T_region <| TL_mv 1 [(4, .bool false)] rfl fun rest => ?_
  refine TL_nil <| T_ret ?_
  obtain rfl := inj1 H
  exact Ret1 () Tryz.results62 rfl trivial (fun S w h => trivial)
 replace H := if_t h1 H
 refine TL_mv 0 [(0, va0), (1, va1), (10, .bool false)] rfl fun rest => TL_nil <| T_cond_false rfl <| T_skip <| T_seq <| T_seq ?_
 refine T_region <| TL_mv 1 [(0, va0), (1, va1), (5, iv 0)] rfl fun rest => TL_nil <| T_block ?_
 obtain ⟨s1, hL, Hc⟩ := bd_s H
 refine T_X [(.x 0, JQ we Se (G := Unit) (fun _ => (⟨[], [], []⟩ : Inv)) (fun _ => .inl () = s1)), (.r, JQ we Se (G := Unit) (fun _ => (⟨[], [], [(4, .bool false)]⟩ : Inv)) (fun _ => .inr () = s1))] ?_ ⟨?_, ?_, trivial⟩
 ·refine T_loop_s (G := Nat × Int) (s1 := _) (f := _) (k := fun (n1, i3) => n1) (σ := fun (n1, i3) => i3) (fun (n1, i3) => (⟨[], [fV (eS eU) (a0) va0, fV (eS eU) (a1) va1], [(0, va0), (1, va1), (5, iv (i3))]⟩ : Inv)) (fun (n1, i3) => InR i3) (fu, 0) hL (show InR (0) by decide) rfl (fun w h => St.weak h (fun S w h => ⟨h.1, h.2.1, trivial⟩)) ?_
  rintro ⟨n1, i3⟩ ⟨H, hr3⟩ rest
  rcases n1 with _ | n1
  ·exact (loopN_z H).elim
  replace H := loopN_s H
  unfold B_ref01_Same_0 at H
  refine T_prune [(0, va0), (1, va1), (5, iv (i3))] rfl fun rest => T_weak [] [fV (eS eU) (a0) va0, fV (eS eU) (a1) va1] (fun w h => h) <| T_seq <| T_seq <| T_region <| TL_mv 2 [(0, va0), (1, va1), (5, iv (i3)), (11, iv (i3)), (12, va0)] rfl fun rest => ?_
  refine TL_step rfl rfl (oe_len (e := eU) (xs := a0) Tryz.underlying23 rfl (fun S w h => h.1)) fun _ hl3 => TL_lss rfl rfl rfl rfl (fun h2 => ?_) (fun h2 => ?_)
  ·replace H := if_t h2 H
   refine TL_mv 0 [(0, va0), (1, va1), (5, iv (i3)), (14, .bool true)] rfl fun rest => TL_nil <| T_cond_true rfl <| T_skip <| T_seq <| T_block ?_
   refine T_seq ?_
   obtain ⟨j1, hj1, hlj1, H⟩ := ckI_s H
   obtain ⟨y1, hy1, H⟩ := nm_s H
   obtain ⟨j2, hj2, hlj2, H⟩ := ckI_s H
   obtain ⟨y2, hy2, H⟩ := nm_s H
   refine T_draw 8 [prV (va0), prE (fun _ : Unit => iv (i3)) (fun _ => []) (fun _ => InR i3), prE (fun u : Value => u) (fun u => [fP eU (y1) u]) (fun _ => True), prE (fun _ : Unit => uv y1) (fun _ => []) (fun _ => y1 < 18446744073709551616), prV (va1), prE (fun _ : Unit => iv (i3)) (fun _ => []) (fun _ => InR i3), prE (fun u : Value => u) (fun u => [fP eU (y2) u]) (fun _ => True), prE (fun _ : Unit => uv y2) (fun _ => []) (fun _ => y2 < 18446744073709551616)] [0, 1, 5, 20, 24] rfl (by kernel_rfl) rfl (by kernel_rfl) ⟨?_, ?_, ?_, ?_, ?_, ?_, ?_, ?_, trivial⟩ ?_
   ·intro S w env hS hM hΓ hl
    obtain ⟨e0, _⟩ := hl
    exact ⟨fun _ => ob_mv (e0.trans rfl), fun hc => (by cases hc)⟩
   ·intro S w env hS hM hΓ hl
    obtain ⟨e5, _⟩ := hl
    exact ⟨fun _ => ob_VE (p := InR i3) (r_mv (e5.trans rfl)) hr3, fun hc => (by cases hc)⟩
   ·intro S w env hS hM hΓ hl
    obtain ⟨e17, ⟨_, e18, ho1, f18⟩, _⟩ := hl
    exact ⟨fun _ => ob_E (Γ := [fV (eS eU) (a0) va0, fV (eS eU) (a1) va1]) (oe_index (e := eU) (xs := a0) (k := j1) (y := y1) e17 (e18.trans (vi hj1)) Tryz.underlying23 ty102 (getE (z := 0) hlj1 hy1) (fun S w h => h.1)) hS hM hΓ, fun hc => (by cases hc)⟩
   ·intro S w env hS hM hΓ hl
    obtain ⟨⟨p1, e19, _, f19⟩, _⟩ := hl
    exact ⟨fun _ => ob_E (Γ := [fP eU (y1) p1, fV (eS eU) (a0) va0, fV (eS eU) (a1) va1]) (oe_load_u64 (y := y1) e19 ty102 (fun S w h => h.1)) hS hM ⟨f19.1, hΓ⟩, fun hc => (by cases hc)⟩
   ·intro S w env hS hM hΓ hl
    obtain ⟨e1, _⟩ := hl
    exact ⟨fun _ => ob_mv (e1.trans rfl), fun hc => (by cases hc)⟩
   ·intro S w env hS hM hΓ hl
    obtain ⟨e5, _⟩ := hl
    exact ⟨fun _ => ob_VE (p := InR i3) (r_mv (e5.trans rfl)) hr3, fun hc => (by cases hc)⟩
   ·intro S w env hS hM hΓ hl
    obtain ⟨e21, ⟨_, e22, ho2, f22⟩, _⟩ := hl
    exact ⟨fun _ => ob_E (Γ := [fV (eS eU) (a0) va0, fV (eS eU) (a1) va1]) (oe_index (e := eU) (xs := a1) (k := j2) (y := y2) e21 (e22.trans (vi hj2)) Tryz.underlying23 ty102 (getE (z := 0) hlj2 hy2) (fun S w h => h.2.1)) hS hM hΓ, fun hc => (by cases hc)⟩
   ·intro S w env hS hM hΓ hl
    obtain ⟨⟨p2, e23, _, f23⟩, _⟩ := hl
    exact ⟨fun _ => ob_E (Γ := [fP eU (y2) p2, fV (eS eU) (a0) va0, fV (eS eU) (a1) va1]) (oe_load_u64 (y := y2) e23 ty102 (fun S w h => h.1)) hS hM ⟨f23.1, hΓ⟩, fun hc => (by cases hc)⟩
   intro S w env hS hΓ hl
   obtain ⟨e0, e1, e5, ⟨_, e20, hv1, f20⟩, ⟨_, e24, hv2, f24⟩, _⟩ := hl
   refine ⟨[fV (eS eU) (a0) va0, fV (eS eU) (a1) va1], [(0, va0), (1, va1), (5, iv (i3)), (20, uv y1), (24, uv y2)], hΓ, (agr ⟨(e0.trans rfl), (e1.trans rfl), (e5.trans rfl), e20, e24, trivial⟩), fun rest => ?_⟩
   refine TL_neq rfl rfl rfl rfl (fun h3 => ?_) (fun h3 => ?_)
   ·replace H := if_f h3 H
    refine TL_mv 0 [(0, va0), (1, va1), (5, iv (i3)), (25, .bool true)] rfl fun rest => TL_nil <| T_cond_true rfl <| T_seq <| T_region <| TL_mv 1 [(4, .bool false)] rfl fun rest => ?_
    refine TL_nil <| T_ret ?_
    exact JQ_mk () (Option.some.inj H) rfl (fun w h => St.weak h (fun S w h => trivial))
   replace H := if_t h3 H
   refine TL_mv 0 [(0, va0), (1, va1), (5, iv (i3)), (25, .bool false)] rfl fun rest => TL_nil <| T_cond_false rfl <| T_skip <| T_region <| TL_mv 1 [(0, va0), (1, va1), (15, iv (i3))] rfl fun rest => ?_
   obtain ⟨x1, hx1, hrx1, H⟩ := ck64_s H
   refine TL_val rfl rfl (r_add (c := x1) rfl rfl (w_x hx1 hrx1)) <| TL_mv 1 [(0, va0), (1, va1), (5, iv (x1))] rfl fun rest => TL_nil ?_
   exact St_round_s (n1, x1) H hrx1 (Nat.lt_succ_self _) rfl (fun w h => St.weak h (fun S w h => ⟨h.1, h.2.1, trivial⟩))
  replace H := if_f h2 H
  refine TL_mv 0 [(0, va0), (1, va1), (5, iv (i3)), (14, .bool false)] rfl fun rest => TL_nil <| T_cond_false rfl <| T_exit ?_
  exact JQ_mk () (Option.some.inj H) rfl (fun w h => St.weak h (fun S w h => trivial))
 ·refine JQ_el' ?_
  rintro _ hs rest
  subst hs
  replace H := Hc
  clear hL
  refine JG_to (ms' := []) (Γ' := []) (live' := []) rfl <| T_seq <| T_region <| TL_mv 1 [(4, .bool true)] rfl fun rest => TL_nil <| T_ret ?_
  obtain rfl := inj1 H
  exact Ret1 () Tryz.results62 rfl trivial (fun S w h => trivial)
 refine JQ_el' ?_
 rintro _ hs rest
 subst hs
 replace H := Hc
 clear hL
 refine JG_to (ms' := []) (Γ' := []) (live' := [(4, .bool false)]) rfl ?_
 obtain rfl := inj1 H
 exact Ret1 () Tryz.results62 rfl trivial (fun S w h => trivial)
set_option maxRecDepth 100000 in
set_option maxHeartbeats 1000000 in
theorem c_ref02_Same (fu : Nat) (a0 : Zr) (va0 : Value) (a1 : Zr) (va1 : Value) (r0 : Bool) (H : M_ref02_Same fu a0 a1 = some r0) : Fn Tryz.prog 15 [va0, va1].toArray [fV eZ (a0) va0, fV eZ (a1) va1] (fun _ : Unit => .bool (r0)) (fun _ => []) (fun _ => True) := by
 unfold M_ref02_Same at H
 refine Fn_intro Tryz.func15 rfl rfl fun we Se rest => T_seq <| T_region <| TL_step rfl rfl (oe_box (e := eZ) (z := a0) rfl (fun S w h => h.1)) fun p1 _ => TL_step rfl rfl (oe_box (e := eZ) (z := a1) rfl (fun S w h => h.2.2.1)) fun p2 _ => TL_mv 1 [(2, p1), (3, p2)] rfl fun rest => ?_
 refine TL_nil <| T_seq <| T_region <| TL_step rfl rfl (oe_field (e := eZ) (z := a0) fl25_0 rfl (Sub.fst eBool (eS eU) (a0)) (fun S w h => h.2.1)) fun p3 _ => TL_step rfl rfl (oe_load_bool (y := a0.1) rfl ty4 (fun S w h => h.1)) fun _ _ => TL_step rfl rfl (oe_field (e := eZ) (z := a1) fl25_0 rfl (Sub.fst eBool (eS eU) (a1)) (fun S w h => h.2.1)) fun p4 _ => ?_
 refine TL_step rfl rfl (oe_load_bool (y := a1.1) rfl ty4 (fun S w h => h.1)) fun _ _ => ?_
 obtain ⟨c1, hc1, H⟩ := nm_s H
 refine TL_val rfl rfl (v_bool (z := c1) (r_beq Tryz.underlying4 rfl rfl) hc1) <| TL_mv 1 [(2, p1), (3, p2), (10, .bool (c1))] rfl fun rest => ?_
 rcases Bool.eq_false_or_eq_true (c1) with hd1 | hd1
 ·refine TL_prune [(2, p1), (3, p2), (10, .bool true)] (agr ⟨rfl, rfl, (congrArg Value.bool hd1), trivial⟩) fun rest => ?_
  replace H := if_t hd1 H
  refine TL_step rfl rfl (oe_field (e := eZ) (z := a0) fl25_1 rfl (Sub.snd eBool (eS eU) (a0)) (fun S w h => h.2.2.2.1)) fun p5 _ => TL_step rfl rfl (oe_load (e := (eS eU)) (y := a0.2) rfl ty23 (fun S w h => h.1)) fun u1 _ => TL_step rfl rfl (oe_field (e := eZ) (z := a1) fl25_1 rfl (Sub.snd eBool (eS eU) (a1)) (fun S w h => h.2.2.2.2.1)) fun p6 _ => TL_step rfl rfl (oe_load (e := (eS eU)) (y := a1.2) rfl ty23 (fun S w h => h.1)) fun u2 _ => ?_
  obtain ⟨c2, he1, H⟩ := bd_s H
  refine TL_step rfl rfl (oe_call (by kernel_rfl) (c_ref01_Same fu a0.2 u1 a1.2 u2 c2 he1) rfl (fun S w h => ⟨h.2.2.1, h.1, trivial⟩)) fun _ _ => TL_mv 2 [(4, .bool (c2))] rfl fun rest => TL_sel [] (fun S w h => trivial) <| TL_nil <| T_ret ?_
  obtain rfl := inj1 H
  exact Ret1 () Tryz.results15 rfl trivial (fun S w h => trivial)
 refine TL_prune [(2, p1), (3, p2), (10, .bool false)] (agr ⟨rfl, rfl, (congrArg Value.bool hd1), trivial⟩) fun rest => ?_
 replace H := ifb_f hd1 H
 refine TL_mv 7 [(4, .bool false)] rfl fun rest => TL_nil <| T_ret ?_
 obtain rfl := inj1 H
 exact Ret1 () Tryz.results15 rfl trivial (fun S w h => trivial)
set_option maxRecDepth 100000 in
set_option maxHeartbeats 1000000 in
theorem c_ref10_Same (fu : Nat) (a0 : List Zr) (va0 : Value) (a1 : List Zr) (va1 : Value) (r0 : Bool) (H : M_ref10_Same fu a0 a1 = some r0) : Fn Tryz.prog 77 [va0, va1].toArray [fV (eS eZ) (a0) va0, fV (eS eZ) (a1) va1] (fun _ : Unit => .bool (r0)) (fun _ => []) (fun _ => True) := by
 unfold M_ref10_Same at H
 refine Fn_intro Tryz.func77 rfl rfl fun we Se rest => T_seq <| T_region <| TL_mv 1 [(0, va0), (1, va1)] rfl fun rest => TL_nil <| T_seq ?_
 refine T_seq <| T_region <| TL_mv 1 [(0, va0), (1, va1), (6, va0)] rfl fun rest => TL_step rfl rfl (oe_len (e := eZ) (xs := a0) Tryz.underlying31 rfl (fun S w h => h.1)) fun _ hl1 => TL_mv 1 [(0, va0), (1, va1), (7, iv ((a0.length : Nat) : Int)), (8, va1)] rfl fun rest => TL_step rfl rfl (oe_len (e := eZ) (xs := a1) Tryz.underlying31 rfl (fun S w h => h.2.1)) fun _ hl2 => ?_
 refine TL_neq rfl rfl rfl rfl (fun h1 => ?_) (fun h1 => ?_)
 ·replace H := if_f h1 H
  refine TL_mv 0 [(0, va0), (1, va1), (10, .bool true)] rfl fun rest => TL_nil <| T_cond_true rfl <| T_seq <| T_region <| TL_mv 1 [(4, .bool false)] rfl fun rest => ?_
  refine TL_nil <| T_ret ?_
  obtain rfl := inj1 H
  exact Ret1 () Tryz.results77 rfl trivial (fun S w h => trivial)
 replace H := if_t h1 H
 refine TL_mv 0 [(0, va0), (1, va1), (10, .bool false)] rfl fun rest => TL_nil <| T_cond_false rfl <| T_skip <| T_seq <| T_seq ?_
 refine T_region <| TL_mv 1 [(0, va0), (1, va1), (5, iv 0)] rfl fun rest => TL_nil <| T_block ?_
 obtain ⟨s1, hL, Hc⟩ := bd_s H
 refine T_X [(.x 0, JQ we Se (G := Unit) (fun _ => (⟨[], [], []⟩ : Inv)) (fun _ => .inl () = s1)), (.r, JQ we Se (G := Unit) (fun _ => (⟨[], [], [(4, .bool false)]⟩ : Inv)) (fun _ => .inr () = s1))] ?_ ⟨?_, ?_, trivial⟩
 ·refine T_loop_s (G := Nat × Int) (s1 := _) (f := _) (k := fun (n1, i3) => n1) (σ := fun (n1, i3) => i3) (fun (n1, i3) => (⟨[], [fV (eS eZ) (a0) va0, fV (eS eZ) (a1) va1], [(0, va0), (1, va1), (5, iv (i3))]⟩ : Inv)) (fun (n1, i3) => InR i3) (fu, 0) hL (show InR (0) by decide) rfl (fun w h => St.weak h (fun S w h => ⟨h.1, h.2.1, trivial⟩)) ?_
  rintro ⟨n1, i3⟩ ⟨H, hr3⟩ rest
  rcases n1 with _ | n1
  ·exact (loopN_z H).elim
  replace H := loopN_s H
  unfold B_ref10_Same_0 at H
  refine T_prune [(0, va0), (1, va1), (5, iv (i3))] rfl fun rest => T_weak [] [fV (eS eZ) (a0) va0, fV (eS eZ) (a1) va1] (fun w h => h) <| T_seq <| T_seq <| T_region <| TL_mv 2 [(0, va0), (1, va1), (5, iv (i3)), (11, iv (i3)), (12, va0)] rfl fun rest => ?_
  refine TL_step rfl rfl (oe_len (e := eZ) (xs := a0) Tryz.underlying31 rfl (fun S w h => h.1)) fun _ hl3 => TL_lss rfl rfl rfl rfl (fun h2 => ?_) (fun h2 => ?_)
  ·replace H := if_t h2 H
   refine TL_mv 0 [(0, va0), (1, va1), (5, iv (i3)), (14, .bool true)] rfl fun rest => TL_nil <| T_cond_true rfl <| T_skip <| T_seq <| T_block ?_
   refine T_seq ?_
   obtain ⟨j1, hj1, hlj1, H⟩ := ckI_s H
   obtain ⟨y1, hy1, H⟩ := nm_s H
   obtain ⟨j2, hj2, hlj2, H⟩ := ckI_s H
   obtain ⟨y2, hy2, H⟩ := nm_s H
   refine T_draw 8 [prV (va0), prE (fun _ : Unit => iv (i3)) (fun _ => []) (fun _ => InR i3), prE (fun u : Value => u) (fun u => [fP eZ (y1) u]) (fun _ => True), prE (fun u : Value => u) (fun u => [fV eZ (y1) u]) (fun _ => True), prV (va1), prE (fun _ : Unit => iv (i3)) (fun _ => []) (fun _ => InR i3), prE (fun u : Value => u) (fun u => [fP eZ (y2) u]) (fun _ => True), prE (fun u : Value => u) (fun u => [fV eZ (y2) u]) (fun _ => True)] [0, 1, 5, 20, 24] rfl (by kernel_rfl) rfl (by kernel_rfl) ⟨?_, ?_, ?_, ?_, ?_, ?_, ?_, ?_, trivial⟩ ?_
   ·intro S w env hS hM hΓ hl
    obtain ⟨e0, _⟩ := hl
    exact ⟨fun _ => ob_mv (e0.trans rfl), fun hc => (by cases hc)⟩
   ·intro S w env hS hM hΓ hl
    obtain ⟨e5, _⟩ := hl
    exact ⟨fun _ => ob_VE (p := InR i3) (r_mv (e5.trans rfl)) hr3, fun hc => (by cases hc)⟩
   ·intro S w env hS hM hΓ hl
    obtain ⟨e17, ⟨_, e18, ho1, f18⟩, _⟩ := hl
    exact ⟨fun _ => ob_E (Γ := [fV (eS eZ) (a0) va0, fV (eS eZ) (a1) va1]) (oe_index (e := eZ) (xs := a0) (k := j1) (y := y1) e17 (e18.trans (vi hj1)) Tryz.underlying31 ty25 (getE (z := (false, [])) hlj1 hy1) (fun S w h => h.1)) hS hM hΓ, fun hc => (by cases hc)⟩
   ·intro S w env hS hM hΓ hl
    obtain ⟨⟨p1, e19, _, f19⟩, _⟩ := hl
    exact ⟨fun _ => ob_E (Γ := [fP eZ (y1) p1, fV (eS eZ) (a0) va0, fV (eS eZ) (a1) va1]) (oe_load (e := eZ) (y := y1) e19 ty25 (fun S w h => h.1)) hS hM ⟨f19.1, hΓ⟩, fun hc => (by cases hc)⟩
   ·intro S w env hS hM hΓ hl
    obtain ⟨e1, _⟩ := hl
    exact ⟨fun _ => ob_mv (e1.trans rfl), fun hc => (by cases hc)⟩
   ·intro S w env hS hM hΓ hl
    obtain ⟨e5, _⟩ := hl
    exact ⟨fun _ => ob_VE (p := InR i3) (r_mv (e5.trans rfl)) hr3, fun hc => (by cases hc)⟩
   ·intro S w env hS hM hΓ hl
    obtain ⟨e21, ⟨_, e22, ho2, f22⟩, _⟩ := hl
    exact ⟨fun _ => ob_E (Γ := [fV (eS eZ) (a0) va0, fV (eS eZ) (a1) va1]) (oe_index (e := eZ) (xs := a1) (k := j2) (y := y2) e21 (e22.trans (vi hj2)) Tryz.underlying31 ty25 (getE (z := (false, [])) hlj2 hy2) (fun S w h => h.2.1)) hS hM hΓ, fun hc => (by cases hc)⟩
   ·intro S w env hS hM hΓ hl
    obtain ⟨⟨p2, e23, _, f23⟩, _⟩ := hl
    exact ⟨fun _ => ob_E (Γ := [fP eZ (y2) p2, fV (eS eZ) (a0) va0, fV (eS eZ) (a1) va1]) (oe_load (e := eZ) (y := y2) e23 ty25 (fun S w h => h.1)) hS hM ⟨f23.1, hΓ⟩, fun hc => (by cases hc)⟩
   intro S w env hS hΓ hl
   obtain ⟨e0, e1, e5, ⟨u1, e20, _, f20⟩, ⟨u2, e24, _, f24⟩, _⟩ := hl
   refine ⟨[fV eZ (y1) u1, fV eZ (y2) u2, fV (eS eZ) (a0) va0, fV (eS eZ) (a1) va1], [(0, va0), (1, va1), (5, iv (i3)), (20, u1), (24, u2)], ⟨f20.1, f24.1, hΓ⟩, (agr ⟨(e0.trans rfl), (e1.trans rfl), (e5.trans rfl), e20, e24, trivial⟩), fun rest => ?_⟩
   obtain ⟨c1, he1, H⟩ := bd_s H
   refine TL_step rfl rfl (oe_call (by kernel_rfl) (c_ref02_Same fu y1 u1 y2 u2 c1 he1) rfl (fun S w h => ⟨h.1, h.2.1, trivial⟩)) fun _ _ => TL_mv 1 [(0, va0), (1, va1), (5, iv (i3)), (26, .bool (!c1))] rfl fun rest => TL_nil <| T_cond (!c1) rfl (fun hb1 => ?_) (fun hb1 => ?_)
   ·replace H := if_t hb1 H
    refine T_seq <| T_region <| TL_mv 1 [(4, .bool false)] rfl fun rest => TL_nil <| T_ret ?_
    exact JQ_mk () (Option.some.inj H) rfl (fun w h => St.weak h (fun S w h => trivial))
   replace H := ifb_f hb1 H
   refine T_skip <| T_region <| TL_mv 1 [(0, va0), (1, va1), (15, iv (i3))] rfl fun rest => ?_
   obtain ⟨x1, hx1, hrx1, H⟩ := ck64_s H
   refine TL_val rfl rfl (r_add (c := x1) rfl rfl (w_x hx1 hrx1)) <| TL_mv 1 [(0, va0), (1, va1), (5, iv (x1))] rfl fun rest => TL_nil ?_
   exact St_round_s (n1, x1) H hrx1 (Nat.lt_succ_self _) rfl (fun w h => St.weak h (fun S w h => ⟨h.2.2.1, h.2.2.2.1, trivial⟩))
  replace H := if_f h2 H
  refine TL_mv 0 [(0, va0), (1, va1), (5, iv (i3)), (14, .bool false)] rfl fun rest => TL_nil <| T_cond_false rfl <| T_exit ?_
  exact JQ_mk () (Option.some.inj H) rfl (fun w h => St.weak h (fun S w h => trivial))
 ·refine JQ_el' ?_
  rintro _ hs rest
  subst hs
  replace H := Hc
  clear hL
  refine JG_to (ms' := []) (Γ' := []) (live' := []) rfl <| T_seq <| T_region <| TL_mv 1 [(4, .bool true)] rfl fun rest => TL_nil <| T_ret ?_
  obtain rfl := inj1 H
  exact Ret1 () Tryz.results77 rfl trivial (fun S w h => trivial)
 refine JQ_el' ?_
 rintro _ hs rest
 subst hs
 replace H := Hc
 clear hL
 refine JG_to (ms' := []) (Γ' := []) (live' := [(4, .bool false)]) rfl ?_
 obtain rfl := inj1 H
 exact Ret1 () Tryz.results77 rfl trivial (fun S w h => trivial)
set_option maxRecDepth 100000 in
set_option maxHeartbeats 1000000 in
theorem c_ref13_Same (fu : Nat) (a0 : List (List Zr)) (va0 : Value) (a1 : List (List Zr)) (va1 : Value) (r0 : Bool) (H : M_ref13_Same fu a0 a1 = some r0) : Fn Tryz.prog 21 [va0, va1].toArray [fV (eS (eS eZ)) (a0) va0, fV (eS (eS eZ)) (a1) va1] (fun _ : Unit => .bool (r0)) (fun _ => []) (fun _ => True) := by
 unfold M_ref13_Same at H
 refine Fn_intro Tryz.func21 rfl rfl fun we Se rest => T_seq <| T_region <| TL_mv 1 [(0, va0), (1, va1)] rfl fun rest => TL_nil <| T_seq ?_
 refine T_seq <| T_region <| TL_mv 1 [(0, va0), (1, va1), (6, va0)] rfl fun rest => TL_step rfl rfl (oe_len (e := (eS eZ)) (xs := a0) Tryz.underlying36 rfl (fun S w h => h.1)) fun _ hl1 => TL_mv 1 [(0, va0), (1, va1), (7, iv ((a0.length : Nat) : Int)), (8, va1)] rfl fun rest => TL_step rfl rfl (oe_len (e := (eS eZ)) (xs := a1) Tryz.underlying36 rfl (fun S w h => h.2.1)) fun _ hl2 => ?_
 refine TL_neq rfl rfl rfl rfl (fun h1 => ?_) (fun h1 => ?_)
 ·replace H := if_f h1 H
  refine TL_mv 0 [(0, va0), (1, va1), (10, .bool true)] rfl fun rest => TL_nil <| T_cond_true rfl <| T_seq <| T_region <| TL_mv 1 [(4, .bool false)] rfl fun rest => ?_
  refine TL_nil <| T_ret ?_
  obtain rfl := inj1 H
  exact Ret1 () Tryz.results21 rfl trivial (fun S w h => trivial)
 replace H := if_t h1 H
 refine TL_mv 0 [(0, va0), (1, va1), (10, .bool false)] rfl fun rest => TL_nil <| T_cond_false rfl <| T_skip <| T_seq <| T_seq ?_
 refine T_region <| TL_mv 1 [(0, va0), (1, va1), (5, iv 0)] rfl fun rest => TL_nil <| T_block ?_
 obtain ⟨s1, hL, Hc⟩ := bd_s H
 refine T_X [(.x 0, JQ we Se (G := Unit) (fun _ => (⟨[], [], []⟩ : Inv)) (fun _ => .inl () = s1)), (.r, JQ we Se (G := Unit) (fun _ => (⟨[], [], [(4, .bool false)]⟩ : Inv)) (fun _ => .inr () = s1))] ?_ ⟨?_, ?_, trivial⟩
 ·refine T_loop_s (G := Nat × Int) (s1 := _) (f := _) (k := fun (n1, i3) => n1) (σ := fun (n1, i3) => i3) (fun (n1, i3) => (⟨[], [fV (eS (eS eZ)) (a0) va0, fV (eS (eS eZ)) (a1) va1], [(0, va0), (1, va1), (5, iv (i3))]⟩ : Inv)) (fun (n1, i3) => InR i3) (fu, 0) hL (show InR (0) by decide) rfl (fun w h => St.weak h (fun S w h => ⟨h.1, h.2.1, trivial⟩)) ?_
  rintro ⟨n1, i3⟩ ⟨H, hr3⟩ rest
  rcases n1 with _ | n1
  ·exact (loopN_z H).elim
  replace H := loopN_s H
  unfold B_ref13_Same_0 at H
  refine T_prune [(0, va0), (1, va1), (5, iv (i3))] rfl fun rest => T_weak [] [fV (eS (eS eZ)) (a0) va0, fV (eS (eS eZ)) (a1) va1] (fun w h => h) <| T_seq <| T_seq <| T_region <| TL_mv 2 [(0, va0), (1, va1), (5, iv (i3)), (11, iv (i3)), (12, va0)] rfl fun rest => ?_
  refine TL_step rfl rfl (oe_len (e := (eS eZ)) (xs := a0) Tryz.underlying36 rfl (fun S w h => h.1)) fun _ hl3 => TL_lss rfl rfl rfl rfl (fun h2 => ?_) (fun h2 => ?_)
  ·replace H := if_t h2 H
   refine TL_mv 0 [(0, va0), (1, va1), (5, iv (i3)), (14, .bool true)] rfl fun rest => TL_nil <| T_cond_true rfl <| T_skip <| T_seq <| T_block ?_
   refine T_seq ?_
   obtain ⟨j1, hj1, hlj1, H⟩ := ckI_s H
   obtain ⟨y1, hy1, H⟩ := nm_s H
   obtain ⟨j2, hj2, hlj2, H⟩ := ckI_s H
   obtain ⟨y2, hy2, H⟩ := nm_s H
   refine T_draw 8 [prV (va0), prE (fun _ : Unit => iv (i3)) (fun _ => []) (fun _ => InR i3), prE (fun u : Value => u) (fun u => [fP (eS eZ) (y1) u]) (fun _ => True), prE (fun u : Value => u) (fun u => [fV (eS eZ) (y1) u]) (fun _ => True), prV (va1), prE (fun _ : Unit => iv (i3)) (fun _ => []) (fun _ => InR i3), prE (fun u : Value => u) (fun u => [fP (eS eZ) (y2) u]) (fun _ => True), prE (fun u : Value => u) (fun u => [fV (eS eZ) (y2) u]) (fun _ => True)] [0, 1, 5, 20, 24] rfl (by kernel_rfl) rfl (by kernel_rfl) ⟨?_, ?_, ?_, ?_, ?_, ?_, ?_, ?_, trivial⟩ ?_
   ·intro S w env hS hM hΓ hl
    obtain ⟨e0, _⟩ := hl
    exact ⟨fun _ => ob_mv (e0.trans rfl), fun hc => (by cases hc)⟩
   ·intro S w env hS hM hΓ hl
    obtain ⟨e5, _⟩ := hl
    exact ⟨fun _ => ob_VE (p := InR i3) (r_mv (e5.trans rfl)) hr3, fun hc => (by cases hc)⟩
   ·intro S w env hS hM hΓ hl
    obtain ⟨e17, ⟨_, e18, ho1, f18⟩, _⟩ := hl
    exact ⟨fun _ => ob_E (Γ := [fV (eS (eS eZ)) (a0) va0, fV (eS (eS eZ)) (a1) va1]) (oe_index (e := (eS eZ)) (xs := a0) (k := j1) (y := y1) e17 (e18.trans (vi hj1)) Tryz.underlying36 ty31 (getE (z := []) hlj1 hy1) (fun S w h => h.1)) hS hM hΓ, fun hc => (by cases hc)⟩
   ·intro S w env hS hM hΓ hl
    obtain ⟨⟨p1, e19, _, f19⟩, _⟩ := hl
    exact ⟨fun _ => ob_E (Γ := [fP (eS eZ) (y1) p1, fV (eS (eS eZ)) (a0) va0, fV (eS (eS eZ)) (a1) va1]) (oe_load (e := (eS eZ)) (y := y1) e19 ty31 (fun S w h => h.1)) hS hM ⟨f19.1, hΓ⟩, fun hc => (by cases hc)⟩
   ·intro S w env hS hM hΓ hl
    obtain ⟨e1, _⟩ := hl
    exact ⟨fun _ => ob_mv (e1.trans rfl), fun hc => (by cases hc)⟩
   ·intro S w env hS hM hΓ hl
    obtain ⟨e5, _⟩ := hl
    exact ⟨fun _ => ob_VE (p := InR i3) (r_mv (e5.trans rfl)) hr3, fun hc => (by cases hc)⟩
   ·intro S w env hS hM hΓ hl
    obtain ⟨e21, ⟨_, e22, ho2, f22⟩, _⟩ := hl
    exact ⟨fun _ => ob_E (Γ := [fV (eS (eS eZ)) (a0) va0, fV (eS (eS eZ)) (a1) va1]) (oe_index (e := (eS eZ)) (xs := a1) (k := j2) (y := y2) e21 (e22.trans (vi hj2)) Tryz.underlying36 ty31 (getE (z := []) hlj2 hy2) (fun S w h => h.2.1)) hS hM hΓ, fun hc => (by cases hc)⟩
   ·intro S w env hS hM hΓ hl
    obtain ⟨⟨p2, e23, _, f23⟩, _⟩ := hl
    exact ⟨fun _ => ob_E (Γ := [fP (eS eZ) (y2) p2, fV (eS (eS eZ)) (a0) va0, fV (eS (eS eZ)) (a1) va1]) (oe_load (e := (eS eZ)) (y := y2) e23 ty31 (fun S w h => h.1)) hS hM ⟨f23.1, hΓ⟩, fun hc => (by cases hc)⟩
   intro S w env hS hΓ hl
   obtain ⟨e0, e1, e5, ⟨u1, e20, _, f20⟩, ⟨u2, e24, _, f24⟩, _⟩ := hl
   refine ⟨[fV (eS eZ) (y1) u1, fV (eS eZ) (y2) u2, fV (eS (eS eZ)) (a0) va0, fV (eS (eS eZ)) (a1) va1], [(0, va0), (1, va1), (5, iv (i3)), (20, u1), (24, u2)], ⟨f20.1, f24.1, hΓ⟩, (agr ⟨(e0.trans rfl), (e1.trans rfl), (e5.trans rfl), e20, e24, trivial⟩), fun rest => ?_⟩
   obtain ⟨c1, he1, H⟩ := bd_s H
   refine TL_step rfl rfl (oe_call (by kernel_rfl) (c_ref10_Same fu y1 u1 y2 u2 c1 he1) rfl (fun S w h => ⟨h.1, h.2.1, trivial⟩)) fun _ _ => TL_mv 1 [(0, va0), (1, va1), (5, iv (i3)), (26, .bool (!c1))] rfl fun rest => TL_nil <| T_cond (!c1) rfl (fun hb1 => ?_) (fun hb1 => ?_)
   ·replace H := if_t hb1 H
    refine T_seq <| T_region <| TL_mv 1 [(4, .bool false)] rfl fun rest => TL_nil <| T_ret ?_
    exact JQ_mk () (Option.some.inj H) rfl (fun w h => St.weak h (fun S w h => trivial))
   replace H := ifb_f hb1 H
   refine T_skip <| T_region <| TL_mv 1 [(0, va0), (1, va1), (15, iv (i3))] rfl fun rest => ?_
   obtain ⟨x1, hx1, hrx1, H⟩ := ck64_s H
   refine TL_val rfl rfl (r_add (c := x1) rfl rfl (w_x hx1 hrx1)) <| TL_mv 1 [(0, va0), (1, va1), (5, iv (x1))] rfl fun rest => TL_nil ?_
   exact St_round_s (n1, x1) H hrx1 (Nat.lt_succ_self _) rfl (fun w h => St.weak h (fun S w h => ⟨h.2.2.1, h.2.2.2.1, trivial⟩))
  replace H := if_f h2 H
  refine TL_mv 0 [(0, va0), (1, va1), (5, iv (i3)), (14, .bool false)] rfl fun rest => TL_nil <| T_cond_false rfl <| T_exit ?_
  exact JQ_mk () (Option.some.inj H) rfl (fun w h => St.weak h (fun S w h => trivial))
 ·refine JQ_el' ?_
  rintro _ hs rest
  subst hs
  replace H := Hc
  clear hL
  refine JG_to (ms' := []) (Γ' := []) (live' := []) rfl <| T_seq <| T_region <| TL_mv 1 [(4, .bool true)] rfl fun rest => TL_nil <| T_ret ?_
  obtain rfl := inj1 H
  exact Ret1 () Tryz.results21 rfl trivial (fun S w h => trivial)
 refine JQ_el' ?_
 rintro _ hs rest
 subst hs
 replace H := Hc
 clear hL
 refine JG_to (ms' := []) (Γ' := []) (live' := [(4, .bool false)]) rfl ?_
 obtain rfl := inj1 H
 exact Ret1 () Tryz.results21 rfl trivial (fun S w h => trivial)
set_option maxRecDepth 100000 in
set_option maxHeartbeats 1000000 in
theorem c_prime_Is (fu : Nat) (a0 : Int) (qa0 : InR a0) (r0 : Bool) (H : M_prime_Is fu a0 = some r0) : Fn Tryz.prog 57 [iv a0].toArray [] (fun _ : Unit => .bool (r0)) (fun _ => []) (fun _ => True) := by
 unfold M_prime_Is at H
 refine Fn_intro Tryz.func57 rfl rfl fun we Se rest => T_seq <| T_region <| TL_mv 1 [(0, iv (a0))] rfl fun rest => TL_nil <| T_scope ?_
 refine T_seq <| T_region <| TL_mv 1 [(0, iv (a0)), (5, iv (a0))] rfl fun rest => TL_geq rfl rfl rfl rfl (fun h1 => ?_) (fun h1 => ?_)
 ·replace H := if_t h1 H
  refine TL_mv 2 [(0, iv (a0)), (7, .bool true), (8, iv (a0))] rfl fun rest => TL_leq rfl rfl rfl rfl (fun h2 => ?_) (fun h2 => ?_)
  ·replace H := if_t h2 H
   refine TL_mv 2 [(0, iv (a0)), (3, .bool true)] rfl fun rest => TL_nil <| T_seq <| T_label <| T_seq <| T_seq ?_
   refine T_region <| TL_mv 1 [(0, iv (a0)), (3, .bool true), (4, iv 2)] rfl fun rest => TL_nil <| T_block ?_
   obtain ⟨s1, hL, Hc⟩ := bd_s H
   refine T_X [(.x 0, JQ we Se (G := Bool) (fun b1 => (⟨[], [], [(3, .bool (b1))]⟩ : Inv)) (fun b1 => b1 = s1))] ?_ ⟨?_, trivial⟩
   ·refine T_loop_s (G := Nat × Int) (s1 := _) (f := _) (k := fun (n1, i3) => n1) (σ := fun (n1, i3) => i3) (fun (n1, i3) => (⟨[], [], [(0, iv (a0)), (3, .bool true), (4, iv (i3))]⟩ : Inv)) (fun (n1, i3) => InR i3) (fu, 2) hL (show InR (2) by decide) rfl (fun w h => St.weak h (fun S w h => trivial)) ?_
    rintro ⟨n1, i3⟩ ⟨H, hr3⟩ rest
    rcases n1 with _ | n1
    ·exact (loopN_z H).elim
    replace H := loopN_s H
    unfold B_prime_Is_0 at H
    refine T_prune [(0, iv (a0)), (3, .bool true), (4, iv (i3))] rfl fun rest => T_weak [] [] (fun w h => h) <| T_seq <| T_seq <| T_region <| TL_mv 4 [(0, iv (a0)), (3, .bool true), (4, iv (i3)), (12, .bool true), (13, iv (i3)), (14, iv (i3))] rfl fun rest => ?_
    obtain ⟨x1, hx1, hrx1, H⟩ := ck64_s H
    refine TL_val rfl rfl (r_mul (c := x1) rfl rfl (w_x hx1 hrx1)) <| TL_mv 1 [(0, iv (a0)), (3, .bool true), (4, iv (i3)), (12, .bool true), (13, iv (i3)), (14, iv (i3)), (15, iv (x1)), (16, iv (a0))] rfl fun rest => TL_leq rfl rfl rfl rfl (fun h3 => ?_) (fun h3 => ?_)
    ·replace H := if_t h3 H
     refine TL_mv 1 [(0, iv (a0)), (3, .bool true), (4, iv (i3)), (13, iv (i3)), (14, iv (i3)), (15, iv (x1)), (16, iv (a0)), (17, .bool true), (18, .bool true)] rfl fun rest => TL_nil <| T_cond_true rfl <| T_skip <| T_seq <| T_block ?_
     refine T_seq <| T_region <| TL_mv 2 [(0, iv (a0)), (3, .bool true), (4, iv (i3)), (13, iv (i3)), (14, iv (i3)), (15, iv (x1)), (16, iv (a0)), (17, .bool true), (21, iv (a0)), (22, iv (i3))] rfl fun rest => ?_
     obtain ⟨h01, H⟩ := ck_s H
     obtain ⟨x2, hx2, H⟩ := nm_s H
     refine TL_val rfl rfl (r_rem (c := x2) rfl rfl h01 hx2.symm) <| TL_eql rfl rfl rfl rfl (fun h4 => ?_) (fun h4 => ?_)
     ·replace H := if_t h4 H
      refine TL_mv 0 [(0, iv (a0)), (3, .bool true), (4, iv (i3)), (13, iv (i3)), (14, iv (i3)), (15, iv (x1)), (16, iv (a0)), (17, .bool true), (24, .bool true)] rfl fun rest => TL_nil <| T_cond_true rfl <| T_seq <| T_region <| TL_mv 1 [(3, .bool false)] rfl fun rest => ?_
      refine TL_nil <| T_exit ?_
      exact JQ_mk false (Option.some.inj H) rfl (fun w h => St.weak h (fun S w h => trivial))
     replace H := if_f h4 H
     refine TL_mv 0 [(0, iv (a0)), (3, .bool true), (4, iv (i3)), (13, iv (i3)), (14, iv (i3)), (15, iv (x1)), (16, iv (a0)), (17, .bool true), (24, .bool false)] rfl fun rest => TL_nil <| T_cond_false rfl <| T_skip <| T_region <| TL_mv 1 [(0, iv (a0)), (3, .bool true), (13, iv (i3)), (14, iv (i3)), (15, iv (x1)), (16, iv (a0)), (17, .bool true), (19, iv (i3))] rfl fun rest => ?_
     obtain ⟨x3, hx3, hrx3, H⟩ := ck64_s H
     refine TL_val rfl rfl (r_add (c := x3) rfl rfl (w_x hx3 hrx3)) <| TL_mv 1 [(0, iv (a0)), (3, .bool true), (4, iv (x3)), (13, iv (i3)), (14, iv (i3)), (15, iv (x1)), (16, iv (a0)), (17, .bool true)] rfl fun rest => TL_nil ?_
     exact St_round_s (n1, x3) H hrx3 (Nat.lt_succ_self _) rfl (fun w h => St.weak h (fun S w h => trivial))
    replace H := if_f h3 H
    refine TL_mv 1 [(0, iv (a0)), (3, .bool true), (4, iv (i3)), (13, iv (i3)), (14, iv (i3)), (15, iv (x1)), (16, iv (a0)), (17, .bool false), (18, .bool false)] rfl fun rest => TL_nil <| T_cond_false rfl <| T_exit ?_
    exact JQ_mk true (Option.some.inj H) rfl (fun w h => St.weak h (fun S w h => trivial))
   refine JQ_el' ?_
   rintro b1 hs rest
   subst hs
   replace H := Hc
   clear hL
   refine JG_to (ms' := []) (Γ' := []) (live' := [(3, .bool (b1))]) rfl <| T_seq <| T_region <| TL_mv 2 [(2, .bool (b1))] rfl fun rest => TL_nil <| T_ret ?_
   obtain rfl := inj1 H
   exact Ret1 () Tryz.results57 rfl trivial (fun S w h => trivial)
  replace H := if_f h2 H
  refine TL_mv 2 [(0, iv (a0)), (3, .bool false)] rfl fun rest => TL_nil <| T_seq <| T_label <| T_seq <| T_seq ?_
  refine T_region <| TL_mv 1 [(0, iv (a0)), (3, .bool false), (4, iv 2)] rfl fun rest => TL_nil <| T_block ?_
  obtain ⟨s2, hL, Hc⟩ := bd_s H
  refine T_X [(.x 0, JQ we Se (G := Unit) (fun _ => (⟨[], [], [(3, .bool false)]⟩ : Inv)) (fun _ => () = s2))] ?_ ⟨?_, trivial⟩
  ·refine T_loop_s (G := Nat) (s1 := _) (f := _) (k := fun n2 => n2) (σ := fun n2 => ()) (fun n2 => (⟨[], [], [(0, iv (a0)), (3, .bool false), (4, iv 2)]⟩ : Inv)) (fun n2 => True) fu hL trivial rfl (fun w h => St.weak h (fun S w h => trivial)) ?_
   rintro n2 ⟨H, _⟩ rest
   rcases n2 with _ | n2
   ·exact (loopN_z H).elim
   replace H := loopN_s H
   unfold B_prime_Is_1 at H
   refine T_prune [(0, iv (a0)), (3, .bool false), (4, iv 2)] rfl fun rest => T_weak [] [] (fun w h => h) <| T_seq <| T_seq <| T_region <| TL_mv 8 [(0, iv (a0)), (3, .bool false), (4, iv 2), (18, .bool false)] rfl fun rest => ?_
   refine TL_nil <| T_cond_false rfl <| T_exit ?_
   exact JQ_mk () (Option.some.inj H) rfl (fun w h => St.weak h (fun S w h => trivial))
  refine JQ_el' ?_
  rintro _ hs rest
  subst hs
  replace H := Hc
  clear hL
  refine JG_to (ms' := []) (Γ' := []) (live' := [(3, .bool false)]) rfl <| T_seq <| T_region <| TL_mv 2 [(2, .bool false)] rfl fun rest => TL_nil <| T_ret ?_
  obtain rfl := inj1 H
  exact Ret1 () Tryz.results57 rfl trivial (fun S w h => trivial)
 replace H := if_f h1 H
 refine TL_mv 5 [(0, iv (a0)), (3, .bool false)] rfl fun rest => TL_nil <| T_seq <| T_label <| T_seq <| T_seq ?_
 refine T_region <| TL_mv 1 [(0, iv (a0)), (3, .bool false), (4, iv 2)] rfl fun rest => TL_nil <| T_block ?_
 obtain ⟨s3, hL, Hc⟩ := bd_s H
 refine T_X [(.x 0, JQ we Se (G := Unit) (fun _ => (⟨[], [], [(3, .bool false)]⟩ : Inv)) (fun _ => () = s3))] ?_ ⟨?_, trivial⟩
 ·refine T_loop_s (G := Nat) (s1 := _) (f := _) (k := fun n3 => n3) (σ := fun n3 => ()) (fun n3 => (⟨[], [], [(0, iv (a0)), (3, .bool false), (4, iv 2)]⟩ : Inv)) (fun n3 => True) fu hL trivial rfl (fun w h => St.weak h (fun S w h => trivial)) ?_
  rintro n3 ⟨H, _⟩ rest
  rcases n3 with _ | n3
  ·exact (loopN_z H).elim
  replace H := loopN_s H
  unfold B_prime_Is_2 at H
  refine T_prune [(0, iv (a0)), (3, .bool false), (4, iv 2)] rfl fun rest => T_weak [] [] (fun w h => h) <| T_seq <| T_seq <| T_region <| TL_mv 8 [(0, iv (a0)), (3, .bool false), (4, iv 2), (18, .bool false)] rfl fun rest => ?_
  refine TL_nil <| T_cond_false rfl <| T_exit ?_
  exact JQ_mk () (Option.some.inj H) rfl (fun w h => St.weak h (fun S w h => trivial))
 refine JQ_el' ?_
 rintro _ hs rest
 subst hs
 replace H := Hc
 clear hL
 refine JG_to (ms' := []) (Γ' := []) (live' := [(3, .bool false)]) rfl <| T_seq <| T_region <| TL_mv 2 [(2, .bool false)] rfl fun rest => TL_nil <| T_ret ?_
 obtain rfl := inj1 H
 exact Ret1 () Tryz.results57 rfl trivial (fun S w h => trivial)
set_option maxRecDepth 100000 in
set_option maxHeartbeats 1000000 in
theorem c_nat_plain (fu : Nat) (a0 : List Nat) (va0 : Value) (r0 : List Nat) (H : M_nat_plain fu a0 = some r0) : Fn Tryz.prog 180 [va0].toArray [fV (eS eU) (a0) va0] (fun u : Value => u) (fun u => [fV (eS eU) (r0) u]) (fun _ => True) := by
 unfold M_nat_plain at H
 refine Fn_intro Tryz.func180 rfl rfl fun we Se rest => T_seq <| T_region <| TL_mv 1 [(0, va0)] rfl fun rest => TL_nil <| T_seq ?_
 refine T_block ?_
 obtain ⟨s1, hL, Hc⟩ := bd_s H
 refine T_X [(.x 0, JQ we Se (G := (List Nat) × Value) (fun (t4, w4) => (⟨[], [fV (eS eU) (t4) w4], [(0, w4)]⟩ : Inv)) (fun (t4, w4) => t4 = s1))] ?_ ⟨?_, trivial⟩
 ·refine T_loop_s (G := Nat × (List Nat) × Value) (s1 := _) (f := _) (k := fun (n1, t3, w3) => n1) (σ := fun (n1, t3, w3) => t3) (fun (n1, t3, w3) => (⟨[], [fV (eS eU) (t3) w3], [(0, w3)]⟩ : Inv)) (fun (n1, t3, w3) => True) (fu, a0, va0) hL trivial rfl (fun w h => St.weak h (fun S w h => ⟨h.1, trivial⟩)) ?_
  rintro ⟨n1, t3, w3⟩ ⟨H, _⟩ rest
  rcases n1 with _ | n1
  ·exact (loopN_z H).elim
  replace H := loopN_s H
  unfold B_nat_plain_0 at H
  refine T_prune [(0, w3)] rfl fun rest => T_weak [] [fV (eS eU) (t3) w3] (fun w h => h) <| T_seq <| T_seq <| T_region <| TL_mv 1 [(0, w3), (3, w3)] rfl fun rest => ?_
  refine TL_step rfl rfl (oe_len (e := eU) (xs := t3) Tryz.underlying23 rfl (fun S w h => h.1)) fun _ hl1 => TL_gtr rfl rfl rfl rfl (fun h1 => ?_) (fun h1 => ?_)
  ·replace H := if_t h1 H
   refine TL_mv 3 [(0, w3), (6, .bool true), (7, w3), (8, w3)] rfl fun rest => TL_step rfl rfl (oe_len (e := eU) (xs := t3) Tryz.underlying23 rfl (fun S w h => h.1)) fun _ hl2 => ?_
   obtain ⟨x1, hx1, hrx1, H⟩ := ck64_s H
   refine TL_val rfl rfl (r_sub (c := x1) rfl rfl (w_x hx1 hrx1)) ?_
   obtain ⟨j1, hj1, hlj1, H⟩ := ckI_s H
   obtain ⟨y1, hy1, H⟩ := nm_s H
   refine TL_step rfl rfl (oe_index (e := eU) (xs := t3) (k := j1) (y := y1) rfl (vi hj1) Tryz.underlying23 ty102 (getE (z := 0) hlj1 hy1) (fun S w h => h.1)) fun p1 _ => TL_step rfl rfl (oe_load_u64 (y := y1) rfl ty102 (fun S w h => h.1)) fun _ hv1 => TL_eql rfl rfl rfl rfl (fun h2 => ?_) (fun h2 => ?_)
   ·replace H := if_t h2 H
    refine TL_mv 1 [(0, w3), (7, w3), (8, w3), (9, iv ((t3.length : Nat) : Int)), (10, iv (x1)), (11, p1), (12, uv y1), (13, .bool true), (14, .bool true)] rfl fun rest => TL_nil <| T_cond_true rfl <| T_skip <| T_block <| T_region ?_
    refine TL_mv 2 [(7, w3), (8, w3), (9, iv ((t3.length : Nat) : Int)), (10, iv (x1)), (11, p1), (12, uv y1), (13, .bool true), (15, w3), (16, w3)] rfl fun rest => TL_step rfl rfl (oe_len (e := eU) (xs := t3) Tryz.underlying23 rfl (fun S w h => h.2.1)) fun _ hl3 => ?_
    obtain ⟨x2, hx2, hrx2, H⟩ := ck64_s H
    refine TL_val rfl rfl (r_sub (c := x2) rfl rfl (w_x hx2 hrx2)) ?_
    obtain ⟨j2, hj2, H⟩ := ckN_s H
    obtain ⟨hk1, H⟩ := ck_s H
    obtain ⟨y2, hy2, H⟩ := nm_s H
    refine TL_step rfl rfl (oe_as (oe_sliceT (e := eU) (xs := t3) (h := j2) rfl Tryz.underlying23 ty102 (vi hj2) hk1 (fun S w h => h.2.1)) hy2) fun u1 _ => TL_mv 1 [(0, u1), (7, w3), (8, w3), (9, iv ((t3.length : Nat) : Int)), (10, iv (x1)), (11, p1), (12, uv y1), (13, .bool true)] rfl fun rest => TL_nil ?_
    exact St_round_s (n1, y2, u1) H trivial (Nat.lt_succ_self _) rfl (fun w h => St.weak h (fun S w h => ⟨h.1, trivial⟩))
   replace H := if_f h2 H
   refine TL_mv 1 [(0, w3), (7, w3), (8, w3), (9, iv ((t3.length : Nat) : Int)), (10, iv (x1)), (11, p1), (12, uv y1), (13, .bool false), (14, .bool false)] rfl fun rest => TL_nil <| T_cond_false rfl <| T_exit ?_
   exact JQ_mk (t3, w3) (Option.some.inj H) rfl (fun w h => St.weak h (fun S w h => ⟨h.2.1, trivial⟩))
  replace H := if_f h1 H
  refine TL_mv 9 [(0, w3), (14, .bool false)] rfl fun rest => TL_nil <| T_cond_false rfl <| T_exit ?_
  exact JQ_mk (t3, w3) (Option.some.inj H) rfl (fun w h => St.weak h (fun S w h => ⟨h.1, trivial⟩))
 refine JQ_el' ?_
 rintro ⟨t4, w4⟩ hs rest
 subst hs
 replace H := Hc
 clear hL
 refine JG_to (ms' := []) (Γ' := [fV (eS eU) (t4) w4]) (live' := [(0, w4)]) rfl <| T_seq <| T_region <| TL_mv 2 [(2, w4)] rfl fun rest => TL_nil <| T_ret ?_
 obtain rfl := inj1 H
 exact Ret1 w4 Tryz.results180 rfl trivial (fun S w h => ⟨h.1, trivial⟩)
set_option maxRecDepth 100000 in
set_option maxHeartbeats 1000000 in
theorem c_nat_plain_own (fu : Nat) (a0 : List Nat) (va0 : Value) (r0 : List Nat) (H : M_nat_plain_own fu a0 = some r0) : FnG Tryz.prog 180 [va0].toArray [mO eU 102 va0 (a0)] [] (fun u : Value => u) (fun u => [mO eU 102 u (r0)]) (fun u => []) (fun _ => True) := by
 unfold M_nat_plain_own at H
 refine FnG_intro Tryz.func180 rfl rfl fun we Se F G rest => T_seq <| T_region <| TL_mv 1 [(0, va0)] rfl fun rest => TL_nil <| T_seq ?_
 refine T_block ?_
 obtain ⟨s1, hL, Hc⟩ := bd_s H
 refine T_X [(.x 0, JQ we Se (G := (List Nat) × Value) (fun (t3, w3) => (⟨(mO eU 102 w3 (t3) :: F), (G), [(0, w3)]⟩ : Inv)) (fun (t3, w3) => t3 = s1))] ?_ ⟨?_, trivial⟩
 ·refine T_loop_s (G := Nat × (List Nat) × Value) (s1 := _) (f := _) (k := fun (n1, t2, w2) => n1) (σ := fun (n1, t2, w2) => t2) (fun (n1, t2, w2) => (⟨(mO eU 102 w2 (t2) :: F), (G), [(0, w2)]⟩ : Inv)) (fun (n1, t2, w2) => True) (fu, a0, va0) hL trivial rfl (fun w h => St.weak h (fun S w h => h)) ?_
  rintro ⟨n1, t2, w2⟩ ⟨H, _⟩ rest
  rcases n1 with _ | n1
  ·exact (loopN_z H).elim
  replace H := loopN_s H
  unfold B_nat_plain_own_0 at H
  refine T_prune [(0, w2)] rfl fun rest => T_weak (mO eU 102 w2 (t2) :: F) (G) (fun w h => h) <| T_seq <| T_seq <| T_region <| TL_mv 1 [(0, w2), (3, w2)] rfl fun rest => ?_
  refine TL_step rfl rfl (oe_lenM 0 rfl Tryz.underlying23 rfl) fun _ hl1 => TL_gtr rfl rfl rfl rfl (fun h1 => ?_) (fun h1 => ?_)
  ·replace H := if_t h1 H
   refine TL_mv 3 [(0, w2), (6, .bool true), (7, w2), (8, w2)] rfl fun rest => TL_step rfl rfl (oe_lenM 0 rfl Tryz.underlying23 rfl) fun _ hl2 => ?_
   obtain ⟨x1, hx1, hrx1, H⟩ := ck64_s H
   refine TL_val rfl rfl (r_sub (c := x1) rfl rfl (w_x hx1 hrx1)) ?_
   obtain ⟨j1, hj1, hlj1, H⟩ := ckI_s H
   refine TL_openO 0 rfl (pos_of_lt hlj1) fun b1 cap1 hvb1 hcb1 hmb1 => ?_
   cases hvb1
   refine TL_val rfl rfl (r_index Tryz.underlying23 ty102 rfl (vi hj1) (k := j1) hlj1) ?_
   obtain ⟨y1, hy1, H⟩ := nm_s H
   refine TL_step rfl rfl (oe_loadM_u64 (z' := y1) 0 rfl rfl (Sub.rowT0 eU cap1 (t2) j1 _ (getE (z := 0) (lt_of_len' hlj1 rfl) hy1)) ty102) fun _ hv1 => TL_eql rfl rfl rfl rfl (fun h2 => ?_) (fun h2 => ?_)
   ·replace H := if_t h2 H
    refine TL_mv 1 [(0, .slice (some ⟨b1, 0, none⟩) t2.length cap1), (7, .slice (some ⟨b1, 0, none⟩) t2.length cap1), (8, .slice (some ⟨b1, 0, none⟩) t2.length cap1), (9, iv ((t2.length : Nat) : Int)), (10, iv (x1)), (11, .pointer (some ⟨b1, 0 + j1 * 1, none⟩)), (12, uv y1), (13, .bool true), (14, .bool true)] rfl fun rest => TL_nil <| T_cond_true rfl <| T_skip <| T_block <| T_region ?_
    refine TL_mv 2 [(7, .slice (some ⟨b1, 0, none⟩) t2.length cap1), (8, .slice (some ⟨b1, 0, none⟩) t2.length cap1), (9, iv ((t2.length : Nat) : Int)), (10, iv (x1)), (11, .pointer (some ⟨b1, 0 + j1 * 1, none⟩)), (12, uv y1), (13, .bool true), (15, .slice (some ⟨b1, 0, none⟩) t2.length cap1), (16, .slice (some ⟨b1, 0, none⟩) t2.length cap1)] rfl fun rest => TL_val rfl rfl (r_len Tryz.underlying23 rfl) ?_
    obtain ⟨x2, hx2, hrx2, H⟩ := ck64_s H
    refine TL_val rfl rfl (r_sub (c := x2) rfl rfl (w_x hx2 hrx2)) ?_
    obtain ⟨j2, hj2, H⟩ := ckN_s H
    obtain ⟨hk1, H⟩ := ck_s H
    obtain ⟨t4, ht4, H⟩ := nm_s H
    refine TL_val rfl rfl (r_sliceT (h := j2) rfl Tryz.underlying23 ty102 (vi hj2) (Nat.le_trans hk1 hcb1)) <| TL_mv 1 [(0, .slice (some ⟨b1, 0, none⟩) j2 cap1), (7, .slice (some ⟨b1, 0, none⟩) t2.length cap1), (8, .slice (some ⟨b1, 0, none⟩) t2.length cap1), (9, iv ((t2.length : Nat) : Int)), (10, iv (x1)), (11, .pointer (some ⟨b1, 0 + j1 * 1, none⟩)), (12, uv y1), (13, .bool true)] rfl fun rest => TL_nil <| T_weak_st (fun w h => close_cut (n := j2) (ys := t4) 0 h rfl rfl hcb1 hk1 hmb1 ht4) ?_
    exact St_round_s (n1, t4, (.slice (some ⟨b1, 0, none⟩) j2 cap1 : Value)) H trivial (Nat.lt_succ_self _) rfl (fun w h => St.weak h (fun S w h => h))
   replace H := if_f h2 H
   refine TL_mv 1 [(0, .slice (some ⟨b1, 0, none⟩) t2.length cap1), (7, .slice (some ⟨b1, 0, none⟩) t2.length cap1), (8, .slice (some ⟨b1, 0, none⟩) t2.length cap1), (9, iv ((t2.length : Nat) : Int)), (10, iv (x1)), (11, .pointer (some ⟨b1, 0 + j1 * 1, none⟩)), (12, uv y1), (13, .bool false), (14, .bool false)] rfl fun rest => TL_nil <| T_cond_false rfl <| T_exit <| T_weak_st (fun w h => close_all 0 h rfl rfl hcb1 hmb1) ?_
   exact JQ_mk (t2, (.slice (some ⟨b1, 0, none⟩) t2.length cap1 : Value)) (Option.some.inj H) rfl (fun w h => St.weak h (fun S w h => h))
  replace H := if_f h1 H
  refine TL_mv 9 [(0, w2), (14, .bool false)] rfl fun rest => TL_nil <| T_cond_false rfl <| T_exit ?_
  exact JQ_mk (t2, w2) (Option.some.inj H) rfl (fun w h => St.weak h (fun S w h => h))
 refine JQ_el' ?_
 rintro ⟨t3, w3⟩ hs rest
 subst hs
 replace H := Hc
 clear hL
 refine JG_to (ms' := (mO eU 102 w3 (t3) :: F)) (Γ' := (G)) (live' := [(0, w3)]) rfl <| T_seq <| T_region <| TL_mv 2 [(2, w3)] rfl fun rest => TL_nil <| T_ret ?_
 obtain rfl := inj1 H
 intro w hw
 exact RetG (vs := [w3]) w3 Tryz.results180 (by exact ⟨rfl, trivial⟩) rfl trivial (St.weak hw (fun S w h => h))
set_option maxRecDepth 100000 in
set_option maxHeartbeats 1000000 in
theorem o_slices_Clone_uint64_uint64 (l : List Nat) (v0 : Value) (hp0 : l.length ≤ 1099511627776) : Fn Tryz.prog 210 [v0].toArray [fV (eS eU) (l) v0] (fun u : Value => u) (fun u => [fV (eS eU) (l) u]) (fun _ => True) := by
  refine Fn_intro Tryz.func210 rfl rfl fun we Se rest => ?_
  refine T_fact (fun S w h => fV_len h.1) fun hl_l => ?_
  refine T_fact (fun S w h => fV_limbs h.1) fun hb_l => ?_
  refine T_seq ?_
  refine T_region ?_
  refine TL_mv 1 [(0, v0)] rfl fun rest => ?_
  refine TL_nil ?_
  refine T_seq ?_
  refine T_seq ?_
  refine T_region ?_
  refine TL_mv 1 [(0, v0), (3, v0)] rfl fun rest => ?_
  refine TL_step rfl rfl (oe_nilE (e := eU) (xs := l) Tryz.underlying23 rfl rfl (fun S w h => h.1)) fun q1 hn1 => ?_
  refine TL_mv 0 [(0, v0), (4, .bool (q1))] rfl fun rest => ?_
  refine TL_nil ?_
  refine T_cond (q1) rfl (fun hb1 => ?_) (fun hb1 => ?_)
  · refine T_seq ?_
    refine T_region ?_
    refine TL_mv 1 [(2, .slice none 0 0)] rfl fun rest => ?_
    refine TL_nil ?_
    refine T_ret ?_
    exact Ret1 (.slice none 0 0 : Value) Tryz.results210 rfl trivial (fun S w h => ⟨(cvt (show ([]) = (l) from by first | rfl | simp_all) nil_fV), trivial⟩)
  · refine T_skip ?_
    refine T_seq ?_
    refine T_region ?_
    refine TL_empty (e := eU) rfl rfl Tryz.underlying23 ty102 fun v1 => ?_
    refine TL_mv 1 [(5, v1), (6, v0)] rfl fun rest => ?_
    refine TL_append (e := eU) (xs := []) (ys := l) 0 rfl rfl Tryz.underlying23 ty102 rfl (by decide) rfl rfl rfl (fun S w h => h.1) (by first | omega | (simp only [List.length_nil, List.length_append, List.length_replicate, List.length_cons, List.length_take, List.length_drop]; omega) | (simp; omega)) (by first | omega | (simp only [List.length_nil, List.length_append, List.length_replicate, List.length_cons, List.length_take, List.length_drop]; omega) | (simp; omega)) fun v2 => ?_
    show TL _ _ _ _ [mO eU 102 v2 ([] ++ l)] _ _ _ _ _
    refine TL_mv 1 [(2, v2)] rfl fun rest => ?_
    refine TL_nil ?_
    refine T_ret ?_
    refine T_weak_st (fun w h => fz_own 0 h rfl) ?_
    exact Ret1 v2 Tryz.results210 rfl trivial (fun S w h => ⟨(cvt (show ([] ++ l) = (l) from by first | rfl | simp_all) h.1), trivial⟩)
theorem c_slices_Clone_uint64_uint64 (fu : Nat) (a0 : List Nat) (va0 : Value) (r0 : List Nat) (H : M_slices_Clone_uint64_uint64 fu a0 = some r0) : Fn Tryz.prog 210 [va0].toArray [fV (eS eU) (a0) va0] (fun u : Value => u) (fun u => [fV (eS eU) (r0) u]) (fun _ => True) := by
  obtain ⟨hk, H⟩ := ck_s H
  obtain rfl := inj1 H
  exact o_slices_Clone_uint64_uint64 a0 va0 hk
set_option maxRecDepth 100000 in
set_option maxHeartbeats 1000000 in
theorem c_nat_Norm (fu : Nat) (a0 : List Nat) (va0 : Value) (r0 : List Nat) (H : M_nat_Norm fu a0 = some r0) : Fn Tryz.prog 156 [va0].toArray [fV (eS eU) (a0) va0] (fun u : Value => u) (fun u => [fV (eS eU) (r0) u]) (fun _ => True) := by
 unfold M_nat_Norm at H
 refine Fn_intro Tryz.func156 rfl rfl fun we Se rest => T_seq <| T_region <| TL_mv 1 [(0, va0)] rfl fun rest => TL_nil <| T_seq ?_
 refine T_region <| TL_mv 1 [(3, va0)] rfl fun rest => ?_
 obtain ⟨t1, he1, H⟩ := bd_s H
 refine TL_step rfl rfl (oe_call (by kernel_rfl) (c_nat_plain fu a0 va0 t1 he1) rfl (fun S w h => ⟨h.1, trivial⟩)) fun u1 _ => ?_
 obtain ⟨t2, he2, H⟩ := bd_s H
 refine TL_step rfl rfl (oe_call (by kernel_rfl) (c_slices_Clone_uint64_uint64 fu t1 u1 t2 he2) rfl (fun S w h => ⟨h.1, trivial⟩)) fun u2 _ => TL_mv 1 [(2, u2)] rfl fun rest => TL_nil <| T_ret ?_
 obtain rfl := inj1 H
 exact Ret1 u2 Tryz.results156 rfl trivial (fun S w h => ⟨h.1, trivial⟩)
set_option maxRecDepth 100000 in
set_option maxHeartbeats 1000000 in
theorem c_zint_made (fu : Nat) (a0 : Bool) (a1 : List Nat) (va1 : Value) (r0 : Zr) (H : M_zint_made fu a0 a1 = some r0) : Fn Tryz.prog 101 [.bool a0, va1].toArray [fV (eS eU) (a1) va1] (fun u : Value => u) (fun u => [fV eZ (r0) u]) (fun _ => True) := by
 unfold M_zint_made at H
 refine Fn_intro Tryz.func101 rfl rfl fun we Se rest => T_seq <| T_region <| TL_og rfl rfl (og_allocM (e := ERep.c eZ) (z := (false, [])) ty25 (fun S w => z25 S w)) fun b1 _ => ?_
 show TL _ _ _ _ [mB (ERep.c eZ) 25 b1 ((false, []))] [fV (eS eU) (a1) va1] _ _ _ _
 refine TL_mv 0 [(0, .bool (a0)), (1, va1), (4, .pointer (some ⟨b1, 0, none⟩))] rfl fun rest => TL_nil <| T_seq <| T_region <| TL_mv 1 [(0, .bool (a0)), (4, .pointer (some ⟨b1, 0, none⟩)), (5, va1)] rfl fun rest => ?_
 obtain ⟨t1, he1, H⟩ := bd_s H
 refine TL_step rfl rfl (oe_call (by kernel_rfl) (c_nat_Norm fu a1 va1 t1 he1) rfl (fun S w h => ⟨h.1, trivial⟩)) fun u1 _ => TL_mv 1 [(0, .bool (a0)), (1, u1), (4, .pointer (some ⟨b1, 0, none⟩))] rfl fun rest => TL_nil <| T_seq <| T_region <| TL_mv 2 [(1, u1), (4, .pointer (some ⟨b1, 0, none⟩)), (8, .bool (a0))] rfl fun rest => ?_
 rcases Bool.eq_false_or_eq_true (a0) with hd1 | hd1
 ·refine TL_prune [(1, u1), (4, .pointer (some ⟨b1, 0, none⟩)), (8, .bool true)] (agr ⟨rfl, rfl, (congrArg Value.bool hd1), trivial⟩) fun rest => ?_
  replace H := if_t hd1 H
  refine TL_mv 1 [(1, u1), (4, .pointer (some ⟨b1, 0, none⟩)), (8, .bool true), (9, u1)] rfl fun rest => TL_step rfl rfl (oe_len (e := eU) (xs := t1) Tryz.underlying23 rfl (fun S w h => h.1)) fun _ hl1 => TL_gtr rfl rfl rfl rfl (fun h1 => ?_) (fun h1 => ?_)
  ·replace H := if_t h1 H
   refine TL_mv 2 [(4, .pointer (some ⟨b1, 0, none⟩)), (12, .bool true), (13, u1)] rfl fun rest => TL_step rfl rfl (oe_build (e := eZ) (z := (true, t1)) ty25 rfl rfl (vs := [(0, .bool true), (1, u1)]) rfl (.inl (plx pl25 fun S w h => (by refine pl_eq [1, 1] ?_ ?_; exact ⟨fV_sz (S := S) (w := w) bool_fV, fV_sz (S := S) (w := w) h.1, trivial⟩; rfl))) (fun S w h => bp_cons bool_fV (bp_last h.1))) fun u2 _ => ?_
   refine TL_og rfl rfl (og_store' (f := eZ) (y' := (true, t1)) (z2 := (true, t1)) 0 rfl rfl rfl (Sub.self eZ ((false, []))) ty25 (fun S w h => h.1) rfl) fun _ _ => ?_
   show TL _ _ _ _ [mB (ERep.c eZ) 25 b1 ((true, t1))] [fV eZ ((true, t1)) u2, fV (eS eU) (t1) u1, fV (eS eU) (a1) va1] _ _ _ _
   refine TL_mv 0 [(4, .pointer (some ⟨b1, 0, none⟩))] rfl fun rest => TL_nil <| T_ret ?_
   obtain rfl := inj1 H
   intro w hw
   change RetQ _ _ _ _ _ _ _ .ret _ w
   refine Ret_cN (e := eZ) (z := (true, t1)) 4 0 hw rfl (by exact rfl) ty25 fun r_1 hw hr_1 => ?_
   exact RetN (vs := [r_1]) r_1 Tryz.results101 (by exact ⟨hr_1, trivial⟩) rfl trivial hw (fun S w h => ⟨h.1, trivial⟩)
  replace H := if_f h1 H
  refine TL_mv 2 [(4, .pointer (some ⟨b1, 0, none⟩)), (12, .bool false), (13, u1)] rfl fun rest => TL_step rfl rfl (oe_build (e := eZ) (z := (false, t1)) ty25 rfl rfl (vs := [(0, .bool false), (1, u1)]) rfl (.inl (plx pl25 fun S w h => (by refine pl_eq [1, 1] ?_ ?_; exact ⟨fV_sz (S := S) (w := w) bool_fV, fV_sz (S := S) (w := w) h.1, trivial⟩; rfl))) (fun S w h => bp_cons bool_fV (bp_last h.1))) fun u3 _ => ?_
  refine TL_og rfl rfl (og_store' (f := eZ) (y' := (false, t1)) (z2 := (false, t1)) 0 rfl rfl rfl (Sub.self eZ ((false, []))) ty25 (fun S w h => h.1) rfl) fun _ _ => ?_
  show TL _ _ _ _ [mB (ERep.c eZ) 25 b1 ((false, t1))] [fV eZ ((false, t1)) u3, fV (eS eU) (t1) u1, fV (eS eU) (a1) va1] _ _ _ _
  refine TL_mv 0 [(4, .pointer (some ⟨b1, 0, none⟩))] rfl fun rest => TL_nil <| T_ret ?_
  obtain rfl := inj1 H
  intro w hw
  change RetQ _ _ _ _ _ _ _ .ret _ w
  refine Ret_cN (e := eZ) (z := (false, t1)) 4 0 hw rfl (by exact rfl) ty25 fun r_2 hw hr_2 => ?_
  exact RetN (vs := [r_2]) r_2 Tryz.results101 (by exact ⟨hr_2, trivial⟩) rfl trivial hw (fun S w h => ⟨h.1, trivial⟩)
 refine TL_prune [(1, u1), (4, .pointer (some ⟨b1, 0, none⟩)), (8, .bool false)] (agr ⟨rfl, rfl, (congrArg Value.bool hd1), trivial⟩) fun rest => ?_
 replace H := ifb_f hd1 H
 refine TL_mv 5 [(4, .pointer (some ⟨b1, 0, none⟩)), (12, .bool false), (13, u1)] rfl fun rest => TL_step rfl rfl (oe_build (e := eZ) (z := (false, t1)) ty25 rfl rfl (vs := [(0, .bool false), (1, u1)]) rfl (.inl (plx pl25 fun S w h => (by refine pl_eq [1, 1] ?_ ?_; exact ⟨fV_sz (S := S) (w := w) bool_fV, fV_sz (S := S) (w := w) h.1, trivial⟩; rfl))) (fun S w h => bp_cons bool_fV (bp_last h.1))) fun u4 _ => ?_
 refine TL_og rfl rfl (og_store' (f := eZ) (y' := (false, t1)) (z2 := (false, t1)) 0 rfl rfl rfl (Sub.self eZ ((false, []))) ty25 (fun S w h => h.1) rfl) fun _ _ => ?_
 show TL _ _ _ _ [mB (ERep.c eZ) 25 b1 ((false, t1))] [fV eZ ((false, t1)) u4, fV (eS eU) (t1) u1, fV (eS eU) (a1) va1] _ _ _ _
 refine TL_mv 0 [(4, .pointer (some ⟨b1, 0, none⟩))] rfl fun rest => TL_nil <| T_ret ?_
 obtain rfl := inj1 H
 intro w hw
 change RetQ _ _ _ _ _ _ _ .ret _ w
 refine Ret_cN (e := eZ) (z := (false, t1)) 4 0 hw rfl (by exact rfl) ty25 fun r_3 hw hr_3 => ?_
 exact RetN (vs := [r_3]) r_3 Tryz.results101 (by exact ⟨hr_3, trivial⟩) rfl trivial hw (fun S w h => ⟨h.1, trivial⟩)
set_option maxRecDepth 100000 in
set_option maxHeartbeats 1000000 in
theorem c_zint_Of (fu : Nat) (a0 : Int) (qa0 : InR a0) (r0 : Zr) (H : M_zint_Of fu a0 = some r0) : Fn Tryz.prog 34 [iv a0].toArray [] (fun u : Value => u) (fun u => [fV eZ (r0) u]) (fun _ => True) := by
 unfold M_zint_Of at H
 refine Fn_intro Tryz.func34 rfl rfl fun we Se rest => T_seq <| T_region <| TL_og rfl rfl (og_allocM (e := ERep.c eZ) (z := (false, [])) ty25 (fun S w => z25 S w)) fun b1 _ => ?_
 show TL _ _ _ _ [mB (ERep.c eZ) 25 b1 ((false, []))] [] _ _ _ _
 refine TL_mv 0 [(0, iv (a0)), (2, .pointer (some ⟨b1, 0, none⟩))] rfl fun rest => TL_nil <| T_seq <| T_seq <| T_region <| TL_mv 1 [(0, iv (a0)), (2, .pointer (some ⟨b1, 0, none⟩)), (3, iv (a0))] rfl fun rest => ?_
 refine TL_lss rfl rfl rfl rfl (fun h1 => ?_) (fun h1 => ?_)
 ·replace H := if_t h1 H
  refine TL_mv 0 [(0, iv (a0)), (2, .pointer (some ⟨b1, 0, none⟩)), (4, .bool true)] rfl fun rest => TL_nil <| T_cond_true rfl <| T_seq <| T_region <| TL_mv 1 [(2, .pointer (some ⟨b1, 0, none⟩)), (5, iv (a0))] rfl fun rest => ?_
  obtain ⟨m1, hm1, H⟩ := nm_s H
  refine TL_val rfl rfl (r_conv (c := ((m1 : Nat) : Int)) Tryz.underlying3 Tryz.underlying102 rfl (wu_x hm1 (wrap_uns _))) ?_
  obtain ⟨m2, hm2, H⟩ := nm_s H
  refine TL_val rfl rfl (r_neg (c := ((m2 : Nat) : Int)) rfl (wu_x hm2 (wu_neg (a := m1) (eq_u hm1 (uns_r _))))) <| TL_step rfl rfl (oe_lit (e := eU) (zs := [m2]) Tryz.underlying23 ty102 (by decide) rfl (by decide) (vs := [(0, uv m2)]) rfl (fun S w h => (by refine fill_eq eU ?_; exact ⟨fV_sz (S := S) (w := w) (u64_fV (eq_mod_r hm2)), trivial⟩)) (fun S w h => (elems_one (u64_fV (eq_mod_r hm2))))) fun u1 _ => ?_
  obtain ⟨t1, he1, H⟩ := bd_s H
  refine TL_step rfl rfl (oe_call (by kernel_rfl) (c_zint_made fu true [m2] u1 t1 he1) rfl (fun S w h => ⟨h.1, trivial⟩)) fun u2 _ => TL_og rfl rfl (og_store' (f := eZ) (y' := t1) (z2 := t1) 0 rfl rfl rfl (Sub.self eZ ((false, []))) ty25 (fun S w h => h.1) rfl) fun _ _ => ?_
  show TL _ _ _ _ [mB (ERep.c eZ) 25 b1 (t1)] [fV eZ (t1) u2, fV (eS eU) ([m2]) u1] _ _ _ _
  refine TL_mv 0 [(2, .pointer (some ⟨b1, 0, none⟩))] rfl fun rest => TL_nil <| T_ret ?_
  obtain rfl := inj1 H
  intro w hw
  change RetQ _ _ _ _ _ _ _ .ret _ w
  refine Ret_cN (e := eZ) (z := t1) 2 0 hw rfl (by exact rfl) ty25 fun r_1 hw hr_1 => ?_
  exact RetN (vs := [r_1]) r_1 Tryz.results34 (by exact ⟨hr_1, trivial⟩) rfl trivial hw (fun S w h => ⟨h.1, trivial⟩)
 replace H := if_f h1 H
 refine TL_mv 0 [(0, iv (a0)), (2, .pointer (some ⟨b1, 0, none⟩)), (4, .bool false)] rfl fun rest => TL_nil <| T_cond_false rfl <| T_skip <| T_seq <| T_region ?_
 refine TL_mv 1 [(2, .pointer (some ⟨b1, 0, none⟩)), (10, iv (a0))] rfl fun rest => ?_
 obtain ⟨m3, hm3, H⟩ := nm_s H
 refine TL_val rfl rfl (r_conv (c := ((m3 : Nat) : Int)) Tryz.underlying3 Tryz.underlying102 rfl (wu_x hm3 (wrap_uns _))) <| TL_step rfl rfl (oe_lit (e := eU) (zs := [m3]) Tryz.underlying23 ty102 (by decide) rfl (by decide) (vs := [(0, uv m3)]) rfl (fun S w h => (by refine fill_eq eU ?_; exact ⟨fV_sz (S := S) (w := w) (u64_fV (eq_u hm3 (uns_r _))), trivial⟩)) (fun S w h => (elems_one (u64_fV (eq_u hm3 (uns_r _)))))) fun u3 _ => ?_
 obtain ⟨t2, he2, H⟩ := bd_s H
 refine TL_step rfl rfl (oe_call (by kernel_rfl) (c_zint_made fu false [m3] u3 t2 he2) rfl (fun S w h => ⟨h.1, trivial⟩)) fun u4 _ => TL_og rfl rfl (og_store' (f := eZ) (y' := t2) (z2 := t2) 0 rfl rfl rfl (Sub.self eZ ((false, []))) ty25 (fun S w h => h.1) rfl) fun _ _ => ?_
 show TL _ _ _ _ [mB (ERep.c eZ) 25 b1 (t2)] [fV eZ (t2) u4, fV (eS eU) ([m3]) u3] _ _ _ _
 refine TL_mv 0 [(2, .pointer (some ⟨b1, 0, none⟩))] rfl fun rest => TL_nil <| T_ret ?_
 obtain rfl := inj1 H
 intro w hw
 change RetQ _ _ _ _ _ _ _ .ret _ w
 refine Ret_cN (e := eZ) (z := t2) 2 0 hw rfl (by exact rfl) ty25 fun r_2 hw hr_2 => ?_
 exact RetN (vs := [r_2]) r_2 Tryz.results34 (by exact ⟨hr_2, trivial⟩) rfl trivial hw (fun S w h => ⟨h.1, trivial⟩)
set_option maxRecDepth 100000 in
set_option maxHeartbeats 1000000 in
theorem c_math_bits_Len64 (fu : Nat) (a0 : Nat) (qa0 : InU a0) (r0 : Int) (H : M_math_bits_Len64 fu a0 = some r0) : Fn Tryz.prog 181 [uv a0].toArray [] (fun _ : Unit => iv (r0)) (fun _ => []) (fun _ => InR r0) := by
 unfold M_math_bits_Len64 at H
 refine Fn_intro Tryz.func181 rfl rfl fun we Se rest => T_seq <| T_region <| TL_mv 1 [(0, uv a0), (2, iv 0)] rfl fun rest => TL_nil <| T_seq ?_
 obtain ⟨s1, hL, Hc⟩ := bd_s H
 refine T_X [(.n, JQ we Se (G := Nat × Int) (fun (d1, i1) => (⟨[], [], [(0, uv d1), (2, iv (i1))]⟩ : Inv)) (fun (d1, i1) => (d1, i1) = s1 ∧ InU d1 ∧ InR i1))] ?_ ⟨?_, trivial⟩
 ·replace H := hL
  refine T_seq <| T_region <| TL_mv 1 [(0, uv a0), (2, iv 0), (3, uv a0)] rfl fun rest => TL_geq rfl rfl rfl rfl (fun h1 => ?_) (fun h1 => ?_)
  ·replace H := if_t h1 H
   refine TL_mv 0 [(0, uv a0), (2, iv 0), (4, .bool true)] rfl fun rest => TL_nil <| T_cond_true rfl <| T_seq <| T_region <| TL_mv 1 [(5, uv a0)] rfl fun rest => ?_
   obtain ⟨m1, hm1, H⟩ := nm_s H
   refine TL_val rfl rfl (r_shr (c := ((m1 : Nat) : Int)) rfl rfl (by decide) (wu_y hm1 (n_shr_u (a := a0)))) <| TL_mv 1 [(0, uv m1)] rfl fun rest => TL_nil <| T_region <| TL_mv 1 [(0, uv m1), (2, iv 32)] rfl fun rest => TL_nil ?_
   exact JQ_mk (m1, 32) (And.intro (Option.some.inj H) (And.intro (udiv_r qa0 hm1) (show InR (32) by decide))) rfl (fun w h => St.weak h (fun S w h => trivial))
  replace H := if_f h1 H
  refine TL_mv 0 [(0, uv a0), (2, iv 0), (4, .bool false)] rfl fun rest => TL_nil <| T_cond_false rfl <| T_skip ?_
  exact JQ_mk (a0, 0) (And.intro (Option.some.inj H) (And.intro qa0 (show InR (0) by decide))) rfl (fun w h => St.weak h (fun S w h => trivial))
 refine JQ_el' ?_
 rintro ⟨d1, i1⟩ ⟨hs, hr1, hr2⟩ rest
 subst hs
 replace H := Hc
 clear hL
 refine JG_to (ms' := []) (Γ' := []) (live' := [(0, uv d1), (2, iv (i1))]) rfl <| T_seq ?_
 obtain ⟨s2, hL, Hc⟩ := bd_s H
 refine T_X [(.n, JQ we Se (G := Nat × Int) (fun (d2, i2) => (⟨[], [], [(0, uv d2), (2, iv (i2))]⟩ : Inv)) (fun (d2, i2) => (d2, i2) = s2 ∧ InU d2 ∧ InR i2))] ?_ ⟨?_, trivial⟩
 ·replace H := hL
  refine T_seq <| T_region <| TL_mv 1 [(0, uv d1), (2, iv (i1)), (7, uv d1)] rfl fun rest => TL_geq rfl rfl rfl rfl (fun h2 => ?_) (fun h2 => ?_)
  ·replace H := if_t h2 H
   refine TL_mv 0 [(0, uv d1), (2, iv (i1)), (8, .bool true)] rfl fun rest => TL_nil <| T_cond_true rfl <| T_seq <| T_region <| TL_mv 1 [(2, iv (i1)), (9, uv d1)] rfl fun rest => ?_
   obtain ⟨m2, hm2, H⟩ := nm_s H
   refine TL_val rfl rfl (r_shr (c := ((m2 : Nat) : Int)) rfl rfl (by decide) (wu_y hm2 (n_shr_u (a := d1)))) <| TL_mv 1 [(0, uv m2), (2, iv (i1))] rfl fun rest => TL_nil <| T_region <| TL_mv 1 [(0, uv m2), (11, iv (i1))] rfl fun rest => ?_
   obtain ⟨x1, hx1, hrx1, H⟩ := ck64_s H
   refine TL_val rfl rfl (r_add (c := x1) rfl rfl (w_x hx1 hrx1)) <| TL_mv 1 [(0, uv m2), (2, iv (x1))] rfl fun rest => TL_nil ?_
   exact JQ_mk (m2, x1) (And.intro (Option.some.inj H) (And.intro (udiv_r hr1 hm2) hrx1)) rfl (fun w h => St.weak h (fun S w h => trivial))
  replace H := if_f h2 H
  refine TL_mv 0 [(0, uv d1), (2, iv (i1)), (8, .bool false)] rfl fun rest => TL_nil <| T_cond_false rfl <| T_skip ?_
  exact JQ_mk (d1, i1) (And.intro (Option.some.inj H) (And.intro hr1 hr2)) rfl (fun w h => St.weak h (fun S w h => trivial))
 refine JQ_el' ?_
 rintro ⟨d2, i2⟩ ⟨hs, hr3, hr4⟩ rest
 subst hs
 replace H := Hc
 clear hL
 refine JG_to (ms' := []) (Γ' := []) (live' := [(0, uv d2), (2, iv (i2))]) rfl <| T_seq <| T_seq <| T_region <| TL_mv 1 [(0, uv d2), (2, iv (i2)), (13, uv d2)] rfl fun rest => TL_geq rfl rfl rfl rfl (fun h3 => ?_) (fun h3 => ?_)
 ·replace H := if_t h3 H
  refine TL_mv 0 [(0, uv d2), (2, iv (i2)), (14, .bool true)] rfl fun rest => TL_nil <| T_cond_true rfl <| T_seq <| T_region <| TL_mv 1 [(2, iv (i2)), (15, uv d2)] rfl fun rest => ?_
  obtain ⟨m3, hm3, H⟩ := nm_s H
  refine TL_val rfl rfl (r_shr (c := ((m3 : Nat) : Int)) rfl rfl (by decide) (wu_y hm3 (n_shr_u (a := d2)))) <| TL_mv 1 [(0, uv m3), (2, iv (i2))] rfl fun rest => TL_nil <| T_region <| TL_mv 1 [(0, uv m3), (17, iv (i2))] rfl fun rest => ?_
  obtain ⟨x2, hx2, hrx2, H⟩ := ck64_s H
  refine TL_val rfl rfl (r_add (c := x2) rfl rfl (w_x hx2 hrx2)) <| TL_mv 1 [(0, uv m3), (2, iv (x2))] rfl fun rest => TL_nil <| T_seq <| T_region <| TL_mv 2 [(19, iv (x2)), (20, uv m3)] rfl fun rest => ?_
  obtain ⟨m4, hm4, H⟩ := nm_s H
  refine TL_val rfl rfl (r_conv (c := ((m4 : Nat) : Int)) Tryz.underlying102 Tryz.underlying5 rfl (wu_x hm4 (wu8 _))) ?_
  obtain ⟨m5, hm5, H⟩ := nm_s H
  refine TL_val rfl rfl (r_len8 (z := m5) Tryz.underlying9 rfl (by kernel_rfl) rfl (mod8_r hm4) hm5) <| TL_val rfl rfl (r_conv (c := ((m5 : Nat) : Int)) Tryz.underlying5 Tryz.underlying3 rfl (w64 (b_r (bitLen8_r (mod8_r hm4) hm5)))) ?_
  obtain ⟨x3, hx3, hrx3, H⟩ := ck64_s H
  refine TL_val rfl rfl (r_add (c := x3) rfl rfl (w_x hx3 hrx3)) <| TL_mv 1 [(2, iv (x3))] rfl fun rest => TL_nil <| T_ret ?_
  obtain rfl := inj1 H
  exact Ret1 () Tryz.results181 rfl hrx3 (fun S w h => trivial)
 replace H := if_f h3 H
 refine TL_mv 0 [(0, uv d2), (2, iv (i2)), (14, .bool false)] rfl fun rest => TL_nil <| T_cond_false rfl <| T_skip <| T_seq <| T_region ?_
 refine TL_mv 2 [(19, iv (i2)), (20, uv d2)] rfl fun rest => ?_
 obtain ⟨m6, hm6, H⟩ := nm_s H
 refine TL_val rfl rfl (r_conv (c := ((m6 : Nat) : Int)) Tryz.underlying102 Tryz.underlying5 rfl (wu_x hm6 (wu8 _))) ?_
 obtain ⟨m7, hm7, H⟩ := nm_s H
 refine TL_val rfl rfl (r_len8 (z := m7) Tryz.underlying9 rfl (by kernel_rfl) rfl (mod8_r hm6) hm7) <| TL_val rfl rfl (r_conv (c := ((m7 : Nat) : Int)) Tryz.underlying5 Tryz.underlying3 rfl (w64 (b_r (bitLen8_r (mod8_r hm6) hm7)))) ?_
 obtain ⟨x4, hx4, hrx4, H⟩ := ck64_s H
 refine TL_val rfl rfl (r_add (c := x4) rfl rfl (w_x hx4 hrx4)) <| TL_mv 1 [(2, iv (x4))] rfl fun rest => TL_nil <| T_ret ?_
 obtain rfl := inj1 H
 exact Ret1 () Tryz.results181 rfl hrx4 (fun S w h => trivial)
set_option maxRecDepth 100000 in
set_option maxHeartbeats 1000000 in
theorem c_nat_Bits (fu : Nat) (a0 : List Nat) (va0 : Value) (r0 : Int) (H : M_nat_Bits fu a0 = some r0) : Fn Tryz.prog 123 [va0].toArray [fV (eS eU) (a0) va0] (fun _ : Unit => iv (r0)) (fun _ => []) (fun _ => InR r0) := by
 unfold M_nat_Bits at H
 refine Fn_intro Tryz.func123 rfl rfl fun we Se rest => T_seq <| T_region <| TL_mv 1 [(0, va0)] rfl fun rest => TL_nil <| T_seq ?_
 refine T_region <| TL_mv 1 [(3, va0)] rfl fun rest => ?_
 obtain ⟨t1, he1, H⟩ := bd_s H
 refine TL_step rfl rfl (oe_call (by kernel_rfl) (c_nat_plain fu a0 va0 t1 he1) rfl (fun S w h => ⟨h.1, trivial⟩)) fun u1 _ => TL_mv 1 [(0, u1)] rfl fun rest => TL_nil <| T_seq <| T_seq <| T_region ?_
 refine TL_mv 1 [(0, u1), (5, u1)] rfl fun rest => TL_step rfl rfl (oe_len (e := eU) (xs := t1) Tryz.underlying23 rfl (fun S w h => h.1)) fun _ hl1 => TL_eql rfl rfl rfl rfl (fun h1 => ?_) (fun h1 => ?_)
 ·replace H := if_t h1 H
  refine TL_mv 0 [(0, u1), (7, .bool true)] rfl fun rest => TL_nil <| T_cond_true rfl <| T_seq <| T_region <| TL_mv 1 [(2, iv 0)] rfl fun rest => ?_
  refine TL_nil <| T_ret ?_
  obtain rfl := inj1 H
  exact Ret1 () Tryz.results123 rfl (show InR (0) by decide) (fun S w h => trivial)
 replace H := if_f h1 H
 refine TL_mv 0 [(0, u1), (7, .bool false)] rfl fun rest => TL_nil <| T_cond_false rfl <| T_skip <| T_seq <| T_region ?_
 refine TL_mv 1 [(0, u1), (8, u1)] rfl fun rest => TL_step rfl rfl (oe_len (e := eU) (xs := t1) Tryz.underlying23 rfl (fun S w h => h.1)) fun _ hl2 => ?_
 obtain ⟨x1, hx1, hrx1, H⟩ := ck64_s H
 refine TL_val rfl rfl (r_sub (c := x1) rfl rfl (w_x hx1 hrx1)) ?_
 obtain ⟨x2, hx2, hrx2, H⟩ := ck64_s H
 refine TL_val rfl rfl (r_mul (c := x2) rfl rfl (w_x hx2 hrx2)) <| TL_mv 2 [(11, iv (x2)), (12, u1), (13, u1)] rfl fun rest => TL_step rfl rfl (oe_len (e := eU) (xs := t1) Tryz.underlying23 rfl (fun S w h => h.1)) fun _ hl3 => ?_
 obtain ⟨x3, hx3, hrx3, H⟩ := ck64_s H
 refine TL_val rfl rfl (r_sub (c := x3) rfl rfl (w_x hx3 hrx3)) ?_
 obtain ⟨j1, hj1, hlj1, H⟩ := ckI_s H
 obtain ⟨y1, hy1, H⟩ := nm_s H
 refine TL_step rfl rfl (oe_index (e := eU) (xs := t1) (k := j1) (y := y1) rfl (vi hj1) Tryz.underlying23 ty102 (getE (z := 0) hlj1 hy1) (fun S w h => h.1)) fun p1 _ => TL_step rfl rfl (oe_load_u64 (y := y1) rfl ty102 (fun S w h => h.1)) fun _ hv1 => ?_
 obtain ⟨x4, he2, H⟩ := bd_s H
 refine TL_step rfl rfl (oe_call (by kernel_rfl) (c_math_bits_Len64 fu y1 hv1 x4 he2) rfl (fun S w h => trivial)) fun _ hk1 => ?_
 obtain ⟨x5, hx5, hrx5, H⟩ := ck64_s H
 refine TL_val rfl rfl (r_add (c := x5) rfl rfl (w_x hx5 hrx5)) <| TL_mv 1 [(2, iv (x5))] rfl fun rest => TL_nil <| T_ret ?_
 obtain rfl := inj1 H
 exact Ret1 () Tryz.results123 rfl hrx5 (fun S w h => trivial)
set_option maxRecDepth 100000 in
set_option maxHeartbeats 1000000 in
theorem c_nat_at (fu : Nat) (a0 : List Nat) (va0 : Value) (a1 : Int) (qa1 : InR a1) (r0 : Nat) (H : M_nat_at fu a0 a1 = some r0) : Fn Tryz.prog 213 [va0, iv a1].toArray [fV (eS eU) (a0) va0] (fun _ : Unit => uv r0) (fun _ => []) (fun _ => InU r0) := by
 unfold M_nat_at at H
 refine Fn_intro Tryz.func213 rfl rfl fun we Se rest => T_seq <| T_region <| TL_mv 1 [(0, va0), (1, iv (a1))] rfl fun rest => TL_nil <| T_seq ?_
 refine T_seq <| T_region <| TL_mv 2 [(0, va0), (1, iv (a1)), (5, iv (a1)), (6, va0)] rfl fun rest => TL_step rfl rfl (oe_len (e := eU) (xs := a0) Tryz.underlying23 rfl (fun S w h => h.1)) fun _ hl1 => TL_lss rfl rfl rfl rfl (fun h1 => ?_) (fun h1 => ?_)
 ·replace H := if_t h1 H
  refine TL_mv 0 [(0, va0), (1, iv (a1)), (8, .bool true)] rfl fun rest => TL_nil <| T_cond_true rfl <| T_seq <| T_region <| TL_mv 2 [(9, va0), (10, iv (a1))] rfl fun rest => ?_
  obtain ⟨j1, hj1, hlj1, H⟩ := ckI_s H
  obtain ⟨y1, hy1, H⟩ := nm_s H
  refine TL_step rfl rfl (oe_index (e := eU) (xs := a0) (k := j1) (y := y1) rfl (vi hj1) Tryz.underlying23 ty102 (getE (z := 0) hlj1 hy1) (fun S w h => h.1)) fun p1 _ => TL_step rfl rfl (oe_load_u64 (y := y1) rfl ty102 (fun S w h => h.1)) fun _ hv1 => TL_mv 1 [(4, uv y1)] rfl fun rest => TL_nil <| T_ret ?_
  obtain rfl := inj1 H
  exact Ret1 () Tryz.results213 rfl hv1 (fun S w h => trivial)
 replace H := if_f h1 H
 refine TL_mv 0 [(0, va0), (1, iv (a1)), (8, .bool false)] rfl fun rest => TL_nil <| T_cond_false rfl <| T_skip <| T_seq <| T_region ?_
 refine TL_mv 1 [(4, .int .u64 0)] rfl fun rest => TL_nil <| T_ret ?_
 obtain rfl := inj1 H
 exact Ret1 () Tryz.results213 rfl (show InU 0 by decide) (fun S w h => trivial)
end Go.Proofs.YtjnjfinbdfolkaaGreat
end

