/- What a proof needs: rules of walking, mirrors of functions and their plain laws. No condition. -/
import Derived.Test.YtjnjfinbdfolkaaGreatHl1
section
set_option linter.unusedVariables false
set_option linter.unusedSimpArgs false
namespace Go.Proofs.YtjnjfinbdfolkaaGreat
def nv : List Nat → Nat
  | [] => 0
  | x :: r => x + 18446744073709551616 * nv r
def digs : Nat → Nat → List Nat
  | 0, _ => []
  | k + 1, n => n % 18446744073709551616 :: digs k (n / 18446744073709551616)
def toLf : Nat → Nat → List Nat
  | 0, _ => []
  | f + 1, n => if n = 0 then [] else n % 18446744073709551616 :: toLf f (n / 18446744073709551616)
def toL (n : Nat) : List Nat := toLf n n
def trimL : List Nat → List Nat
  | [] => []
  | x :: r => match trimL r with
    | [] => if x = 0 then [] else [x]
    | y :: s => x :: y :: s
theorem Limbs.nil : Limbs [] := fun x hx => absurd hx List.not_mem_nil
theorem Limbs.cons {x : Nat} {r : List Nat} (h : x < 18446744073709551616) (hr : Limbs r) : Limbs (x :: r) := fun y hy => by
  rcases List.mem_cons.1 hy with rfl | hy
  · exact h
  · exact hr y hy
theorem Limbs.head {x : Nat} {r : List Nat} (h : Limbs (x :: r)) : x < 18446744073709551616 := h x (List.mem_cons_self ..)
theorem Limbs.tail {x : Nat} {r : List Nat} (h : Limbs (x :: r)) : Limbs r := fun y hy => h y (List.mem_cons_of_mem _ hy)
theorem Limbs.append {a b : List Nat} (ha : Limbs a) (hb : Limbs b) : Limbs (a ++ b) := fun x hx => by
  rcases List.mem_append.1 hx with h | h
  · exact ha x h
  · exact hb x h
theorem Limbs.take {a : List Nat} (h : Limbs a) (k : Nat) : Limbs (a.take k) := fun x hx => h x (List.mem_of_mem_take hx)
theorem Limbs.drop {a : List Nat} (h : Limbs a) (k : Nat) : Limbs (a.drop k) := fun x hx => h x (List.mem_of_mem_drop hx)
theorem Limbs.getD {a : List Nat} (h : Limbs a) (k : Nat) : a.getD k 0 < 18446744073709551616 := by
  rw [List.getD_eq_getElem?_getD]
  by_cases hk : k < a.length
  · rw [List.getElem?_eq_getElem hk]; exact h _ (List.getElem_mem hk)
  · rw [List.getElem?_eq_none (by omega)]; exact Nat.zero_lt_succ _
theorem Limbs.replicate (k : Nat) : Limbs (List.replicate k 0) := fun x hx => by rw [List.eq_of_mem_replicate hx]; exact Nat.zero_lt_succ _
theorem nv_nil : nv [] = 0 := rfl
theorem nv_cons (x : Nat) (r : List Nat) : nv (x :: r) = x + 18446744073709551616 * nv r := rfl
theorem nv_append : ∀ (a b : List Nat), nv (a ++ b) = nv a + 18446744073709551616 ^ a.length * nv b
  | [], b => by simp [nv]
  | x :: a, b => by
    rw [List.cons_append, nv_cons, nv_append a b, nv_cons, List.length_cons, Nat.pow_succ, Nat.mul_add]
    rw [Nat.mul_comm (18446744073709551616 ^ a.length) 18446744073709551616, Nat.mul_assoc, Nat.add_assoc]
theorem nv_replicate : ∀ k, nv (List.replicate k 0) = 0
  | 0 => rfl
  | k + 1 => by rw [List.replicate_succ, nv_cons, nv_replicate k]
theorem nv_lt : ∀ {l : List Nat}, Limbs l → nv l < 18446744073709551616 ^ l.length
  | [], _ => by simp [nv]
  | x :: r, h => by
    have h1 := h.head
    have h2 := nv_lt h.tail
    rw [nv_cons, List.length_cons, Nat.pow_succ]
    omega
theorem nv_snoc (l : List Nat) (x : Nat) : nv (l ++ [x]) = nv l + 18446744073709551616 ^ l.length * x := by
  rw [nv_append, nv_cons, nv_nil]; simp
theorem digs_length : ∀ k n, (digs k n).length = k
  | 0, _ => rfl
  | k + 1, n => by rw [digs, List.length_cons, digs_length]
theorem digs_limbs : ∀ k n, Limbs (digs k n)
  | 0, _ => Limbs.nil
  | k + 1, n => Limbs.cons (Nat.mod_lt _ (by decide)) (digs_limbs k _)
theorem nv_digs : ∀ k n, nv (digs k n) = n % 18446744073709551616 ^ k
  | 0, n => by simp [digs, nv, Nat.mod_one]
  | k + 1, n => by
    rw [digs, nv_cons, nv_digs k, Nat.pow_succ, Nat.mul_comm (18446744073709551616 ^ k), Nat.mod_mul]
theorem digs_nv : ∀ {l : List Nat}, Limbs l → digs l.length (nv l) = l
  | [], _ => rfl
  | x :: r, h => by
    have h1 := h.head
    rw [List.length_cons, digs, nv_cons, Nat.add_mul_mod_self_left, Nat.mod_eq_of_lt h1, Nat.add_mul_div_left _ _ (by decide), Nat.div_eq_of_lt h1, Nat.zero_add, digs_nv h.tail]
theorem limbs_ext {a b : List Nat} (ha : Limbs a) (hb : Limbs b) (hl : a.length = b.length) (h : nv a = nv b) : a = b := by
  rw [← digs_nv ha, ← digs_nv hb, hl, h]
theorem digs_zero : ∀ k, digs k 0 = List.replicate k 0
  | 0 => rfl
  | k + 1 => by rw [digs, Nat.zero_mod, Nat.zero_div, digs_zero k, List.replicate_succ]
theorem digs_snoc : ∀ k n, digs (k + 1) n = digs k n ++ [n / 18446744073709551616 ^ k % 18446744073709551616]
  | 0, n => by simp [digs]
  | k + 1, n => by
    rw [digs, digs_snoc k, digs, List.cons_append, Nat.div_div_eq_div_mul, ← Nat.pow_succ']
theorem toLf_limbs : ∀ f n, Limbs (toLf f n)
  | 0, _ => Limbs.nil
  | f + 1, n => by
    rw [toLf]; split
    · exact Limbs.nil
    · exact Limbs.cons (Nat.mod_lt _ (by decide)) (toLf_limbs f _)
theorem toL_limbs (n : Nat) : Limbs (toL n) := toLf_limbs n n
theorem nv_toLf : ∀ f n, n ≤ f → nv (toLf f n) = n
  | 0, n, h => by rw [toLf, nv_nil]; omega
  | f + 1, n, h => by
    rw [toLf]; split
    · rename_i h0; rw [nv_nil, h0]
    · rename_i h0
      have hlt : n / 18446744073709551616 ≤ f := by
        have := Nat.div_lt_self (n := n) (k := 18446744073709551616) (by omega) (by decide); omega
      rw [nv_cons, nv_toLf f _ hlt, Nat.mod_add_div]
theorem nv_toL (n : Nat) : nv (toL n) = n := nv_toLf n n (Nat.le_refl _)
theorem toLf_eq : ∀ f f' n, n ≤ f → n ≤ f' → toLf f n = toLf f' n
  | 0, f', n, h, h' => by
    have : n = 0 := by omega
    subst this
    cases f' <;> simp [toLf]
  | f + 1, 0, n, h, h' => by
    have : n = 0 := by omega
    subst this
    simp [toLf]
  | f + 1, f' + 1, n, h, h' => by
    rw [toLf, toLf]; split
    · rfl
    · rename_i h0
      have := Nat.div_lt_self (n := n) (k := 18446744073709551616) (by omega) (by decide)
      rw [toLf_eq f f' _ (by omega) (by omega)]
theorem toL_zero : toL 0 = [] := rfl
theorem toL_pos {n : Nat} (h : 0 < n) : toL n = n % 18446744073709551616 :: toL (n / 18446744073709551616) := by
  have e : toL n = toLf ((n - 1) + 1) n := by unfold toL; congr 1; omega
  have := Nat.div_lt_self (n := n) (k := 18446744073709551616) h (by decide)
  rw [e, toLf, if_neg (by omega)]
  congr 1
  exact toLf_eq _ _ _ (by omega) (by omega)
theorem toL_small {n : Nat} (h0 : 0 < n) (h : n < 18446744073709551616) : toL n = [n] := by
  rw [toL_pos h0, Nat.mod_eq_of_lt h, Nat.div_eq_of_lt h, toL_zero]
theorem toL_nil {n : Nat} : toL n = [] ↔ n = 0 := by
  constructor
  · intro h; rw [← nv_toL n, h]; rfl
  · rintro rfl; rfl
theorem toL_len_pos {n : Nat} (h : 0 < n) : 0 < (toL n).length := by rw [toL_pos h, List.length_cons]; omega
theorem toL_length : ∀ (k n : Nat), (toL n).length ≤ k ↔ n < 18446744073709551616 ^ k
  | 0, n => by
    rw [Nat.le_zero, List.length_eq_zero_iff, toL_nil]; simp; 
  | k + 1, n => by
    by_cases h : n = 0
    · subst h; simp [toL_zero]; exact Nat.pow_pos (by decide)
    · rw [toL_pos (by omega), List.length_cons, Nat.add_le_add_iff_right, toL_length k, Nat.div_lt_iff_lt_mul (by decide), Nat.pow_succ]
theorem toL_last {n : Nat} (h : 0 < n) : (toL n).getD ((toL n).length - 1) 0 ≠ 0 := by
  intro h0
  have hp := toL_len_pos h
  have e := digs_nv (toL_limbs n)
  rw [nv_toL] at e
  obtain ⟨k, hk⟩ : ∃ k, (toL n).length = k + 1 := ⟨(toL n).length - 1, by omega⟩
  have h1 := (toL_length k n).2
  rw [hk, digs_snoc] at e
  rw [← e] at h0
  rw [show (digs k n ++ [n / 18446744073709551616 ^ k % 18446744073709551616]).length - 1 = (digs k n).length by simp] at h0
  simp at h0
  have h2 : n < 18446744073709551616 ^ (k + 1) := (toL_length (k + 1) n).1 (by omega)
  have h3 : n / 18446744073709551616 ^ k < 18446744073709551616 := by rw [Nat.div_lt_iff_lt_mul (Nat.pow_pos (by decide))]; rwa [Nat.pow_succ, Nat.mul_comm] at h2
  rw [Nat.mod_eq_of_lt h3] at h0
  have h4 : n < 18446744073709551616 ^ k := by
    rcases Nat.div_eq_zero_iff.1 h0 with h | h
    · have := Nat.pow_pos (n := k) (show 0 < 18446744073709551616 by decide); omega
    · exact h
  have := h1 h4
  omega
theorem trimL_of_last : ∀ (l : List Nat) (k : Nat), k + 1 = l.length → l.getD k 0 ≠ 0 → trimL l = l
  | [], _, h, _ => by simp at h
  | [x], 0, _, h => by simp at h; simp [trimL, h]
  | [x], k + 1, h, _ => by simp at h
  | x :: y :: r, 0, h, _ => by simp at h
  | x :: y :: r, k + 1, h, h0 => by
    have := trimL_of_last (y :: r) k (by simpa using h) (by simpa using h0)
    simp only [trimL] at this ⊢
    rw [this]
theorem trimL_eq : ∀ {l : List Nat}, Limbs l → trimL l = toL (nv l)
  | [], _ => rfl
  | x :: r, h => by
    have ih := trimL_eq h.tail
    have hx := h.head
    rw [trimL, ih, nv_cons]
    by_cases hr : nv r = 0
    · rw [hr, toL_zero]
      by_cases h0 : x = 0
      · simp [h0, toL_zero]
      · simp only [h0, if_false, Nat.mul_zero, Nat.add_zero]; rw [toL_small (by omega) hx]
    · have e1 := toL_pos (n := nv r) (by omega)
      have e2 := toL_pos (n := x + 18446744073709551616 * nv r) (by omega)
      rw [Nat.add_mul_mod_self_left, Nat.mod_eq_of_lt hx, Nat.add_mul_div_left _ _ (by decide), Nat.div_eq_of_lt hx, Nat.zero_add] at e2
      rw [e2, e1]
theorem toL_of_last {l : List Nat} (hl : Limbs l) (h : l = [] ∨ l.getD (l.length - 1) 0 ≠ 0) : toL (nv l) = l := by
  rw [← trimL_eq hl]
  rcases h with rfl | h
  · rfl
  · cases hn : l.length with
    | zero => rw [List.eq_nil_of_length_eq_zero hn]; rfl
    | succ k => exact trimL_of_last l k hn.symm (by rw [hn] at h; exact h)
theorem nv_take {l : List Nat} (hl : Limbs l) (k : Nat) : nv (l.take k) = nv l % 18446744073709551616 ^ k := by
  by_cases hk : k ≤ l.length
  · have e := nv_append (l.take k) (l.drop k)
    rw [List.take_append_drop, List.length_take, Nat.min_eq_left hk] at e
    have := nv_lt (hl.take k)
    rw [List.length_take, Nat.min_eq_left hk] at this
    rw [e, Nat.add_mul_mod_self_left, Nat.mod_eq_of_lt this]
  · rw [List.take_of_length_le (by omega), Nat.mod_eq_of_lt]
    exact Nat.lt_of_lt_of_le (nv_lt hl) (Nat.pow_le_pow_right (by decide) (by omega))
theorem nv_drop {l : List Nat} (hl : Limbs l) (k : Nat) : nv (l.drop k) = nv l / 18446744073709551616 ^ k := by
  by_cases hk : k ≤ l.length
  · have e := nv_append (l.take k) (l.drop k)
    rw [List.take_append_drop, List.length_take, Nat.min_eq_left hk] at e
    have := nv_lt (hl.take k)
    rw [List.length_take, Nat.min_eq_left hk] at this
    rw [e, Nat.add_mul_div_left _ _ (Nat.pow_pos (by decide)), Nat.div_eq_of_lt this, Nat.zero_add]
  · rw [List.drop_eq_nil_of_le (by omega), nv_nil, Nat.div_eq_of_lt]
    exact Nat.lt_of_lt_of_le (nv_lt hl) (Nat.pow_le_pow_right (by decide) (by omega))
theorem getD_nv : ∀ {l : List Nat}, Limbs l → ∀ k, l.getD k 0 = nv l / 18446744073709551616 ^ k % 18446744073709551616
  | [], _, k => by simp [nv]
  | x :: r, h, 0 => by
    rw [List.getD_cons_zero, nv_cons, Nat.pow_zero, Nat.div_one, Nat.add_mul_mod_self_left, Nat.mod_eq_of_lt h.head]
  | x :: r, h, k + 1 => by
    rw [List.getD_cons_succ, getD_nv h.tail k, nv_cons, Nat.pow_succ', ← Nat.div_div_eq_div_mul, Nat.add_mul_div_left _ _ (by decide), Nat.div_eq_of_lt h.head, Nat.zero_add]
theorem set_mid {α : Type} {l : List α} {k n : Nat} {z x : α} (hl : l.length = k) (hk : k < n) : (l ++ List.replicate (n - k) z).set k x = (l ++ [x]) ++ List.replicate (n - (k + 1)) z := by
  obtain ⟨m, hm⟩ : ∃ m, n - k = m + 1 := ⟨n - k - 1, by omega⟩
  rw [hm, List.replicate_succ, List.set_append_right _ _ (by omega), hl, Nat.sub_self, List.set_cons_zero, List.append_assoc]
  congr 2
  rw [show n - (k + 1) = m by omega]
  rfl
def carS (step : Nat → Nat → Nat × Nat) : Nat → List Nat × Nat
  | 0 => ([], 0)
  | k + 1 => ((carS step k).1 ++ [(step k (carS step k).2).1], (step k (carS step k).2).2)
theorem carS_length (step : Nat → Nat → Nat × Nat) : ∀ k, (carS step k).1.length = k
  | 0 => rfl
  | k + 1 => by rw [carS, List.length_append, carS_length step k]; rfl
def addS (a b : List Nat) (k c : Nat) : Nat × Nat := ((a.getD k 0 + b.getD k 0 + c) % 18446744073709551616, (a.getD k 0 + b.getD k 0 + c) / 18446744073709551616)
theorem addS_carry {a b : List Nat} {k c : Nat} (ha : Limbs a) (hb : Limbs b) (hc : c ≤ 1) : (addS a b k c).2 ≤ 1 := by
  have h1 := ha.getD k
  have h2 := hb.getD k
  simp only [addS]; omega
theorem nv_take_succ (l : List Nat) : ∀ k, nv (l.take (k + 1)) = nv (l.take k) + 18446744073709551616 ^ k * l.getD k 0 := by
  induction l with
  | nil => intro k; simp [nv]
  | cons x r ih =>
    intro k
    cases k with
    | zero => simp [nv]
    | succ k =>
      rw [List.take_succ_cons, nv_cons, ih k, List.take_succ_cons, nv_cons, List.getD_cons_succ, Nat.pow_succ, Nat.mul_add]
      rw [Nat.mul_comm (18446744073709551616 ^ k) 18446744073709551616, Nat.mul_assoc, Nat.add_assoc]
theorem addS_inv (a b : List Nat) : ∀ k, nv (carS (addS a b) k).1 + 18446744073709551616 ^ k * (carS (addS a b) k).2 = nv (a.take k) + nv (b.take k) ∧ Limbs (carS (addS a b) k).1
  | 0 => ⟨by simp [carS, nv], Limbs.nil⟩
  | k + 1 => by
    obtain ⟨ih, il⟩ := addS_inv a b k
    rw [carS, nv_take_succ, nv_take_succ, nv_snoc, carS_length]
    refine ⟨?_, il.append (Limbs.cons (Nat.mod_lt _ (by decide)) Limbs.nil)⟩
    generalize hc : (carS (addS a b) k).2 = c at *
    simp only [addS]
    have e := Nat.mod_add_div (a.getD k 0 + b.getD k 0 + c) 18446744073709551616
    generalize (a.getD k 0 + b.getD k 0 + c) % 18446744073709551616 = r at *
    generalize (a.getD k 0 + b.getD k 0 + c) / 18446744073709551616 = q at *
    rw [Nat.pow_succ]
    generalize 18446744073709551616 ^ k = p at *
    have e2 : p * r + p * 18446744073709551616 * q = p * (a.getD k 0) + p * (b.getD k 0) + p * c := by
      rw [Nat.mul_assoc, ← Nat.mul_add, e, Nat.mul_add, Nat.mul_add]
    omega
theorem addS_val {a b : List Nat} {n : Nat} (ha : a.length ≤ n) (hb : b.length ≤ n) : nv ((carS (addS a b) n).1 ++ [(carS (addS a b) n).2]) = nv a + nv b := by
  rw [nv_snoc, carS_length, (addS_inv a b n).1, List.take_of_length_le ha, List.take_of_length_le hb]
end Go.Proofs.YtjnjfinbdfolkaaGreat
end

section
set_option linter.unusedVariables false
set_option linter.unusedSimpArgs false
namespace Go.Proofs.YtjnjfinbdfolkaaGreat
theorem toL_len_lt {x y : Nat} (h : (toL x).length < (toL y).length) : x < y := by
  have h1 := (toL_length (toL x).length x).1 (Nat.le_refl _)
  have h2 : ¬ y < 18446744073709551616 ^ (toL x).length := fun h3 => by have := (toL_length _ y).2 h3; omega
  omega
theorem div_step (x B k : Nat) (hB : 0 < B) : x / B ^ k = B * (x / B ^ (k + 1)) + x / B ^ k % B := by
  have := Nat.div_add_mod (x / B ^ k) B
  rw [Nat.div_div_eq_div_mul, ← Nat.pow_succ] at this
  exact this.symm
theorem top_lt {x y k : Nat} (h : x / 18446744073709551616 ^ (k + 1) = y / 18446744073709551616 ^ (k + 1)) (hd : x / 18446744073709551616 ^ k % 18446744073709551616 < y / 18446744073709551616 ^ k % 18446744073709551616) : x < y := by
  have h1 := div_step x 18446744073709551616 k (by decide)
  have h2 := div_step y 18446744073709551616 k (by decide)
  refine Nat.lt_of_not_le fun h3 => ?_
  have h4 := Nat.div_le_div_right (c := 18446744073709551616 ^ k) h3
  omega
theorem top_eq {x y k : Nat} (h : x / 18446744073709551616 ^ (k + 1) = y / 18446744073709551616 ^ (k + 1)) (hd : x / 18446744073709551616 ^ k % 18446744073709551616 = y / 18446744073709551616 ^ k % 18446744073709551616) :
    x / 18446744073709551616 ^ k = y / 18446744073709551616 ^ k := by
  have h1 := div_step x 18446744073709551616 k (by decide)
  have h2 := div_step y 18446744073709551616 k (by decide)
  omega
theorem toL_getD (n k : Nat) : (toL n).getD k 0 = n / 18446744073709551616 ^ k % 18446744073709551616 := by rw [getD_nv (toL_limbs n), nv_toL]
theorem top_init {x y : Nat} (h : (toL x).length = (toL y).length) : x / 18446744073709551616 ^ (toL x).length = y / 18446744073709551616 ^ (toL x).length := by
  rw [Nat.div_eq_of_lt ((toL_length _ x).1 (Nat.le_refl _)), Nat.div_eq_of_lt ((toL_length _ y).1 (by omega))]
theorem toL_nv_le {l : List Nat} (h : Limbs l) : (toL (nv l)).length ≤ l.length := (toL_length _ _).2 (nv_lt h)
theorem cmp_step {x y m : Nat} (hm : 0 < m) (h : x / 18446744073709551616 ^ m = y / 18446744073709551616 ^ m) (hd : (toL x).getD (m - 1) 0 = (toL y).getD (m - 1) 0) : x / 18446744073709551616 ^ (m - 1) = y / 18446744073709551616 ^ (m - 1) := by
  rw [toL_getD, toL_getD] at hd
  exact top_eq (by rw [show m - 1 + 1 = m by omega]; exact h) hd
theorem cmp_len {x y : Nat} (h : (toL x).length ≠ (toL y).length) : cmpI ((toL x).length : Nat) ((toL y).length : Nat) = cmpI x y := by
  rcases Nat.lt_or_gt_of_ne h with h | h
  · have := toL_len_lt h; rw [cmpI_lt (by omega), cmpI_lt (by omega)]
  · have := toL_len_lt h; rw [cmpI_gt (by omega), cmpI_gt (by omega)]
theorem cmp_digit {x y m : Nat} (hm : 0 < m) (h : x / 18446744073709551616 ^ m = y / 18446744073709551616 ^ m) (hd : (toL x).getD (m - 1) 0 ≠ (toL y).getD (m - 1) 0) :
    cmpI ((toL x).getD (m - 1) 0 : Nat) ((toL y).getD (m - 1) 0 : Nat) = cmpI x y := by
  rw [show m = m - 1 + 1 by omega] at h
  rcases Nat.lt_or_gt_of_ne hd with hd | hd
  · have hd' := hd
    rw [toL_getD, toL_getD] at hd'
    have := top_lt h hd'
    rw [cmpI_lt (by omega), cmpI_lt (by omega)]
  · have hd' := hd
    rw [toL_getD, toL_getD] at hd'
    have := top_lt h.symm hd'
    rw [cmpI_gt (by omega), cmpI_gt (by omega)]
def subS (a b : List Nat) (k c : Nat) : Nat × Nat := ((a.getD k 0 + 18446744073709551616 - b.getD k 0 - c) % 18446744073709551616, if a.getD k 0 < b.getD k 0 + c then 1 else 0)
theorem subS_carry (a b : List Nat) (k c : Nat) : (subS a b k c).2 ≤ 1 := by
  simp only [subS]; split <;> omega
theorem subS_inv {a b : List Nat} (ha : Limbs a) (hb : Limbs b) : ∀ k, nv (carS (subS a b) k).1 + nv (b.take k) = nv (a.take k) + 18446744073709551616 ^ k * (carS (subS a b) k).2 ∧ Limbs (carS (subS a b) k).1 ∧ (carS (subS a b) k).2 ≤ 1
  | 0 => ⟨by simp [carS, nv], Limbs.nil, Nat.zero_le _⟩
  | k + 1 => by
    obtain ⟨ih, il, ic⟩ := subS_inv ha hb k
    rw [carS, nv_take_succ, nv_take_succ, nv_snoc, carS_length]
    refine ⟨?_, il.append (Limbs.cons (Nat.mod_lt _ (by decide)) Limbs.nil), subS_carry a b k _⟩
    generalize hc : (carS (subS a b) k).2 = c at *
    simp only [subS]
    have h1 := ha.getD k
    have h2 := hb.getD k
    generalize a.getD k 0 = x at *
    generalize b.getD k 0 = y at *
    rw [Nat.pow_succ]
    generalize 18446744073709551616 ^ k = p at *
    have e : (x + 18446744073709551616 - y - c) % 18446744073709551616 + y + c = x + 18446744073709551616 * (if x < y + c then 1 else 0) := by
      split <;> omega
    generalize (x + 18446744073709551616 - y - c) % 18446744073709551616 = r at *
    generalize (if x < y + c then 1 else 0 : Nat) = q at *
    have e2 : p * r + p * y + p * c = p * x + p * 18446744073709551616 * q := by
      rw [Nat.mul_assoc, ← Nat.mul_add, ← Nat.mul_add, e, Nat.mul_add]
    omega
theorem subS_val {a b : List Nat} {n : Nat} (ha : Limbs a) (hb : Limbs b) (hla : a.length ≤ n) (hlb : b.length ≤ n) :
    nv (carS (subS a b) n).1 + nv b = nv a + 18446744073709551616 ^ n * (carS (subS a b) n).2 ∧ Limbs (carS (subS a b) n).1 ∧ (carS (subS a b) n).2 ≤ 1 := by
  have := subS_inv ha hb n
  rwa [List.take_of_length_le hla, List.take_of_length_le hlb] at this
theorem subS_less {a b : List Nat} {n : Nat} (ha : Limbs a) (hb : Limbs b) (hla : a.length ≤ n) (hlb : b.length ≤ n) : 0 < (carS (subS a b) n).2 ↔ nv a < nv b := by
  obtain ⟨h1, h2, h3⟩ := subS_val ha hb hla hlb
  have h4 := nv_lt h2
  rw [carS_length] at h4
  constructor
  · intro h
    have : (carS (subS a b) n).2 = 1 := by omega
    rw [this, Nat.mul_one] at h1
    omega
  · intro h
    refine Nat.pos_of_ne_zero fun h0 => ?_
    rw [h0, Nat.mul_zero] at h1
    omega
theorem subS_diff {a b : List Nat} {n : Nat} (ha : Limbs a) (hb : Limbs b) (hla : a.length ≤ n) (hlb : b.length ≤ n) (h : ¬ nv a < nv b) : nv (carS (subS a b) n).1 = nv a - nv b := by
  obtain ⟨h1, h2, h3⟩ := subS_val ha hb hla hlb
  have : ¬ 0 < (carS (subS a b) n).2 := fun hp => h ((subS_less ha hb hla hlb).1 hp)
  have : (carS (subS a b) n).2 = 0 := by omega
  rw [this, Nat.mul_zero] at h1
  omega
def rowS (a : List Nat) (x : Nat) (k c : Nat) : Nat × Nat := ((a.getD k 0 * x + c) % 18446744073709551616, (a.getD k 0 * x + c) / 18446744073709551616)
theorem mul_lt_words {a x c : Nat} (ha : a < 18446744073709551616) (hx : x < 18446744073709551616) (hc : c < 18446744073709551616) : (a * x + c) / 18446744073709551616 < 18446744073709551616 := by
  have : a * x ≤ 18446744073709551615 * 18446744073709551615 := Nat.mul_le_mul (by omega) (by omega)
  omega
theorem rowS_carry {a : List Nat} {x k c : Nat} (ha : Limbs a) (hx : x < 18446744073709551616) (hc : c < 18446744073709551616) : (rowS a x k c).2 < 18446744073709551616 := mul_lt_words (ha.getD k) hx hc
theorem rowS_inv (a : List Nat) (x : Nat) : ∀ k, nv (carS (rowS a x) k).1 + 18446744073709551616 ^ k * (carS (rowS a x) k).2 = nv (a.take k) * x ∧ Limbs (carS (rowS a x) k).1
  | 0 => ⟨by simp [carS, nv], Limbs.nil⟩
  | k + 1 => by
    obtain ⟨ih, il⟩ := rowS_inv a x k
    rw [carS, nv_take_succ, nv_snoc, carS_length]
    refine ⟨?_, il.append (Limbs.cons (Nat.mod_lt _ (by decide)) Limbs.nil)⟩
    generalize hc : (carS (rowS a x) k).2 = c at *
    simp only [rowS]
    have e := Nat.mod_add_div (a.getD k 0 * x + c) 18446744073709551616
    generalize (a.getD k 0 * x + c) % 18446744073709551616 = r at *
    generalize (a.getD k 0 * x + c) / 18446744073709551616 = q at *
    rw [Nat.pow_succ]
    generalize 18446744073709551616 ^ k = p at *
    have e2 : p * r + p * 18446744073709551616 * q = p * (a.getD k 0 * x) + p * c := by
      rw [Nat.mul_assoc, ← Nat.mul_add, e, Nat.mul_add]
    rw [Nat.add_mul, Nat.mul_assoc p (a.getD k 0) x]
    omega
theorem rowS_row {a : List Nat} {x : Nat} (hc : (carS (rowS a x) a.length).2 < 18446744073709551616) : (carS (rowS a x) a.length).1 ++ [(carS (rowS a x) a.length).2] = digs (a.length + 1) (nv a * x) := by
  obtain ⟨h1, h2⟩ := rowS_inv a x a.length
  have hl : Limbs ((carS (rowS a x) a.length).1 ++ [(carS (rowS a x) a.length).2]) := h2.append (Limbs.cons hc Limbs.nil)
  have hn : nv ((carS (rowS a x) a.length).1 ++ [(carS (rowS a x) a.length).2]) = nv a * x := by rw [nv_snoc, carS_length, h1, List.take_of_length_le (Nat.le_refl _)]
  have := digs_nv hl
  rw [hn, List.length_append, carS_length] at this
  exact this.symm
theorem mul_lt_pow {a : List Nat} {x : Nat} (ha : Limbs a) (hx : x < 18446744073709551616) : nv a * x < 18446744073709551616 ^ (a.length + 1) := by
  have := nv_lt ha
  rw [Nat.pow_succ]
  calc nv a * x ≤ nv a * 18446744073709551616 := Nat.mul_le_mul_left _ (by omega)
    _ < _ := Nat.mul_lt_mul_of_pos_right this (by decide)
theorem nv_set : ∀ (o : List Nat) (j v : Nat), j < o.length → nv (o.set j v) + 18446744073709551616 ^ j * o.getD j 0 = nv o + 18446744073709551616 ^ j * v
  | [], j, v, h => by simp at h
  | x :: r, 0, v, h => by simp [nv]; omega
  | x :: r, j + 1, v, h => by
    have ih := nv_set r j v (by simpa using h)
    rw [List.set_cons_succ, nv_cons, nv_cons, List.getD_cons_succ, Nat.pow_succ, Nat.mul_comm (18446744073709551616 ^ j), Nat.mul_assoc, Nat.mul_assoc]
    omega
theorem Limbs.set {o : List Nat} (h : Limbs o) (j : Nat) {v : Nat} (hv : v < 18446744073709551616) : Limbs (o.set j v) := fun x hx => by
  rcases List.mem_or_eq_of_mem_set hx with h1 | h1
  · exact h x h1
  · rw [h1]; exact hv
theorem sum_step {o o0 r : List Nat} {j i c : Nat} (hj : j + i < o.length) (h : nv o + 18446744073709551616 ^ (j + i) * c = nv o0 + 18446744073709551616 ^ j * nv (r.take i)) :
    nv (o.set (j + i) ((o.getD (j + i) 0 + r.getD i 0 + c) % 18446744073709551616)) + 18446744073709551616 ^ (j + (i + 1)) * ((o.getD (j + i) 0 + r.getD i 0 + c) / 18446744073709551616) = nv o0 + 18446744073709551616 ^ j * nv (r.take (i + 1)) := by
  have h1 := nv_set o (j + i) ((o.getD (j + i) 0 + r.getD i 0 + c) % 18446744073709551616) hj
  rw [nv_take_succ, Nat.mul_add, ← Nat.mul_assoc, ← Nat.pow_add]
  have e := Nat.mod_add_div (o.getD (j + i) 0 + r.getD i 0 + c) 18446744073709551616
  rw [show j + (i + 1) = (j + i) + 1 by omega, Nat.pow_succ]
  generalize (o.getD (j + i) 0 + r.getD i 0 + c) % 18446744073709551616 = u at *
  generalize (o.getD (j + i) 0 + r.getD i 0 + c) / 18446744073709551616 = q at *
  generalize 18446744073709551616 ^ (j + i) = p at *
  have e2 : p * u + p * 18446744073709551616 * q = p * o.getD (j + i) 0 + p * r.getD i 0 + p * c := by
    rw [Nat.mul_assoc, ← Nat.mul_add, e, Nat.mul_add, Nat.mul_add]
  omega
theorem nv_le_of_all {a b : List Nat} {k : Nat} (ha : Limbs a) (hb : Limbs b) : nv a * nv (b.take k) < 18446744073709551616 ^ (a.length + k) := by
  have h1 := nv_lt ha
  have h2 := nv_lt (hb.take k)
  have h3 : 18446744073709551616 ^ (b.take k).length ≤ 18446744073709551616 ^ k := Nat.pow_le_pow_right (by decide) (by rw [List.length_take]; omega)
  rw [Nat.pow_add]
  exact Nat.mul_lt_mul'' h1 (by omega)
theorem sum_end {o o0 r : List Nat} {j c : Nat} (h : nv o + 18446744073709551616 ^ (j + r.length) * c = nv o0 + 18446744073709551616 ^ j * nv r) (hn : nv o0 + 18446744073709551616 ^ j * nv r < 18446744073709551616 ^ (j + r.length)) :
    c = 0 ∧ nv o = nv o0 + 18446744073709551616 ^ j * nv r := by
  have hc : c = 0 := by
    refine Nat.eq_zero_of_not_pos fun hp => ?_
    have : 18446744073709551616 ^ (j + r.length) * 1 ≤ 18446744073709551616 ^ (j + r.length) * c := Nat.mul_le_mul_left _ hp
    omega
  subst hc
  exact ⟨rfl, by rw [Nat.mul_zero, Nat.add_zero] at h; exact h⟩
theorem school_step {a b p o : List Nat} {k i c : Nat} (ha : Limbs a) (hb : Limbs b) (hi : ¬ i < a.length + 1) (hil : i ≤ a.length + 1) (ho : nv o = nv a * nv (b.take k))
    (hp : nv p + 18446744073709551616 ^ (k + i) * c = nv o + 18446744073709551616 ^ k * nv ((digs (a.length + 1) (nv a * b.getD k 0)).take i)) : nv p = nv a * nv (b.take (k + 1)) := by
  obtain rfl : i = a.length + 1 := by omega
  have hl := digs_length (a.length + 1) (nv a * b.getD k 0)
  rw [List.take_of_length_le (by omega)] at hp
  have hr : nv (digs (a.length + 1) (nv a * b.getD k 0)) = nv a * b.getD k 0 := by rw [nv_digs, Nat.mod_eq_of_lt (mul_lt_pow ha (hb.getD k))]
  have e : nv o + 18446744073709551616 ^ k * nv (digs (a.length + 1) (nv a * b.getD k 0)) = nv a * nv (b.take (k + 1)) := by
    rw [hr, ho, nv_take_succ, Nat.mul_add, Nat.mul_left_comm]
  have hlt : nv o + 18446744073709551616 ^ k * nv (digs (a.length + 1) (nv a * b.getD k 0)) < 18446744073709551616 ^ (k + (digs (a.length + 1) (nv a * b.getD k 0)).length) := by
    rw [e, hl, show k + (a.length + 1) = a.length + (k + 1) by omega]
    exact nv_le_of_all ha hb
  generalize digs (a.length + 1) (nv a * b.getD k 0) = r at *
  rw [← hl] at hp
  rw [(sum_end hp hlt).2, e]
theorem m32 {a b : Nat} (ha : a < 4294967296) (hb : b < 4294967296) : a * b ≤ 18446744065119617025 := Nat.mul_le_mul (show a ≤ 4294967295 by omega) (show b ≤ 4294967295 by omega)
theorem mul64_b {x y : Nat} (hx : x < 18446744073709551616) (hy : y < 18446744073709551616) : (x % 4294967296) * (y % 4294967296) ≤ 18446744065119617025 ∧ (x / 2 ^ 32) * (y % 4294967296) ≤ 18446744065119617025 ∧
    (x % 4294967296) * (y / 2 ^ 32) ≤ 18446744065119617025 ∧ (x / 2 ^ 32) * (y / 2 ^ 32) ≤ 18446744065119617025 :=
  ⟨m32 (by omega) (by omega), m32 (by omega) (by omega), m32 (by omega) (by omega), m32 (by omega) (by omega)⟩
theorem mul64_eq (x y : Nat) : x * y = 18446744073709551616 * ((x / 2 ^ 32) * (y / 2 ^ 32)) + 4294967296 * ((x / 2 ^ 32) * (y % 4294967296)) + 4294967296 * ((x % 4294967296) * (y / 2 ^ 32)) + (x % 4294967296) * (y % 4294967296) := by
  have h1 : x = 4294967296 * (x / 2 ^ 32) + x % 4294967296 := by omega
  have h2 : y = 4294967296 * (y / 2 ^ 32) + y % 4294967296 := by omega
  generalize x / 2 ^ 32 = x1 at *
  generalize y / 2 ^ 32 = y1 at *
  generalize x % 4294967296 = x0 at *
  generalize y % 4294967296 = y0 at *
  subst h1 h2
  rw [Nat.add_mul, Nat.mul_add, Nat.mul_add, Nat.mul_assoc, Nat.mul_assoc, Nat.mul_left_comm x1 4294967296 y1, Nat.mul_left_comm x0 4294967296 y1]
  omega
theorem toL_add_len {x y k : Nat} (hx : (toL x).length ≤ k) (hy : (toL y).length ≤ k) : (toL (x + y)).length ≤ k + 1 := by
  rw [toL_length] at *
  rw [Nat.pow_succ]; omega
theorem kara {x0 x1 y0 y1 P : Nat} : x0 * y0 + P * ((x0 + x1) * (y0 + y1) - x0 * y0 - x1 * y1) + P * P * (x1 * y1) = (x0 + P * x1) * (y0 + P * y1) := by
  have e : (x0 + x1) * (y0 + y1) - x0 * y0 - x1 * y1 = x0 * y1 + x1 * y0 := by
    rw [Nat.add_mul, Nat.mul_add, Nat.mul_add]; omega
  rw [e, Nat.add_mul, Nat.mul_add, Nat.mul_add, Nat.mul_add]
  have e1 : x0 * (P * y1) = P * (x0 * y1) := Nat.mul_left_comm ..
  have e2 : P * x1 * y0 = P * (x1 * y0) := Nat.mul_assoc ..
  have e3 : P * x1 * (P * y1) = P * P * (x1 * y1) := by rw [Nat.mul_assoc, Nat.mul_left_comm x1, ← Nat.mul_assoc]
  rw [e1, e2, e3]; omega
theorem kara_le (x0 x1 y0 y1 : Nat) : x0 * y0 ≤ (x0 + x1) * (y0 + y1) ∧ x1 * y1 ≤ (x0 + x1) * (y0 + y1) - x0 * y0 := by
  rw [Nat.add_mul, Nat.mul_add, Nat.mul_add]; omega
theorem take_min {l : List Nat} (h : Nat) : l.take (min h l.length) = l.take h := by
  rw [Nat.min_def]; split
  · rfl
  · rw [List.take_of_length_le (Nat.le_refl _), List.take_of_length_le (by omega)]
theorem drop_min {l : List Nat} (h : Nat) : l.drop (min h l.length) = l.drop h := by
  rw [Nat.min_def]; split
  · rfl
  · rw [List.drop_eq_nil_of_le (Nat.le_refl _), List.drop_eq_nil_of_le (by omega)]
theorem nv_moved (n : Nat) (l : List Nat) : nv (List.replicate n 0 ++ l) = 18446744073709551616 ^ n * nv l := by
  rw [nv_append, nv_replicate, List.length_replicate, Nat.zero_add]
theorem nv_halves {l : List Nat} (h : Nat) : nv (l.take h) + 18446744073709551616 ^ h * nv (l.drop h) = nv l := by
  by_cases hh : h ≤ l.length
  · have e := nv_append (l.take h) (l.drop h)
    rw [List.take_append_drop, List.length_take, Nat.min_eq_left hh] at e
    exact e.symm
  · rw [List.drop_eq_nil_of_le (by omega), List.take_of_length_le (by omega), nv_nil, Nat.mul_zero, Nat.add_zero]
theorem kara_nv {A B : List Nat} (h : Nat) : nv (A.take h) * nv (B.take h) + 18446744073709551616 ^ h * ((nv (A.take h) + nv (A.drop h)) * (nv (B.take h) + nv (B.drop h)) - nv (A.take h) * nv (B.take h) - nv (A.drop h) * nv (B.drop h)) +
    18446744073709551616 ^ (2 * h) * (nv (A.drop h) * nv (B.drop h)) = nv A * nv B := by
  have := @kara (nv (A.take h)) (nv (A.drop h)) (nv (B.take h)) (nv (B.drop h)) (18446744073709551616 ^ h)
  rw [nv_halves, nv_halves] at this
  rw [Nat.two_mul, Nat.pow_add]; exact this
theorem toL_mul_len {x y j k : Nat} (hx : (toL x).length ≤ j) (hy : (toL y).length ≤ k) : (toL (x * y)).length ≤ j + k := by
  rw [toL_length] at *
  rw [Nat.pow_add]
  exact Nat.mul_lt_mul'' hx hy
theorem mul_pow_len (q : Nat) {x k : Nat} (hx : (toL x).length ≤ k) : (toL (18446744073709551616 ^ q * x)).length ≤ q + k := by
  rw [toL_length] at *
  rw [Nat.pow_add]
  exact Nat.mul_lt_mul_of_pos_left hx (Nat.pow_pos (by decide))
theorem toL_mono {x y : Nat} (h : x ≤ y) : (toL x).length ≤ (toL y).length := by
  have := (toL_length (toL y).length y).1 (Nat.le_refl _)
  exact (toL_length _ x).2 (by omega)
theorem kara_toL (a b h : Nat) {x0 x1 y0 y1 : Nat} (hx0 : x0 = nv ((toL a).take h)) (hx1 : x1 = nv ((toL a).drop h)) (hy0 : y0 = nv ((toL b).take h)) (hy1 : y1 = nv ((toL b).drop h)) :
    x0 * y0 + 18446744073709551616 ^ h * ((x0 + x1) * (y0 + y1) - x0 * y0 - x1 * y1) + 18446744073709551616 ^ (2 * h) * (x1 * y1) = a * b := by
  subst hx0 hx1 hy0 hy1
  rw [kara_nv, nv_toL, nv_toL]
end Go.Proofs.YtjnjfinbdfolkaaGreat
end

section
set_option linter.unusedVariables false
set_option linter.unusedSimpArgs false
namespace Go.Proofs.YtjnjfinbdfolkaaGreat
inductive Ty
  | i
  | u
  | b
  | l (t : Ty)
  | p (s t : Ty)
  | a (k : Nat) (t : Ty)
def Ty.D : Ty → Type
  | .i => Int
  | .u => Nat
  | .b => Bool
  | .l t => List t.D
  | .p s t => s.D × t.D
  | .a _ t => List t.D
def Ty.rep : (t : Ty) → ERep t.D
  | .i => eI
  | .u => eU
  | .b => eBool
  | .l t => eS t.rep
  | .p s t => eP s.rep t.rep
  | .a k t => eA k t.rep
def Ty.z : (t : Ty) → t.D
  | .i => (0 : Int)
  | .u => (0 : Nat)
  | .b => false
  | .l t => ([] : List t.D)
  | .p s t => (s.z, t.z)
  | .a k t => List.replicate k t.z
def Ty.n : Ty → Nat
  | .p s t => s.n + t.n
  | .a k t => k * t.n
  | _ => 1
theorem Ty.n_rep : ∀ t : Ty, t.rep.n = t.n
  | .i => rfl
  | .u => rfl
  | .b => rfl
  | .l _ => rfl
  | .p s t => by show s.rep.n + t.rep.n = _; rw [Ty.n_rep s, Ty.n_rep t]; rfl
  | .a k t => by show k * t.rep.n = _; rw [Ty.n_rep t]; rfl
def Ty.same : (s t : Ty) → Option (PLift (s = t))
  | .i, .i => some ⟨rfl⟩
  | .u, .u => some ⟨rfl⟩
  | .b, .b => some ⟨rfl⟩
  | .l s, .l t => match Ty.same s t with
    | some ⟨h⟩ => some ⟨congrArg Ty.l h⟩
    | none => none
  | .p s t, .p s' t' => match Ty.same s s', Ty.same t t' with
    | some ⟨h⟩, some ⟨h'⟩ => some ⟨h ▸ h' ▸ rfl⟩
    | _, _ => none
  | .a k s, .a k' t => if hk : k = k' then (match Ty.same s t with
    | some ⟨h⟩ => some ⟨hk ▸ h ▸ rfl⟩
    | none => none) else none
  | _, _ => none
def Ty.cast {R : Type} (s t : Ty) (x : s.D) (k : t.D → Option R) : Option R := match Ty.same s t with
  | some ⟨h⟩ => k (h ▸ x)
  | none => none
def TsD : List Ty → Type
  | [] => Unit
  | t :: r => t.D × TsD r
def CsD : List Ty → Type
  | [] => Unit
  | [t] => t.D
  | t :: s :: r => t.D × CsD (s :: r)
structure Fl (α : Type) where
  off : Nat
  f : Ty
  get : α → f.D
  set : f.D → α → α
def Fl.self (t : Ty) : Fl t.D := ⟨0, t, id, fun y _ => y⟩
def Fl.comp {α : Type} (a : Fl α) (c : Fl a.f.D) : Fl α := ⟨a.off + c.off, c.f, fun z => c.get (a.get z), fun y z => a.set (c.set y (a.get z)) z⟩
def fld : (k : Nat) → (t : Ty) → (i : Nat) → Option (Fl t.D)
  | 0, _, _ => none
  | 1, t, i => bif Nat.beq i 0 then some (Fl.self t) else none
  | k + 2, .p s t, 0 => some ⟨0, s, fun z => z.1, fun y z => (y, z.2)⟩
  | k + 2, .p s t, i + 1 => match fld (k + 1) t i with
    | some f => some ⟨s.n + f.off, f.f, fun z => f.get z.2, fun y z => (z.1, f.set y z.2)⟩
    | none => none
  | _, _, _ => none
structure PD where
  t : Ty
  x : t.D
inductive Dv
  | d (t : Ty) (x : t.D)
  | q (t : Ty) (x : t.D)
  | kb (b : Bool)
  | un
  | nil
  | ow (o : Nat)
  | ep (o : Nat) (t : Ty) (j : Nat) (f : Fl t.D)
  | sv (o : Nat) (t : Ty) (lo n : Nat)
  | vs (o : Nat) (t : Ty)
  | vp (o : Nat) (t : Ty) (f : Fl t.D)
  | fn (f : FuncId) (c : List PD)
  | fp (dom cod : List Ty) (g : TsD dom → Option (CsD cod))
  | pin (v : Value)
inductive Od
  | own (t : Ty) (E : TypeId) (xs : List t.D)
  | var (t : Ty) (E : TypeId) (z : t.D)
structure Sg where
  nx : Nat
  rg : List (Nat × Nat × Dv)
  ob : List (Nat × Od)
def fnd : List (Nat × Nat × Dv) → Nat → Nat → Option Dv
  | [], _, _ => none
  | (t', i', d) :: r, t, i => bif Nat.beq t' t && Nat.beq i' i then some d else fnd r t i
def fndO : List (Nat × Od) → Nat → Option Od
  | [], _ => none
  | (o', x) :: r, o => bif Nat.beq o' o then some x else fndO r o
def get (cx σ : Sg) (t i : Nat) : Option Dv := match fnd σ.rg t i with
  | some d => some d
  | none => fnd cx.rg t i
def geto (cx σ : Sg) (o : Nat) : Option Od := match fndO σ.ob o with
  | some d => some d
  | none => fndO cx.ob o
def has (l : List Nat) (t : Nat) : Bool := l.any (Nat.beq t)
def notIn (rg : List (Nat × Nat × Dv)) (t : Nat) : Bool := rg.all fun e => !Nat.beq e.1 t
def dels (rg : List (Nat × Nat × Dv)) (t : Nat) : List (Nat × Nat × Dv) := rg.filter fun e => !Nat.beq e.1 t
def delo : List (Nat × Od) → Nat → List (Nat × Od)
  | [], _ => []
  | (o', y) :: r, o => bif Nat.beq o' o then r else (o', y) :: delo r o
def seto : List (Nat × Od) → Nat → Od → List (Nat × Od)
  | [], _, _ => []
  | (o', y) :: r, o, x => bif Nat.beq o' o then (o', x) :: r else (o', y) :: seto r o x
def putR (rg : List (Nat × Nat × Dv)) (d : Option Tmp) (l : List (Nat × Dv)) : List (Nat × Nat × Dv) := match d with
  | some t => l.map (fun e => (t, e.1, e.2)) ++ dels rg t
  | none => rg
def okPut (cx : Sg) (d : Option Tmp) : Bool := match d with
  | some t => notIn cx.rg t
  | none => true
def Sg.put (σ : Sg) (d : Option Tmp) (l : List (Nat × Dv)) : Sg := ⟨σ.nx, putR σ.rg d l, σ.ob⟩
def cv : Value → Option Dv
  | .int .i64 x => if InR x then some (.d .i x) else none
  | .int .u64 x => if 0 ≤ x ∧ x < 18446744073709551616 then some (.d .u x.toNat) else none
  | .bool b => some (.kb b)
  | .slice none 0 0 => some .nil
  | _ => none
def opv (cx σ : Sg) : Operand → Option Dv
  | .tmp t => get cx σ t 0
  | .const v => cv v
  | .func f => some (.fn f [])
  | .global _ => none
inductive TK
  | int (k : IntKind)
  | bool
  | sl (E : TypeId)
  | st (k : Nat)
  | ar (k : Nat) (E : TypeId)
structure TI where
  ty : Ty
  k : TK
  B : Nat
inductive AM
  | d (t : Ty)
  | q (t : Ty)
  | own (t : Ty) (E : TypeId)
  | fn (dom cod : List Ty)
def AM.D : AM → Type
  | .d t => t.D
  | .q t => t.D
  | .own t _ => List t.D
  | .fn dom cod => TsD dom → Option (CsD cod)
def AsD : List AM → Type
  | [] => Unit
  | a :: r => a.D × AsD r
inductive RM
  | d (t : Ty)
  | own (t : Ty) (E : TypeId)
def RM.D : RM → Type
  | .d t => t.D
  | .own t _ => List t.D
def RsD : List RM → Type
  | [] => Unit
  | [a] => a.D
  | a :: b :: r => a.D × RsD (b :: r)
def RM.ty : RM → Ty
  | .d t => t
  | .own t _ => .l t
inductive TF
  | d (t : Ty)
  | q (t : Ty)
  | own (t : Ty) (E : TypeId)
  | var (t : Ty) (E : TypeId)
def TF.D : TF → Type
  | .d t => t.D
  | .q t => t.D
  | .own t _ => List t.D
  | .var t _ => t.D
inductive NF
  | kb (b : Bool)
  | nil
  | ci (x : Int)
  | cu (x : Nat)
  | al (s : Nat)
structure Sh where
  ds : List (Nat × TF)
  ns : List (Nat × NF)
structure Sgm where
  ro : List Nat
  tg : List (Tg × Sh)
structure Lp where
  hd : Sh
  sg : Sgm
structure An where
  bx : List Nat
  jn : List (Nat × Sgm)
  lp : List (Nat × Lp)
  dz : List (Nat × List Nat)
  vw : List Nat
def fndA {α : Type} : List (Nat × α) → Nat → Option α
  | [], _ => none
  | (k, x) :: r, t => bif Nat.beq k t then some x else fndA r t
end Go.Proofs.YtjnjfinbdfolkaaGreat
end

section
set_option linter.unusedVariables false
set_option linter.unusedSimpArgs false
namespace Go.Proofs.YtjnjfinbdfolkaaGreat
structure Sig where
  f : FuncId
  dom : List AM
  cod : List RM
  M : AsD dom → Option (RsD cod)
  bk : Nat
structure Cf where
  tt : List (Nat × TI)
  cs : List Sig
  an : An
  fu : Nat
  ex : List (Nat × Bool)
abbrev grd {R : Type} (b : Bool) (x : Option R) : Option R := match b with
  | true => x
  | false => none
abbrev cnd {R : Type} (b : Bool) (x y : Option R) : Option R := match b with
  | true => x
  | false => y
def noOwn : List AM → Bool
  | [] => true
  | .own _ _ :: _ => false
  | _ :: r => noOwn r
def sigOf : List Sig → FuncId → Option Sig
  | [], _ => none
  | s :: r, f => bif Nat.beq s.f f && (noOwn s.dom && Nat.beq s.bk 0) then some s else sigOf r f
section
variable {R : Type} (cf : Cf) (cx : Sg)
def pdOf : Dv → Option PD
  | .d t x => some ⟨t, x⟩
  | .kb b => some ⟨.b, b⟩
  | _ => none
def asD (v : Option Dv) (t : Ty) (k : t.D → Option R) : Option R := match v with
  | some .nil => (match t, k with
    | .l s, k => k ([] : List s.D)
    | _, _ => none)
  | some v => (match pdOf v with
    | some p => Ty.cast p.t t p.x k
    | none => none)
  | none => none
def arI (bo : BinOp) (a c : Int) (k : Dv → Option R) : Option R := match bo with
  | .add => ck64 (a + c) fun x => k (.d .i x)
  | .sub => ck64 (a - c) fun x => k (.d .i x)
  | .mul => ck64 (a * c) fun x => k (.d .i x)
  | .quo => ck (c ≠ 0) <| ck64 (Int.tdiv a c) fun x => k (.d .i x)
  | .rem => ck (c ≠ 0) <| nm (Int.tmod a c) fun x => k (.d .i x)
  | .and => nm (andI a c) fun x => k (.d .i x)
  | .or => nm (orI a c) fun x => k (.d .i x)
  | .shr => ck (0 ≤ c) <| nm (Int.fdiv a (2 ^ (min c.toNat 64))) fun x => k (.d .i x)
  | .shl => ck (0 ≤ c) <| ck64 (a * 2 ^ (min c.toNat 64)) fun x => k (.d .i x)
  | .lss => if a < c then k (.kb true) else k (.kb false)
  | .leq => if a ≤ c then k (.kb true) else k (.kb false)
  | .gtr => if c < a then k (.kb true) else k (.kb false)
  | .geq => if c ≤ a then k (.kb true) else k (.kb false)
  | .eql => if a = c then k (.kb true) else k (.kb false)
  | .neq => if a = c then k (.kb false) else k (.kb true)
  | _ => none
def arU (bo : BinOp) (a c : Nat) (k : Dv → Option R) : Option R := match bo with
  | .add => nm ((a + c) % 18446744073709551616) fun x => k (.d .u x)
  | .sub => nm ((a + 18446744073709551616 - c) % 18446744073709551616) fun x => k (.d .u x)
  | .mul => nm ((a * c) % 18446744073709551616) fun x => k (.d .u x)
  | .quo => ck (c ≠ 0) <| nm (a / c) fun x => k (.d .u x)
  | .rem => ck (c ≠ 0) <| nm (a % c) fun x => k (.d .u x)
  | .and => nm (a &&& c) fun x => k (.d .u x)
  | .or => nm (a ||| c) fun x => k (.d .u x)
  | .lss => if (a : Int) < (c : Int) then k (.kb true) else k (.kb false)
  | .leq => if (a : Int) ≤ (c : Int) then k (.kb true) else k (.kb false)
  | .gtr => if (c : Int) < (a : Int) then k (.kb true) else k (.kb false)
  | .geq => if (c : Int) ≤ (a : Int) then k (.kb true) else k (.kb false)
  | .eql => if (a : Int) = (c : Int) then k (.kb true) else k (.kb false)
  | .neq => if (a : Int) = (c : Int) then k (.kb false) else k (.kb true)
  | _ => none
def shU (bo : BinOp) (a : Nat) (c : Int) (k : Dv → Option R) : Option R := match bo with
  | .shr => ck (0 ≤ c) <| nm (a / 2 ^ (min c.toNat 64)) fun x => k (.d .u x)
  | .shl => ck (0 ≤ c) <| nm (a * 2 ^ (min c.toNat 64) % 18446744073709551616) fun x => k (.d .u x)
  | _ => none
def shUU (bo : BinOp) (a c : Nat) (k : Dv → Option R) : Option R := match bo with
  | .shr => nm (a / 2 ^ (min (c : Int).toNat 64)) fun x => k (.d .u x)
  | .shl => nm (a * 2 ^ (min (c : Int).toNat 64) % 18446744073709551616) fun x => k (.d .u x)
  | _ => none
def shI (bo : BinOp) (a : Int) (c : Nat) (k : Dv → Option R) : Option R := match bo with
  | .shr => nm (Int.fdiv a (2 ^ (min (c : Int).toNat 64))) fun x => k (.d .i x)
  | .shl => ck64 (a * 2 ^ (min (c : Int).toNat 64)) fun x => k (.d .i x)
  | _ => none
def eqB (bo : BinOp) (a c : Bool) (k : Dv → Option R) : Option R := match bo with
  | .eql => nm (a == c) fun x => k (.d .b x)
  | .neq => nm (!(a == c)) fun x => k (.d .b x)
  | _ => none
def binD (tb : Bool) (bo : BinOp) (x y : Option PD) (k : Dv → Option R) : Option R := match x, y with
  | some ⟨.i, a⟩, some ⟨.i, c⟩ => arI bo a c k
  | some ⟨.u, a⟩, some ⟨.u, c⟩ => (match bo with
    | .shr => shUU .shr a c k
    | .shl => shUU .shl a c k
    | bo => arU bo a c k)
  | some ⟨.u, a⟩, some ⟨.i, c⟩ => shU bo a c k
  | some ⟨.i, a⟩, some ⟨.u, c⟩ => shI bo a c k
  | some ⟨.b, a⟩, some ⟨.b, c⟩ => grd tb <| eqB bo a c k
  | _, _ => none
def cvtD (kk : TK) (x : Option PD) (k : Dv → Option R) : Option R := match kk, x with
  | .int .i64, some ⟨.i, a⟩ => k (.d .i a)
  | .int .u64, some ⟨.u, a⟩ => k (.d .u a)
  | .int .u64, some ⟨.i, a⟩ => nm (uns a) fun x => k (.d .u x)
  | .int .i64, some ⟨.u, a⟩ => nm (sgn a) fun x => k (.d .i x)
  | _, _ => none
def pd (σ : Sg) (x : Operand) : Option PD := match opv cx σ x with
  | some v => pdOf v
  | none => none
def tyA (t : TypeId) : Option TI := fndA cf.tt t
def isB (t : TypeId) : Bool := match tyA cf t with
  | some ⟨_, .bool, _⟩ => true
  | _ => false
def ifB (x : Bool) (a c : Option R) : Option R := if x = true then a else c
def eqI (x y : Int) : Bool := decide (x = y)
def eqU (x y : Nat) : Bool := decide (x = y)
def ngI (a : Int) (k : Dv → Option R) : Option R := ck64 (0 - a) fun x => k (.d .i x)
def ngU (a : Nat) (k : Dv → Option R) : Option R := nm ((18446744073709551616 - a) % 18446744073709551616) fun x => k (.d .u x)
def appZ {α : Type} (xs ys : List α) (B : Nat) (k : List α → Option R) : Option R := ck ((xs.length + ys.length) * B ≤ 140737488355328) <| nm (xs ++ ys) k
def appN {α : Type} (xs : List α) (n : Nat) (z : α) (B : Nat) (k : List α → Option R) : Option R := ck ((xs.length + n) * B ≤ 140737488355328) <| nm (xs ++ List.replicate n z) k
def ixU (j : Nat) (n : Nat) (k : Nat → Option R) : Option R := ckI ((j : Nat) : Int) n k
def sameX : Operand → Operand → Bool
  | .tmp s, .tmp t => Nat.beq s t
  | .const (.int .i64 x), .const (.int .i64 y) => eqI x y
  | _, _ => false
def exU (b : Bool) (x y z : Nat) (k : List (Nat × Dv) → Option R) : Option R :=
  ck (z ≤ 1) <| cnd b (nm ((x + y + z) % 18446744073709551616) fun p => nm ((x + y + z) / 18446744073709551616) fun q => k [(1, .d .u p), (2, .d .u q)])
    (nm ((x + 18446744073709551616 - y - z) % 18446744073709551616) fun p => nm (if x < y + z then (1 : Nat) else 0) fun q => k [(1, .d .u p), (2, .d .u q)])
def exD (b : Bool) (x y z : Option PD) (k : List (Nat × Dv) → Option R) : Option R := match x, y, z with
  | some ⟨.u, x⟩, some ⟨.u, y⟩, some ⟨.u, z⟩ => exU b x y z k
  | _, _, _ => none
def parts (σ : Sg) : (ts : List Ty) → List (Nat × Operand) → Nat → (TsD ts → Option R) → Option R
  | [], [], _, k => k ()
  | t :: ts, (i, x) :: r, j, k => grd (Nat.beq i j) <| asD (opv cx σ x) t fun y => parts σ ts r (j + 1) fun ys => k (y, ys)
  | _, _, _, _ => none
def flds : (k : Nat) → Ty → List Ty
  | 0, _ => []
  | 1, t => [t]
  | k + 2, .p s t => s :: flds (k + 1) t
  | _, _ => []
def joinP : (k : Nat) → (t : Ty) → TsD (flds k t) → Option t.D
  | 0, _, _ => none
  | 1, t, x => some x.1
  | k + 2, .p s t, x => match joinP (k + 1) t x.2 with
    | some y => some (x.1, y)
    | none => none
  | _ + 2, .i, _ => none
  | _ + 2, .u, _ => none
  | _ + 2, .b, _ => none
  | _ + 2, .l _, _ => none
  | _ + 2, .a _ _, _ => none
def repT : Nat → Ty → List Ty
  | 0, _ => []
  | n + 1, t => t :: repT n t
def listP : (n : Nat) → (t : Ty) → TsD (repT n t) → List t.D
  | 0, _, _ => []
  | n + 1, t, x => x.1 :: listP n t x.2
def caps (σ : Sg) : List Operand → Option (List PD)
  | [] => some []
  | x :: r => match opv cx σ x, caps σ r with
    | some (.q t y), some l => some (⟨t, y⟩ :: l)
    | _, _ => none
def feedC : (full : List AM) → List PD → Option (AsD full)
  | [], [] => some ()
  | .q t :: r, c :: cs => Ty.cast c.t t c.x fun y => match feedC r cs with
    | some z => some (y, z)
    | none => none
  | _, _ => none
def feed : (full : List AM) → (dom : List Ty) → TsD dom → List PD → Option (AsD full)
  | full, [], _, cs => feedC full cs
  | .d t :: r, s :: dom, x, cs => Ty.cast s t x.1 fun y => match feed r dom x.2 cs with
    | some z => some (y, z)
    | none => none
  | _, _ :: _, _, _ => none
def sameTs : (s t : List Ty) → Option (PLift (s = t))
  | [], [] => some ⟨rfl⟩
  | s :: ss, t :: ts => match Ty.same s t, sameTs ss ts with
    | some ⟨h⟩, some ⟨h'⟩ => some ⟨h ▸ h' ▸ rfl⟩
    | _, _ => none
  | _, _ => none
theorem RM.D_ty : ∀ r : RM, r.D = r.ty.D
  | .d _ => rfl
  | .own _ _ => rfl
theorem RsD_ty : ∀ rs : List RM, RsD rs = CsD (rs.map RM.ty)
  | [] => rfl
  | [m] => RM.D_ty m
  | m :: n :: r => by show (m.D × RsD (n :: r)) = (m.ty.D × CsD ((n :: r).map RM.ty)); rw [RM.D_ty m, RsD_ty (n :: r)]
def asF (σ : Sg) (v : Option Dv) (dom cod : List Ty) (k : (TsD dom → Option (CsD cod)) → Option R) : Option R := match v with
  | some (.fn f c) => (match sigOf cf.cs f with
    | some s => (match sameTs (s.cod.map RM.ty) cod with
      | some ⟨h⟩ => k fun x => match feed s.dom dom x c with
        | some y => ((RsD_ty s.cod).trans (congrArg CsD h)) ▸ s.M y
        | none => none
      | none => none)
    | none => none)
  | some (.fp d c g) => (match sameTs d dom, sameTs c cod with
    | some ⟨h⟩, some ⟨h'⟩ => k (h ▸ h' ▸ g)
    | _, _ => none)
  | _ => none
def argsE (σ : Sg) : (dom : List AM) → List Operand → List PD → (AsD dom → Option R) → Option R
  | [], [], [], k => k ()
  | .q t :: r, [], c :: cs, k => Ty.cast c.t t c.x fun y => argsE σ r [] cs fun z => k (y, z)
  | .d t :: r, x :: xs, cs, k => asD (opv cx σ x) t fun y => argsE σ r xs cs fun z => k (y, z)
  | .q t :: r, x :: xs, cs, k => (match opv cx σ x with
    | some (.q s y) => Ty.cast s t y fun y => argsE σ r xs cs fun z => k (y, z)
    | _ => none)
  | .fn dom cod :: r, x :: xs, cs, k => asF cf σ (opv cx σ x) dom cod fun g => argsE σ r xs cs fun z => k (g, z)
  | _, _, _, _ => none
def resX : (rs : List RM) → RsD rs → Nat → List (Nat × Dv)
  | [], _, _ => []
  | [.d t], x, i => [(i, .d t x)]
  | [.own t _], x, i => [(i, .d (.l t) x)]
  | .d t :: r :: rs, x, i => (i, .d t x.1) :: resX (r :: rs) x.2 (i + 1)
  | .own t _ :: r :: rs, x, i => (i, .d (.l t) x.1) :: resX (r :: rs) x.2 (i + 1)
def oneRes : List RM → Bool
  | [_] => true
  | _ => false
def resD (rs : List RM) (x : RsD rs) : List (Nat × Dv) := resX rs x (bif oneRes rs then 0 else 1)
def argsT (σ : Sg) : (dom : List Ty) → List Operand → (TsD dom → Option R) → Option R
  | [], [], k => k ()
  | t :: r, x :: xs, k => asD (opv cx σ x) t fun y => argsT σ r xs fun z => k (y, z)
  | _, _, _ => none
def resT : (cod : List Ty) → CsD cod → Nat → List (Nat × Dv)
  | [], _, _ => []
  | [t], x, i => [(i, .d t x)]
  | t :: s :: r, x, i => (i, .d t x.1) :: resT (s :: r) x.2 (i + 1)
def oneT : List Ty → Bool
  | [_] => true
  | _ => false
def loadD (σ : Sg) (v : Option Dv) (k : PD → Option R) : Option R := match v with
  | some (.q t x) => k ⟨t, x⟩
  | some (.vs o _) => (match geto cx σ o with
    | some (.var t _ z) => k ⟨t, z⟩
    | _ => none)
  | some (.vp o t f) => (match geto cx σ o with
    | some (.var t' _ z) => Ty.cast t' t z fun z => k ⟨f.f, f.get z⟩
    | _ => none)
  | some (.ep o t j f) => (match geto cx σ o with
    | some (.own t' _ xs) => Ty.cast (.l t') (.l t) xs fun xs => nm (f.get (List.getD xs j t.z)) fun y => k ⟨f.f, y⟩
    | _ => none)
  | _ => none
def atI (σ : Sg) (x : Operand) (n : Nat) (k : Nat → Option R) : Option R := match pd cx σ x with
  | some ⟨.i, j⟩ => ckI j n k
  | some ⟨.u, j⟩ => ixU j n k
  | _ => none
def bnd (σ : Sg) (x : Option Operand) (k : Option Nat → Option R) : Option R := match x with
  | none => k none
  | some x => match pd cx σ x with
    | some ⟨.i, j⟩ => ckN j fun j => k (some j)
    | _ => none
def cutD {α : Type} (xs : List α) (lo hi : Option Nat) (k : List α → Option R) : Option R := match lo, hi with
  | none, some h => ck (h ≤ xs.length) <| nm (xs.take h) k
  | some l, none => ck (l ≤ xs.length) <| nm (xs.drop l) k
  | some l, some h => ck (l ≤ h ∧ h ≤ xs.length) <| nm ((xs.drop l).take (h - l)) k
  | none, none => k xs
def cutV (m : Nat) (lo hi : Option Nat) (k : Nat → Nat → Option R) : Option R := match lo, hi with
  | none, some h => ck (h ≤ m) <| k 0 h
  | some l, none => ck (l ≤ m) <| k l (m - l)
  | some l, some h => ck (l ≤ h ∧ h ≤ m) <| k l (h - l)
  | none, none => k 0 m
def tups (σ : Sg) (t : Nat) : Nat → Nat → List (Nat × Dv)
  | 0, _ => []
  | f + 1, i => match get cx σ t i with
    | some d => (i, d) :: tups σ t f (i + 1)
    | none => []
def allD (σ : Sg) (x : Operand) (k : List (Nat × Dv) → Option R) : Option R := match x with
  | .tmp t => (match tups cx σ t 12 1 with
    | [] => none
    | l => k l)
  | _ => none
def eMove (σ : Sg) (x : Operand) (k : List (Nat × Dv) → Option R) : Option R := match opv cx σ x with
  | some v => k [(0, v)]
  | none => allD cx σ x k
def eExt (σ : Sg) (x : Operand) (i : Nat) (k : List (Nat × Dv) → Option R) : Option R := match x with
  | .tmp t => (match get cx σ t (i + 1) with
    | some v => k [(0, v)]
    | none => none)
  | _ => none
def eMv1 (σ : Sg) (x : Operand) (k : List (Nat × Dv) → Option R) : Option R := match opv cx σ x with
  | some v => k [(0, v)]
  | none => none
def ePick (σ : Sg) (c x y : Operand) (k : List (Nat × Dv) → Option R) : Option R := match opv cx σ c with
  | some (.kb true) => eMv1 cx σ x k
  | some (.kb false) => eMv1 cx σ y k
  | _ => none
def notD (b : Bool) : Dv := .d .b (not b)
def eNot (σ : Sg) (x : Operand) (k : List (Nat × Dv) → Option R) : Option R := match opv cx σ x with
  | some (.kb b) => k [(0, .kb !b)]
  | some (.d .b b) => k [(0, notD b)]
  | _ => none
def eNeg (σ : Sg) (x : Operand) (k : List (Nat × Dv) → Option R) : Option R := match pd cx σ x with
  | some ⟨.i, a⟩ => ngI a fun v => k [(0, v)]
  | some ⟨.u, a⟩ => ngU a fun v => k [(0, v)]
  | _ => none
def eCvt (σ : Sg) (s t : TypeId) (x : Operand) (k : List (Nat × Dv) → Option R) : Option R := match tyA cf s, tyA cf t with
  | some ⟨_, .int _, _⟩, some ti => cvtD ti.k (pd cx σ x) fun v => k [(0, v)]
  | _, _ => none
def elA (E : TypeId) (e : Ty) : Bool := match tyA cf E with
  | some ti => (Ty.same ti.ty e).isSome
  | none => false
def nthF (n : Nat) (e : Ty) (j : Nat) : Fl (Ty.a n e).D := ⟨j * e.n, e, fun z => List.getD z j e.z, fun y z => List.set z j y⟩
def eIndex (σ : Sg) (t : TypeId) (x i : Operand) (k : List (Nat × Dv) → Option R) : Option R := match tyA cf t, opv cx σ x with
  | some ⟨.l e, .sl _, _⟩, some (.d (.l s) xs) => Ty.cast (.l s) (.l e) xs fun xs => atI cx σ i (List.length xs) fun j => nm (List.getD xs j e.z) fun y => k [(0, .q e y)]
  | some ⟨.l e, .sl _, _⟩, some (.ow o) => (match geto cx σ o with
    | some (.own s _ xs) => Ty.cast (.l s) (.l e) xs fun xs => atI cx σ i (List.length xs) fun j => k [(0, .ep o e j (Fl.self e))]
    | _ => none)
  | some ⟨_, .ar n' E, _⟩, some (.q (.a n e) x) => grd (Nat.beq n' n && elA cf E e) <| atI cx σ i n fun j => nm (List.getD x j e.z) fun y => k [(0, .q e y)]
  | some ⟨_, .ar n' E, _⟩, some (.vs o (.a n e)) => grd (Nat.beq n' n && elA cf E e) <| atI cx σ i n fun j => k [(0, .vp o (.a n e) (nthF n e j))]
  | _, _ => none
def eField (σ : Sg) (t : TypeId) (x : Operand) (i : Nat) (k : List (Nat × Dv) → Option R) : Option R := match tyA cf t, opv cx σ x with
  | some ⟨e, .st n, _⟩, some (.q s y) => Ty.cast s e y fun y => (match fld n e i with
    | some f => k [(0, .q f.f (f.get y))]
    | none => none)
  | some ⟨e, .st n, _⟩, some (.vs o s) => (match Ty.same s e, fld n s i with
    | some _, some f => k [(0, .vp o s f)]
    | _, _ => none)
  | some ⟨e, .st n, _⟩, some (.vp o s g) => (match Ty.same g.f e, fld n g.f i with
    | some _, some f => k [(0, .vp o s (g.comp f))]
    | _, _ => none)
  | some ⟨e, .st n, _⟩, some (.ep o s j g) => (match Ty.same g.f e, fld n g.f i with
    | some _, some f => k [(0, .ep o s j (g.comp f))]
    | _, _ => none)
  | _, _ => none
def eFieldV (σ : Sg) (t : TypeId) (x : Operand) (i : Nat) (k : List (Nat × Dv) → Option R) : Option R := match tyA cf t, opv cx σ x with
  | some ⟨e, .st n, _⟩, some (.d s y) => Ty.cast s e y fun y => (match fld n e i with
    | some f => k [(0, .d f.f (f.get y))]
    | none => none)
  | _, _ => none
def eLoad (σ : Sg) (t : TypeId) (x : Operand) (k : List (Nat × Dv) → Option R) : Option R := match tyA cf t with
  | some ti => loadD cx σ (opv cx σ x) fun p => Ty.cast p.t ti.ty p.x fun y => k [(0, .d ti.ty y)]
  | none => none
def eSlice (σ : Sg) (t : TypeId) (x : Operand) (lo hi : Option Operand) (k : List (Nat × Dv) → Option R) : Option R := match tyA cf t, opv cx σ x with
  | some ⟨.l e, .sl _, _⟩, some (.d (.l s) xs) => Ty.cast (.l s) (.l e) xs fun xs => bnd cx σ lo fun lo => bnd cx σ hi fun hi => cutD (α := e.D) xs lo hi fun ys => k [(0, .d (.l e) ys)]
  | some ⟨.l e, .sl _, _⟩, some (.ow o) => (match geto cx σ o with
    | some (.own s _ xs) => Ty.cast (.l s) (.l e) xs fun xs => bnd cx σ lo fun lo => bnd cx σ hi fun hi => cutV (List.length xs) lo hi fun l n => k [(0, .sv o e l n)]
    | _ => none)
  | _, _ => none
def eBox (σ : Sg) (E : TypeId) (x : Operand) (k : List (Nat × Dv) → Option R) : Option R := match tyA cf E with
  | some ti => asD (opv cx σ x) ti.ty fun y => k [(0, .q ti.ty y)]
  | none => none
def eBuild (σ : Sg) (t : TypeId) (ps : List (Nat × Operand)) (k : List (Nat × Dv) → Option R) : Option R := match tyA cf t with
  | some ⟨ty, .st n, _⟩ => (match ps with
    | [] => k [(0, .d ty ty.z)]
    | [(i, x)] => (match fld n ty i with
      | some f => asD (opv cx σ x) f.f fun y => k [(0, .d ty (f.set y ty.z))]
      | none => none)
    | ps => parts cx σ (flds n ty) ps 0 fun ys => match joinP n ty ys with
      | some y => k [(0, .d ty y)]
      | none => none)
  | some ⟨.a n e, .ar n' E, _⟩ => grd (Nat.beq n' n && elA cf E e) <| parts cx σ (repT n e) ps 0 fun ys => k [(0, .d (.a n e) (listP n e ys))]
  | _ => none
def eLit (σ : Sg) (t : TypeId) (n : Nat) (ps : List (Nat × Operand)) (k : List (Nat × Dv) → Option R) : Option R := match tyA cf t with
  | some ⟨.l s, .sl _, _⟩ => grd (Nat.ble (n * s.n) 16777216) <| parts cx σ (repT n s) ps 0 fun ys => k [(0, .d (.l s) (listP n s ys))]
  | _ => none
def eClo (σ : Sg) (f : Go.Fn) (first cs : List Operand) (k : List (Nat × Dv) → Option R) : Option R := match f, first, caps cx σ cs with
  | .func f, [], some l => k [(0, .fn f l)]
  | _, _, _ => none
def lenI (n : Nat) : Dv := .d .i (n : Int)
def eLen (σ : Sg) (x : List Operand) (ts : List TypeId) (k : List (Nat × Dv) → Option R) : Option R := match x, ts with
  | [x], [t] => (match tyA cf t with
    | some ⟨.l _, .sl _, _⟩ => (match opv cx σ x with
      | some .nil => k [(0, lenI 0)]
      | some (.d (.l _) xs) => k [(0, lenI (List.length xs))]
      | some (.ow o) => (match geto cx σ o with
        | some (.own _ _ xs) => k [(0, lenI (List.length xs))]
        | _ => none)
      | _ => none)
    | _ => none)
  | _, _ => none
def intD (x : Int) : Dv := .d .i x
def mxI (b : Bool) (a c : Int) (k : Int → Option R) : Option R := match b with
  | true => nm (max a c) k
  | false => nm (min a c) k
def eMM (b : Bool) (σ : Sg) (x : List Operand) (k : List (Nat × Dv) → Option R) : Option R := match x with
  | [x, y] => (match pd cx σ x, pd cx σ y with
    | some ⟨.i, a⟩, some ⟨.i, c⟩ => mxI b a c fun z => k [(0, intD z)]
    | _, _ => none)
  | _ => none
def isFn : Operand → Bool
  | .func _ => true
  | _ => false
def eCall (σ : Sg) (fo : Operand) (ags : List Operand) (k : List (Nat × Dv) → Option R) : Option R := match opv cx σ fo with
  | some (.fn f cs) => (match sigOf cf.cs f with
    | some s => argsE cf cx σ s.dom ags cs fun y => bd (s.M y) fun r => k (resD s.cod r)
    | none => (match fndA cf.ex f, ags, cs with
      | some b, [x, y, z], [] => grd (isFn fo) <| exD b (pd cx σ x) (pd cx σ y) (pd cx σ z) k
      | _, _, _ => none))
  | some (.fp dom cod g) => argsT cx σ dom ags fun y => bd (g y) fun r => k (resT cod r (bif oneT cod then 0 else 1))
  | _ => none
def eOp (σ : Sg) (op : Op) (k : List (Nat × Dv) → Option R) : Option R := match op with
  | .move x => eMove cx σ x k
  | .assign x => eMove cx σ x k
  | .extract x i => eExt cx σ x i k
  | .pick c x y => ePick cx σ c x y k
  | .unOp .not _ x => eNot cx σ x k
  | .unOp .neg _ x => eNeg cx σ x k
  | .binOp bo t x y _ => binD (isB cf t) bo (pd cx σ x) (pd cx σ y) fun v => k [(0, v)]
  | .convert s t x => eCvt cf cx σ s t x k
  | .load t x => eLoad cf cx σ t x k
  | .indexAddr t x i => eIndex cf cx σ t x i k
  | .fieldAddr t x i => eField cf cx σ t x i k
  | .field t x i => eFieldV cf cx σ t x i k
  | .slice t x lo hi none => eSlice cf cx σ t x lo hi k
  | .box E x => eBox cf cx σ E x k
  | .build t ps => eBuild cf cx σ t ps.toList k
  | .buildSlice t n ps => eLit cf cx σ t n ps.toList k
  | .makeFunc f first cs => eClo cx σ f first.toList cs.toList k
  | .call ⟨.builtin .len, ags, ts⟩ => eLen cf cx σ ags.toList ts.toList k
  | .call ⟨.builtin .max, ags, _⟩ => eMM cx true σ ags.toList k
  | .call ⟨.builtin .min, ags, _⟩ => eMM cx false σ ags.toList k
  | .call ⟨.value f, ags, _⟩ => eCall cf cx σ f ags.toList k
  | _ => none
def refO : Dv → Option Nat
  | .ow o => some o
  | .vs o _ => some o
  | .ep o _ _ _ => some o
  | .sv o _ _ _ => some o
  | .vp o _ _ => some o
  | _ => none
def okL (n : Nat) (l : List (Nat × Dv)) : Bool := l.all fun e => match refO e.2 with
  | some o => Nat.blt o n
  | none => true
def frz1 (o : Nat) (x : Od) (v : Dv) : Dv := match v, x with
  | .ow o', .own s _ xs => bif Nat.beq o' o then .d (.l s) xs else v
  | .vs o' _, .var s _ z => bif Nat.beq o' o then .q s z else v
  | _, _ => v
def frzR (o : Nat) (x : Od) : List (Nat × Nat × Dv) → List (Nat × Nat × Dv)
  | [] => []
  | (t, i, v) :: r => (t, i, frz1 o x v) :: frzR o x r
def frzO (σ : Sg) (o : Nat) : Sg := match fndO σ.ob o with
  | some x => ⟨σ.nx, frzR o x σ.rg, delo σ.ob o⟩
  | none => σ
def frz (σ : Sg) (x : Operand) : Sg := match opv cx σ x with
  | some (.ow o) => frzO σ o
  | some (.vs o _) => frzO σ o
  | _ => σ
def frzL (σ : Sg) : List Operand → Sg
  | [] => σ
  | x :: r => frzL (frz cx σ x) r
def fits (σ : Sg) : List AM → List Operand → Bool
  | [], _ => true
  | .own _ _ :: r, x :: xs => (match opv cx σ x with
    | some (.ow o) => σ.ob.any fun e => Nat.beq e.1 o
    | _ => false) && fits σ r xs
  | _ :: r, _ :: xs => fits σ r xs
  | _ :: r, [] => fits σ r []
def sigG (σ : Sg) (f : FuncId) (ags : List Operand) : List Sig → Option Sig
  | [] => none
  | s :: r => match Nat.beq s.f f && fits cx σ s.dom ags with
    | true => some s
    | false => sigG σ f ags r
def isVw (d : Option Tmp) : Bool := match d with
  | some t => has cf.an.vw t
  | none => false
def onto (σ : Sg) (d : Option Tmp) : Op → List Operand
  | .build _ ps => ps.toList.map (·.2)
  | .buildSlice _ _ ps => ps.toList.map (·.2)
  | .store _ _ v => (match opv cx σ v with
    | some (.ow _) => [v]
    | _ => [])
  | .box _ v => [v]
  | .makeFunc _ _ cs => cs.toList
  | .slice _ x (some _) _ _ => (match isVw cf d with
    | true => []
    | false => [x])
  | .call ⟨.builtin .append, ags, _⟩ => ags.toList.drop 1
  | .call ⟨.builtin .copy, ags, _⟩ => ags.toList.drop 1
  | .call ⟨.value f, ags, _⟩ => (match opv cx σ f with
    | some (.fn f _) => (match sigG cx σ f ags.toList cf.cs with
      | some s => (s.dom.zip ags.toList).filterMap fun e => match e.1 with
        | .d _ => some e.2
        | .q _ => some e.2
        | _ => none
      | none => [])
    | some (.fp _ _ _) => ags.toList
    | _ => [])
  | _ => []
def newO (σ : Sg) (d : Option Tmp) (mk : Nat → Dv) (x : Od) : Sg := ⟨σ.nx + 1, putR σ.rg d [(0, mk σ.nx)], (σ.nx, x) :: σ.ob⟩
def argsG (σ : Sg) : (dom : List AM) → List Operand → List PD → (AsD dom → List Nat → Option R) → Option R
  | [], [], [], k => k () []
  | .q t :: r, [], c :: cs, k => Ty.cast c.t t c.x fun y => argsG σ r [] cs fun z os => k (y, z) os
  | .d t :: r, x :: xs, cs, k => asD (opv cx σ x) t fun y => argsG σ r xs cs fun z os => k (y, z) os
  | .q t :: r, x :: xs, cs, k => (match opv cx σ x with
    | some (.q s y) => Ty.cast s t y fun y => argsG σ r xs cs fun z os => k (y, z) os
    | _ => none)
  | .own t E :: r, x :: xs, cs, k => (match opv cx σ x with
    | some (.ow o) => (match fndO σ.ob o with
      | some (.own s E' ys) => grd (Nat.beq E E') <| Ty.cast (.l s) (.l t) ys fun y => argsG σ r xs cs fun z os => grd (!has os o) <| k (y, z) (o :: os)
      | _ => none)
    | _ => none)
  | .fn dom cod :: r, x :: xs, cs, k => asF cf σ (opv cx σ x) dom cod fun g => argsG σ r xs cs fun z os => k (g, z) os
  | _, _, _, _ => none
def resG : (rs : List RM) → RsD rs → Nat → Nat → List (Nat × Dv) × List (Nat × Od)
  | [], _, _, _ => ([], [])
  | [.d t], x, i, o => ([(i, .d t x)], [])
  | [.own t E], x, i, o => ([(i, .ow o)], [(o, .own t E x)])
  | .d t :: r :: rs, x, i, o => let y := resG (r :: rs) x.2 (i + 1) o
    ((i, .d t x.1) :: y.1, y.2)
  | .own t E :: r :: rs, x, i, o => let y := resG (r :: rs) x.2 (i + 1) (o + 1)
    ((i, .ow o) :: y.1, (o, .own t E x.1) :: y.2)
def delos (ob : List (Nat × Od)) : List Nat → List (Nat × Od)
  | [] => ob
  | o :: r => delo (delos ob r) o
def mStore (σ : Sg) (s : Ty) (p v : Option Dv) (k : Sg → Option R) : Option R := match p with
  | some (.vs o _) => (match fndO σ.ob o with
    | some (.var s' E z) => Ty.cast s' s z fun z => asD v s fun y => k ⟨σ.nx, σ.rg, seto σ.ob o (.var s E y)⟩
    | _ => none)
  | some (.vp o s1 f) => (match fndO σ.ob o, Ty.same f.f s with
    | some (.var s' E z), some _ => Ty.cast s' s1 z fun z => asD v f.f fun y => nm (f.set y z) fun z => k ⟨σ.nx, σ.rg, seto σ.ob o (.var s1 E z)⟩
    | _, _ => none)
  | some (.ep o s1 j f) => (match fndO σ.ob o, Ty.same f.f s with
    | some (.own s' E xs), some _ => Ty.cast (.l s') (.l s1) xs fun xs => asD v f.f fun y => nm (List.set xs j (f.set y (List.getD xs j s1.z))) fun xs => k ⟨σ.nx, σ.rg, seto σ.ob o (.own s1 E xs)⟩
    | _, _ => none)
  | _ => none
def mAlloc (σ : Sg) (d : Option Tmp) (E : TypeId) (k : Sg → Option R) : Option R := match tyA cf E with
  | some ti => k (newO σ d (fun o => .vs o ti.ty) (.var ti.ty E ti.ty.z))
  | none => none
def mBox (σ : Sg) (d : Option Tmp) (E : TypeId) (x : Operand) (k : Sg → Option R) : Option R := match tyA cf E with
  | some ti => asD (opv cx σ x) ti.ty fun y => k (newO σ d (fun o => .vs o ti.ty) (.var ti.ty E y))
  | none => none
def mMake (σ : Sg) (d : Option Tmp) (t : TypeId) (x y : Operand) (k : Sg → Option R) : Option R := match tyA cf t with
  | some ⟨.l s, .sl E, _⟩ => grd (sameX x y) (match tyA cf E, pd cx σ x with
    | some ti, some ⟨.i, n⟩ => Ty.cast ti.ty s ti.ty.z fun z => ckN n fun n => ck (ti.B * n ≤ 281474976710656) <| nm (List.replicate n z) fun xs => k (newO σ d .ow (.own s E xs))
    | _, _ => none)
  | _ => none
def mLit (σ : Sg) (d : Option Tmp) (t : TypeId) (n : Nat) (ps : List (Nat × Operand)) (k : Sg → Option R) : Option R := match tyA cf t with
  | some ⟨.l s, .sl E, _⟩ => grd (Nat.ble (n * s.n) 16777216) <| parts cx σ (repT n s) ps 0 fun ys => k (newO σ d .ow (.own s E (listP n s ys)))
  | _ => none
def mSlice (σ : Sg) (d : Option Tmp) (t : TypeId) (o : Nat) (hi : Operand) (k : Sg → Option R) : Option R := match tyA cf t, fndO σ.ob o with
  | some ⟨.l s1, .sl _, _⟩, some (.own s E xs) => Ty.cast (.l s) (.l s1) xs fun xs => bnd cx σ (some hi) fun h => cutD (α := s1.D) xs none h fun ys => k ⟨σ.nx + 1, putR σ.rg d [(0, .ow σ.nx)], (σ.nx, .own s1 E ys) :: delo σ.ob o⟩
  | _, _ => none
def mApp2 (σ : Sg) (d : Option Tmp) (t' : TypeId) (same : Bool) (s : Ty) (E : TypeId) (B : Nat) (z : s.D) (y : Operand) (ob : List (Nat × Od)) (xs : List s.D) (k : Sg → Option R) : Option R := match pd cx σ y with
  | some ⟨.i, n⟩ => (match tyA cf t' with
    | some ⟨_, .int _, _⟩ => ckN n fun n => appN xs n z B fun zs => k ⟨σ.nx + 1, putR σ.rg d [(0, .ow σ.nx)], (σ.nx, .own s E zs) :: ob⟩
    | _ => none)
  | _ => (match opv cx σ y with
    | some (.sv o2 t2 lo n) => (match geto cx ⟨σ.nx, σ.rg, ob⟩ o2 with
      | some (.own s2 _ zs) => grd same <| Ty.cast (.l s2) (.l t2) zs fun zs => Ty.cast (.l t2) (.l s) (List.take n (List.drop lo zs)) fun ys => nm ys fun ys => appZ (α := s.D) xs ys B fun zs => k ⟨σ.nx + 1, putR σ.rg d [(0, .ow σ.nx)], (σ.nx, .own s E zs) :: ob⟩
      | _ => none)
    | _ => grd same <| asD (opv cx σ y) (.l s) fun ys => appZ (α := s.D) xs ys B fun zs => k ⟨σ.nx + 1, putR σ.rg d [(0, .ow σ.nx)], (σ.nx, .own s E zs) :: ob⟩)
def mApp (σ : Sg) (d : Option Tmp) (ags : List Operand) (ts : List TypeId) (k : Sg → Option R) : Option R := match ags, ts with
  | [x, y], [t, t'] => (match tyA cf t with
    | some ⟨.l s, .sl E, _⟩ => (match tyA cf E with
      | some ti => Ty.cast ti.ty s ti.ty.z fun z => (match opv cx σ x with
        | some .nil => mApp2 cf cx σ d t' (Nat.beq t t') s E ti.B z y σ.ob [] k
        | some (.ow o) => (match fndO σ.ob o with
          | some (.own s' E' xs) => grd (Nat.beq E' E) <| Ty.cast (.l s') (.l s) xs fun xs => mApp2 cf cx σ d t' (Nat.beq t t') s E ti.B z y (delo σ.ob o) xs k
          | _ => none)
        | _ => none)
      | none => none)
    | _ => none)
  | _, _ => none
def mCopy (σ : Sg) (d : Option Tmp) (ags : List Operand) (ts : List TypeId) (k : Sg → Option R) : Option R := match ags, ts with
  | [x, y], [t, _] => (match tyA cf t, opv cx σ x with
    | some ⟨.l s, .sl _, _⟩, some (.ow o) => (match fndO σ.ob o with
      | some (.own s' E' xs) => grd (Nat.beq s.n 1) <| Ty.cast (.l s') (.l s) xs fun xs => asD (opv cx σ y) (.l s) fun ys => nm (cpy (α := s.D) xs ys) fun zs => k ⟨σ.nx, putR σ.rg d [], seto σ.ob o (.own s E' zs)⟩
      | _ => none)
    | some ⟨.l s, .sl _, _⟩, some (.sv o t2 lo n) => (match fndO σ.ob o, Ty.same t2 s with
      | some (.own s' E' xs), some _ => grd (Nat.beq s.n 1) <| Ty.cast (.l s') (.l s) xs fun xs => asD (opv cx σ y) (.l s) fun ys => nm (cpyAt (α := s.D) lo n xs ys) fun zs => k ⟨σ.nx, putR σ.rg d [], seto σ.ob o (.own s E' zs)⟩
      | _, _ => none)
    | _, _ => none)
  | _, _ => none
def zipB : List Nat → List (Nat × Od) → List (Nat × Od)
  | o :: os, e :: r => (o, e.2) :: zipB os r
  | _, _ => []
def tailOwn : Nat → List RM → Bool
  | 0, [] => true
  | 0, .own _ _ :: r => tailOwn 0 r
  | n + 1, .d _ :: r => tailOwn n r
  | _, _ => false
def one1 (m : Nat) : Nat := bif Nat.beq m 1 then 0 else 1
def mCall (σ : Sg) (d : Option Tmp) (s : Sig) (ags : List Operand) (cs : List PD) (k : Sg → Option R) : Option R :=
  argsG cf cx σ s.dom ags cs fun y os => bd (s.M y) fun r =>
    match s.bk with
    | 0 => (let g := resG s.cod r (bif oneRes s.cod then 0 else 1) σ.nx
      k ⟨σ.nx + g.2.length, putR σ.rg d g.1, g.2 ++ delos σ.ob os⟩)
    | b + 1 => (let m := s.cod.length - (b + 1)
      let g := resG s.cod r (one1 m) σ.nx
      grd (tailOwn m s.cod) <| k ⟨σ.nx + g.2.length, putR σ.rg d (g.1.filter fun e => Nat.blt e.1 (one1 m + m)), zipB os g.2 ++ delos σ.ob os⟩)
def mE (σ : Sg) (d : Option Tmp) (op : Op) (k : Sg → Option R) : Option R := eOp cf cx σ op fun l => grd (okL σ.nx l) <| k (σ.put d l)
def isBx (d : Option Tmp) : Bool := match d with
  | some t => has cf.an.bx t
  | none => false
def mOp (σ : Sg) (d : Option Tmp) (op : Op) (k : Sg → Option R) : Option R :=
  match op with
  | .alloc E => mAlloc cf σ d E k
  | .box E x => cnd (isBx cf d) (mBox cf cx σ d E x k) (mE cf cx σ d (.box E x) k)
  | .store t x y => grd d.isNone (match tyA cf t with
    | some ti => mStore σ ti.ty (opv cx σ x) (opv cx σ y) k
    | none => none)
  | .makeSlice t x y => mMake cf cx σ d t x y k
  | .buildSlice t n ps => mLit cf cx σ d t n ps.toList k
  | .slice t x none (some hi) none => (match opv cx σ x with
    | some (.ow o) => mSlice cf cx σ d t o hi k
    | _ => mE cf cx σ d (.slice t x none (some hi) none) k)
  | .call ⟨.builtin .append, ags, ts⟩ => mApp cf cx σ d ags.toList ts.toList k
  | .call ⟨.builtin .copy, ags, ts⟩ => mCopy cf cx σ d ags.toList ts.toList k
  | .call ⟨.value f, ags, ts⟩ => (match opv cx σ f with
    | some (.fn f' cs) => (match sigG cx σ f' ags.toList cf.cs with
      | some s => mCall cf cx σ d s ags.toList cs k
      | none => mE cf cx σ d (.call ⟨.value f, ags, ts⟩) k)
    | _ => mE cf cx σ d (.call ⟨.value f, ags, ts⟩) k)
  | op => mE cf cx σ d op k
def know (σ : Sg) (t : Tmp) (b : Bool) : Sg := ⟨σ.nx, putR σ.rg (some t) [(0, .kb b)], σ.ob⟩
def guardD (all : List Oper) (o : Oper) (σ : Sg) (k : Sg → Bool → Option R) : Option R := match o.guard with
  | none => k σ true
  | some (j, want) => match all[j]? with
    | some o' => (match o'.dst with
      | some t => (match get cx σ t 0 with
        | some (.kb b) => k σ (b == want)
        | some .un => k σ false
        | some (.d .b x) => grd (notIn cx.rg t) <| ifB x (k (know σ t true) (true == want)) (k (know σ t false) (false == want))
        | _ => none)
      | none => none)
    | none => none
def pickD (o : Oper) (σ : Sg) (k : Sg → Option R) : Option R := match o.op with
  | .pick (.tmp t) _ _ => (match get cx σ t 0 with
    | some (.d .b x) => grd (notIn cx.rg t) <| ifB x (k (know σ t true)) (k (know σ t false))
    | _ => k σ)
  | _ => k σ
def runL (all : List Oper) : List Oper → Sg → (Sg → Option R) → Option R
  | [], σ, k => k σ
  | o :: r, σ, k => grd (okPut cx o.dst) <| guardD cx all o σ fun σ w => cnd w
      (pickD cx o σ fun σ => (let σ := frzL cx σ (onto cf cx σ o.dst o.op); mOp cf cx σ o.dst o.op fun σ => runL all r σ k))
      (runL all r (σ.put o.dst [(0, .un)]) k)
def runE (all : List Oper) : List Oper → Sg → (Sg → Option R) → Option R
  | [], σ, k => k σ
  | o :: r, σ, k => grd (okPut cx o.dst) <| guardD cx all o σ fun σ w => cnd w
      (pickD cx o σ fun σ => eOp cf cx σ o.op fun l => grd (okL σ.nx l) <| runE all r (σ.put o.dst l) k)
      (runE all r (σ.put o.dst [(0, .un)]) k)
def dd : List (Nat × Nat × Dv) → List (Nat × Nat × Dv)
  | [] => []
  | e :: r => e :: (dd r).filter fun f => !(Nat.beq e.1 f.1 && Nat.beq e.2.1 f.2.1)
structure Rb where
  a : Option Nat
  c : Option Nat
  rd : List Nat
  o : Nat
  x : Od
structure Oi where
  lo : Nat
  hi : Nat
  refs : List Nat
def refsL (ts : List Tmp) : List (Nat × Nat × Dv) → List Nat
  | [] => []
  | (t, _, v) :: r => (match has ts t, refO v with
    | true, some o => o :: refsL ts r
    | _, _ => refsL ts r)
def refsO : List (Nat × Dv) → List Nat
  | [] => []
  | (_, v) :: r => (match refO v with
    | some o => o :: refsO r
    | none => refsO r)
def slotsL (ts : List Tmp) : List (Nat × Nat × Dv) → List (Nat × Nat × Dv)
  | [] => []
  | (t, i, v) :: r => (match has ts t with
    | true => (t, i, v) :: slotsL ts r
    | false => slotsL ts r)
def dstL (d : Option Tmp) (rg : List (Nat × Nat × Dv)) : List (Nat × Dv) := match d with
  | some t => rg.filterMap fun e => match Nat.beq e.1 t with
    | true => some (e.2.1, e.2.2)
    | false => none
  | none => []
def visB (os : List Nat) : List Rb → List (Nat × Od)
  | [] => []
  | r :: rs => match r.c, has os r.o with
    | none, true => (r.o, r.x) :: visB os rs
    | _, _ => visB os rs
def useB (i : Nat) (os : List Nat) : List Rb → List Rb
  | [] => []
  | r :: rs => (match r.c, has os r.o with
    | none, true => ⟨r.a, some i, r.rd, r.o, r.x⟩
    | _, _ => r) :: useB i os rs
def seeB (i : Nat) (os : List Nat) : List Rb → List Rb
  | [] => []
  | r :: rs => (match r.c, has os r.o with
    | none, true => ⟨r.a, none, i :: r.rd, r.o, r.x⟩
    | _, _ => r) :: seeB i os rs
def newB (i : Nat) (ob : List (Nat × Od)) : List Rb := ob.map fun e => ⟨some i, none, [], e.1, e.2⟩
def oldB (ob : List (Nat × Od)) : List Rb := ob.map fun e => ⟨none, none, [], e.1, e.2⟩
def endB : List Rb → List (Nat × Od)
  | [] => []
  | r :: rs => match r.c with
    | none => (r.o, r.x) :: endB rs
    | some _ => endB rs
def okO (n : Nat) (ob : List (Nat × Od)) : Bool := ob.all fun e => Nat.blt e.1 n
def frzOs (σ : Sg) : List Nat → Sg
  | [] => σ
  | o :: r => frzOs (frzO σ o) r
def noOwnR : List RM → Bool
  | [] => true
  | .own _ _ :: _ => false
  | _ :: r => noOwnR r
def isMop (σ : Sg) (b : Bool) (d : Option Tmp) : Op → Bool
  | .alloc _ => true
  | .store _ _ _ => true
  | .makeSlice _ _ _ => true
  | .buildSlice _ _ _ => !b
  | .box _ _ => isBx cf d
  | .slice _ x none (some _) none => (match opv cx σ x with
    | some (.ow _) => true
    | _ => false)
  | .call ⟨.builtin .append, _, _⟩ => true
  | .call ⟨.builtin .copy, _, _⟩ => true
  | .call ⟨.value f, ags, _⟩ => (match opv cx σ f with
    | some (.fn f' _) => (match sigG cx σ f' ags.toList cf.cs with
      | some s => !(noOwn s.dom) || (!b && !(noOwnR s.cod))
      | none => false)
    | _ => false)
  | _ => false
def fzB (fz : List Nat) : Option Tmp → Bool
  | some t => has fz t
  | none => false
def frzB (b : Bool) (d : Option Tmp) (τ : Sg) : Sg := match b with
  | true => frzOs τ (refsO (dstL d τ.rg))
  | false => τ
def stepB (τ : Sg) (d : Option Tmp) (k : List (Nat × Dv) → Nat → List (Nat × Od) → Option R) : Option R := grd (okL τ.nx (dstL d τ.rg) && okO τ.nx τ.ob) <| k (dstL d τ.rg) τ.nx τ.ob
def runB (all : List Oper) (fz : List Nat) : List Oper → Nat → Sg → List Rb → List Oi → (Sg → List Rb → List Oi → Option R) → Option R
  | [], _, σ, rs, is, k => k σ rs is
  | o :: r, i, σ, rs, is, k => grd (okPut cx o.dst) <| guardD cx all o σ fun σ w => cnd w
      (pickD cx o σ fun σ => cnd (isMop cf cx ⟨σ.nx, σ.rg, visB (refsL (Oper.looksAt all.toArray o) σ.rg) rs⟩ (fzB fz o.dst) o.dst o.op)
        (mOp cf ⟨0, [], cx.ob⟩ ⟨σ.nx, dd (slotsL (Oper.looksAt all.toArray o) (σ.rg ++ cx.rg)), visB (refsL (Oper.looksAt all.toArray o) σ.rg) rs⟩ o.dst o.op fun τ =>
          stepB (frzB (fzB fz o.dst) o.dst τ) o.dst fun l n ob => runB all fz r (i + 1) ⟨n, putR σ.rg o.dst l, []⟩ (useB i (refsL (Oper.looksAt all.toArray o) σ.rg) rs ++ newB i ob) (is ++ [⟨σ.nx, n, refsO l⟩]) k)
        (eOp cf cx ⟨σ.nx, σ.rg, visB (refsL (Oper.looksAt all.toArray o) σ.rg) rs⟩ o.op fun l => grd (okL σ.nx l) <| runB all fz r (i + 1) (σ.put o.dst l) (seeB i (refsL (Oper.looksAt all.toArray o) σ.rg) rs) (is ++ [⟨σ.nx, σ.nx, refsO l⟩]) k))
      (runB all fz r (i + 1) (σ.put o.dst [(0, .un)]) rs (is ++ [⟨σ.nx, σ.nx, []⟩]) k)
def inB (I : Oi) (o : Nat) : Bool := Nat.ble I.lo o && Nat.blt o I.hi
def chkN (l : List Oper) (i : Nat) (I : Oi) (rs : List Rb) (js : List (Oi × Nat)) : Bool :=
  (rs.all fun r => !inB I r.o || (match r.a with
    | some j => Nat.beq j i || reachB l 16 j i
    | none => false)) && js.all fun J => J.1.refs.all fun p => !inB I p || Nat.beq J.2 i || reachB l 16 J.2 i
def chkB (l : List Oper) (m : Nat) (rs : List Rb) (is : List Oi) : Bool :=
  (rs.all fun r => (match r.a with
      | some j => Nat.blt j m && r.rd.all fun i => reachB l 16 i j
      | none => true) && (match r.c with
      | some k => Nat.blt k m && (match r.a with
        | some j => reachB l 16 k j
        | none => true) && r.rd.all fun i => reachB l 16 k i
      | none => true)) &&
  (is.zipIdx.all fun J => chkN l J.2 J.1 rs is.zipIdx) &&
  (List.range m).all fun i => (List.range m).all fun j => Nat.beq i j || (match (opAt l i).dst with
    | some t => !((opAt l j).dst == some t)
    | none => true)
def drawnN (l : List Oper) : Nat → Nat → Nat
  | 0, m => m
  | f + 1, m => bif Nat.blt 1 m && drawOK2 l (m - 1) then drawnN l f (m - 1) else m
def rslv (al : List (Nat × Operand)) : Operand → Operand
  | .tmp t => (match fndA al t with
    | some x => x
    | none => .tmp t)
  | x => x
def alias (al : List (Nat × Operand)) (o : Oper) : List (Nat × Operand) := match o.op, o.dst with
  | .move x, some d => (d, rslv al x) :: al
  | .assign x, some d => (d, rslv al x) :: al
  | _, _ => al
def frzA : List Oper → List (Nat × Operand) → Sg → Sg
  | [], _, σ => σ
  | o :: r, al, σ => frzA r (alias al o) (frzL cx σ ((onto cf cx σ o.dst o.op).map (rslv al)))
def fzOf (id : Nat) : List Nat := match fndA cf.an.dz id with
  | some l => l
  | none => []
def regB (id : Nat) (l : List Oper) (m : Nat) (σ : Sg) (k : Sg → Option R) : Option R :=
  let fz := fzOf cf id
  let σ := frzOs σ (refsL fz σ.rg)
  runB cf cx l fz (l.take m) 0 ⟨σ.nx, σ.rg, []⟩ (oldB σ.ob) [] fun σ rs is => grd (chkB l m rs is) <| runL cf cx l (l.drop m) ⟨σ.nx, dd σ.rg, endB rs⟩ k
def hasB (id : Nat) : Bool := match fndA cf.an.dz id with
  | some _ => true
  | none => false
def regD (id : Nat) (l : List Oper) (draw : Bool) (σ : Sg) (k : Sg → Option R) : Option R :=
  cnd draw
    (let m := drawnN l l.length l.length
    grd (drawOK2 l m) <| cnd (hasB cf id) (regB cf cx id l m σ k) (runE cf cx l (l.take m) (frzA cf cx (l.take m) [] σ) fun σ => runL cf cx l (l.drop m) ⟨σ.nx, dd σ.rg, σ.ob⟩ k))
    (runL cf cx l l σ k)
def DsD : List (Nat × TF) → Type
  | [] => Unit
  | [a] => a.2.D
  | a :: b :: r => a.2.D × DsD (b :: r)
def gatF (σ : Sg) (t : Nat) (f : TF) (k : f.D → List Nat → Option R) : Option R := match f, k with
  | .d s, k => asD (get cx σ t 0) s fun y => k y []
  | .q s, k => (match get cx σ t 0 with
    | some (.q s' x) => Ty.cast s' s x fun y => k y []
    | _ => none)
  | .own s E, k => (match get cx σ t 0 with
    | some (.ow o) => (match fndO σ.ob o with
      | some (.own s' E' xs) => grd (Nat.beq E E') <| Ty.cast (.l s') (.l s) xs fun y => k y [o]
      | _ => none)
    | some .nil => k ([] : List s.D) []
    | _ => none)
  | .var s E, k => (match get cx σ t 0 with
    | some (.vs o _) => (match fndO σ.ob o with
      | some (.var s' E' z) => grd (Nat.beq E E') <| Ty.cast s' s z fun y => k y [o]
      | _ => none)
    | _ => none)
def noneIn (os : List Nat) : List Nat → Bool
  | [] => true
  | o :: r => !has os o && noneIn os r
def gat (σ : Sg) : (l : List (Nat × TF)) → (DsD l → List Nat → Option R) → Option R
  | [], k => k () []
  | [a], k => gatF cx σ a.1 a.2 k
  | a :: b :: r, k => gatF cx σ a.1 a.2 fun x o => gat σ (b :: r) fun y os => grd (noneIn os o) <| k (x, y) (o ++ os)
def nsOK (σ : Sg) : List (Nat × NF) → Bool
  | [] => true
  | (t, f) :: r => (match f, get cx σ t 0 with
    | .kb b, some (.kb c) => b == c
    | .nil, some .nil => true
    | .ci x, some (.d .i y) => eqI x y
    | .cu x, some (.d .u y) => eqU x y
    | .al s, some (.ow o) => (match get cx σ s 0 with
      | some (.ow o') => Nat.beq o o'
      | _ => false)
    | .al s, some (.vs o _) => (match get cx σ s 0 with
      | some (.vs o' _) => Nat.beq o o'
      | _ => false)
    | _, _ => false) && nsOK σ r
def bldF (o : Nat) (f : TF) (x : f.D) : Dv × Option Od := match f, x with
  | .d t, x => (.d t x, none)
  | .q t, x => (.q t x, none)
  | .own t E, x => (.ow o, some (.own t E x))
  | .var t E, x => (.vs o t, some (.var t E x))
def bld : (l : List (Nat × TF)) → DsD l → Nat → List (Nat × Nat × Dv) × List (Nat × Od)
  | [], _, _ => ([], [])
  | [a], x, o => let v := bldF o a.2 x
    ([(a.1, 0, v.1)], match v.2 with
      | some y => [(o, y)]
      | none => [])
  | a :: b :: r, x, o => let v := bldF o a.2 x.1
    let y := bld (b :: r) x.2 (o + 1)
    ((a.1, 0, v.1) :: y.1, match v.2 with
      | some q => (o, q) :: y.2
      | none => y.2)
def bldN (rg : List (Nat × Nat × Dv)) : List (Nat × NF) → List (Nat × Nat × Dv)
  | [] => rg
  | (t, f) :: r => (match f with
    | .kb b => [(t, 0, .kb b)]
    | .nil => [(t, 0, .nil)]
    | .ci x => [(t, 0, .d .i x)]
    | .cu x => [(t, 0, .d .u x)]
    | .al s => (match fnd rg s 0 with
      | some v => [(t, 0, v)]
      | none => [])) ++ bldN rg r
def bldS (sh : Sh) (x : DsD sh.ds) (kp : Sg) : Sg :=
  let y := bld sh.ds x kp.nx
  ⟨kp.nx + sh.ds.length, bldN y.1 sh.ns ++ y.1 ++ kp.rg, y.2 ++ kp.ob⟩
def frzS (σ : Sg) : List (Nat × TF) → Sg
  | [] => σ
  | (t, .d _) :: r => frzS (frz cx σ (.tmp t)) r
  | _ :: r => frzS σ r
def outS (sh : Sh) (σ : Sg) (k : DsD sh.ds → Option R) : Option R := let σ := frzS cx σ sh.ds
  grd (nsOK cx σ sh.ns) <| gat cx σ sh.ds fun x _ => k x
def SmD : List (Tg × Sh) → Type
  | [] => Empty
  | [a] => DsD a.2.ds
  | a :: b :: r => DsD a.2.ds ⊕ SmD (b :: r)
def tgEq : Tg → Tg → Bool
  | .n, .n => true
  | .x i, .x j => Nat.beq i j
  | .r, .r => true
  | _, _ => false
def injS (σ : Sg) (t : Tg) : (l : List (Tg × Sh)) → (SmD l → Option R) → Option R
  | [], _ => none
  | [a], k => grd (tgEq a.1 t) <| outS cx a.2 σ k
  | a :: b :: r, k => cnd (tgEq a.1 t) (outS cx a.2 σ fun x => k (.inl x)) (injS σ t (b :: r) fun y => k (.inr y))
def elimS (kp : Sg) (K : Tg → Sg → Option R) : (l : List (Tg × Sh)) → SmD l → Option R
  | [] => fun _ => none
  | [a] => fun x => K a.1 (bldS a.2 x kp)
  | a :: b :: r => fun x => Sum.elim (α := DsD a.2.ds) (β := SmD (b :: r)) (fun x => K a.1 (bldS a.2 x kp)) (elimS kp K (b :: r)) x
def asg : Code → List Nat
  | .region _ ops _ => ops.toList.filterMap (·.dst)
  | .seq a b => asg a ++ asg b
  | .cond _ a b => asg a ++ asg b
  | .block _ c => asg c
  | .loop c => asg c
  | .scope c => asg c
  | _ => []
def rid : Code → Option Nat
  | .region i _ _ => some i
  | .seq a b => (match rid a with
    | some i => some i
    | none => rid b)
  | .cond _ a b => (match rid a with
    | some i => some i
    | none => rid b)
  | .block _ c => rid c
  | .loop c => rid c
  | .scope c => rid c
  | _ => none
def oneUp : Option Nat → Nat
  | some i => i + 1
  | none => 0
def jkey (a b : Code) : Nat := oneUp (rid a) * 65536 + oneUp (rid b)
def keptO (σ : Sg) : List Nat → List Nat
  | [] => []
  | t :: r => match fnd σ.rg t 0 with
    | some v => (match refO v with
      | some o => o :: keptO σ r
      | none => keptO σ r)
    | none => keptO σ r
def isKept (ags ko : List Nat) (e : Nat × Nat × Dv) : Bool := !has ags e.1 && (match refO e.2.2 with
  | some o => has ko o
  | none => true)
def keep (σ : Sg) (ags ro : List Nat) : Sg := let ko := keptO σ ro
  ⟨σ.nx, σ.rg.filter (isKept ags ko), σ.ob.filter fun e => has ko e.1⟩
def rest (σ : Sg) (ags ro : List Nat) : Sg := let ko := keptO σ ro
  ⟨σ.nx, σ.rg.filter (fun e => !isKept ags ko e), σ.ob.filter fun e => !has ko e.1⟩
def addC (cx kp : Sg) : Sg := ⟨kp.nx, kp.rg ++ cx.rg, kp.ob ++ cx.ob⟩
end
def den (cf : Cf) : Code → {R : Type} → Sg → Sg → (Tg → Sg → Option R) → Option R
  | .skip, _, cx, σ, K => K .n σ
  | .label _, _, cx, σ, K => K .n σ
  | .exit id, _, cx, σ, K => K (.x id) σ
  | .ret, _, cx, σ, K => K .r σ
  | .scope c, _, cx, σ, K => den cf c cx σ K
  | .region i ops dr, _, cx, σ, K => regD cf cx i ops.toList dr σ fun σ => K .n σ
  | .cond c a b, _, cx, σ, K => (match opv cx σ c with
    | some (.kb true) => den cf a cx σ K
    | some (.kb false) => den cf b cx σ K
    | some (.d .b x) => ifB x (den cf a cx σ K) (den cf b cx σ K)
    | _ => none)
  | .block id c, _, cx, σ, K => den cf c cx σ fun t σ => match t with
    | .x j => cnd (Nat.beq j id) (K .n σ) (K (.x j) σ)
    | t => K t σ
  | .seq a b, _, cx, σ, K =>
    (match fndA cf.an.jn (jkey a b) with
    | none => den cf a cx σ fun t σ => (match t with
      | .n => den cf b cx σ K
      | t => K t σ)
    | some s =>
      let ags := asg a
      let kp := keep σ ags s.ro
      bd (den cf a (addC cx kp) (rest σ ags s.ro) fun t σ => injS (addC cx kp) σ t s.tg some) fun x =>
        elimS kp (fun t σ => match t with
          | .n => den cf b cx σ K
          | t => K t σ) s.tg x)
  | .loop c, _, cx, σ, K =>
    (match (match rid c with
      | some i => fndA cf.an.lp i
      | none => none) with
    | none => none
    | some s =>
      let ags := asg c
      let kp := keep σ ags s.sg.ro
      let cx' := addC cx kp
      outS cx' s.hd (rest σ ags s.sg.ro) fun x =>
        bd (loopN (fun L x => den cf c cx' (bldS s.hd x ⟨kp.nx, [], []⟩) fun t σ => match t with
          | .n => outS cx' s.hd σ L
          | t => injS cx' σ t s.sg.tg some) cf.fu x) fun x => elimS kp K s.sg.tg x)
  | _, _, _, _, _ => none
def argS : (dom : List AM) → AsD dom → Nat → List (Nat × Nat × Dv) × List (Nat × Od)
  | [], _, _ => ([], [])
  | .d t :: r, x, i => let y := argS r x.2 (i + 1)
    ((i, 0, .d t x.1) :: y.1, y.2)
  | .q t :: r, x, i => let y := argS r x.2 (i + 1)
    ((i, 0, .q t x.1) :: y.1, y.2)
  | .own t E :: r, x, i => let y := argS r x.2 (i + 1)
    ((i, 0, .ow i) :: y.1, (i, .own t E x.1) :: y.2)
  | .fn dom cod :: r, x, i => let y := argS r x.2 (i + 1)
    ((i, 0, .fp dom cod x.1) :: y.1, y.2)
def retF {R : Type} (cf : Cf) (σ : Sg) (r : ResultVar) (m : RM) (k : m.D → List Nat → Option R) : Option R := match r, m, k with
  | .tmp t, .d s, k => asD (get ⟨0, [], []⟩ σ t 0) s fun y => k y []
  | .tmp t, .own s E, k => gatF ⟨0, [], []⟩ σ t (.own s E) k
  | .cell t E, .d s, k => (match get ⟨0, [], []⟩ σ t 0, tyA cf E with
    | some (.vs o _), some ti => (match fndO σ.ob o with
      | some (.var s' E' z) => grd (Nat.beq E E') <| Ty.cast s' ti.ty z fun z => Ty.cast ti.ty s z fun y => k y [o]
      | _ => none)
    | _, _ => none)
  | _, _, _ => none
def retD {R : Type} (cf : Cf) (σ : Sg) : List ResultVar → (cod : List RM) → (RsD cod → List Nat → Option R) → Option R
  | [], [], k => k () []
  | [v], [m], k => retF cf σ v m k
  | v :: v' :: vs, m :: m' :: ms, k => retF cf σ v m fun x o => retD cf σ (v' :: vs) (m' :: ms) fun y os => grd (noneIn os o) <| k (x, y) (o ++ os)
  | _, _, _ => none
def okC (N : Nat) : Code → Bool
  | .region _ ops _ => ops.toList.all fun o => okDst N o.dst
  | .seq a b => okC N a && okC N b
  | .cond _ a b => okC N a && okC N b
  | .block _ c => okC N c
  | .loop c => okC N c
  | .scope c => okC N c
  | _ => true
def frzD (σ : Sg) : List ResultVar → List RM → Sg
  | .tmp t :: vs, .d _ :: ms => frzD (frz ⟨0, [], []⟩ σ (.tmp t)) vs ms
  | _ :: vs, _ :: ms => frzD σ vs ms
  | _, _ => σ
def denF (cf : Cf) (fn : Func) (dom : List AM) (cod : List RM) (x : AsD dom) : Option (RsD cod) := match fn.body with
  | some c => grd (okC fn.ntmps c && Nat.ble dom.length fn.ntmps) <|
    let y := argS dom x 0
    den cf c ⟨0, [], []⟩ ⟨dom.length, y.1, y.2⟩ fun t σ => (match t with
      | .r => retD cf (frzD σ fn.results.toList cod) fn.results.toList cod fun y _ => some y
      | .n => retD cf (frzD σ fn.results.toList cod) fn.results.toList cod fun y _ => some y
      | _ => none)
  | none => none
def ownT : List AM → Nat → List ResultVar
  | [], _ => []
  | .own _ _ :: r, i => .tmp i :: ownT r (i + 1)
  | _ :: r, i => ownT r (i + 1)
def pinL (pn : Nat → Value) : List AM → Nat → List (Nat × Nat × Dv)
  | [], _ => []
  | .own _ _ :: r, i => (i, 0, .pin (pn i)) :: pinL pn r (i + 1)
  | _ :: r, i => pinL pn r (i + 1)
def denG (cf : Cf) (fn : Func) (dom : List AM) (cod : List RM) (bk : Nat) (pn : Nat → Value) (x : AsD dom) : Option (RsD cod) := match fn.body with
  | some c => grd (okC fn.ntmps c && Nat.ble dom.length fn.ntmps && Nat.beq (fn.results.toList.length + bk) cod.length && Nat.beq (ownT dom 0).length bk && Nat.blt 0 bk) <|
    let y := argS dom x 0
    let rv := fn.results.toList ++ ownT dom 0
    den cf c ⟨0, pinL pn dom 0, []⟩ ⟨dom.length, y.1, y.2⟩ fun t σ => (match t with
      | .r => retD cf (frzD σ rv cod) rv cod fun y _ => some y
      | .n => retD cf (frzD σ rv cod) rv cod fun y _ => some y
      | _ => none)
  | none => none
end Go.Proofs.YtjnjfinbdfolkaaGreat
end

section
set_option linter.unusedVariables false
set_option linter.unusedSimpArgs false
namespace Go.Proofs.YtjnjfinbdfolkaaGreat
def ffT (p : Prop) : FF where
  p _ _ := p
  keep h _ := h
  sub h _ := h
def capF : List PD → List Value → List FF
  | c :: cs, v :: vs => fP c.t.rep c.x v :: capF cs vs
  | _, _ => []
def tsF : (ts : List Ty) → TsD ts → List Value → List FF
  | [], _, _ => []
  | t :: ts, x, vs => fV t.rep x.1 (vs.headD undef) :: tsF ts x.2 vs.tail
def csF : (ts : List Ty) → CsD ts → List Value → List FF
  | [], _, _ => []
  | [t], x, vs => [fV t.rep x (vs.headD undef)]
  | t :: s :: r, x, vs => fV t.rep x.1 (vs.headD undef) :: csF (s :: r) x.2 vs.tail
def FnSpec (P : Program) (fid : FuncId) (caps : List Value) (FG : List FF) (dom cod : List Ty) (g : TsD dom → Option (CsD cod)) : Prop :=
  fnB P fid = true ∧ ∀ (x : TsD dom) (r : CsD cod), g x = some r → ∀ vs : List Value, vs.length = dom.length →
    Fn P fid (vs ++ caps).toArray (tsF dom x vs ++ FG) oneOr (fun us => csF cod r us) (fun us => us.length = cod.length)
def fnF (P : Program) (dom cod : List Ty) (g : TsD dom → Option (CsD cod)) (v : Value) : FF where
  p S w := ∃ fid caps FG, v = .func (.func fid) #[] caps.toArray ∧ FnSpec P fid caps FG dom cod g ∧ All S FG w
  keep := by rintro S w w' ⟨fid, caps, FG, h1, h2, h3⟩ k; exact ⟨fid, caps, FG, h1, h2, All.keep k h3⟩
  sub := by rintro S S' w ⟨fid, caps, FG, h1, h2, h3⟩ k; exact ⟨fid, caps, FG, h1, h2, All.sub k h3⟩
def amF (P : Program) : (a : AM) → a.D → Value → FF
  | .d t, x, v => fV t.rep x v
  | .q t, x, v => fP t.rep x v
  | .own _ _, _, _ => ffT True
  | .fn dom cod, g, v => fnF P dom cod g v
def amM : (a : AM) → a.D → Value → List MF
  | .own t E, xs, v => [mO t.rep E v xs]
  | _, _, _ => []
def argFs (P : Program) : (dom : List AM) → AsD dom → List Value → List FF
  | [], _, _ => []
  | a :: r, x, vs => amF P a x.1 (vs.headD undef) :: argFs P r x.2 vs.tail
def argMs : (dom : List AM) → AsD dom → List Value → List MF
  | [], _, _ => []
  | a :: r, x, vs => amM a x.1 (vs.headD undef) ++ argMs r x.2 vs.tail
def rmF : (m : RM) → m.D → Value → List FF
  | .d t, x, v => [fV t.rep x v]
  | .own _ _, _, _ => []
def rmM : (m : RM) → m.D → Value → List MF
  | .own t E, xs, v => [mO t.rep E v xs]
  | .d _, _, _ => []
def resFs : (rs : List RM) → RsD rs → List Value → List FF
  | [], _, _ => []
  | [m], x, vs => rmF m x (vs.headD undef)
  | m :: n :: r, x, vs => rmF m x.1 (vs.headD undef) ++ resFs (n :: r) x.2 vs.tail
def resMs : (rs : List RM) → RsD rs → List Value → List MF
  | [], _, _ => []
  | [m], x, vs => rmM m x (vs.headD undef)
  | m :: n :: r, x, vs => rmM m x.1 (vs.headD undef) ++ resMs (n :: r) x.2 vs.tail
def ownVs : List AM → List Value → List Value
  | [], _ => []
  | .own _ _ :: r, vs => vs.headD undef :: ownVs r vs.tail
  | _ :: r, vs => ownVs r vs.tail
def outV (bk n : Nat) (us : List Value) : Value := match bk with
  | 0 => oneOr us
  | b + 1 => oneOr (us.take (n - (b + 1)))
def outOk (dom : List AM) (vs : List Value) (bk n : Nat) (us : List Value) : Prop := match bk with
  | 0 => us.length = n
  | b + 1 => us.length = n ∧ us.drop (n - (b + 1)) = ownVs dom vs
def SigOK (P : Program) (s : Sig) : Prop :=
  fnB P s.f = true ∧ ∀ (x : AsD s.dom) (r : RsD s.cod), s.M x = some r → ∀ vs : List Value, vs.length = s.dom.length →
    FnG P s.f vs.toArray (argMs s.dom x vs) (argFs P s.dom x vs) (outV s.bk s.cod.length) (fun us => resMs s.cod r us) (fun us => resFs s.cod r us) (outOk s.dom vs s.bk s.cod.length)
theorem SigOK.plain {P : Program} {s : Sig} (h : SigOK P s) (hb : s.bk = 0) {x : AsD s.dom} {r : RsD s.cod} (hM : s.M x = some r) {vs : List Value} (hl : vs.length = s.dom.length) :
    FnG P s.f vs.toArray (argMs s.dom x vs) (argFs P s.dom x vs) oneOr (fun us => resMs s.cod r us) (fun us => resFs s.cod r us) (fun us => us.length = s.cod.length) := by
  have h1 := h.2 x r hM vs hl
  rw [hb] at h1
  exact h1
def fldT (P : Program) (t : TypeId) (i : Nat) : Option (Nat × Bool × Nat) := match P.underlying t with
  | some (.struct fs) => match fs[i]? with
    | some f => match tyB P f.type with
      | some (agg, n, _, some _) => some (f.offset, agg, n)
      | _ => none
    | none => none
  | _ => none
def TKok (P : Program) (t : TypeId) (ti : TI) : Prop := match ti.k with
  | .int k => P.underlying t = some (.int k)
  | .bool => P.underlying t = some .bool
  | .sl E => P.underlying t = some (.slice E) ∧ ∃ e, ti.ty = .l e
  | .st n => ti.ty.rep.agg = true ∧ (∀ i f, fld n ti.ty i = some f → fldB P t i = some f.off) ∧
      (∃ fs, P.underlying t = some (.struct fs) ∧ ∃ pl : Array (Nat × Nat), (∀ w, (fs.mapM (fun f => do pure (f.offset, ← sizeOf f.type)) : Sem (Array (Nat × Nat))).run P w = .ok pl w) ∧
        ∀ i f, fld n ti.ty i = some f → pl[i]? = some (f.off, f.f.n)) ∧
      ∀ i f, fld n ti.ty i = some f → fldT P t i = some (f.off, f.f.rep.agg, f.f.n)
  | .ar k E => ti.ty.rep.agg = true ∧ P.underlying t = some (.array k E)
def TIok (P : Program) (t : TypeId) (ti : TI) : Prop :=
  (∃ zero, TyF P t ti.ty.rep.agg ti.ty.rep.n ti.B zero ∧ zero.cells.size = ti.ty.rep.n ∧ ∀ S w, ti.ty.rep.p S ti.ty.z zero.cells.toList w) ∧ 0 < ti.B ∧ 0 < ti.ty.rep.n ∧ TKok P t ti
def TTok (P : Program) (tt : List (Nat × TI)) : Prop := ∀ t ti, fndA tt t = some ti → TIok P t ti
def ELok (P : Program) (tt : List (Nat × TI)) : Prop := ∀ t s E B, fndA tt t = some ⟨.l s, .sl E, B⟩ → ∃ ti, fndA tt E = some ti ∧ ti.ty = s
def Fl.ok (t : Ty) (f : Fl t.D) : Prop := ∀ z : t.D, Sub t.rep.c z f.off f.f.rep (f.get z) (fun y => f.set y z)
def cloF (f : FuncId) (c : List PD) (v : Value) : FF where
  p S w := ∃ cs : List Value, v = .func (.func f) #[] cs.toArray ∧ cs.length = c.length ∧ All S (capF c cs) w
  keep := by rintro S w w' ⟨cs, h1, h2, h3⟩ k; exact ⟨cs, h1, h2, All.keep k h3⟩
  sub := by rintro S S' w ⟨cs, h1, h2, h3⟩ k; exact ⟨cs, h1, h2, All.sub k h3⟩
def hold (P : Program) (vs : Nat → Value) : Dv → Value → FF
  | .d t x, v => fV t.rep x v
  | .q t x, v => fP t.rep x v
  | .kb b, v => ffT (v = .bool b)
  | .un, v => ffT (v = undef)
  | .nil, v => ffT (v = .slice none 0 0)
  | .ow o, v => ffT (v = vs o)
  | .ep o t j f, v => ffT (Fl.ok t f ∧ ∃ b n cap, vs o = .slice (some ⟨b, 0, none⟩) n cap ∧ j < n ∧ v = .pointer (some ⟨b, 0 + j * t.rep.n + f.off, none⟩))
  | .sv o t lo n, v => ffT ((∃ b m cap c, vs o = .slice (some ⟨b, 0, none⟩) m cap ∧ lo + n ≤ m ∧ n ≤ c ∧ c ≤ 9223372036854775807 ∧ v = .slice (some ⟨b, 0 + lo * t.rep.n, none⟩) n c) ∨ (n = 0 ∧ ∃ ao c, c ≤ 9223372036854775807 ∧ v = .slice ao 0 c))
  | .vs o t, v => ffT (v = vs o ∧ ∃ b, vs o = .pointer (some ⟨b, 0, none⟩))
  | .vp o t f, v => ffT (Fl.ok t f ∧ ∃ b, vs o = .pointer (some ⟨b, 0, none⟩) ∧ v = .pointer (some ⟨b, 0 + f.off, none⟩))
  | .fn f c, v => cloF f c v
  | .fp dom cod g, v => fnF P dom cod g v
  | .pin u, v => ffT (v = u)
def holdC (P : Program) (vs : Nat → Value) (d : Dv) (v : Value) (i : Nat) : FF where
  p S w := match i with
    | 0 => (hold P vs d v).p S w
    | i + 1 => ∃ us u, v = .tuple us ∧ us[i]? = some u ∧ (hold P vs d u).p S w
  keep := by
    intro S w w' h k
    cases i with
    | zero => exact (hold P vs d v).keep h k
    | succ i => obtain ⟨us, u, h1, h2, h3⟩ := h; exact ⟨us, u, h1, h2, (hold P vs d u).keep h3 k⟩
  sub := by
    intro S S' w h k
    cases i with
    | zero => exact (hold P vs d v).sub h k
    | succ i => obtain ⟨us, u, h1, h2, h3⟩ := h; exact ⟨us, u, h1, h2, (hold P vs d u).sub h3 k⟩
def moF (vs : Nat → Value) (e : Nat × Od) : MF := match e.2 with
  | .own t E xs => mO t.rep E (vs e.1) xs
  | .var t E z => mP t.rep.c E (vs e.1) z
def MS (vs : Nat → Value) (ob : List (Nat × Od)) : List MF := ob.map (moF vs)
def RS (P : Program) (vs : Nat → Value) (env : Env) (rg : List (Nat × Nat × Dv)) : List FF := rg.map fun e => holdC P vs e.2.2 (env e.1) e.2.1
structure Fr where
  we : World
  Se : Nat → Prop
  F : List MF
  G : List FF
structure Bd (cx σ : Sg) : Prop where
  o1 : ∀ e ∈ σ.ob, e.1 < σ.nx
  o2 : ∀ e ∈ cx.ob, e.1 < σ.nx
  r1 : ∀ e ∈ σ.rg, ∀ o, refO e.2.2 = some o → o < σ.nx
  r2 : ∀ e ∈ cx.rg, ∀ o, refO e.2.2 = some o → o < σ.nx
def Rel (P : Program) (fr : Fr) (cx σ : Sg) (env : Env) (w : World) : Prop :=
  Bd cx σ ∧ ∃ vs : Nat → Value, St fr.we fr.Se (MS vs σ.ob ++ (MS vs cx.ob ++ fr.F)) (RS P vs env σ.rg ++ (RS P vs env cx.rg ++ fr.G)) w
section
variable {P : Program} {vs vs' : Nat → Value} {env env' : Env}
theorem hold_vs {d : Dv} (h : ∀ o, refO d = some o → vs' o = vs o) (v : Value) : hold P vs' d v = hold P vs d v := by
  cases d <;> simp only [hold] <;> simp only [refO, Option.some.injEq, forall_eq'] at h <;> rw [h]
theorem MS_congr : ∀ {ob : List (Nat × Od)}, (∀ e ∈ ob, vs' e.1 = vs e.1) → MS vs' ob = MS vs ob
  | [], _ => rfl
  | (o, x) :: r, h => by
    have h1 := h (o, x) (List.mem_cons_self ..)
    have h2 := MS_congr (ob := r) fun e he => h e (List.mem_cons_of_mem _ he)
    show moF vs' (o, x) :: MS vs' r = moF vs (o, x) :: MS vs r
    rw [h2]
    cases x <;> simp only [moF] <;> rw [h1]
theorem RS_congr : ∀ {rg : List (Nat × Nat × Dv)}, (∀ e ∈ rg, ∀ o, refO e.2.2 = some o → vs' o = vs o) → (∀ e ∈ rg, env' e.1 = env e.1) → RS P vs' env' rg = RS P vs env rg
  | [], _, _ => rfl
  | (t, i, d) :: r, h, h' => by
    show holdC P vs' d (env' t) i :: RS P vs' env' r = holdC P vs d (env t) i :: RS P vs env r
    rw [RS_congr (rg := r) (fun e he => h e (List.mem_cons_of_mem _ he)) (fun e he => h' e (List.mem_cons_of_mem _ he)), h' (t, i, d) (List.mem_cons_self ..)]
    congr 1
    unfold holdC
    simp only [hold_vs (P := P) (h (t, i, d) (List.mem_cons_self ..))]
theorem all_mem {S : Nat → Prop} {w : World} : ∀ {Γ : List FF}, All S Γ w ↔ ∀ f ∈ Γ, f.p S w
  | [] => ⟨fun _ f h => absurd h List.not_mem_nil, fun _ => trivial⟩
  | f :: r => by
    have ih := all_mem (S := S) (w := w) (Γ := r)
    constructor
    · intro h x hx
      rcases List.mem_cons.1 hx with rfl | hx
      · exact h.1
      · exact ih.1 h.2 x hx
    · intro h
      exact ⟨h f (List.mem_cons_self ..), ih.2 fun x hx => h x (List.mem_cons_of_mem _ hx)⟩
theorem beq_t {a b : Nat} (h : Nat.beq a b = true) : a = b := Nat.eq_of_beq_eq_true h
theorem fnd_mem : ∀ {rg : List (Nat × Nat × Dv)} {t i : Nat} {d : Dv}, fnd rg t i = some d → (t, i, d) ∈ rg
  | (t', i', d') :: r, t, i, d, h => by
    unfold fnd at h
    cases hb : Nat.beq t' t && Nat.beq i' i
    · rw [hb] at h; exact List.mem_cons_of_mem _ (fnd_mem h)
    · rw [hb] at h
      simp only [cond_true, Option.some.injEq] at h
      rw [Bool.and_eq_true] at hb
      rw [← h, beq_t hb.1, beq_t hb.2]; exact List.mem_cons_self ..
theorem rs_get {S : Nat → Prop} {w : World} {rg : List (Nat × Nat × Dv)} (h : All S (RS P vs env rg) w) {t i : Nat} {d : Dv} (hd : (t, i, d) ∈ rg) : (holdC P vs d (env t) i).p S w :=
  all_mem.1 h _ (List.mem_map.2 ⟨(t, i, d), hd, rfl⟩)
theorem fndO_some : ∀ {ob : List (Nat × Od)} {o : Nat} {x : Od}, fndO ob o = some x → ∃ i, ob[i]? = some (o, x) ∧ (∀ y, seto ob o y = ob.set i (o, y)) ∧ delo ob o = ob.eraseIdx i
  | (o', x') :: r, o, x, h => by
    unfold fndO at h
    cases hb : Nat.beq o' o
    · rw [hb] at h
      obtain ⟨i, h1, h2, h3⟩ := fndO_some (ob := r) h
      exact ⟨i + 1, by simpa using h1, fun y => by unfold seto; rw [hb]; simp only [cond_false, List.set_cons_succ, h2 y], by unfold delo; rw [hb]; simp only [cond_false, List.eraseIdx_cons_succ, h3]⟩
    · rw [hb] at h
      simp only [cond_true, Option.some.injEq] at h
      have := beq_t hb
      subst h; subst this
      exact ⟨0, rfl, fun y => by unfold seto; rw [hb]; rfl, by unfold delo; rw [hb]; rfl⟩
theorem ms_idx {ob : List (Nat × Od)} {i : Nat} {e : Nat × Od} {R : List MF} (h : ob[i]? = some e) : (MS vs ob ++ R)[i]? = some (moF vs e) := by
  have hi := (List.getElem?_eq_some_iff.1 h).1
  rw [List.getElem?_append_left (by simpa [MS] using hi), MS, List.getElem?_map, h]; rfl
theorem ms_set {ob : List (Nat × Od)} {i : Nat} {e e' : Nat × Od} {R : List MF} (h : ob[i]? = some e) : (MS vs ob ++ R).set i (moF vs e') = MS vs (ob.set i e') ++ R := by
  have hi := (List.getElem?_eq_some_iff.1 h).1
  rw [List.set_append_left _ _ (by simpa [MS] using hi), MS, MS, List.map_set]
theorem map_er {α β : Type} (f : α → β) : ∀ (l : List α) (i : Nat), (l.eraseIdx i).map f = (l.map f).eraseIdx i
  | [], i => by simp
  | _ :: _, 0 => rfl
  | a :: l, i + 1 => by simp only [List.eraseIdx_cons_succ, List.map_cons, map_er f l i]
theorem ms_erase {ob : List (Nat × Od)} {i : Nat} {e : Nat × Od} {R : List MF} (h : ob[i]? = some e) : (MS vs ob ++ R).eraseIdx i = MS vs (ob.eraseIdx i) ++ R := by
  have hi := (List.getElem?_eq_some_iff.1 h).1
  rw [List.eraseIdx_append_of_lt_length (by simpa [MS] using hi), MS, MS, map_er]
theorem geto_mem {cx σ : Sg} {o : Nat} {x : Od} (h : geto cx σ o = some x) : (o, x) ∈ σ.ob ∨ (o, x) ∈ cx.ob := by
  unfold geto at h
  split at h
  · next d hd =>
    cases h
    obtain ⟨i, h1, _⟩ := fndO_some hd
    exact .inl (List.mem_of_getElem? h1)
  · obtain ⟨i, h1, _⟩ := fndO_some h
    exact .inr (List.mem_of_getElem? h1)
theorem get_mem {cx σ : Sg} {t i : Nat} {d : Dv} (h : get cx σ t i = some d) : (t, i, d) ∈ σ.rg ∨ (t, i, d) ∈ cx.rg := by
  unfold get at h
  split at h
  · next d' hd => cases h; exact .inl (fnd_mem hd)
  · exact .inr (fnd_mem h)
theorem geto_M {S : Nat → Prop} {w : World} {cx σ : Sg} {o : Nat} {x : Od} {F : List MF} (hM : AllM S (MS vs σ.ob ++ (MS vs cx.ob ++ F)) w) (h : geto cx σ o = some x) : (moF vs (o, x)).p S w := by
  refine allM_mem.1 hM _ ?_
  rcases geto_mem h with h | h
  · exact List.mem_append.2 (.inl (List.mem_map.2 ⟨_, h, rfl⟩))
  · exact List.mem_append.2 (.inr (List.mem_append.2 (.inl (List.mem_map.2 ⟨_, h, rfl⟩))))
end
theorem cast_s {R : Type} {s t : Ty} {x : s.D} {k : t.D → Option R} {r : R} (h : Ty.cast s t x k = some r) : ∃ e : s = t, k (e ▸ x) = some r := by
  unfold Ty.cast at h
  split at h
  · next e _ => exact ⟨e, h⟩
  · cases h
theorem grd_s {R : Type} {b : Bool} {x : Option R} {r : R} (h : grd b x = some r) : b = true ∧ x = some r := by
  cases b
  · cases h
  · exact ⟨rfl, h⟩
end Go.Proofs.YtjnjfinbdfolkaaGreat
end

section
set_option linter.unusedVariables false
set_option linter.unusedSimpArgs false
namespace Go.Proofs.YtjnjfinbdfolkaaGreat
def tmpO : Operand → Option Tmp
  | .tmp t => some t
  | _ => none
def tmpsOf (op : Op) : List Tmp := op.operands.toList.filterMap tmpO
def Lk (P : Program) (vs : Nat → Value) (env : Env) (S : Nat → Prop) (w : World) (cx σ : Sg) (t : Tmp) : Prop :=
  ∀ i d, get cx σ t i = some d → (holdC P vs d (env t) i).p S w
def LkO (P : Program) (vs : Nat → Value) (env : Env) (S : Nat → Prop) (w : World) (cx σ : Sg) (x : Operand) : Prop := ∀ t, tmpO x = some t → Lk P vs env S w cx σ t
def ES (P : Program) (o : Oper) (cx σ : Sg) (F : List MF) (l : List (Nat × Dv)) : Prop :=
  ∀ (env : Env) (w : World) (S : Nat → Prop) (vs : Nat → Value), (∀ k, w.heap.size ≤ k → S k) → AllM S (MS vs σ.ob ++ (MS vs cx.ob ++ F)) w → (∀ t ∈ tmpsOf o.op, Lk P vs env S w cx σ t) →
    OpR P o env w (fun v w' => Ext w w' ∧ ∀ e ∈ l, (holdC P vs e.2 v e.1).p S w')
section
variable {P : Program} {cf : Cf} {cx σ : Sg} {F : List MF} {vs : Nat → Value} {env : Env} {S : Nat → Prop} {w : World} {R : Type} {r : R}
  {d : Option Tmp} {ty t yt : TypeId} {pos : String} {aft : Array Edge} {g : Option (Nat × Bool)} {x y : Operand}
theorem lk_of {op : Op} (h : ∀ t ∈ tmpsOf op, Lk P vs env S w cx σ t) (hx : x ∈ op.operands.toList) : LkO P vs env S w cx σ x :=
  fun t ht => h t (List.mem_filterMap.2 ⟨x, hx, ht⟩)
theorem opv_hold {v : Dv} (h : opv cx σ x = some v) (hl : LkO P vs env S w cx σ x) : (hold P vs v (ev env x)).p S w := by
  cases x with
  | tmp t => exact hl t rfl 0 v h
  | const c =>
    simp only [opv] at h
    unfold cv at h
    split at h
    · split at h
      · next hx => cases h; exact i64_fV hx
      · cases h
    · split at h
      · next x hx =>
        cases h
        have : ((x.toNat : Nat) : Int) = x := Int.toNat_of_nonneg hx.1
        have h2 : x.toNat < 18446744073709551616 := by omega
        have := u64_fV (S := S) (w := w) h2
        rwa [‹((x.toNat : Nat) : Int) = x›] at this
      · cases h
    · cases h; exact rfl
    · cases h; exact rfl
    · cases h
  | global g => cases h
  | func f => cases h; exact ⟨[], rfl, rfl, trivial⟩
theorem pdOf_hold {v : Dv} {u : Value} {p : PD} (h : pdOf v = some p) (hv : (hold P vs v u).p S w) : (fV p.t.rep p.x u).p S w := by
  cases v <;> simp only [pdOf, Option.some.injEq, reduceCtorEq] at h
  · subst h; exact hv
  · subst h
    rw [show u = _ from hv]; exact bool_fV
theorem pd_hold {p : PD} (h : pd cx σ x = some p) (hl : LkO P vs env S w cx σ x) : (fV p.t.rep p.x (ev env x)).p S w := by
  unfold pd at h
  cases hv : opv cx σ x with
  | none => rw [hv] at h; cases h
  | some v => rw [hv] at h; exact pdOf_hold h (opv_hold hv hl)
theorem pd_i {a : Int} (h : pd cx σ x = some ⟨.i, a⟩) (hl : LkO P vs env S w cx σ x) : ev env x = .int .i64 a ∧ InR a := fV_i64 (pd_hold h hl)
theorem pd_u {a : Nat} (h : pd cx σ x = some ⟨.u, a⟩) (hl : LkO P vs env S w cx σ x) : ev env x = .int .u64 (a : Int) ∧ InU a := fV_u64 (pd_hold h hl)
theorem pd_b {a : Bool} (h : pd cx σ x = some ⟨.b, a⟩) (hl : LkO P vs env S w cx σ x) : ev env x = .bool a := fV_bool (pd_hold h hl)
theorem asD_s {v : Option Dv} {t : Ty} {k : t.D → Option R} (h : asD v t k = some r) : ∃ y : t.D, k y = some r ∧ ∀ (P : Program) vs S w (d : Dv) u, v = some d → (hold P vs d u).p S w → (fV t.rep y u).p S w := by
  unfold asD at h
  split at h
  · next =>
    cases t <;> simp only [reduceCtorEq] at h
    exact ⟨_, h, fun P vs S w d u hd hh => by cases hd; rw [show u = _ from hh]; exact nil_fV⟩
  · next v' hv =>
    split at h
    · next p hp =>
      obtain ⟨e, h⟩ := cast_s h
      subst e
      exact ⟨_, h, fun P vs S w d u hd hh => by cases hd; exact pdOf_hold hp hh⟩
    · cases h
  · cases h
theorem asO_s {t : Ty} {k : t.D → Option R} (h : asD (opv cx σ x) t k = some r) : ∃ y : t.D, k y = some r ∧ ∀ (P : Program) vs env S w, LkO P vs env S w cx σ x → (fV t.rep y (ev env x)).p S w := by
  obtain ⟨y, h1, h2⟩ := asD_s h
  refine ⟨y, h1, fun P vs env S w hl => ?_⟩
  cases hv : opv cx σ x with
  | none => rw [hv] at h; cases h
  | some v => exact h2 P vs S w v _ hv (opv_hold hv hl)
theorem es_val {o : Oper} {l : List (Nat × Dv)} (h : ∀ env w S vs, (∀ t ∈ tmpsOf o.op, Lk P vs env S w cx σ t) → ∃ v, (execOp (ev env) o).run P w = .ok (.value v) w ∧ ∀ e ∈ l, (holdC P vs e.2 v e.1).p S w) : ES P o cx σ F l := by
  intro env w S vs hS hM hl
  obtain ⟨v, h1, h2⟩ := h env w S vs hl
  exact OpR.of_value h1 ⟨Keeps.refl _ _, h2⟩
theorem one_of {v : Value} {dv : Dv} (h : (hold P vs dv v).p S w) : ∀ e ∈ [(0, dv)], (holdC P vs e.2 v e.1).p S w := by
  intro e he
  rw [List.mem_singleton] at he
  subst he; exact h
theorem es_oe {o : Oper} {l : List (Nat × Dv)} (h : ∀ env w S vs, AllM S (MS vs σ.ob ++ (MS vs cx.ob ++ F)) w → (∀ t ∈ tmpsOf o.op, Lk P vs env S w cx σ t) → ∃ (U : Type) (val : U → Value) (facts : U → List FF) (ok : U → Prop) (Γ : List FF) (ms : List MF),
    OpE P o env ms Γ val facts ok ∧ AllM S ms w ∧ All S Γ w ∧ ∀ u w', ok u → All S (facts u) w' → ∀ e ∈ l, (holdC P vs e.2 (val u) e.1).p S w') : ES P o cx σ F l := by
  intro env w S vs hS hM hl
  obtain ⟨U, val, facts, ok, Γ, ms, h1, hM', h2, h3⟩ := h env w S vs hM hl
  refine (h1 w S hS hM' h2).mono ?_
  rintro v w' ⟨u, rfl, hu, hx, hf⟩
  exact ⟨hx, h3 u w' hu hf⟩
theorem tups_get : ∀ (f i : Nat) (t : Nat) (e : Nat × Dv), e ∈ tups cx σ t f i → get cx σ t e.1 = some e.2
  | 0, _, _, _, h => absurd h List.not_mem_nil
  | f + 1, i, t, e, h => by
    unfold tups at h
    split at h
    · next d hd =>
      rcases List.mem_cons.1 h with rfl | h
      · exact hd
      · exact tups_get f (i + 1) t e h
    · exact absurd h List.not_mem_nil
theorem e_move {op : Op} (hop : op = .move x ∨ op = .assign x) {k : List (Nat × Dv) → Option R} (h : eMove cx σ x k = some r) : ∃ l, k l = some r ∧ ES P ⟨d, op, ty, pos, aft, g⟩ cx σ F l := by
  have hr : ∀ env w, (execOp (ev env) ⟨d, op, ty, pos, aft, g⟩).run P w = .ok (.value (ev env x)) w := fun env w => by rcases hop with rfl | rfl <;> exact pv_run rfl w
  have hm : x ∈ op.operands.toList := by rcases hop with rfl | rfl <;> simp [Op.operands]
  unfold eMove at h
  split at h
  · next v hv => exact ⟨_, h, es_val fun env w S vs hl => ⟨_, hr env w, one_of (opv_hold hv (lk_of hl hm))⟩⟩
  · unfold allD at h
    split at h
    · next t hx =>
      split at h
      · cases h
      · next l0 l hl0 =>
        exact ⟨_, h, es_val fun env w S vs hl => ⟨_, hr env w, fun e he => lk_of hl hm t rfl _ _ (tups_get _ _ _ _ he)⟩⟩
    · cases h
theorem e_ext {i : Nat} {k : List (Nat × Dv) → Option R} (h : eExt cx σ x i k = some r) : ∃ l, k l = some r ∧ ES P ⟨d, .extract x i, ty, pos, aft, g⟩ cx σ F l := by
  unfold eExt at h
  split at h
  · next t =>
    split at h
    · next v hv =>
      refine ⟨_, h, ?_⟩
      intro env w S vs hS hM hl
      obtain ⟨us, u, h1, h2, h3⟩ := lk_of hl (x := .tmp t) (by simp [Op.operands]) t rfl (i + 1) v hv
      exact OpR.of_value (v := u) (pv_run (by simp only [pv, ev, h1]; exact h2) w) ⟨Keeps.refl _ _, one_of h3⟩
    · cases h
  · cases h
theorem mv1 {k : List (Nat × Dv) → Option R} (h : eMv1 cx σ x k = some r) : ∃ v, opv cx σ x = some v ∧ k [(0, v)] = some r := by
  unfold eMv1 at h
  split at h
  · next v hv => exact ⟨v, hv, h⟩
  · cases h
theorem e_pick {c : Operand} {k : List (Nat × Dv) → Option R} (h : ePick cx σ c x y k = some r) : ∃ l, k l = some r ∧ ES P ⟨d, .pick c x y, ty, pos, aft, g⟩ cx σ F l := by
  unfold ePick at h
  split at h
  · next hc =>
    obtain ⟨v, hv, h⟩ := mv1 h
    exact ⟨_, h, es_val fun env w S vs hl => ⟨_, r_pickT (opv_hold hc (lk_of hl (by simp [Op.operands]))) rfl w, one_of (opv_hold hv (lk_of hl (by simp [Op.operands])))⟩⟩
  · next hc =>
    obtain ⟨v, hv, h⟩ := mv1 h
    exact ⟨_, h, es_val fun env w S vs hl => ⟨_, r_pickF (opv_hold hc (lk_of hl (by simp [Op.operands]))) rfl w, one_of (opv_hold hv (lk_of hl (by simp [Op.operands])))⟩⟩
  · cases h
theorem e_not {k : List (Nat × Dv) → Option R} (h : eNot cx σ x k = some r) : ∃ l, k l = some r ∧ ES P ⟨d, .unOp .not t x, ty, pos, aft, g⟩ cx σ F l := by
  unfold eNot at h
  split at h
  · next b hb => exact ⟨_, h, es_val fun env w S vs hl => ⟨_, r_not (opv_hold hb (lk_of hl (by simp [Op.operands]))) w, one_of (by exact rfl)⟩⟩
  · next b hb => exact ⟨_, h, es_val fun env w S vs hl => ⟨_, r_not (fV_bool (opv_hold hb (lk_of hl (by simp [Op.operands])))) w, one_of (by exact bool_fV)⟩⟩
  · cases h
theorem e_neg {k : List (Nat × Dv) → Option R} (h : eNeg cx σ x k = some r) : ∃ l, k l = some r ∧ ES P ⟨d, .unOp .neg t x, ty, pos, aft, g⟩ cx σ F l := by
  unfold eNeg at h
  split at h
  · next a ha =>
    obtain ⟨z, hz, hr, h⟩ := ck64_s h
    exact ⟨_, h, es_val fun env w S vs hl => ⟨_, r_neg (pd_i ha (lk_of hl (by simp [Op.operands]))).1 (w_x hz hr) w, one_of (i64_fV hr)⟩⟩
  · next a ha =>
    obtain ⟨z, hz, h⟩ := nm_s h
    exact ⟨_, h, es_val fun env w S vs hl => by
      obtain ⟨h1, h2⟩ := pd_u ha (lk_of hl (by simp [Op.operands]))
      exact ⟨_, r_neg h1 (wu_x hz (wu_neg h2)) w, one_of (u64_fV (eq_mod_r hz))⟩⟩
  · cases h
theorem kbS {p : Prop} [Decidable p] {k : List (Nat × Dv) → Option R} (h : (if p then k [(0, .kb true)] else k [(0, .kb false)]) = some r) : k [(0, .kb (decide p))] = some r := by
  by_cases hp : p
  · rw [if_pos hp] at h; rw [decide_eq_true hp]; exact h
  · rw [if_neg hp] at h; rw [decide_eq_false hp]; exact h
theorem kbN {p : Prop} [Decidable p] {k : List (Nat × Dv) → Option R} (h : (if p then k [(0, .kb false)] else k [(0, .kb true)]) = some r) : k [(0, .kb (!decide p))] = some r := by
  by_cases hp : p
  · rw [if_pos hp] at h; rw [decide_eq_true hp]; exact h
  · rw [if_neg hp] at h; rw [decide_eq_false hp]; exact h
theorem bopI {bo : BinOp} {a c : Int} {k : List (Nat × Dv) → Option R} (h : arI bo a c (fun v => k [(0, v)]) = some r) (ha : pd cx σ x = some ⟨.i, a⟩) (hc : pd cx σ y = some ⟨.i, c⟩) :
    ∃ l, k l = some r ∧ ES P ⟨d, .binOp bo t x y yt, ty, pos, aft, g⟩ cx σ F l := by
  have hx : ∀ {vs env S w}, (∀ t' ∈ tmpsOf (.binOp bo t x y yt), Lk P vs env S w cx σ t') → LkO P vs env S w cx σ x := fun hl => lk_of hl (by simp [Op.operands])
  have hy : ∀ {vs env S w}, (∀ t' ∈ tmpsOf (.binOp bo t x y yt), Lk P vs env S w cx σ t') → LkO P vs env S w cx σ y := fun hl => lk_of hl (by simp [Op.operands])
  cases bo <;> simp only [arI, reduceCtorEq] at h
  case add => obtain ⟨z, hz, hr, h⟩ := ck64_s h; exact ⟨_, h, es_val fun env w S vs hl => ⟨_, r_add (pd_i ha (hx hl)).1 (pd_i hc (hy hl)).1 (w_x hz hr) w, one_of (i64_fV hr)⟩⟩
  case sub => obtain ⟨z, hz, hr, h⟩ := ck64_s h; exact ⟨_, h, es_val fun env w S vs hl => ⟨_, r_sub (pd_i ha (hx hl)).1 (pd_i hc (hy hl)).1 (w_x hz hr) w, one_of (i64_fV hr)⟩⟩
  case mul => obtain ⟨z, hz, hr, h⟩ := ck64_s h; exact ⟨_, h, es_val fun env w S vs hl => ⟨_, r_mul (pd_i ha (hx hl)).1 (pd_i hc (hy hl)).1 (w_x hz hr) w, one_of (i64_fV hr)⟩⟩
  case quo => obtain ⟨h0, h⟩ := ck_s h; obtain ⟨z, hz, hr, h⟩ := ck64_s h; exact ⟨_, h, es_val fun env w S vs hl => ⟨_, r_quo (pd_i ha (hx hl)).1 (pd_i hc (hy hl)).1 h0 (w_x hz hr) w, one_of (i64_fV hr)⟩⟩
  case rem => obtain ⟨h0, h⟩ := ck_s h; obtain ⟨z, hz, h⟩ := nm_s h; exact ⟨_, h, es_val fun env w S vs hl => ⟨_, r_rem (pd_i ha (hx hl)).1 (pd_i hc (hy hl)).1 h0 hz.symm w, one_of (i64_fV (tmod_r (pd_i ha (hx hl)).2 hz))⟩⟩
  case and => obtain ⟨z, hz, h⟩ := nm_s h; exact ⟨_, h, es_val fun env w S vs hl => ⟨_, r_and (pd_i ha (hx hl)).1 (pd_i hc (hy hl)).1 (n_and_i.trans hz.symm) w, one_of (i64_fV (eq_r hz (andI_r _ _)))⟩⟩
  case or => obtain ⟨z, hz, h⟩ := nm_s h; exact ⟨_, h, es_val fun env w S vs hl => ⟨_, r_or (pd_i ha (hx hl)).1 (pd_i hc (hy hl)).1 (n_or_i.trans hz.symm) w, one_of (i64_fV (eq_r hz (orI_r _ _)))⟩⟩
  case shr => obtain ⟨h0, h⟩ := ck_s h; obtain ⟨z, hz, h⟩ := nm_s h; exact ⟨_, h, es_val fun env w S vs hl => ⟨_, r_shr (pd_i ha (hx hl)).1 (pd_i hc (hy hl)).1 h0 hz.symm w, one_of (i64_fV (fdiv_r (pd_i ha (hx hl)).2 hz))⟩⟩
  case shl => obtain ⟨h0, h⟩ := ck_s h; obtain ⟨z, hz, hr, h⟩ := ck64_s h; exact ⟨_, h, es_val fun env w S vs hl => ⟨_, r_shl (pd_i ha (hx hl)).1 (pd_i hc (hy hl)).1 h0 (w_x hz hr) w, one_of (i64_fV hr)⟩⟩
  case lss => exact ⟨[(0, .kb (decide (a < c)))], kbS h, es_val fun env w S vs hl => ⟨_, r_lss (pd_i ha (hx hl)).1 (pd_i hc (hy hl)).1 w, one_of (by exact rfl)⟩⟩
  case leq => exact ⟨[(0, .kb (decide (a ≤ c)))], kbS h, es_val fun env w S vs hl => ⟨_, r_leq (pd_i ha (hx hl)).1 (pd_i hc (hy hl)).1 w, one_of (by exact rfl)⟩⟩
  case gtr => exact ⟨[(0, .kb (decide (c < a)))], kbS h, es_val fun env w S vs hl => ⟨_, r_gtr (pd_i ha (hx hl)).1 (pd_i hc (hy hl)).1 w, one_of (by exact rfl)⟩⟩
  case geq => exact ⟨[(0, .kb (decide (c ≤ a)))], kbS h, es_val fun env w S vs hl => ⟨_, r_geq (pd_i ha (hx hl)).1 (pd_i hc (hy hl)).1 w, one_of (by exact rfl)⟩⟩
  case eql => exact ⟨[(0, .kb (decide (a = c)))], kbS h, es_val fun env w S vs hl => ⟨_, r_eql (pd_i ha (hx hl)).1 (pd_i hc (hy hl)).1 w, one_of (by exact rfl)⟩⟩
  case neq => exact ⟨[(0, .kb (!decide (a = c)))], kbN h, es_val fun env w S vs hl => ⟨_, r_neq (pd_i ha (hx hl)).1 (pd_i hc (hy hl)).1 w, one_of (by exact rfl)⟩⟩
theorem bopU {bo : BinOp} {a c : Nat} {k : List (Nat × Dv) → Option R} (h : (match bo with
    | .shr => shUU .shr a c (fun v => k [(0, v)])
    | .shl => shUU .shl a c (fun v => k [(0, v)])
    | bo => arU bo a c (fun v => k [(0, v)])) = some r) (ha : pd cx σ x = some ⟨.u, a⟩) (hc : pd cx σ y = some ⟨.u, c⟩) :
    ∃ l, k l = some r ∧ ES P ⟨d, .binOp bo t x y yt, ty, pos, aft, g⟩ cx σ F l := by
  have hx : ∀ {vs env S w}, (∀ t' ∈ tmpsOf (.binOp bo t x y yt), Lk P vs env S w cx σ t') → LkO P vs env S w cx σ x := fun hl => lk_of hl (by simp [Op.operands])
  have hy : ∀ {vs env S w}, (∀ t' ∈ tmpsOf (.binOp bo t x y yt), Lk P vs env S w cx σ t') → LkO P vs env S w cx σ y := fun hl => lk_of hl (by simp [Op.operands])
  split at h
  · simp only [shUU] at h
    obtain ⟨z, hz, h⟩ := nm_s h
    exact ⟨_, h, es_val fun env w S vs hl => ⟨_, r_shr (pd_u ha (hx hl)).1 (pd_u hc (hy hl)).1 (Int.natCast_nonneg _) (wu_y hz n_shr_u) w, one_of (u64_fV (udiv_r (pd_u ha (hx hl)).2 hz))⟩⟩
  · simp only [shUU] at h
    obtain ⟨z, hz, h⟩ := nm_s h
    exact ⟨_, h, es_val fun env w S vs hl => ⟨_, r_shl (pd_u ha (hx hl)).1 (pd_u hc (hy hl)).1 (Int.natCast_nonneg _) (wu_x hz n_shl_u) w, one_of (u64_fV (eq_mod_r hz))⟩⟩
  · next hn1 hn2 =>
    cases bo <;> simp only [arU, reduceCtorEq] at h
    case add => obtain ⟨z, hz, h⟩ := nm_s h; exact ⟨_, h, es_val fun env w S vs hl => ⟨_, r_add (pd_u ha (hx hl)).1 (pd_u hc (hy hl)).1 (wu_x hz wu_addw) w, one_of (u64_fV (eq_mod_r hz))⟩⟩
    case sub => obtain ⟨z, hz, h⟩ := nm_s h; exact ⟨_, h, es_val fun env w S vs hl => ⟨_, r_sub (pd_u ha (hx hl)).1 (pd_u hc (hy hl)).1 (wu_x hz (wu_subw (Nat.le_of_lt (pd_u hc (hy hl)).2))) w, one_of (u64_fV (eq_mod_r hz))⟩⟩
    case mul => obtain ⟨z, hz, h⟩ := nm_s h; exact ⟨_, h, es_val fun env w S vs hl => ⟨_, r_mul (pd_u ha (hx hl)).1 (pd_u hc (hy hl)).1 (wu_x hz wu_mulw) w, one_of (u64_fV (eq_mod_r hz))⟩⟩
    case quo => obtain ⟨h0, h⟩ := ck_s h; obtain ⟨z, hz, h⟩ := nm_s h; exact ⟨_, h, es_val fun env w S vs hl => ⟨_, r_quo (pd_u ha (hx hl)).1 (pd_u hc (hy hl)).1 (nz_u h0) (wu_x hz (n_quo_u64 (pd_u ha (hx hl)).2)) w, one_of (u64_fV (udiv_r (pd_u ha (hx hl)).2 hz))⟩⟩
    case rem => obtain ⟨h0, h⟩ := ck_s h; obtain ⟨z, hz, h⟩ := nm_s h; exact ⟨_, h, es_val fun env w S vs hl => ⟨_, r_rem (pd_u ha (hx hl)).1 (pd_u hc (hy hl)).1 (nz_u h0) (wu_y hz n_rem) w, one_of (u64_fV (umod_r (pd_u ha (hx hl)).2 hz))⟩⟩
    case and => obtain ⟨z, hz, h⟩ := nm_s h; exact ⟨_, h, es_val fun env w S vs hl => ⟨_, r_and (pd_u ha (hx hl)).1 (pd_u hc (hy hl)).1 (wu_x hz (n_and_u (pd_u ha (hx hl)).2 (pd_u hc (hy hl)).2)) w, one_of (u64_fV (eq_u hz (and_lt_u (pd_u ha (hx hl)).2)))⟩⟩
    case or => obtain ⟨z, hz, h⟩ := nm_s h; exact ⟨_, h, es_val fun env w S vs hl => ⟨_, r_or (pd_u ha (hx hl)).1 (pd_u hc (hy hl)).1 (wu_x hz (n_or_u (pd_u ha (hx hl)).2 (pd_u hc (hy hl)).2)) w, one_of (u64_fV (eq_u hz (or_lt_u (pd_u ha (hx hl)).2 (pd_u hc (hy hl)).2)))⟩⟩
    case lss => exact ⟨[(0, .kb (decide ((a : Int) < (c : Int))))], kbS h, es_val fun env w S vs hl => ⟨_, r_lss (pd_u ha (hx hl)).1 (pd_u hc (hy hl)).1 w, one_of (by exact rfl)⟩⟩
    case leq => exact ⟨[(0, .kb (decide ((a : Int) ≤ (c : Int))))], kbS h, es_val fun env w S vs hl => ⟨_, r_leq (pd_u ha (hx hl)).1 (pd_u hc (hy hl)).1 w, one_of (by exact rfl)⟩⟩
    case gtr => exact ⟨[(0, .kb (decide ((c : Int) < (a : Int))))], kbS h, es_val fun env w S vs hl => ⟨_, r_gtr (pd_u ha (hx hl)).1 (pd_u hc (hy hl)).1 w, one_of (by exact rfl)⟩⟩
    case geq => exact ⟨[(0, .kb (decide ((c : Int) ≤ (a : Int))))], kbS h, es_val fun env w S vs hl => ⟨_, r_geq (pd_u ha (hx hl)).1 (pd_u hc (hy hl)).1 w, one_of (by exact rfl)⟩⟩
    case eql => exact ⟨[(0, .kb (decide ((a : Int) = (c : Int))))], kbS h, es_val fun env w S vs hl => ⟨_, r_eql (pd_u ha (hx hl)).1 (pd_u hc (hy hl)).1 w, one_of (by exact rfl)⟩⟩
    case neq => exact ⟨[(0, .kb (!decide ((a : Int) = (c : Int))))], kbN h, es_val fun env w S vs hl => ⟨_, r_neq (pd_u ha (hx hl)).1 (pd_u hc (hy hl)).1 w, one_of (by exact rfl)⟩⟩
theorem bopS {bo : BinOp} {a : Nat} {c : Int} {k : List (Nat × Dv) → Option R} (h : shU bo a c (fun v => k [(0, v)]) = some r) (ha : pd cx σ x = some ⟨.u, a⟩) (hc : pd cx σ y = some ⟨.i, c⟩) :
    ∃ l, k l = some r ∧ ES P ⟨d, .binOp bo t x y yt, ty, pos, aft, g⟩ cx σ F l := by
  have hx : ∀ {vs env S w}, (∀ t' ∈ tmpsOf (.binOp bo t x y yt), Lk P vs env S w cx σ t') → LkO P vs env S w cx σ x := fun hl => lk_of hl (by simp [Op.operands])
  have hy : ∀ {vs env S w}, (∀ t' ∈ tmpsOf (.binOp bo t x y yt), Lk P vs env S w cx σ t') → LkO P vs env S w cx σ y := fun hl => lk_of hl (by simp [Op.operands])
  unfold shU at h
  split at h
  · obtain ⟨h0, h⟩ := ck_s h; obtain ⟨z, hz, h⟩ := nm_s h
    exact ⟨_, h, es_val fun env w S vs hl => ⟨_, r_shr (pd_u ha (hx hl)).1 (pd_i hc (hy hl)).1 h0 (wu_y hz n_shr_u) w, one_of (u64_fV (udiv_r (pd_u ha (hx hl)).2 hz))⟩⟩
  · obtain ⟨h0, h⟩ := ck_s h; obtain ⟨z, hz, h⟩ := nm_s h
    exact ⟨_, h, es_val fun env w S vs hl => ⟨_, r_shl (pd_u ha (hx hl)).1 (pd_i hc (hy hl)).1 h0 (wu_x hz n_shl_u) w, one_of (u64_fV (eq_mod_r hz))⟩⟩
  · cases h
theorem bopT {bo : BinOp} {a : Int} {c : Nat} {k : List (Nat × Dv) → Option R} (h : shI bo a c (fun v => k [(0, v)]) = some r) (ha : pd cx σ x = some ⟨.i, a⟩) (hc : pd cx σ y = some ⟨.u, c⟩) :
    ∃ l, k l = some r ∧ ES P ⟨d, .binOp bo t x y yt, ty, pos, aft, g⟩ cx σ F l := by
  have hx : ∀ {vs env S w}, (∀ t' ∈ tmpsOf (.binOp bo t x y yt), Lk P vs env S w cx σ t') → LkO P vs env S w cx σ x := fun hl => lk_of hl (by simp [Op.operands])
  have hy : ∀ {vs env S w}, (∀ t' ∈ tmpsOf (.binOp bo t x y yt), Lk P vs env S w cx σ t') → LkO P vs env S w cx σ y := fun hl => lk_of hl (by simp [Op.operands])
  unfold shI at h
  split at h
  · obtain ⟨z, hz, h⟩ := nm_s h
    exact ⟨_, h, es_val fun env w S vs hl => ⟨_, r_shr (pd_i ha (hx hl)).1 (pd_u hc (hy hl)).1 (Int.natCast_nonneg _) hz.symm w, one_of (i64_fV (fdiv_r (pd_i ha (hx hl)).2 hz))⟩⟩
  · obtain ⟨z, hz, hr, h⟩ := ck64_s h
    exact ⟨_, h, es_val fun env w S vs hl => ⟨_, r_shl (pd_i ha (hx hl)).1 (pd_u hc (hy hl)).1 (Int.natCast_nonneg _) (w_x hz hr) w, one_of (i64_fV hr)⟩⟩
  · cases h
theorem bopB {bo : BinOp} {a c : Bool} {tb : Bool} {k : List (Nat × Dv) → Option R} (h : grd tb (eqB bo a c (fun v => k [(0, v)])) = some r) (ha : pd cx σ x = some ⟨.b, a⟩) (hc : pd cx σ y = some ⟨.b, c⟩) (hb : tb = true → P.underlying t = some .bool) :
    ∃ l, k l = some r ∧ ES P ⟨d, .binOp bo t x y yt, ty, pos, aft, g⟩ cx σ F l := by
  have hx : ∀ {vs env S w}, (∀ t' ∈ tmpsOf (.binOp bo t x y yt), Lk P vs env S w cx σ t') → LkO P vs env S w cx σ x := fun hl => lk_of hl (by simp [Op.operands])
  have hy : ∀ {vs env S w}, (∀ t' ∈ tmpsOf (.binOp bo t x y yt), Lk P vs env S w cx σ t') → LkO P vs env S w cx σ y := fun hl => lk_of hl (by simp [Op.operands])
  obtain ⟨htb, h⟩ := grd_s h
  unfold eqB at h
  split at h
  · obtain ⟨z, hz, h⟩ := nm_s h
    exact ⟨_, h, es_val fun env w S vs hl => ⟨_, v_bool (r_beq (hb htb) (pd_b ha (hx hl)) (pd_b hc (hy hl))) hz w, one_of bool_fV⟩⟩
  · obtain ⟨z, hz, h⟩ := nm_s h
    exact ⟨_, h, es_val fun env w S vs hl => ⟨_, v_bool (r_bne (hb htb) (pd_b ha (hx hl)) (pd_b hc (hy hl))) hz w, one_of bool_fV⟩⟩
  · cases h
theorem bop {tb : Bool} {bo : BinOp} {k : List (Nat × Dv) → Option R} (h : binD tb bo (pd cx σ x) (pd cx σ y) (fun v => k [(0, v)]) = some r) (hb : tb = true → P.underlying t = some .bool) :
    ∃ l, k l = some r ∧ ES P ⟨d, .binOp bo t x y yt, ty, pos, aft, g⟩ cx σ F l := by
  unfold binD at h
  split at h
  · next a c ha hc => exact bopI h ha hc
  · next a c ha hc => exact bopU h ha hc
  · next a c ha hc => exact bopS h ha hc
  · next a c ha hc => exact bopT h ha hc
  · next a c ha hc => exact bopB h ha hc hb
  · cases h
end
end Go.Proofs.YtjnjfinbdfolkaaGreat
end

section
set_option linter.unusedVariables false
set_option linter.unusedSimpArgs false
namespace Go.Proofs.YtjnjfinbdfolkaaGreat
section
variable {P : Program} {cf : Cf} {cx σ : Sg} {F : List MF} {vs : Nat → Value} {env : Env} {S : Nat → Prop} {w : World} {R : Type} {r : R}
  {d : Option Tmp} {ty t yt : TypeId} {pos : String} {aft : Array Edge} {g : Option (Nat × Bool)} {x y : Operand}
theorem tk_int {s : TypeId} {q : Ty} {k : IntKind} {B : Nat} (hT : TTok P cf.tt) (h : tyA cf s = some ⟨q, .int k, B⟩) : P.underlying s = some (.int k) := (hT _ _ h).2.2.2
theorem tk_sl {s E : TypeId} {q : Ty} {B : Nat} (hT : TTok P cf.tt) (h : tyA cf s = some ⟨q, .sl E, B⟩) : P.underlying s = some (.slice E) := (hT _ _ h).2.2.2.1
theorem tk_bool (hT : TTok P cf.tt) : isB cf t = true → P.underlying t = some .bool := by
  intro h
  unfold isB at h
  split at h
  · next q B hu => exact (hT _ _ hu).2.2.2
  · cases h
theorem ty_el {s E : TypeId} {e : Ty} {B : Nat} (hT : TTok P cf.tt) (hL : ELok P cf.tt) (h : tyA cf s = some ⟨.l e, .sl E, B⟩) : ∃ bytes zero, TyF P E e.rep.agg e.rep.n bytes zero := by
  obtain ⟨ti, h1, rfl⟩ := hL _ _ _ _ h
  obtain ⟨⟨zero, h2, _⟩, _⟩ := hT _ _ h1
  exact ⟨_, _, h2⟩
theorem ty_of {ti : TI} (hT : TTok P cf.tt) (h : tyA cf t = some ti) : ∃ zero, TyF P t ti.ty.rep.agg ti.ty.rep.n ti.B zero ∧ zero.cells.size = ti.ty.rep.n ∧ ∀ S w, ti.ty.rep.p S ti.ty.z zero.cells.toList w := (hT _ _ h).1
theorem e_cvt (hT : TTok P cf.tt) {s t : TypeId} {k : List (Nat × Dv) → Option R} (h : eCvt cf cx σ s t x k = some r) : ∃ l, k l = some r ∧ ES P ⟨d, .convert s t x, ty, pos, aft, g⟩ cx σ F l := by
  have hx : ∀ {vs env S w}, (∀ t' ∈ tmpsOf (.convert s t x), Lk P vs env S w cx σ t') → LkO P vs env S w cx σ x := fun hl => lk_of hl (by simp [Op.operands])
  unfold eCvt at h
  split at h
  · next q k1 B ti hs ht =>
    have hs' := tk_int hT hs
    obtain ⟨tty, tk, tB⟩ := ti
    unfold cvtD at h
    split at h
    · next a hk ha =>
      simp only at hk; subst hk
      exact ⟨_, h, es_val fun env w S vs hl => ⟨_, r_conv hs' (tk_int hT ht) (pd_i ha (hx hl)).1 (w64 (pd_i ha (hx hl)).2) w, one_of (i64_fV (pd_i ha (hx hl)).2)⟩⟩
    · next a hk ha =>
      simp only at hk; subst hk
      exact ⟨_, h, es_val fun env w S vs hl => ⟨_, r_conv hs' (tk_int hT ht) (pd_u ha (hx hl)).1 (wu64_in (pd_u ha (hx hl)).2) w, one_of (u64_fV (pd_u ha (hx hl)).2)⟩⟩
    · next a hk ha =>
      simp only at hk; subst hk
      obtain ⟨z, hz, h⟩ := nm_s h
      exact ⟨_, h, es_val fun env w S vs hl => ⟨_, r_conv hs' (tk_int hT ht) (pd_i ha (hx hl)).1 (wu_x hz (wrap_uns _)) w, one_of (u64_fV (eq_u hz (uns_r _)))⟩⟩
    · next a hk ha =>
      simp only at hk; subst hk
      obtain ⟨z, hz, h⟩ := nm_s h
      exact ⟨_, h, es_val fun env w S vs hl => ⟨_, r_conv hs' (tk_int hT ht) (pd_u ha (hx hl)).1 ((wrap_sgn (pd_u ha (hx hl)).2).trans hz.symm) w, one_of (i64_fV (eq_r hz (sgn_r (pd_u ha (hx hl)).2)))⟩⟩
    · cases h
  · cases h
theorem at_s {n : Nat} {k : Nat → Option R} (h : atI cx σ x n k = some r) : ∃ j, j < n ∧ k j = some r ∧ ∀ (P : Program) vs env S w, LkO P vs env S w cx σ x → ∃ ik, ev env x = .int ik (j : Int) := by
  unfold atI at h
  split at h
  · next j hj =>
    obtain ⟨i, h1, h2, h⟩ := ckI_s h
    exact ⟨i, h2, h, fun P vs env S w hl => ⟨.i64, by rw [(pd_i hj hl).1, h1]⟩⟩
  · next j hj =>
    obtain ⟨i, h1, h2, h⟩ := ckI_s h
    exact ⟨i, h2, h, fun P vs env S w hl => ⟨.u64, by rw [(pd_u hj hl).1, h1]⟩⟩
  · cases h
theorem bnd_s {x : Option Operand} {k : Option Nat → Option R} (h : bnd cx σ x k = some r) :
    (x = none ∧ k none = some r) ∨ ∃ y j, x = some y ∧ k (some j) = some r ∧ ∀ (P : Program) vs env S w, LkO P vs env S w cx σ y → ev env y = .int .i64 ((j : Nat) : Int) := by
  unfold bnd at h
  split at h
  · exact .inl ⟨rfl, h⟩
  · next y =>
    split at h
    · next j hj =>
      obtain ⟨i, h1, h⟩ := ckN_s h
      exact .inr ⟨y, i, rfl, h, fun P vs env S w hl => by rw [(pd_i hj hl).1, h1]⟩
    · cases h
theorem own_open {α : Type} {e : ERep α} {E : TypeId} {xs : List α} {v : Value} (h : (mO e E v xs).p S w) (h0 : 0 < xs.length) :
    ∃ b cap, v = .slice (some ⟨b, 0, none⟩) xs.length cap ∧ (mB (rowT e cap) E b xs).p S w := by
  obtain ⟨cs, h1, h2⟩ := h
  rcases h1.2 with ⟨rfl, h3⟩ | ⟨g, cap, cur, rfl, hbg, hg, hnc, hcm, hcs, htk⟩
  · omega
  · exact ⟨g, cap, rfl, cur, hg, cs, cur.toList.drop (xs.length * e.n), by rw [← htk, List.take_append_drop], h2, by simpa using hcs⟩
theorem tk_ar {s E : TypeId} {q : Ty} {n B : Nat} (hT : TTok P cf.tt) (h : tyA cf s = some ⟨q, .ar n E, B⟩) : P.underlying s = some (.array n E) := (hT _ _ h).2.2.2.2
theorem el_ty {E : TypeId} {e : Ty} (hT : TTok P cf.tt) (h : elA cf E e = true) : ∃ bytes zero, TyF P E e.rep.agg e.rep.n bytes zero := by
  unfold elA at h
  split at h
  · next ti ht =>
    cases hs : Ty.same ti.ty e with
    | none => rw [hs] at h; cases h
    | some p =>
      obtain ⟨zero, h2, _⟩ := ty_of hT ht
      rw [p.down] at h2
      exact ⟨_, _, h2⟩
  · cases h
theorem nth_ok {n j : Nat} {e : Ty} (hj : j < n) : Fl.ok (.a n e) (nthF n e j) := by
  intro z S w cs hp
  have hp' : List.length z = n ∧ Elems e.rep S z cs w := hp
  have := Sub.nth n e.rep z j (List.getD z j e.z) (getD_some e.z (hp'.1 ▸ hj)) S w cs hp
  rw [e.n_rep] at this
  exact this
theorem e_index (hT : TTok P cf.tt) (hL : ELok P cf.tt) {k : List (Nat × Dv) → Option R} (h : eIndex cf cx σ t x y k = some r) : ∃ l, k l = some r ∧ ES P ⟨d, .indexAddr t x y, ty, pos, aft, g⟩ cx σ F l := by
  have hx : ∀ {vs env S w}, (∀ t' ∈ tmpsOf (.indexAddr t x y), Lk P vs env S w cx σ t') → LkO P vs env S w cx σ x := fun hl => lk_of hl (by simp [Op.operands])
  have hy : ∀ {vs env S w}, (∀ t' ∈ tmpsOf (.indexAddr t x y), Lk P vs env S w cx σ t') → LkO P vs env S w cx σ y := fun hl => lk_of hl (by simp [Op.operands])
  unfold eIndex at h
  split at h
  · next e E B s xs ht hxv =>
    obtain ⟨hse, h⟩ := cast_s h
    cases hse
    obtain ⟨bytes, zero, het⟩ := ty_el hT hL ht
    obtain ⟨j, hj, h, hjv⟩ := at_s h
    obtain ⟨z, hz, h⟩ := nm_s h
    refine ⟨_, h, es_oe fun env w S vs hM hl => ?_⟩
    obtain ⟨ik, hik⟩ := hjv P vs env S w (hy hl)
    exact ⟨_, _, _, _, [fV (eS e.rep) xs (ev env x)], [], oe_index (e := e.rep) (xs := xs) (k := j) (y := z) rfl hik (tk_sl hT ht) het (getE hj hz) (fun S w h => h.1), trivial, ⟨opv_hold hxv (hx hl), trivial⟩, fun u w' _ hf => one_of hf.1⟩
  · next e E B o ht hxv =>
    split at h
    · next s E' xs ho =>
      obtain ⟨hse, h⟩ := cast_s h
      cases hse
      obtain ⟨bytes, zero, het⟩ := ty_el hT hL ht
      obtain ⟨j, hj, h, hjv⟩ := at_s h
      refine ⟨_, h, ?_⟩
      intro env w S vs hS hM hl
      obtain ⟨ik, hik⟩ := hjv P vs env S w (hy hl)
      have hm : (mO e.rep E' (vs o) xs).p S w := geto_M hM ho
      obtain ⟨b, cap, hv, _⟩ := own_open hm (Nat.lt_of_le_of_lt (Nat.zero_le _) hj)
      have hxe : ev env x = vs o := opv_hold hxv (hx hl)
      refine OpR.of_value (r_index (tk_sl hT ht) het (hxe.trans hv) hik hj w) ⟨Keeps.refl _ _, one_of ?_⟩
      exact ⟨fun z => Sub.self e.rep z, b, _, _, hv, hj, by simp [Fl.self]⟩
    · cases h
  · next q n' E B n e xs ht hxv =>
    obtain ⟨hg, h⟩ := grd_s h
    rw [Bool.and_eq_true] at hg
    have hn := beq_t hg.1
    subst hn
    obtain ⟨bytes, zero, het⟩ := el_ty hT hg.2
    obtain ⟨j, hj, h, hjv⟩ := at_s h
    obtain ⟨z, hz, h⟩ := nm_s h
    refine ⟨_, h, es_oe fun env w S vs hM hl => ?_⟩
    obtain ⟨ik, hik⟩ := hjv P vs env S w (hy hl)
    have hp : (fP (Ty.a n' e).rep xs (ev env x)).p S w := opv_hold hxv (hx hl)
    obtain ⟨_, _, _, _, _, _, hlen, _⟩ := id hp
    exact ⟨_, _, _, _, [fP (Ty.a n' e).rep xs (ev env x)], [], oe_indexA (e := (Ty.a n' e).rep) (f := e.rep) (z := xs) (z' := z) (tk_ar hT ht) het rfl hik hj (Sub.nth n' e.rep xs j z (getE (hlen ▸ hj) hz)) (fun S w h => h.1), trivial, ⟨hp, trivial⟩, fun u w' _ hf => one_of hf.1⟩
  · next q n' E B o n e ht hxv =>
    obtain ⟨hg, h⟩ := grd_s h
    rw [Bool.and_eq_true] at hg
    have hn := beq_t hg.1
    subst hn
    obtain ⟨bytes, zero, het⟩ := el_ty hT hg.2
    obtain ⟨j, hj, h, hjv⟩ := at_s h
    refine ⟨_, h, es_val fun env w S vs hl => ?_⟩
    obtain ⟨ik, hik⟩ := hjv P vs env S w (hy hl)
    obtain ⟨h1, b, h2⟩ := opv_hold hxv (hx hl)
    exact ⟨_, r_indexA (tk_ar hT ht) het (h1.trans h2) hik hj w, one_of ⟨nth_ok hj, b, h2, by rw [e.n_rep]; rfl⟩⟩
  · cases h
theorem fld_ok : ∀ {k : Nat} {t : Ty} {i : Nat} {f : Fl t.D}, fld k t i = some f → Fl.ok t f
  | 0, _, _, _, h => by simp [fld] at h
  | 1, t, i, f, h => by
    unfold fld at h
    cases hb : Nat.beq i 0 <;> rw [hb] at h
    · cases h
    · simp only [cond_true, Option.some.injEq] at h
      subst h; exact fun z => Sub.self t.rep z
  | k + 2, .p s t, 0, f, h => by
    simp only [fld, Option.some.injEq] at h
    subst h
    exact fun z => Sub.fst s.rep t.rep z
  | k + 2, .p s t, i + 1, f, h => by
    simp only [fld] at h
    split at h
    · next f' hf =>
      simp only [Option.some.injEq] at h
      subst h
      intro z
      have := (Sub.snd s.rep t.rep z).comp (fld_ok hf z.2)
      rw [s.n_rep] at this
      exact this
    · cases h
  | k + 2, .i, i, f, h => by simp [fld] at h
  | k + 2, .u, i, f, h => by simp [fld] at h
  | k + 2, .b, i, f, h => by simp [fld] at h
  | k + 2, .l _, i, f, h => by simp [fld] at h
  | k + 2, .a _ _, i, f, h => by simp [fld] at h
theorem comp_ok {t : Ty} {a : Fl t.D} {c : Fl a.f.D} (ha : Fl.ok t a) (hc : Fl.ok a.f c) : Fl.ok t (a.comp c) := fun z => (ha z).comp (hc (a.get z))
theorem tk_st {s : TypeId} {q : Ty} {n B i : Nat} {f : Fl q.D} (hT : TTok P cf.tt) (h : tyA cf s = some ⟨q, .st n, B⟩) (hf : fld n q i = some f) : fldB P s i = some f.off := (hT _ _ h).2.2.2.2.1 i f hf
theorem e_field (hT : TTok P cf.tt) {i : Nat} {k : List (Nat × Dv) → Option R} (h : eField cf cx σ t x i k = some r) : ∃ l, k l = some r ∧ ES P ⟨d, .fieldAddr t x i, ty, pos, aft, g⟩ cx σ F l := by
  have hx : ∀ {vs env S w}, (∀ t' ∈ tmpsOf (.fieldAddr t x i), Lk P vs env S w cx σ t') → LkO P vs env S w cx σ x := fun hl => lk_of hl (by simp [Op.operands])
  unfold eField at h
  split at h
  · next e n B s y ht hxv =>
    obtain ⟨hse, h⟩ := cast_s h
    subst hse
    split at h
    · next f hf =>
      exact ⟨_, h, es_oe fun env w S vs hM hl => ⟨_, _, _, _, [fP s.rep y (ev env x)], [], oe_field (e := s.rep) (z := y) (tk_st hT ht hf) rfl (fld_ok hf y) (fun S w h => h.1), trivial, ⟨opv_hold hxv (hx hl), trivial⟩, fun u w' _ hf => one_of hf.1⟩⟩
    · cases h
  · next e n B o s ht hxv =>
    split at h
    · next hse f _ hf =>
      obtain ⟨hse⟩ := hse
      subst hse
      refine ⟨_, h, es_val fun env w S vs hl => ?_⟩
      obtain ⟨h1, b, h2⟩ := opv_hold hxv (hx hl)
      exact ⟨_, r_field (tk_st hT ht hf) (h1.trans h2) w, one_of ⟨fld_ok hf, b, h2, rfl⟩⟩
    · cases h
  · next e n B o s g ht hxv =>
    split at h
    · next hse f _ hf =>
      obtain ⟨hse⟩ := hse
      subst hse
      refine ⟨_, h, es_val fun env w S vs hl => ?_⟩
      obtain ⟨h0, b, h1, h2⟩ := opv_hold hxv (hx hl)
      exact ⟨_, r_field (tk_st hT ht hf) h2 w, one_of ⟨comp_ok h0 (fld_ok hf), b, h1, by simp only [Fl.comp, Nat.add_assoc]⟩⟩
    · cases h
  · next e n B o s j g ht hxv =>
    split at h
    · next hse f _ hf =>
      obtain ⟨hse⟩ := hse
      subst hse
      refine ⟨_, h, es_val fun env w S vs hl => ?_⟩
      obtain ⟨h0, b, m, cap, h1, h2, h3⟩ := opv_hold hxv (hx hl)
      exact ⟨_, r_field (tk_st hT ht hf) h3 w, one_of ⟨comp_ok h0 (fld_ok hf), b, m, cap, h1, h2, by simp only [Fl.comp, Nat.add_assoc]⟩⟩
    · cases h
  · cases h
theorem e_load (hT : TTok P cf.tt) {k : List (Nat × Dv) → Option R} (h : eLoad cf cx σ t x k = some r) : ∃ l, k l = some r ∧ ES P ⟨d, .load t x, ty, pos, aft, g⟩ cx σ F l := by
  have hx : ∀ {vs env S w}, (∀ t' ∈ tmpsOf (.load t x), Lk P vs env S w cx σ t') → LkO P vs env S w cx σ x := fun hl => lk_of hl (by simp [Op.operands])
  unfold eLoad at h
  split at h
  · next ti hti =>
    obtain ⟨zero, hty, _⟩ := ty_of hT hti
    unfold loadD at h
    split at h
    · next s y hxv =>
      obtain ⟨hse, h⟩ := cast_s h
      simp only at hse; subst hse
      exact ⟨_, h, es_oe fun env w S vs hM hl => ⟨_, _, _, _, [fP ti.ty.rep y (ev env x)], [], oe_load (e := ti.ty.rep) (y := y) rfl hty (fun S w h => h.1), trivial, ⟨opv_hold hxv (hx hl), trivial⟩, fun u w' _ hf => one_of hf.1⟩⟩
    · next o s hxv =>
      split at h
      · next s' E z ho =>
        obtain ⟨hse, h⟩ := cast_s h
        simp only at hse; subst hse
        refine ⟨_, h, es_oe fun env w S vs hM hl => ?_⟩
        obtain ⟨h1, b, h2⟩ := opv_hold hxv (hx hl)
        obtain ⟨b', h3, h4⟩ : (mP ti.ty.rep.c E (vs o) z).p S w := geto_M hM ho
        exact ⟨_, _, _, _, [], [mB ti.ty.rep.c E b' z], oe_loadM (z' := z) 0 rfl (h1.trans h3) (Sub.self ti.ty.rep z) hty, ⟨h4, trivial⟩, trivial, fun u w' _ hf => one_of hf.1⟩
      · cases h
    · next o s f hxv =>
      split at h
      · next s' E z ho =>
        obtain ⟨hss, h⟩ := cast_s h
        subst hss
        obtain ⟨hse, h⟩ := cast_s h
        simp only at hse
        obtain ⟨off, ff, get, set⟩ := f
        simp only at hse; subst hse
        refine ⟨_, h, es_oe fun env w S vs hM hl => ?_⟩
        obtain ⟨h0, b, h1, h2⟩ := opv_hold hxv (hx hl)
        obtain ⟨b', h3, h4⟩ : (mP s'.rep.c E (vs o) z).p S w := geto_M hM ho
        rw [h1] at h3; cases h3
        exact ⟨_, _, _, _, [], [mB s'.rep.c E b z], oe_loadM (z' := get z) 0 rfl h2 (by rw [Nat.zero_add]; exact h0 z) hty, ⟨h4, trivial⟩, trivial, fun u w' _ hf => one_of hf.1⟩
      · cases h
    · next o s j f hxv =>
      split at h
      · next s' E xs ho =>
        obtain ⟨hss, h⟩ := cast_s h
        cases hss
        obtain ⟨y, hy, h⟩ := nm_s h
        obtain ⟨hse, h⟩ := cast_s h
        simp only at hse
        obtain ⟨off, ff, get, set⟩ := f
        simp only at hse; subst hse
        refine ⟨_, h, es_oe fun env w S vs hM hl => ?_⟩
        obtain ⟨h0, b, m, cap, h1, h2, h3⟩ := opv_hold hxv (hx hl)
        have hm : (mO s.rep E (vs o) xs).p S w := geto_M hM ho
        have hpos : 0 < xs.length := by
          obtain ⟨cs, h5, h6⟩ := hm
          rcases h5.2 with ⟨hv, h7⟩ | ⟨g', cap', cur, hv, _⟩
          · rw [h1] at hv; cases hv
          · rw [h1] at hv; cases hv; omega
        obtain ⟨b', cap', hv, hb⟩ := own_open hm hpos
        rw [h1] at hv; cases hv
        have hsub := (Sub.rowT0 s.rep cap xs j (xs.getD j s.z) (getD_some s.z h2)).comp (h0 (xs.getD j s.z))
        subst hy
        exact ⟨_, _, _, _, [], [mB (rowT s.rep cap) E b xs], oe_loadM 0 rfl h3 hsub hty, ⟨hb, trivial⟩, trivial, fun u w' _ hf => one_of hf.1⟩
      · cases h
    · cases h
  · cases h
theorem cut_a {α : Type} (xs : List α) : xs = (xs.drop 0).take (xs.length - 0) := by simp
theorem cut_l {α : Type} (xs : List α) (l : Nat) : xs.drop l = (xs.drop l).take (xs.length - l) := (List.take_of_length_le (by simp)).symm
theorem r_fieldV {i off n : Nat} {agg : Bool} {cs : Array Value} {v : Value} (h : fldT P t i = some (off, agg, n)) (hx : ev env x = .agg cs) (hv : (if agg = true then Value.agg (cs.extract off (off + n)) else cs.getD off undef) = v) (hlt : agg = false → off < cs.size) (w : World) :
    (execOp (ev env) ⟨d, .field t x i, ty, pos, aft, g⟩).run P w = .ok (.value v) w := by
  unfold fldT at h
  split at h
  · next fs hu =>
    split at h
    · next f hf =>
      split at h
      · next ag n' by' z hty =>
        simp only [Option.some.injEq, Prod.mk.injEq] at h
        obtain ⟨h1, h2, h3⟩ := h
        subst h1; subst h2; subst h3
        have het := TyF.of hty
        have hp : (part f.type cs f.offset).run P w = .ok v w := by
          unfold part
          simp only [Sem.run_bind, run_isAgg het, Result.andThen_ok]
          cases ag with
          | true =>
            simp only [if_true, Sem.run_bind, run_sizeOf het, Result.andThen_ok, Sem.run_pure]
            rw [← hv]; rfl
          | false =>
            simp only [Bool.false_eq_true, if_false]
            have hlt := hlt rfl
            rw [Array.getElem?_eq_getElem hlt]
            simp only [Sem.run_pure]
            rw [← hv]
            simp [Array.getD, hlt]
        simp only [execOp, hx, Instr.field, asAgg, Sem.run_bind, run_underlying hu, Result.andThen_ok, hf, Sem.run_pure, hp]
      · cases h
    · cases h
  · cases h
theorem tk_stT {s : TypeId} {q : Ty} {n B i : Nat} {f : Fl q.D} (hT : TTok P cf.tt) (h : tyA cf s = some ⟨q, .st n, B⟩) (hf : fld n q i = some f) : fldT P s i = some (f.off, f.f.rep.agg, f.f.n) := (hT _ _ h).2.2.2.2.2.2 i f hf
theorem e_fieldV (hT : TTok P cf.tt) {i : Nat} {k : List (Nat × Dv) → Option R} (h : eFieldV cf cx σ t x i k = some r) : ∃ l, k l = some r ∧ ES P ⟨d, .field t x i, ty, pos, aft, g⟩ cx σ F l := by
  have hx : ∀ {vs env S w}, (∀ t' ∈ tmpsOf (.field t x i), Lk P vs env S w cx σ t') → LkO P vs env S w cx σ x := fun hl => lk_of hl (by simp [Op.operands])
  unfold eFieldV at h
  split at h
  · next e n B s y ht hxv =>
    obtain ⟨hse, h⟩ := cast_s h
    subst hse
    split at h
    · next f hf =>
      refine ⟨_, h, es_val fun env w S vs hl => ?_⟩
      obtain ⟨cs, hv, hp⟩ := opv_hold hxv (hx hl)
      have hagg : s.rep.agg = true := (hT _ _ ht).2.2.2.1
      obtain ⟨pre, c, post, hcs, h1, h2, _⟩ := fld_ok hf y S w cs hp
      have hlen := f.f.rep.len h2
      rw [Ty.n_rep] at hlen
      have hv : ev env x = .agg cs.toArray := by rw [hv]; unfold ERep.val; rw [hagg]; rfl
      refine ⟨f.f.rep.val c, r_fieldV (tk_stT hT ht hf) hv ?_ ?_ w, one_of ⟨c, rfl, h2⟩⟩
      · unfold ERep.val
        cases hag : f.f.rep.agg with
        | true =>
          simp only [if_true]
          congr 1
          apply Array.ext'
          rw [Array.toList_extract, hcs, ← h1, ← hlen]
          simp
        | false =>
          simp only [Bool.false_eq_true, if_false]
          have h1' := f.f.rep.n1 hag
          rw [Ty.n_rep] at h1'
          obtain ⟨a, rfl⟩ : ∃ a, c = [a] := by
            match c, hlen.trans h1' with
            | [a], _ => exact ⟨a, rfl⟩
          rw [hcs, ← h1]
          simp [Array.getD]
      · intro hag
        have h1' := f.f.rep.n1 hag
        rw [Ty.n_rep] at h1'
        rw [hcs]
        simp
        omega
    · cases h
  · cases h
theorem mo_shape {α : Type} {e : ERep α} {E : TypeId} {v : Value} {xs : List α} {S : Nat → Prop} {w : World} (h : (mO e E v xs).p S w) : (v = .slice none 0 0 ∧ xs = []) ∨ ∃ b cap, v = .slice (some ⟨b, 0, none⟩) xs.length cap ∧ xs.length ≤ cap ∧ cap ≤ 9223372036854775807 := by
  obtain ⟨cs, h1, h2⟩ := h
  rcases h1.2 with ⟨rfl, h0⟩ | ⟨g, cap, cur, rfl, hbg, hg, hnc, hcm, hcs, htk⟩
  · exact .inl ⟨rfl, List.length_eq_zero_iff.1 h0⟩
  · exact .inr ⟨g, cap, rfl, hnc, hcm⟩
theorem mo_view {α : Type} {e : ERep α} {E : TypeId} {v : Value} {xs : List α} {S : Nat → Prop} {w : World} (h : (mO e E v xs).p S w) {b m cap l n c : Nat} (hv : v = .slice (some ⟨b, 0, none⟩) m cap) (hl : l + n ≤ m) (hnc : n ≤ c) (hc : c ≤ 9223372036854775807) :
    SlQ e S ((xs.drop l).take n) (.slice (some ⟨b, 0 + l * e.n, none⟩) n c) w := by
  obtain ⟨cs, h1, h2⟩ := h
  rcases h1.2 with ⟨h0, _⟩ | ⟨g, cap', cur, h0, hbg, hg, hnc', hcm, hcs, htk⟩
  · rw [hv] at h0; cases h0
  · rw [hv] at h0
    cases h0
    have hlen : ((xs.drop l).take n).length = n := by simp; omega
    refine ⟨some ⟨b, 0 + l * e.n, none⟩, c, by rw [hlen], by omega, by unfold maxLen; omega, .inr ⟨b, 0 + l * e.n, (cs.drop (l * e.n)).take (n * e.n), rfl, ?_, (h2.drop l).take n⟩⟩
    have ha := At.row hg
    have := ha.take (xs.length * e.n)
    rw [htk] at this
    exact (this.drop (l * e.n)).take (n * e.n)
theorem run_sliceG {t : TypeId} {et : TypeId} {ag : Bool} {sz bytes : Nat} {zero : Value} {b o n cap l h : Nat} {lo hi : Option Value} {w : World} (ht : P.underlying t = some (.slice et)) (het : TyF P et ag sz bytes zero)
    (hl : lo = some (.int .i64 (l : Int)) ∨ (lo = none ∧ l = 0)) (hh : hi = some (.int .i64 (h : Int)) ∨ (hi = none ∧ h = n)) (hlh : l ≤ h) (hhn : h ≤ cap) :
    (Instr.sliceAt t (.slice (some ⟨b, o, none⟩) n cap) lo hi none).run P w = .ok (.slice (if cap = l then some ⟨b, o, none⟩ else (some (⟨b, o, none⟩ : Addr)).map (·.add (l * sz))) (h - l) (cap - l)) w := by
  have b1 : (0 : Int) ≤ (l : Int) ∧ (l : Int) ≤ (h : Int) := by omega
  have b2 : (0 : Int) ≤ (h : Int) ∧ (h : Int) ≤ (cap : Int) := by omega
  unfold Instr.sliceAt
  simp only [Sem.run_bind, run_underlying ht, Result.andThen_ok]
  unfold Instr.slice
  simp only [Sem.run_bind, run_underlying ht, Result.andThen_ok]
  unfold Instr.sliceBounds
  rcases hl with rfl | ⟨rfl, rfl⟩ <;> rcases hh with rfl | ⟨rfl, rfl⟩ <;>
    simp only [Instr.sliceBound, asIntOf, Sem.run_bind, Sem.run_pure, Result.andThen_ok, if_pos b1, if_pos b2, run_sizeOf het, Int.toNat_natCast]
theorem e_slice (hT : TTok P cf.tt) (hL : ELok P cf.tt) {lo hi : Option Operand} {k : List (Nat × Dv) → Option R} (h : eSlice cf cx σ t x lo hi k = some r) : ∃ l, k l = some r ∧ ES P ⟨d, .slice t x lo hi none, ty, pos, aft, g⟩ cx σ F l := by
  have hx : ∀ {vs env S w}, (∀ t' ∈ tmpsOf (.slice t x lo hi none), Lk P vs env S w cx σ t') → LkO P vs env S w cx σ x := fun hl => lk_of hl (by simp [Op.operands])
  have hlo : ∀ {vs env S w z}, lo = some z → (∀ t' ∈ tmpsOf (.slice t x lo hi none), Lk P vs env S w cx σ t') → LkO P vs env S w cx σ z := fun e hl => lk_of hl (by simp [Op.operands, e])
  have hhi : ∀ {vs env S w z}, hi = some z → (∀ t' ∈ tmpsOf (.slice t x lo hi none), Lk P vs env S w cx σ t') → LkO P vs env S w cx σ z := fun e hl => lk_of hl (by simp [Op.operands, e])
  unfold eSlice at h
  split at h
  · next e E B s xs ht hxv =>
    obtain ⟨hse, h⟩ := cast_s h
    cases hse
    obtain ⟨bytes, zero, het⟩ := ty_el hT hL ht
    have fin : ∀ {l m : Nat} {zs : List e.D}, l ≤ m → m ≤ List.length xs → zs = (List.drop l xs).take (m - l) → (∀ vs env S w, (∀ t' ∈ tmpsOf (.slice t x lo hi none), Lk P vs env S w cx σ t') → ((lo.map (ev env)) = some (.int .i64 (l : Int)) ∨ (lo = none ∧ l = 0)) ∧ ((hi.map (ev env)) = some (.int .i64 (m : Int)) ∨ (hi = none ∧ m = List.length xs))) →
        k [(0, .d (.l e) zs)] = some r → ∃ l, k l = some r ∧ ES P ⟨d, .slice t x lo hi none, ty, pos, aft, g⟩ cx σ F l := by
      intro l m zs h1 h2 h3 h4 h5
      subst h3
      refine ⟨_, h5, es_oe fun env w S vs hM hl => ?_⟩
      obtain ⟨h6, h7⟩ := h4 vs env S w hl
      exact ⟨_, _, _, _, [fV (eS e.rep) xs (ev env x)], [], oe_slice (e := e.rep) (xs := xs) (l := l) (h := m) rfl (tk_sl hT ht) het h6 h7 h1 h2 (fun S w h => h.1), trivial, ⟨opv_hold hxv (hx hl), trivial⟩, fun u w' _ hf => one_of hf.1⟩
    rcases bnd_s h with ⟨e1, h1⟩ | ⟨zl, l, e1, h1, hl1⟩
    · rcases bnd_s h1 with ⟨e2, h2⟩ | ⟨zh, m, e2, h2, hh1⟩
      · exact fin (l := 0) (m := List.length xs) (Nat.zero_le _) (Nat.le_refl _) (cut_a (α := e.D) xs) (fun vs env S w hl => ⟨.inr ⟨e1, rfl⟩, .inr ⟨e2, rfl⟩⟩) h2
      · obtain ⟨h3, h4⟩ := ck_s h2
        obtain ⟨zs, hz, h5⟩ := nm_s h4
        exact fin (l := 0) (m := m) (Nat.zero_le _) h3 hz (fun vs env S w hl => ⟨.inr ⟨e1, rfl⟩, .inl (by rw [e2]; exact congrArg some (hh1 P vs env S w (hhi e2 hl)))⟩) h5
    · rcases bnd_s h1 with ⟨e2, h2⟩ | ⟨zh, m, e2, h2, hh1⟩
      · obtain ⟨h3, h4⟩ := ck_s h2
        obtain ⟨zs, hz, h5⟩ := nm_s h4
        exact fin (l := l) (m := List.length xs) h3 (Nat.le_refl _) (hz.trans (cut_l (α := e.D) xs l)) (fun vs env S w hl => ⟨.inl (by rw [e1]; exact congrArg some (hl1 P vs env S w (hlo e1 hl))), .inr ⟨e2, rfl⟩⟩) h5
      · obtain ⟨h3, h4⟩ := ck_s h2
        obtain ⟨zs, hz, h5⟩ := nm_s h4
        exact fin (l := l) (m := m) h3.1 h3.2 hz (fun vs env S w hl => ⟨.inl (by rw [e1]; exact congrArg some (hl1 P vs env S w (hlo e1 hl))), .inl (by rw [e2]; exact congrArg some (hh1 P vs env S w (hhi e2 hl)))⟩) h5
  · next e E B o ht hxv =>
    split at h
    · next s E' xs ho =>
      obtain ⟨hse, h⟩ := cast_s h
      cases hse
      obtain ⟨bytes, zero, het⟩ := ty_el hT hL ht
      have key : ∀ (l m : Nat), l ≤ m → m ≤ List.length xs → k [(0, .sv o e l (m - l))] = some r → (∀ vs env S w, (∀ t' ∈ tmpsOf (.slice t x lo hi none), Lk P vs env S w cx σ t') → ((lo.map (ev env)) = some (.int .i64 (l : Int)) ∨ (lo = none ∧ l = 0)) ∧ ((hi.map (ev env)) = some (.int .i64 (m : Int)) ∨ (hi = none ∧ m = List.length xs))) →
          ∃ l, k l = some r ∧ ES P ⟨d, .slice t x lo hi none, ty, pos, aft, g⟩ cx σ F l := by
        intro l m h1 h2 h5 h4
        refine ⟨_, h5, fun env w S vs hS hM hl => ?_⟩
        obtain ⟨h6, h7⟩ := h4 vs env S w hl
        have hxe : ev env x = vs o := opv_hold hxv (hx hl)
        rcases mo_shape (show (mO e.rep E' (vs o) xs).p S w from geto_M hM ho) with ⟨hv, hnil⟩ | ⟨b, cap, hv, hc1, hc2⟩
        · refine (oe_slice (e := e.rep) (xs := ([] : List e.D)) (l := l) (h := m) rfl (tk_sl hT ht) het h6 (by rw [hnil] at h7; exact h7) h1 (by rw [hnil] at h2; exact h2) (Γ := [fV (eS e.rep) ([] : List e.D) (ev env x)]) (fun S w h => h.1) (ms := []) w S hS trivial ⟨?_, trivial⟩).mono ?_
          · rw [hxe, hv]; exact fV_slice.2 ⟨none, 0, rfl, Nat.le_refl _, Nat.zero_le _, .inl rfl⟩
          · rintro v w' ⟨u, rfl, _, hx', hf⟩
            refine ⟨hx', one_of (.inr ?_)⟩
            have hm0 : m = 0 := by rw [hnil] at h2; exact Nat.le_zero.1 h2
            obtain ⟨ao, c, q1, q2, q3, _⟩ := fV_slice.1 hf.1
            refine ⟨by omega, ao, c, by unfold maxLen at q3; omega, ?_⟩
            rw [q1]; simp
        · have hr := run_sliceG (P := P) (b := b) (o := 0) (n := List.length xs) (cap := cap) (w := w) (l := l) (h := m) (tk_sl hT ht) het (h6.imp id fun q => ⟨by rw [q.1]; rfl, q.2⟩) (h7.imp id fun q => ⟨by rw [q.1]; rfl, q.2⟩) h1 (Nat.le_trans h2 hc1)
          rw [← hv, ← hxe] at hr
          refine OpR.of_value (v := .slice (if cap = l then some ⟨b, 0, none⟩ else some ((⟨b, 0, none⟩ : Addr).add (l * e.rep.n))) (m - l) (cap - l)) (w' := w) (by simp [execOp, hr]) ⟨Keeps.refl _ _, one_of ?_⟩
          by_cases hcl : cap = l
          · rw [if_pos hcl]
            refine .inr ⟨by omega, some ⟨b, 0, none⟩, cap - l, by omega, ?_⟩
            rw [show m - l = 0 by omega]
          · rw [if_neg hcl]
            exact .inl ⟨b, List.length xs, cap, cap - l, hv, by omega, by omega, by omega, by rw [addr_add]⟩
      rcases bnd_s h with ⟨e1, h1⟩ | ⟨zl, l, e1, h1, hl1⟩
      · rcases bnd_s h1 with ⟨e2, h2⟩ | ⟨zh, m, e2, h2, hh1⟩
        · exact key 0 (List.length xs) (Nat.zero_le _) (Nat.le_refl _) h2 (fun vs env S w hl => ⟨.inr ⟨e1, rfl⟩, .inr ⟨e2, rfl⟩⟩)
        · obtain ⟨h3, h4⟩ := ck_s h2
          exact key 0 m (Nat.zero_le _) h3 h4 (fun vs env S w hl => ⟨.inr ⟨e1, rfl⟩, .inl (by rw [e2]; exact congrArg some (hh1 P vs env S w (hhi e2 hl)))⟩)
      · rcases bnd_s h1 with ⟨e2, h2⟩ | ⟨zh, m, e2, h2, hh1⟩
        · obtain ⟨h3, h4⟩ := ck_s h2
          exact key l (List.length xs) h3 (Nat.le_refl _) h4 (fun vs env S w hl => ⟨.inl (by rw [e1]; exact congrArg some (hl1 P vs env S w (hlo e1 hl))), .inr ⟨e2, rfl⟩⟩)
        · obtain ⟨h3, h4⟩ := ck_s h2
          exact key l m h3.1 h3.2 h4 (fun vs env S w hl => ⟨.inl (by rw [e1]; exact congrArg some (hl1 P vs env S w (hlo e1 hl))), .inl (by rw [e2]; exact congrArg some (hh1 P vs env S w (hhi e2 hl)))⟩)
    · cases h
  · cases h
theorem e_box {E : TypeId} {k : List (Nat × Dv) → Option R} (h : eBox cf cx σ E x k = some r) : ∃ l, k l = some r ∧ ES P ⟨d, .box E x, ty, pos, aft, g⟩ cx σ F l := by
  unfold eBox at h
  split at h
  · next ti hti =>
    obtain ⟨y, h, hy⟩ := asO_s h
    exact ⟨_, h, es_oe fun env w S vs hM hl => ⟨_, _, _, _, [fV ti.ty.rep y (ev env x)], [], oe_box (e := ti.ty.rep) (z := y) rfl (fun S w h => h.1), trivial, ⟨hy P vs env S w (lk_of hl (by simp [Op.operands])), trivial⟩, fun u w' _ hf => one_of hf.1⟩⟩
  · cases h
theorem e_len (hT : TTok P cf.tt) {ags : Array Operand} {ts : Array TypeId} {k : List (Nat × Dv) → Option R} (h : eLen cf cx σ ags.toList ts.toList k = some r) :
    ∃ l, k l = some r ∧ ES P ⟨d, .call ⟨.builtin .len, ags, ts⟩, ty, pos, aft, g⟩ cx σ F l := by
  unfold eLen at h
  split at h
  · next _ _ x t hags hts =>
    obtain rfl : ags = #[x] := by cases ags; simp_all
    obtain rfl : ts = #[t] := by cases ts; simp_all
    have hx : ∀ {vs env S w}, (∀ t' ∈ tmpsOf (.call ⟨.builtin .len, #[x], #[t]⟩), Lk P vs env S w cx σ t') → LkO P vs env S w cx σ x := fun hl => lk_of hl (by simp [Op.operands, Call.operands])
    split at h
    · next e E B ht =>
      have hu := tk_sl hT ht
      split at h
      · next hxv => exact ⟨_, h, es_val fun env w S vs hl => ⟨_, r_len hu (opv_hold hxv (hx hl)) w, one_of (i64_fV (by decide))⟩⟩
      · next s xs hxv =>
        exact ⟨_, h, es_oe fun env w S vs hM hl => ⟨_, _, _, _, [fV (eS s.rep) xs (ev env x)], [], oe_len (e := s.rep) (xs := xs) hu rfl (fun S w h => h.1), trivial, ⟨opv_hold hxv (hx hl), trivial⟩, fun u w' hk hf => one_of (i64_fV (len_r hk))⟩⟩
      · next o hxv =>
        split at h
        · next s E' xs ho =>
          exact ⟨_, h, es_oe fun env w S vs hM hl => ⟨_, _, _, _, [], [mO s.rep E' (vs o) xs], oe_lenM 0 rfl hu (opv_hold hxv (hx hl)), ⟨geto_M hM ho, trivial⟩, trivial, fun u w' hk hf => one_of (i64_fV (len_r hk))⟩⟩
        · cases h
      · cases h
    · cases h
  · cases h
theorem e_mm {b : Bool} {ags : Array Operand} {ts : Array TypeId} {k : List (Nat × Dv) → Option R} (h : eMM cx b σ ags.toList k = some r) :
    ∃ l, k l = some r ∧ ES P ⟨d, .call ⟨.builtin (if b = true then .max else .min), ags, ts⟩, ty, pos, aft, g⟩ cx σ F l := by
  unfold eMM at h
  split at h
  · next _ x y hags =>
    obtain rfl : ags = #[x, y] := by cases ags; simp_all
    have hx : ∀ {bl vs env S w}, (∀ t' ∈ tmpsOf (.call ⟨.builtin bl, #[x, y], ts⟩), Lk P vs env S w cx σ t') → LkO P vs env S w cx σ x := fun hl => lk_of hl (by simp [Op.operands, Call.operands])
    have hy : ∀ {bl vs env S w}, (∀ t' ∈ tmpsOf (.call ⟨.builtin bl, #[x, y], ts⟩), Lk P vs env S w cx σ t') → LkO P vs env S w cx σ y := fun hl => lk_of hl (by simp [Op.operands, Call.operands])
    split at h
    · next a c ha hc =>
      cases b
      · have h : nm (min (α := Int) a c) (fun z => k [(0, intD z)]) = some r := h
        obtain ⟨z, hz, h⟩ := nm_s h
        exact ⟨_, h, es_val fun env w S vs hl => ⟨_, v_i (r_min (pd_i ha (hx hl)).1 (pd_i hc (hy hl)).1) hz w, one_of (i64_fV (eq_r hz (min_r (pd_i ha (hx hl)).2 (pd_i hc (hy hl)).2)))⟩⟩
      · have h : nm (max (α := Int) a c) (fun z => k [(0, intD z)]) = some r := h
        obtain ⟨z, hz, h⟩ := nm_s h
        exact ⟨_, h, es_val fun env w S vs hl => ⟨_, v_i (r_max (pd_i ha (hx hl)).1 (pd_i hc (hy hl)).1) hz w, one_of (i64_fV (eq_r hz (max_r (pd_i ha (hx hl)).2 (pd_i hc (hy hl)).2)))⟩⟩
    · cases h
  · cases h
end
end Go.Proofs.YtjnjfinbdfolkaaGreat
end

section
set_option linter.unusedVariables false
set_option linter.unusedSimpArgs false
namespace Go.Proofs.YtjnjfinbdfolkaaGreat
def PH (S : Nat → Prop) (w : World) : (ts : List Ty) → TsD ts → List (Nat × Value) → Prop
  | [], _, [] => True
  | t :: ts, y, (_, v) :: r => (fV t.rep y.1 v).p S w ∧ PH S w ts y.2 r
  | _, _, _ => False
theorem PH.keep {S : Nat → Prop} {w w' : World} (k : Keeps S w w') : ∀ {ts : List Ty} {ys : TsD ts} {ps : List (Nat × Value)}, PH S w ts ys ps → PH S w' ts ys ps
  | [], _, [], h => trivial
  | t :: _, y, (_, v) :: _, h => ⟨(fV t.rep y.1 v).keep h.1 k, PH.keep k h.2⟩
  | [], _, _ :: _, h => h.elim
  | _ :: _, _, [], h => h.elim
theorem PH.sub {S S' : Nat → Prop} {w : World} (k : ∀ k, k < w.heap.size → S k → S' k) : ∀ {ts : List Ty} {ys : TsD ts} {ps : List (Nat × Value)}, PH S w ts ys ps → PH S' w ts ys ps
  | [], _, [], h => trivial
  | t :: _, y, (_, v) :: _, h => ⟨(fV t.rep y.1 v).sub h.1 k, PH.sub k h.2⟩
  | [], _, _ :: _, h => h.elim
  | _ :: _, _, [], h => h.elim
def phF (ts : List Ty) (ys : TsD ts) (ps : List (Nat × Value)) : FF := ⟨fun S w => PH S w ts ys ps, fun h k => PH.keep k h, fun h k => PH.sub k h⟩
section
variable {P : Program} {cf : Cf} {cx σ : Sg} {F : List MF} {vs : Nat → Value} {env : Env} {S : Nat → Prop} {w : World} {R : Type} {r : R}
  {d : Option Tmp} {ty t yt : TypeId} {pos : String} {aft : Array Edge} {g : Option (Nat × Bool)} {x y : Operand}
theorem parts_s : ∀ {ts : List Ty} {ps : List (Nat × Operand)} {j : Nat} {k : TsD ts → Option R}, parts cx σ ts ps j k = some r →
    ∃ ys, k ys = some r ∧ ps.map (·.1) = List.range' j ps.length ∧ ∀ (P : Program) vs env S w, (∀ x ∈ ps.map (·.2), LkO P vs env S w cx σ x) → PH S w ts ys (ps.map fun q : Nat × Operand => (q.1, ev env q.2))
  | [], [], j, k, h => ⟨(), h, rfl, fun _ _ _ _ _ _ => trivial⟩
  | t :: ts, (i, x) :: ps, j, k, h => by
    unfold parts at h
    obtain ⟨hij, h⟩ := grd_s h
    obtain ⟨y, h, hy⟩ := asO_s h
    obtain ⟨ys, h1, h2, h3⟩ := parts_s h
    refine ⟨(y, ys), h1, ?_, fun P vs env S w hl => ⟨hy P vs env S w (hl x (List.mem_cons_self ..)), h3 P vs env S w fun z hz => hl z (List.mem_cons_of_mem _ hz)⟩⟩
    simp only [List.map_cons, List.length_cons, List.range'_succ, h2, beq_t hij]
  | [], _ :: _, j, k, h => by simp [parts] at h
  | _ :: _, [], j, k, h => by simp [parts] at h
theorem flat1 {i : Nat} {v : Value} : flat [(i, v)] = v.cells.toList := by simp [flat]
theorem fld0 {k : Nat} {s t : Ty} : fld (k + 2) (.p s t) 0 = some ⟨0, s, fun z => z.1, fun y z => (y, z.2)⟩ := rfl
theorem fldS {k : Nat} {s t : Ty} {i : Nat} {f : Fl t.D} (h : fld (k + 1) t i = some f) : fld (k + 2) (.p s t) (i + 1) = some ⟨s.n + f.off, f.f, fun z => f.get z.2, fun y z => (z.1, f.set y z.2)⟩ := by
  simp only [fld, h]
theorem join_s {pl : Array (Nat × Nat)} : ∀ {k : Nat} {t : Ty} {o j : Nat} {ys : TsD (flds k t)} {ps : List (Nat × Value)} {z : t.D}, (∀ i f, fld k t i = some f → pl[j + i]? = some (o + f.off, f.f.n)) →
    ps.map (·.1) = List.range' j ps.length → PH S w (flds k t) ys ps → joinP k t ys = some z → fillOK (pl[·]?) ps o ∧ t.rep.p S z (flat ps) w
  | 0, _, _, _, _, _, _, _, _, _, h => by simp [joinP] at h
  | 1, t, o, j, ys, [], z, hp, hi, h, hj => h.elim
  | 1, t, o, j, ys, [(i, v)], z, hp, hi, h, hj => by
    simp only [joinP, Option.some.injEq] at hj
    subst hj
    have hij : i = j := by simpa using hi
    subst hij
    have h0 := hp 0 (Fl.self t) rfl
    have hs := fV_sz h.1
    rw [t.n_rep] at hs
    refine ⟨⟨?_, trivial⟩, by rw [flat1]; exact fV_cells h.1⟩
    show pl[i]? = _
    rw [hs]; simpa [Fl.self] using h0
  | 1, t, o, j, ys, _ :: _ :: _, z, hp, hi, h, hj => h.2.elim
  | k + 2, .p s t, o, j, ys, [], z, hp, hi, h, hj => h.elim
  | k + 2, .p s t, o, j, ys, (i, v) :: ps, z, hp, hi, h, hj => by
    unfold joinP at hj
    split at hj
    · next y hy =>
      obtain rfl := Option.some.inj hj
      simp only [List.map_cons, List.length_cons, List.range'_succ, List.cons.injEq] at hi
      obtain ⟨rfl, hi⟩ := hi
      have h0 := hp 0 _ fld0
      have hs := fV_sz h.1
      rw [s.n_rep] at hs
      obtain ⟨h1, h2⟩ := join_s (o := o + s.n) (j := i + 1) (pl := pl) (fun i' f hf => by
        have := hp (i' + 1) _ (fldS hf)
        rw [show i + 1 + i' = i + (i' + 1) by omega, this]
        simp only [Nat.add_assoc]) hi h.2 hy
      refine ⟨⟨?_, by rw [hs]; exact h1⟩, ?_⟩
      · show pl[i]? = _
        rw [hs]; simpa using h0
      · rw [flat_cons]; exact ⟨_, _, rfl, fV_cells h.1, h2⟩
    · cases hj
  | k + 2, .i, _, _, _, _, _, _, _, _, h => by simp [joinP] at h
  | k + 2, .u, _, _, _, _, _, _, _, _, h => by simp [joinP] at h
  | k + 2, .b, _, _, _, _, _, _, _, _, h => by simp [joinP] at h
  | k + 2, .l _, _, _, _, _, _, _, _, _, h => by simp [joinP] at h
  | k + 2, .a _ _, _, _, _, _, _, _, _, _, h => by simp [joinP] at h
theorem listP_len : ∀ (n : Nat) (t : Ty) (ys : TsD (repT n t)), (listP n t ys).length = n
  | 0, _, _ => rfl
  | n + 1, t, ys => congrArg (· + 1) (listP_len n t ys.2)
theorem list_s {t : Ty} : ∀ {n j : Nat} {ys : TsD (repT n t)} {ps : List (Nat × Value)}, ps.map (·.1) = List.range' j ps.length → PH S w (repT n t) ys ps →
    fillOK (fun i => some (i * t.rep.n, t.rep.n)) ps (j * t.rep.n) ∧ Elems t.rep S (listP n t ys) (flat ps) w
  | 0, _, _, [], _, _ => ⟨trivial, rfl⟩
  | 0, _, _, _ :: _, _, h => h.elim
  | n + 1, _, _, [], _, h => h.elim
  | n + 1, j, ys, (i, v) :: ps, hi, h => by
    simp only [List.map_cons, List.length_cons, List.range'_succ, List.cons.injEq] at hi
    obtain ⟨rfl, hi⟩ := hi
    have hs := fV_sz h.1
    obtain ⟨h1, h2⟩ := list_s hi h.2
    refine ⟨⟨by rw [hs], ?_⟩, ?_⟩
    · rw [hs, show i * t.rep.n + t.rep.n = (i + 1) * t.rep.n by rw [Nat.add_mul, Nat.one_mul]]; exact h1
    · rw [flat_cons]; exact ⟨_, _, rfl, fV_cells h.1, h2⟩
theorem e_build (hT : TTok P cf.tt) {ps : Array (Nat × Operand)} {k : List (Nat × Dv) → Option R} (h : eBuild cf cx σ t ps.toList k = some r) : ∃ l, k l = some r ∧ ES P ⟨d, .build t ps, ty, pos, aft, g⟩ cx σ F l := by
  unfold eBuild at h
  split at h
  · next e n B ht =>
    obtain ⟨zero, hz1, hz2, hz3⟩ := ty_of hT ht
    obtain ⟨hag, _, ⟨fs, hfs, pl, hpl, hpi⟩, _⟩ := (hT _ _ ht).2.2.2
    simp only at hz1 hz2 hz3 hag hpi
    split at h
    · next hps =>
      obtain rfl : ps = #[] := by cases ps; simp_all
      exact ⟨_, h, es_oe fun env w S vs hM hl => ⟨_, _, _, _, [], [], oe_zero (e := e.rep) (z := e.z) (hag ▸ hz1) hag hz2 (.inl ⟨fs, hfs, pl, hpl⟩) hz3, trivial, trivial, fun u w' _ hf => one_of hf.1⟩⟩
    · next i x hps =>
      obtain rfl : ps = #[(i, x)] := by cases ps; simp_all
      split at h
      · next f hf =>
        obtain ⟨y, h, hy⟩ := asO_s h
        refine ⟨_, h, es_oe fun env w S vs hM hl => ⟨_, _, _, _, [fV f.f.rep y (ev env x)], [], oe_build1 (e := e.rep) (f := f.f.rep) (z0 := e.z) (y := y) (hag ▸ hz1) hag hz3 (fld_ok hf e.z) ⟨fs, hfs, hpl⟩ (by rw [f.f.n_rep]; exact hpi i f hf) rfl (fun S w h => h.1) rfl, trivial, ⟨hy P vs env S w (lk_of hl (by simp [Op.operands])), trivial⟩, fun u w' _ hf => one_of hf.1⟩⟩
      · cases h
    · next ps' hne1 hne2 =>
      obtain ⟨ys, h, hidx, hys⟩ := parts_s h
      split at h
      · next z hz =>
        refine ⟨_, h, es_oe fun env w S vs hM hl => ?_⟩
        have hph := hys P vs env S w fun x hx => lk_of hl (by simpa [Op.operands] using hx)
        have hidx' : (ps.toList.map fun q : Nat × Operand => (q.1, ev env q.2)).map (·.1) = List.range' 0 (ps.toList.map fun q : Nat × Operand => (q.1, ev env q.2)).length := by rw [List.map_map, List.length_map]; exact hidx
        have hj := fun (S : Nat → Prop) (w : World) (h : PH S w (flds n e) ys (ps.toList.map fun q : Nat × Operand => (q.1, ev env q.2))) => join_s (pl := pl) (o := 0) (j := 0) (fun i f hf => by rw [Nat.zero_add, Nat.zero_add]; exact hpi i f hf) hidx' h hz
        exact ⟨_, _, _, _, [phF _ ys (ps.toList.map fun q : Nat × Operand => (q.1, ev env q.2))], [], oe_build (e := e.rep) (z := z) (parts := ps.toList) (hag ▸ hz1) hag hz2 rfl (.inl ⟨fs, hfs, pl, hpl, fun S w h => (hj S w h.1).1⟩) (fun S w h => (hj S w h.1).2), trivial, ⟨hph, trivial⟩, fun u w' _ hf => one_of hf.1⟩
      · cases h
  · next n e n' E B ht =>
    obtain ⟨hg, h⟩ := grd_s h
    rw [Bool.and_eq_true] at hg
    have hn := beq_t hg.1
    subst hn
    obtain ⟨b2, z2, het⟩ := el_ty hT hg.2
    obtain ⟨ys, h, hidx, hys⟩ := parts_s h
    obtain ⟨zero, hz1, hz2, hz3⟩ := ty_of hT ht
    refine ⟨_, h, es_oe fun env w S vs hM hl => ?_⟩
    have hph := hys P vs env S w fun x hx => lk_of hl (by simpa [Op.operands] using hx)
    have hidx' : (ps.toList.map fun q : Nat × Operand => (q.1, ev env q.2)).map (·.1) = List.range' 0 (ps.toList.map fun q : Nat × Operand => (q.1, ev env q.2)).length := by rw [List.map_map, List.length_map]; exact hidx
    have hj := fun (S : Nat → Prop) (w : World) (h : PH S w (repT n' e) ys (ps.toList.map fun q : Nat × Operand => (q.1, ev env q.2))) => list_s hidx' h
    exact ⟨_, _, _, _, [phF _ ys (ps.toList.map fun q : Nat × Operand => (q.1, ev env q.2))], [], oe_build (e := (Ty.a n' e).rep) (z := listP n' e ys) (parts := ps.toList) hz1 rfl hz2 rfl (.inr ⟨_, _, _, _, _, _, tk_ar hT ht, het, fun S w h => by have := (hj S w h.1).1; rwa [Nat.zero_mul] at this⟩) (fun S w h => ⟨listP_len n' e ys, (hj S w h.1).2⟩), trivial, ⟨hph, trivial⟩, fun u w' _ hf => one_of hf.1⟩
  · cases h
theorem el_pos {s E : TypeId} {e : Ty} {B : Nat} (hT : TTok P cf.tt) (hL : ELok P cf.tt) (h : tyA cf s = some ⟨.l e, .sl E, B⟩) : 0 < e.rep.n := by
  obtain ⟨ti, h1, rfl⟩ := hL _ _ _ _ h
  exact (hT _ _ h1).2.2.1
theorem e_lit (hT : TTok P cf.tt) (hL : ELok P cf.tt) {n : Nat} {ps : Array (Nat × Operand)} {k : List (Nat × Dv) → Option R} (h : eLit cf cx σ t n ps.toList k = some r) : ∃ l, k l = some r ∧ ES P ⟨d, .buildSlice t n ps, ty, pos, aft, g⟩ cx σ F l := by
  unfold eLit at h
  split at h
  · next e E B ht =>
    obtain ⟨hsm, h⟩ := grd_s h
    have hsm := Nat.le_of_ble_eq_true hsm
    rw [← e.n_rep] at hsm
    obtain ⟨ys, h, hidx, hys⟩ := parts_s h
    obtain ⟨bytes, zero, het⟩ := ty_el hT hL ht
    refine ⟨_, h, es_oe fun env w S vs hM hl => ?_⟩
    have hph := hys P vs env S w fun x hx => lk_of hl (by simpa [Op.operands] using hx)
    have hidx' : (ps.toList.map fun q : Nat × Operand => (q.1, ev env q.2)).map (·.1) = List.range' 0 (ps.toList.map fun q : Nat × Operand => (q.1, ev env q.2)).length := by rw [List.map_map, List.length_map]; exact hidx
    have hj := fun (S : Nat → Prop) (w : World) (h : PH S w (repT n e) ys (ps.toList.map fun q : Nat × Operand => (q.1, ev env q.2))) => list_s hidx' h
    exact ⟨_, _, _, _, [phF _ ys (ps.toList.map fun q : Nat × Operand => (q.1, ev env q.2))], [], oe_buildSlice (e := e.rep) (zs := listP n e ys) (parts := ps.toList) (tk_sl hT ht) het (el_pos hT hL ht) (listP_len n e ys) hsm rfl (fun S w h => by have := (hj S w h.1).1; rwa [Nat.zero_mul] at this) (fun S w h => (hj S w h.1).2), trivial, ⟨hph, trivial⟩, fun u w' _ hf => one_of hf.1⟩
  · cases h
theorem caps_s : ∀ {xs : List Operand} {l : List PD}, caps cx σ xs = some l → l.length = xs.length ∧ ∀ (P : Program) vs env S w, (∀ x ∈ xs, LkO P vs env S w cx σ x) → All S (capF l (xs.map (ev env))) w
  | [], l, h => by simp only [caps, Option.some.injEq] at h; subst h; exact ⟨rfl, fun _ _ _ _ _ _ => trivial⟩
  | x :: xs, l, h => by
    unfold caps at h
    split at h
    · next t y l' hx hr =>
      simp only [Option.some.injEq] at h
      subst h
      obtain ⟨h1, h2⟩ := caps_s hr
      exact ⟨by simp [h1], fun P vs env S w hl => ⟨opv_hold hx (hl x (List.mem_cons_self ..)), h2 P vs env S w fun z hz => hl z (List.mem_cons_of_mem _ hz)⟩⟩
    · cases h
theorem e_clo {f : Go.Fn} {first cs : Array Operand} {k : List (Nat × Dv) → Option R} (h : eClo cx σ f first.toList cs.toList k = some r) : ∃ l, k l = some r ∧ ES P ⟨d, .makeFunc f first cs, ty, pos, aft, g⟩ cx σ F l := by
  unfold eClo at h
  split at h
  · next _ _ _ f' l hf hc =>
    obtain rfl : first = #[] := by cases first; simp_all
    obtain ⟨h1, h2⟩ := caps_s hc
    refine ⟨_, h, es_val fun env w S vs hl => ⟨_, r_mk (xs := cs.toList) rfl w, one_of ?_⟩⟩
    exact ⟨_, rfl, by simp [h1], h2 P vs env S w fun x hx => lk_of hl (by simpa [Op.operands] using hx)⟩
  · cases h
end
end Go.Proofs.YtjnjfinbdfolkaaGreat
end

section
set_option linter.unusedVariables false
set_option linter.unusedSimpArgs false
namespace Go.Proofs.YtjnjfinbdfolkaaGreat
section
variable {P : Program} {cf : Cf} {cx σ : Sg} {F : List MF} {vs : Nat → Value} {env : Env} {S : Nat → Prop} {w : World} {R : Type} {r : R}
  {d : Option Tmp} {ty t yt : TypeId} {pos : String} {aft : Array Edge} {g : Option (Nat × Bool)} {x y : Operand}
theorem pair_cast {A B C : Type} (h : B = C) (p : (A × B) = (A × C)) (x : A × B) : (p ▸ x : A × C) = (x.1, h ▸ x.2) := by subst h; rfl
theorem St.sub' {we : World} {Se : Nat → Prop} {ms : List MF} {Γ Δ : List FF} {w : World} (h : St we Se ms Γ w) (hs : ∀ f ∈ Δ, f ∈ Γ) : St we Se ms Δ w :=
  h.weak fun S w h => all_mem.2 fun f hf => all_mem.1 h f (hs f hf)
theorem rs_d {t : Ty} {n : RM} {r : List RM} (x : RsD (.d t :: n :: r)) : (RsD_ty (.d t :: n :: r) ▸ x : CsD ((RM.d t :: n :: r).map RM.ty)) = ((x.1, RsD_ty (n :: r) ▸ x.2) : t.D × CsD ((n :: r).map RM.ty)) :=
  pair_cast (A := t.D) (RsD_ty (n :: r)) (RsD_ty (.d t :: n :: r)) x
theorem rs_o {t : Ty} {E : TypeId} {n : RM} {r : List RM} (x : RsD (.own t E :: n :: r)) : (RsD_ty (.own t E :: n :: r) ▸ x : CsD ((RM.own t E :: n :: r).map RM.ty)) = ((x.1, RsD_ty (n :: r) ▸ x.2) : (Ty.l t).D × CsD ((n :: r).map RM.ty)) :=
  pair_cast (A := List t.D) (RsD_ty (n :: r)) (RsD_ty (.own t E :: n :: r)) x
theorem fz_rs {we : World} {Se : Nat → Prop} : ∀ {rs : List RM} {x : RsD rs} {us : List Value} {F : List MF} {G : List FF} {w : World},
    St we Se (resMs rs x us ++ F) (resFs rs x us ++ G) w → St we Se F (csF (rs.map RM.ty) (RsD_ty rs ▸ x) us ++ G) w
  | [], _, _, _, _, _, h => h
  | [.d t], x, us, F, G, w, h => h
  | [.own t E], x, us, F, G, w, h => by
    have h : St we Se (mO t.rep E (us.headD undef) x :: F) G w := h
    exact fz_own 0 h rfl
  | .d t :: n :: r, x, us, F, G, w, h => by
    rw [rs_d]
    have h : St we Se (resMs (n :: r) x.2 us.tail ++ F) (resFs (n :: r) x.2 us.tail ++ (fV t.rep x.1 (us.headD undef) :: G)) w := St.sub' (by simpa [resMs, resFs, rmM, rmF] using h) (by simp; rintro f (h | h | h) <;> simp [h])
    have := fz_rs h
    exact St.sub' this (by
      intro f hf
      rcases List.mem_append.1 hf with hf | hf
      · rcases List.mem_cons.1 hf with rfl | hf
        · exact List.mem_append.2 (.inr (List.mem_cons_self ..))
        · exact List.mem_append.2 (.inl hf)
      · exact List.mem_append.2 (.inr (List.mem_cons_of_mem _ hf)))
  | .own t E :: n :: r, x, us, F, G, w, h => by
    rw [rs_o]
    have h : St we Se (mO t.rep E (us.headD undef) x.1 :: (resMs (n :: r) x.2 us.tail ++ F)) (resFs (n :: r) x.2 us.tail ++ G) w := h
    have h := fz_own 0 h rfl
    have h : St we Se (resMs (n :: r) x.2 us.tail ++ F) (resFs (n :: r) x.2 us.tail ++ (fV (eS t.rep) x.1 (us.headD undef) :: G)) w := St.sub' h (by simp; rintro f (h | h | h) <;> simp [h])
    have := fz_rs h
    exact St.sub' this (by
      intro f hf
      rcases List.mem_append.1 hf with hf | hf
      · rcases List.mem_cons.1 hf with rfl | hf
        · exact List.mem_append.2 (.inr (List.mem_cons_self ..))
        · exact List.mem_append.2 (.inl hf)
      · exact List.mem_append.2 (.inr (List.mem_cons_of_mem _ hf)))
theorem resX_T : ∀ {rs : List RM} {x : RsD rs} {i : Nat}, resX rs x i = resT (rs.map RM.ty) (RsD_ty rs ▸ x) i
  | [], _, _ => rfl
  | [.d _], _, _ => rfl
  | [.own _ _], _, _ => rfl
  | .d t :: n :: r, x, i => by rw [rs_d]; show (i, Dv.d t x.1) :: resX (n :: r) x.2 (i + 1) = _; rw [resX_T]; rfl
  | .own t E :: n :: r, x, i => by rw [rs_o]; show (i, Dv.d (.l t) x.1) :: resX (n :: r) x.2 (i + 1) = _; rw [resX_T]; rfl
theorem oneRes_T : ∀ rs : List RM, oneRes rs = oneT (rs.map RM.ty)
  | [] => rfl
  | [_] => rfl
  | _ :: _ :: _ => rfl
theorem resT_s : ∀ {ts : List Ty} {x : CsD ts} {i : Nat} {us : List Value}, All S (csF ts x us) w → us.length = ts.length → ∀ e ∈ resT ts x i, ∃ j u, e.1 = i + j ∧ us[j]? = some u ∧ (hold P vs e.2 u).p S w
  | [], _, _, _, _, _, e, he => absurd he List.not_mem_nil
  | [t], x, i, [], h, hl, e, he => by cases hl
  | [t], x, i, u :: us, h, hl, e, he => by
    obtain rfl := List.mem_singleton.1 he
    exact ⟨0, u, rfl, rfl, h.1⟩
  | t :: s :: r, x, i, [], h, hl, e, he => by cases hl
  | t :: s :: r, x, i, u :: us, h, hl, e, he => by
    rcases List.mem_cons.1 he with rfl | he
    · exact ⟨0, u, rfl, rfl, h.1⟩
    · obtain ⟨j, v, h1, h2, h3⟩ := resT_s (i := i + 1) h.2 (by simpa using hl) e he
      exact ⟨j + 1, v, by omega, by simpa using h2, h3⟩
theorem res_hold : ∀ {ts : List Ty} {x : CsD ts} {us : List Value}, All S (csF ts x us) w → us.length = ts.length → ∀ e ∈ resT ts x (bif oneT ts then 0 else 1), (holdC P vs e.2 (oneOr us) e.1).p S w
  | [], _, _, _, _, e, he => absurd he List.not_mem_nil
  | [t], x, [], _, hl, _, _ => by cases hl
  | [t], x, [v], h, hl, e, he => by
    obtain rfl := List.mem_singleton.1 he
    exact h.1
  | [t], x, _ :: _ :: _, _, hl, _, _ => by simp at hl
  | t :: s :: q, x, [], _, hl, _, _ => by cases hl
  | t :: s :: q, x, [_], _, hl, _, _ => by simp at hl
  | t :: s :: q, x, v :: v' :: us, h, hl, e, he => by
    obtain ⟨j, u, h1, h2, h3⟩ := resT_s (P := P) (vs := vs) h hl e he
    obtain ⟨i, dv⟩ := e
    simp only [oneT, cond_false] at h1
    obtain rfl : i = j + 1 := by omega
    exact ⟨(v :: v' :: us).toArray, u, rfl, by simpa using h2, h3⟩
theorem sigOf_s : ∀ {cs : List Sig} {f : FuncId} {s : Sig}, sigOf cs f = some s → s ∈ cs ∧ s.f = f ∧ noOwn s.dom = true ∧ s.bk = 0
  | c :: cs, f, s, h => by
    unfold sigOf at h
    cases hb : Nat.beq c.f f && (noOwn c.dom && Nat.beq c.bk 0) <;> rw [hb] at h
    · obtain ⟨h1, h2⟩ := sigOf_s h; exact ⟨List.mem_cons_of_mem _ h1, h2⟩
    · simp only [cond_true, Option.some.injEq] at h
      subst h
      rw [Bool.and_eq_true, Bool.and_eq_true] at hb
      exact ⟨List.mem_cons_self .., beq_t hb.1, hb.2.1, beq_t hb.2.2⟩
theorem argMs_no : ∀ {dom : List AM} {x : AsD dom} {us : List Value}, noOwn dom = true → argMs dom x us = []
  | [], _, _, _ => rfl
  | .d _ :: r, x, us, h => argMs_no (dom := r) (x := x.2) (us := us.tail) h
  | .q _ :: r, x, us, h => argMs_no (dom := r) (x := x.2) (us := us.tail) h
  | .fn _ _ :: r, x, us, h => argMs_no (dom := r) (x := x.2) (us := us.tail) h
  | .own _ _ :: _, _, _, h => by cases h
theorem feedC_s : ∀ {full : List AM} {cs : List PD} {z : AsD full}, feedC full cs = some z → cs.length = full.length ∧ ∀ {S : Nat → Prop} {w : World} {cvs : List Value}, cvs.length = cs.length → All S (capF cs cvs) w → All S (argFs P full z cvs) w
  | [], [], _, _ => ⟨rfl, fun _ _ => trivial⟩
  | .q t :: r, c :: cs, z, h => by
    simp only [feedC] at h
    obtain ⟨e, h⟩ := cast_s h
    subst e
    split at h
    · next z' hz =>
      obtain rfl := Option.some.inj h
      obtain ⟨h1, h2⟩ := feedC_s hz
      refine ⟨by simp [h1], fun {S w cvs} hl ha => ?_⟩
      cases cvs with
      | nil => cases hl
      | cons v cvs => exact ⟨ha.1, h2 (by simpa using hl) ha.2⟩
    · cases h
  | [], _ :: _, _, h => by simp [feedC] at h
  | .q _ :: _, [], _, h => by simp [feedC] at h
  | .d _ :: _, _, _, h => by simp [feedC] at h
  | .own _ _ :: _, _, _, h => by simp [feedC] at h
  | .fn _ _ :: _, _, _, h => by simp [feedC] at h
theorem feed_s : ∀ {full : List AM} {dom : List Ty} {x : TsD dom} {cs : List PD} {z : AsD full}, feed full dom x cs = some z → dom.length + cs.length = full.length ∧
    ∀ {S : Nat → Prop} {w : World} {us cvs : List Value}, us.length = dom.length → cvs.length = cs.length → All S (tsF dom x us) w → All S (capF cs cvs) w → All S (argFs P full z (us ++ cvs)) w
  | full, [], x, cs, z, h => by
    have h : feedC full cs = some z := by cases full <;> (try cases ‹AM›) <;> simpa [feed] using h
    obtain ⟨h1, h2⟩ := feedC_s (P := P) h
    refine ⟨by simp [h1], fun {S w us cvs} hl hl' _ ha => ?_⟩
    obtain rfl := List.length_eq_zero_iff.1 hl
    exact h2 hl' ha
  | .d t :: r, s :: dom, x, cs, z, h => by
    simp only [feed] at h
    obtain ⟨e, h⟩ := cast_s h
    subst e
    split at h
    · next z' hz =>
      obtain rfl := Option.some.inj h
      obtain ⟨h1, h2⟩ := feed_s hz
      refine ⟨by simp; omega, fun {S w us cvs} hl hl' ht ha => ?_⟩
      cases us with
      | nil => cases hl
      | cons v us => exact ⟨ht.1, h2 (by simpa using hl) hl' ht.2 ha⟩
    · cases h
  | [], _ :: _, _, _, _, h => by simp [feed] at h
  | .q _ :: _, _ :: _, _, _, _, h => by simp [feed] at h
  | .own _ _ :: _, _ :: _, _, _, _, h => by simp [feed] at h
  | .fn _ _ :: _, _ :: _, _, _, _, h => by simp [feed] at h
theorem opt_cast {A B : Type} (h : A = B) {o : Option A} {r : B} (ho : (h ▸ o : Option B) = some r) : ∃ r' : A, o = some r' ∧ (h ▸ r' : B) = r := by
  subst h; exact ⟨r, ho, rfl⟩
theorem sig_frozen {s : Sig} (hs : SigOK P s) (hn : noOwn s.dom = true) (hk : s.bk = 0) {z : AsD s.dom} {q : RsD s.cod} (hz : s.M z = some q) {us : List Value} (hl : us.length = s.dom.length) :
    Fn P s.f us.toArray (argFs P s.dom z us) oneOr (fun us => csF (s.cod.map RM.ty) (RsD_ty s.cod ▸ q) us) (fun us => us.length = s.cod.length) := by
  have h := hs.plain hk hz hl
  rw [argMs_no hn] at h
  refine FnG.frozen h fun u w' we Se hst => ?_
  have := fz_rs (rs := s.cod) (x := q) (us := u) (F := []) (G := []) (by simpa using hst)
  simpa using this
theorem Fn.weakΓ {U : Type} {f : FuncId} {args : Array Value} {Γ Γ' : List FF} {val : U → Value} {facts : U → List FF} {ok : U → Prop} (h : Fn P f args Γ val facts ok) (hs : ∀ S w, All S Γ' w → All S Γ w) : Fn P f args Γ' val facts ok :=
  fun w Se h1 h2 => h w Se h1 (hs Se w h2)
theorem asF_s (hC : ∀ s ∈ cf.cs, SigOK P s) {v : Option Dv} {dom cod : List Ty} {k : (TsD dom → Option (CsD cod)) → Option R} (h : asF cf σ v dom cod k = some r) :
    ∃ g, k g = some r ∧ ∀ vs S w (dv : Dv) u, v = some dv → (hold P vs dv u).p S w → (fnF P dom cod g u).p S w := by
  unfold asF at h
  split at h
  · next f c =>
    split at h
    · next s hs =>
      obtain ⟨h1, h2, h3, h4⟩ := sigOf_s hs
      have hok := hC s h1
      split at h
      · next hsame _ =>
        subst hsame
        refine ⟨_, h, fun vs S w dv u hd hh => ?_⟩
        cases hd
        obtain ⟨cs, hu, hcl, hca⟩ := hh
        refine ⟨f, cs, capF c cs, hu, ⟨h2 ▸ hok.1, fun x q hx us hl => ?_⟩, hca⟩
        simp only at hx
        split at hx
        · next z hz =>
          obtain ⟨q', hq1, hq2⟩ := opt_cast _ hx
          obtain ⟨hlen, hfacts⟩ := feed_s (P := P) hz
          have hfn := sig_frozen hok h3 h4 hq1 (us := us ++ cs) (by simp; omega)
          rw [h2] at hfn
          subst hq2
          refine (hfn.weakΓ fun S w ha => hfacts hl hcl (All.left ha) (All.right ha)).ok_mono fun us hus => by simpa using hus
        · cases hx
      · cases h
    · cases h
  · next d' c' g' =>
    split at h
    · next hd hc _ _ =>
      subst hd; subst hc
      exact ⟨_, h, fun vs S w dv u hdv hh => by cases hdv; exact hh⟩
    · cases h
  · cases h
end
end Go.Proofs.YtjnjfinbdfolkaaGreat
end

section
set_option linter.unusedVariables false
set_option linter.unusedSimpArgs false
namespace Go.Proofs.YtjnjfinbdfolkaaGreat
def EXok (P : Program) (ex : List (Nat × Bool)) : Prop := ∀ f b, fndA ex f = some b → ∃ fn, P.funcs[f]? = some fn ∧ (fn.name == "runtime.NumGoroutine") = false ∧ fn.body = none ∧ (Extern.findNext fn).isNone = true ∧
  (b = true → Extern.find fn = some (fun args => do
      let (x, y, c) ← Extern.MathBitsCarry.three "Add64" args
      pure (Extern.MathBitsCarry.pair ((x + y + c) % Extern.MathBitsCarry.m64) ((x + y + c) / Extern.MathBitsCarry.m64)))) ∧
  (b = false → Extern.find fn = some (fun args => do
      let (x, y, b) ← Extern.MathBitsCarry.three "Sub64" args
      pure (Extern.MathBitsCarry.pair ((x + Extern.MathBitsCarry.m64 - y - b) % Extern.MathBitsCarry.m64) (if x < y + b then 1 else 0))))
section
variable {P : Program} {cf : Cf} {cx σ : Sg} {F : List MF} {vs : Nat → Value} {env : Env} {S : Nat → Prop} {w : World} {R : Type} {r : R}
  {d : Option Tmp} {ty t yt : TypeId} {pos : String} {aft : Array Edge} {g : Option (Nat × Bool)} {x y : Operand}
theorem exT_s {x y z : Nat} {k : List (Nat × Dv) → Option R} (h : exU true x y z k = some r) : z ≤ 1 ∧ ∃ p q : Nat, p = (x + y + z) % 18446744073709551616 ∧ q = (x + y + z) / 18446744073709551616 ∧ k [(1, .d .u p), (2, .d .u q)] = some r := by
  obtain ⟨h1, h⟩ := ck_s h
  obtain ⟨p, hp, h⟩ := nm_s h
  obtain ⟨q, hq, h⟩ := nm_s h
  exact ⟨h1, p, q, hp, hq, h⟩
theorem exF_s {x y z : Nat} {k : List (Nat × Dv) → Option R} (h : exU false x y z k = some r) : z ≤ 1 ∧ ∃ p q : Nat, p = (x + 18446744073709551616 - y - z) % 18446744073709551616 ∧ q = (if x < y + z then 1 else 0) ∧ k [(1, .d .u p), (2, .d .u q)] = some r := by
  obtain ⟨h1, h⟩ := ck_s h
  obtain ⟨p, hp, h⟩ := nm_s h
  obtain ⟨q, hq, h⟩ := nm_s h
  exact ⟨h1, p, q, hp, hq, h⟩
theorem argsE_s (hC : ∀ s ∈ cf.cs, SigOK P s) : ∀ {dom : List AM} {xs : List Operand} {cs : List PD} {k : AsD dom → Option R}, argsE cf cx σ dom xs cs k = some r →
    ∃ z, k z = some r ∧ xs.length + cs.length = dom.length ∧ ∀ vs env S w, (∀ x ∈ xs, LkO P vs env S w cx σ x) → ∀ cvs : List Value, cvs.length = cs.length → All S (capF cs cvs) w → All S (argFs P dom z (xs.map (ev env) ++ cvs)) w
  | [], [], [], k, h => ⟨(), h, rfl, fun _ _ _ _ _ _ _ _ => trivial⟩
  | .q t :: dom, [], c :: cs, k, h => by
    simp only [argsE] at h
    obtain ⟨e, h⟩ := cast_s h
    subst e
    obtain ⟨z, h1, h2, h3⟩ := argsE_s hC h
    refine ⟨_, h1, by simp at h2 ⊢; omega, fun vs env S w hl cvs hcl hca => ?_⟩
    cases cvs with
    | nil => cases hcl
    | cons v cvs => exact ⟨hca.1, h3 vs env S w hl cvs (by simpa using hcl) hca.2⟩
  | .d t :: dom, x :: xs, cs, k, h => by
    simp only [argsE] at h
    obtain ⟨y, h, hy⟩ := asO_s h
    obtain ⟨z, h1, h2, h3⟩ := argsE_s hC h
    exact ⟨_, h1, by simp at h2 ⊢; omega, fun vs env S w hl cvs hcl hca => ⟨hy P vs env S w (hl x (List.mem_cons_self ..)), h3 vs env S w (fun z hz => hl z (List.mem_cons_of_mem _ hz)) cvs hcl hca⟩⟩
  | .q t :: dom, x :: xs, cs, k, h => by
    simp only [argsE] at h
    split at h
    · next s y hx =>
      obtain ⟨e, h⟩ := cast_s h
      subst e
      obtain ⟨z, h1, h2, h3⟩ := argsE_s hC h
      exact ⟨_, h1, by simp at h2 ⊢; omega, fun vs env S w hl cvs hcl hca => ⟨opv_hold hx (hl x (List.mem_cons_self ..)), h3 vs env S w (fun z hz => hl z (List.mem_cons_of_mem _ hz)) cvs hcl hca⟩⟩
    · cases h
  | .fn dom' cod :: dom, x :: xs, cs, k, h => by
    simp only [argsE] at h
    obtain ⟨f, h, hf⟩ := asF_s hC h
    obtain ⟨z, h1, h2, h3⟩ := argsE_s hC h
    refine ⟨_, h1, by simp at h2 ⊢; omega, fun vs env S w hl cvs hcl hca => ⟨?_, h3 vs env S w (fun z hz => hl z (List.mem_cons_of_mem _ hz)) cvs hcl hca⟩⟩
    cases hv : opv cx σ x with
    | none => rename_i h0; rw [hv] at h0; simp [asF] at h0
    | some v => exact hf vs S w v _ hv (opv_hold hv (hl x (List.mem_cons_self ..)))
  | [], _ :: _, _, _, h => by simp [argsE] at h
  | [], [], _ :: _, _, h => by simp [argsE] at h
  | .d _ :: _, [], _, _, h => by simp [argsE] at h
  | .own _ _ :: _, _, _, _, h => by simp [argsE] at h
  | .fn _ _ :: _, [], _, _, h => by simp [argsE] at h
  | .q _ :: _, [], [], _, h => by simp [argsE] at h
theorem argsT_s : ∀ {dom : List Ty} {xs : List Operand} {k : TsD dom → Option R}, argsT cx σ dom xs k = some r →
    ∃ z, k z = some r ∧ xs.length = dom.length ∧ ∀ (P : Program) vs env S w, (∀ x ∈ xs, LkO P vs env S w cx σ x) → All S (tsF dom z (xs.map (ev env))) w
  | [], [], k, h => ⟨(), h, rfl, fun _ _ _ _ _ _ => trivial⟩
  | t :: dom, x :: xs, k, h => by
    simp only [argsT] at h
    obtain ⟨y, h, hy⟩ := asO_s h
    obtain ⟨z, h1, h2, h3⟩ := argsT_s h
    exact ⟨_, h1, by simp [h2], fun P vs env S w hl => ⟨hy P vs env S w (hl x (List.mem_cons_self ..)), h3 P vs env S w (fun z hz => hl z (List.mem_cons_of_mem _ hz))⟩⟩
  | [], _ :: _, _, h => by simp [argsT] at h
  | _ :: _, [], _, h => by simp [argsT] at h
theorem e_call (hC : ∀ s ∈ cf.cs, SigOK P s) (hX : EXok P cf.ex) {f : Operand} {ags : Array Operand} {ts : Array TypeId} {k : List (Nat × Dv) → Option R} (h : eCall cf cx σ f ags.toList k = some r) :
    ∃ l, k l = some r ∧ ES P ⟨d, .call ⟨.value f, ags, ts⟩, ty, pos, aft, g⟩ cx σ F l := by
  have hf : ∀ {vs env S w}, (∀ t' ∈ tmpsOf (.call ⟨.value f, ags, ts⟩), Lk P vs env S w cx σ t') → LkO P vs env S w cx σ f := fun hl => lk_of hl (by simp [Op.operands, Call.operands])
  have ha : ∀ {vs env S w}, (∀ t' ∈ tmpsOf (.call ⟨.value f, ags, ts⟩), Lk P vs env S w cx σ t') → ∀ x ∈ ags.toList, LkO P vs env S w cx σ x := fun hl x hx => lk_of hl (by
    simp only [Op.operands, Call.operands, Array.toList_append, List.mem_append]; exact .inr hx)
  unfold eCall at h
  split at h
  · next f0 cs hfv =>
    split at h
    · next s hs =>
      obtain ⟨h1, h2, h3, h4⟩ := sigOf_s hs
      have hok := hC s h1
      obtain ⟨z, h, hlen, hz⟩ := argsE_s hC h
      obtain ⟨q, hq, h⟩ := bd_s h
      refine ⟨_, h, es_oe fun env w S vs hM hl => ?_⟩
      obtain ⟨cvs, hv, hcl, hca⟩ := opv_hold hfv (hf hl)
      have hfn := sig_frozen hok h3 h4 hq (us := ags.toList.map (ev env) ++ cvs) (by simp at hlen ⊢; omega)
      rw [h2] at hfn
      refine ⟨_, _, _, _, argFs P s.dom z (ags.toList.map (ev env) ++ cvs), [], oe_callv (asv := ags.toList) (h2 ▸ hok.1) hv hfn rfl (fun S w h => h), trivial, hz vs env S w (ha hl) cvs hcl hca, fun us w' hus hfs => ?_⟩
      unfold resD
      rw [resX_T, oneRes_T]
      exact res_hold hfs (by simpa using hus)
    · split at h
      · next _ _ _ b x y z hb hags =>
        obtain rfl : ags = #[x, y, z] := by cases ags; simp_all
        obtain ⟨hfo, h⟩ := grd_s h
        cases f with
        | func f1 =>
          simp only [opv, Option.some.injEq, Dv.fn.injEq] at hfv
          obtain ⟨rfl, _⟩ := hfv
          obtain ⟨fn, e1, e2, e3, e4, e5, e6⟩ := hX _ _ hb
          unfold exD at h
          split at h
          · next x' y' z' hx hy hz =>
            cases b
            · obtain ⟨hz1, p, q, hp, hq, h⟩ := exF_s h
              refine ⟨_, h, es_val fun env w S vs hl => ?_⟩
              have hx' := pd_u hx (ha hl x (by simp)); have hy' := pd_u hy (ha hl y (by simp)); have hz' := pd_u hz (ha hl z (by simp))
              refine ⟨_, v_2 (r_sub64 e1 e2 e3 e4 (e6 rfl) hx'.1 hy'.1 hz'.1 hz1) hp hq w, fun e he => ?_⟩
              rcases List.mem_cons.1 he with rfl | he
              · exact ⟨_, _, rfl, rfl, u64_fV (eq_mod_r hp)⟩
              · obtain rfl := List.mem_singleton.1 he
                exact ⟨_, _, rfl, rfl, u64_fV (sub64_r hx'.2 hy'.2 hz1 hq)⟩
            · obtain ⟨hz1, p, q, hp, hq, h⟩ := exT_s h
              refine ⟨_, h, es_val fun env w S vs hl => ?_⟩
              have hx' := pd_u hx (ha hl x (by simp)); have hy' := pd_u hy (ha hl y (by simp)); have hz' := pd_u hz (ha hl z (by simp))
              refine ⟨_, v_2 (r_add64 e1 e2 e3 e4 (e5 rfl) hx'.1 hy'.1 hz'.1 hz1) hp hq w, fun e he => ?_⟩
              rcases List.mem_cons.1 he with rfl | he
              · exact ⟨_, _, rfl, rfl, u64_fV (eq_mod_r hp)⟩
              · obtain rfl := List.mem_singleton.1 he
                exact ⟨_, _, rfl, rfl, u64_fV (add64_r hx'.2 hy'.2 hz1 hq)⟩
          · cases h
        | _ => simp [isFn] at hfo
      · cases h
  · next dom cod g' hfv =>
    obtain ⟨z, h, hlen, hz⟩ := argsT_s h
    obtain ⟨q, hq, h⟩ := bd_s h
    refine ⟨_, h, es_oe fun env w S vs hM hl => ?_⟩
    obtain ⟨fid, caps, FG, hv, ⟨hb, hsp⟩, hFG⟩ := opv_hold hfv (hf hl)
    have hfn := hsp z q hq (ags.toList.map (ev env)) (by simpa using hlen)
    exact ⟨_, _, _, _, tsF dom z (ags.toList.map (ev env)) ++ FG, [], oe_callv (asv := ags.toList) hb hv hfn rfl (fun S w h => h), trivial, All.append (hz P vs env S w (ha hl)) hFG, fun us w' hus hfs => res_hold hfs hus⟩
  · cases h
theorem e_all (hT : TTok P cf.tt) (hL : ELok P cf.tt) (hC : ∀ s ∈ cf.cs, SigOK P s) (hX : EXok P cf.ex) {op : Op} {k : List (Nat × Dv) → Option R} (h : eOp cf cx σ op k = some r) : ∃ l, k l = some r ∧ ES P ⟨d, op, ty, pos, aft, g⟩ cx σ F l := by
  unfold eOp at h
  split at h
  · exact e_move (.inl rfl) h
  · exact e_move (.inr rfl) h
  · exact e_ext h
  · exact e_pick h
  · exact e_not h
  · exact e_neg h
  · exact bop h (tk_bool hT)
  · exact e_cvt hT h
  · exact e_load hT h
  · exact e_index hT hL h
  · exact e_field hT h
  · exact e_fieldV hT h
  · exact e_slice hT hL h
  · exact e_box h
  · exact e_build hT h
  · exact e_lit hT hL h
  · exact e_clo h
  · exact e_len hT h
  · exact e_mm (b := true) h
  · exact e_mm (b := false) h
  · exact e_call hC hX h
  · cases h
end
end Go.Proofs.YtjnjfinbdfolkaaGreat
end

section
set_option linter.unusedVariables false
set_option linter.unusedSimpArgs false
namespace Go.Proofs.YtjnjfinbdfolkaaGreat
section
variable {P : Program} {cf : Cf} {fr : Fr} {cx σ : Sg} {vs vs' : Nat → Value} {env : Env} {w : World} {R : Type} {r : R}
  {d : Option Tmp} {ty t yt : TypeId} {pos : String} {aft : Array Edge} {g : Option (Nat × Bool)} {x y : Operand}
abbrev GS (P : Program) (vs : Nat → Value) (env : Env) (fr : Fr) (cx σ : Sg) : List FF := RS P vs env σ.rg ++ (RS P vs env cx.rg ++ fr.G)
abbrev OS (vs : Nat → Value) (fr : Fr) (cx : Sg) (ob : List (Nat × Od)) : List MF := MS vs ob ++ (MS vs cx.ob ++ fr.F)
theorem gs_lk {S : Nat → Prop} (h : All S (GS P vs env fr cx σ) w) (t : Tmp) : Lk P vs env S w cx σ t := by
  intro i dv hd
  rcases get_mem hd with hm | hm
  · exact rs_get (All.left h) hm
  · exact rs_get (All.left (All.right h)) hm
theorem gs_lko {S : Nat → Prop} (h : All S (GS P vs env fr cx σ) w) (x : Operand) : LkO P vs env S w cx σ x := fun t _ => gs_lk h t
def RelV (P : Program) (fr : Fr) (cx σ : Sg) (vs : Nat → Value) (env : Env) (w : World) : Prop := Bd cx σ ∧ St fr.we fr.Se (OS vs fr cx σ.ob) (GS P vs env fr cx σ) w
def RelX (P : Program) (fr : Fr) (cx : Sg) (n : Nat) (vs : Nat → Value) (σ : Sg) (env : Env) (w : World) : Prop := ∃ vs', (∀ o, o < n → vs' o = vs o) ∧ RelV P fr cx σ vs' env w
theorem RelX.rel {n : Nat} (h : RelX P fr cx n vs σ env w) : Rel P fr cx σ env w := by
  obtain ⟨vs', _, h1, h2⟩ := h
  exact ⟨h1, vs', h2⟩
theorem rel_mk {v : Value} {σ' : Sg} {l : List (Nat × Dv)} {Γl : List FF} (hB : Bd cx σ) (hd : okPut cx d = true) (hrg : σ'.rg = putR σ.rg d l) (hn : σ.nx ≤ σ'.nx) (hvs : ∀ o, o < σ.nx → vs' o = vs o)
    (hl : ∀ e ∈ l, ∀ o, refO e.2 = some o → o < σ'.nx) (hob : ∀ e ∈ σ'.ob, e.1 < σ'.nx) (hf : ∀ S w, All S Γl w → ∀ e ∈ l, (holdC P vs' e.2 v e.1).p S w)
    (hst : St fr.we fr.Se (OS vs' fr cx σ'.ob) (Γl ++ GS P vs env fr cx σ) w) : RelX P fr cx σ.nx vs σ' (put env d v) w := by
  refine ⟨vs', hvs, ⟨hob, fun e he => Nat.lt_of_lt_of_le (hB.o2 e he) hn, ?_, fun e he o ho => Nat.lt_of_lt_of_le (hB.r2 e he o ho) hn⟩, hst.weak fun S w h => ?_⟩
  · intro e he o ho
    rw [hrg] at he
    unfold putR at he
    cases d with
    | none => exact Nat.lt_of_lt_of_le (hB.r1 e he o ho) hn
    | some t =>
      rcases List.mem_append.1 he with he | he
      · obtain ⟨e', he', rfl⟩ := List.mem_map.1 he
        exact hl e' he' o ho
      · exact Nat.lt_of_lt_of_le (hB.r1 e (List.mem_filter.1 he).1 o ho) hn
  · have hΓ := All.right h
    have h1 : All S (RS P vs' env σ.rg) w := by rw [RS_congr (fun e he o ho => hvs o (hB.r1 e he o ho)) (fun _ _ => rfl)]; exact All.left hΓ
    have h2 : All S (RS P vs' env cx.rg) w := by rw [RS_congr (fun e he o ho => hvs o (hB.r2 e he o ho)) (fun _ _ => rfl)]; exact All.left (All.right hΓ)
    have h3 := All.right (All.right hΓ)
    cases d with
    | none =>
      unfold GS
      rw [show σ'.rg = σ.rg from hrg]
      exact All.append h1 (All.append h2 h3)
    | some t =>
      have hcx : RS P vs' (put env (some t) v) cx.rg = RS P vs' env cx.rg := RS_congr (fun _ _ _ _ => rfl) fun e he => put_ne fun ht => by
        simp only [okPut, notIn, List.all_eq_true] at hd
        have := hd e he
        simp only [Option.some.injEq] at ht
        rw [ht] at this
        simp at this
      unfold GS
      rw [hrg, hcx]
      refine All.append (all_mem.2 fun f hf' => ?_) (All.append h2 h3)
      obtain ⟨e, he, rfl⟩ := List.mem_map.1 hf'
      rcases List.mem_append.1 he with he | he
      · obtain ⟨e', he', rfl⟩ := List.mem_map.1 he
        simp only [put_eq]
        exact hf S w (All.left h) e' he'
      · obtain ⟨he1, he2⟩ := List.mem_filter.1 he
        have hne : some t ≠ some e.1 := fun hc => by
          simp only [Option.some.injEq] at hc
          rw [hc] at he2; simp at he2
        rw [put_ne hne]
        exact rs_get h1 he1
def resL (P : Program) (vs : Nat → Value) (v : Value) (l : List (Nat × Dv)) : List FF := l.map fun e => holdC P vs e.2 v e.1
theorem okL_s {n : Nat} {l : List (Nat × Dv)} (h : okL n l = true) : ∀ e ∈ l, ∀ o, refO e.2 = some o → o < n := by
  intro e he o ho
  unfold okL at h
  rw [List.all_eq_true] at h
  have := h e he
  rw [ho] at this
  have := Nat.le_of_ble_eq_true this
  omega
theorem ES.mono {o : Oper} {l : List (Nat × Dv)} {F : List MF} (h : ES P o cx σ [] l) : ES P o cx σ F l := by
  intro env w S vs h1 h2 h3
  refine h env w S vs h1 (allM_mem.2 fun m hm => allM_mem.1 h2 m ?_) h3
  rcases List.mem_append.1 hm with hm | hm
  · exact List.mem_append.2 (.inl hm)
  · rw [List.append_nil] at hm
    exact List.mem_append.2 (.inr (List.mem_append.2 (.inl hm)))
theorem rel_E {o : Oper} {l : List (Nat × Dv)} (h : ES P o cx σ fr.F l) (hd : okPut cx o.dst = true) (hl : okL σ.nx l = true) (hR : RelV P fr cx σ vs env w) : OpR P o env w (fun v w' => RelX P fr cx σ.nx vs (σ.put o.dst l) (put env o.dst v) w') := by
  obtain ⟨hB, h1, h2, h3, S, h4, h5, h6, h7, h8⟩ := hR
  refine (h env w S vs h5 h7 fun t _ => gs_lk h8 t).mono ?_
  rintro v w' ⟨hx, hf⟩
  refine rel_mk (σ' := σ.put o.dst l) (Γl := resL P vs v l) hB hd rfl (Nat.le_refl _) (fun _ _ => rfl) (okL_s hl) hB.o1 (fun S w ha e he => all_mem.1 ha _ (List.mem_map.2 ⟨e, he, rfl⟩)) ?_
  refine ⟨h1.trans hx, h2, h3, S, h4, fun k hk => h5 k (Nat.le_trans hx.size hk), h6, AllM.keep hx.to (fun m hm i hi => hx.block i (AllM.lt h7 m hm i hi) trivial) h7, All.append (all_mem.2 fun f hf' => ?_) (All.keep hx.to h8)⟩
  obtain ⟨e, he, rfl⟩ := List.mem_map.1 hf'
  exact hf e he
def MOK (P : Program) (cx : Sg) (o : Oper) (σ : Sg) (k : Sg → Option R) (r : R) : Prop := ∃ σ', k σ' = some r ∧ σ.nx ≤ σ'.nx ∧ ∀ (fr : Fr) (vs : Nat → Value) (env : Env) (w : World), RelV P fr cx σ vs env w → OpR P o env w (fun v w' => RelX P fr cx σ.nx vs σ' (put env o.dst v) w')
theorem m_E (hT : TTok P cf.tt) (hL : ELok P cf.tt) (hC : ∀ s ∈ cf.cs, SigOK P s) (hX : EXok P cf.ex) {op : Op} {k : Sg → Option R} (hd : okPut cx d = true) (h : mE cf cx σ d op k = some r) : MOK P cx ⟨d, op, ty, pos, aft, g⟩ σ k r := by
  unfold mE at h
  obtain ⟨l, h, hes⟩ := e_all (P := P) (d := d) (ty := ty) (pos := pos) (aft := aft) (g := g) (F := []) hT hL hC hX h
  obtain ⟨hl, h⟩ := grd_s h
  exact ⟨_, h, Nat.le_refl _, fun fr vs env w hR => rel_E hes.mono hd hl hR⟩
def upv (vs : Nat → Value) (n : Nat) (v : Value) : Nat → Value := fun o => bif Nat.beq o n then v else vs o
theorem upv_new {n : Nat} {v : Value} : upv vs n v n = v := by simp [upv]
theorem upv_old {n o : Nat} {v : Value} (h : o < n) : upv vs n v o = vs o := by unfold upv; rw [beq_no (by omega)]; rfl
theorem ms_upv {n : Nat} {v : Value} {ob : List (Nat × Od)} (h : ∀ e ∈ ob, e.1 < n) : MS (upv vs n v) ob = MS vs ob := MS_congr fun e he => upv_old (h e he)
theorem os_upv {v : Value} {ob : List (Nat × Od)} (hB : Bd cx σ) (h : ∀ e ∈ ob, e.1 < σ.nx) : OS (upv vs σ.nx v) fr cx ob = OS vs fr cx ob := by
  show MS _ ob ++ (MS _ cx.ob ++ _) = _
  rw [ms_upv h, ms_upv hB.o2]
theorem rel_new {v : Value} {mk : Nat → Dv} {X : Od} {ob : List (Nat × Od)} (hB : Bd cx σ) (hd : okPut cx d = true) (hob : ∀ e ∈ ob, e.1 < σ.nx) (href : ∀ o, refO (mk o) = some o) (hmk : ∀ S w, (hold P (upv vs σ.nx v) (mk σ.nx) v).p S w)
    (hst : St fr.we fr.Se (moF (upv vs σ.nx v) (σ.nx, X) :: OS vs fr cx ob) (GS P vs env fr cx σ) w) : RelX P fr cx σ.nx vs ⟨σ.nx + 1, putR σ.rg d [(0, mk σ.nx)], (σ.nx, X) :: ob⟩ (put env d v) w := by
  refine rel_mk (σ' := ⟨σ.nx + 1, putR σ.rg d [(0, mk σ.nx)], (σ.nx, X) :: ob⟩) (vs := vs) (vs' := upv vs σ.nx v) (Γl := []) hB hd rfl (Nat.le_succ _) (fun o ho => upv_old ho) ?_ ?_ ?_ ?_
  · intro e he o ho
    obtain rfl := List.mem_singleton.1 he
    rw [href] at ho
    cases ho; exact Nat.lt_succ_self _
  · intro e he
    rcases List.mem_cons.1 he with rfl | he
    · exact Nat.lt_succ_self _
    · exact Nat.lt_succ_of_lt (hob e he)
  · intro S w _ e he
    obtain rfl := List.mem_singleton.1 he
    exact hmk S w
  · show St _ _ (moF (upv vs σ.nx v) (σ.nx, X) :: OS (upv vs σ.nx v) fr cx ob) _ _
    rw [os_upv hB hob]
    exact hst
theorem hold_ow {v : Value} (S : Nat → Prop) (w : World) : (hold P (upv vs σ.nx v) (.ow σ.nx) v).p S w := (upv_new (vs := vs)).symm
theorem hold_vs' {t : Ty} {b : Nat} (S : Nat → Prop) (w : World) : (hold P (upv vs σ.nx (.pointer (some ⟨b, 0, none⟩))) (.vs σ.nx t) (.pointer (some ⟨b, 0, none⟩))).p S w := ⟨upv_new.symm, b, upv_new⟩
theorem mo_own {t : Ty} {E : TypeId} {xs : List t.D} {n : Nat} {v : Value} : moF (upv vs n v) (n, .own t E xs) = mO t.rep E v xs := by simp only [moF, upv_new]
theorem mo_var {t : Ty} {E : TypeId} {z : t.D} {n : Nat} {v : Value} : moF (upv vs n v) (n, .var t E z) = mP t.rep.c E v z := by simp only [moF, upv_new]
theorem m_alloc (hT : TTok P cf.tt) {E : TypeId} {k : Sg → Option R} (hd : okPut cx d = true) (h : mAlloc cf σ d E k = some r) : MOK P cx ⟨d, .alloc E, ty, pos, aft, g⟩ σ k r := by
  unfold mAlloc at h
  split at h
  · next ti hti =>
    obtain ⟨zero, hz1, hz2, hz3⟩ := ty_of hT hti
    refine ⟨_, h, Nat.le_succ _, fun fr vs env w hR => ?_⟩
    obtain ⟨hB, hst⟩ := hR
    refine (og_allocM (e := ti.ty.rep.c) (z := ti.ty.z) hz1 hz3 w hst).mono ?_
    rintro v w' ⟨b, rfl, _, hs⟩
    refine rel_new (vs := vs) (mk := fun o => .vs o ti.ty) hB hd hB.o1 (fun _ => rfl) (fun S w => hold_vs' S w) ?_
    rw [mo_var]
    exact hs.toP 0 rfl
  · cases h
theorem m_box {E : TypeId} {k : Sg → Option R} (hd : okPut cx d = true) (h : mBox cf cx σ d E x k = some r) : MOK P cx ⟨d, .box E x, ty, pos, aft, g⟩ σ k r := by
  unfold mBox at h
  split at h
  · next ti hti =>
    obtain ⟨y, h, hy⟩ := asO_s h
    refine ⟨_, h, Nat.le_succ _, fun fr vs env w hR => ?_⟩
    obtain ⟨hB, hst⟩ := hR
    refine (og_boxM (e := ti.ty.rep) (z := y) rfl (fun S w ha => hy P vs env S w (gs_lko ha x)) w hst).mono ?_
    rintro v w' ⟨b, rfl, _, hs⟩
    refine rel_new (vs := vs) (mk := fun o => .vs o ti.ty) hB hd hB.o1 (fun _ => rfl) (fun S w => hold_vs' S w) ?_
    rw [mo_var]
    exact hs.toP 0 rfl
  · cases h
theorem same_ev (h : sameX x y = true) : ev env x = ev env y := by
  unfold sameX at h
  split at h
  · rw [beq_t h]
  · simp only [eqI, decide_eq_true_eq] at h
    rw [h]
  · cases h
theorem m_make (hT : TTok P cf.tt) {k : Sg → Option R} (hd : okPut cx d = true) (h : mMake cf cx σ d t x y k = some r) : MOK P cx ⟨d, .makeSlice t x y, ty, pos, aft, g⟩ σ k r := by
  unfold mMake at h
  split at h
  · next s E B ht =>
    obtain ⟨hxy, h⟩ := grd_s h
    split at h
    · next ti n hti hn =>
      obtain ⟨hse, h⟩ := cast_s h
      subst hse
      obtain ⟨zero, hz1, hz2, hz3⟩ := ty_of hT hti
      obtain ⟨j, hj, h⟩ := ckN_s h
      obtain ⟨hb, h⟩ := ck_s h
      obtain ⟨xs, hxs, h⟩ := nm_s h
      refine ⟨_, h, Nat.le_succ _, fun fr vs env w hR => ?_⟩
      obtain ⟨hB, hst⟩ := hR
      obtain ⟨S0, _, hΓ⟩ := hst.ex
      have hx : ev env x = .int .i64 (j : Int) := by rw [(pd_i hn (gs_lko hΓ x)).1, hj]
      have hpos := (hT _ _ hti).2.1
      refine (og_make' (e := ti.ty.rep) (z := ti.ty.z) (xs := xs) (n := j) (tk_sl hT ht) hz1 hx ((same_ev hxy).symm.trans hx) hpos hb hz3 hxs w hst).mono ?_
      rintro v w' ⟨b, rfl, _, hs⟩
      refine rel_new (vs := vs) (mk := .ow) hB hd hB.o1 (fun _ => rfl) (fun S w => hold_ow S w) ?_
      rw [mo_own]
      have hlen : xs.length = j := by rw [hxs]; exact List.length_replicate
      have := hs.closeF 0 rfl (by rw [hlen]; exact Nat.le_refl _) (mk_le hpos hb)
      rw [hlen] at this
      exact this
    · cases h
  · cases h
theorem m_lit (hT : TTok P cf.tt) (hL : ELok P cf.tt) {n : Nat} {ps : Array (Nat × Operand)} {k : Sg → Option R} (hd : okPut cx d = true) (h : mLit cf cx σ d t n ps.toList k = some r) : MOK P cx ⟨d, .buildSlice t n ps, ty, pos, aft, g⟩ σ k r := by
  unfold mLit at h
  split at h
  · next e E B ht =>
    obtain ⟨hsm, h⟩ := grd_s h
    have hsm := Nat.le_of_ble_eq_true hsm
    rw [← e.n_rep] at hsm
    obtain ⟨ys, h, hidx, hys⟩ := parts_s h
    obtain ⟨bytes, zero, het⟩ := ty_el hT hL ht
    refine ⟨_, h, Nat.le_succ _, fun fr vs env w hR => ?_⟩
    obtain ⟨hB, hst⟩ := hR
    have hidx' : (ps.toList.map fun q : Nat × Operand => (q.1, ev env q.2)).map (·.1) = List.range' 0 (ps.toList.map fun q : Nat × Operand => (q.1, ev env q.2)).length := by rw [List.map_map, List.length_map]; exact hidx
    have hj := fun (S : Nat → Prop) (w : World) (ha : All S (GS P vs env fr cx σ) w) => list_s hidx' (hys P vs env S w fun x _ => gs_lko ha x)
    refine (og_lit (e := e.rep) (zs := listP n e ys) (parts := ps.toList) (tk_sl hT ht) het (el_pos hT hL ht) (listP_len n e ys) hsm rfl (fun S w ha => by have := (hj S w ha).1; rwa [Nat.zero_mul] at this) (fun S w ha => (hj S w ha).2) w hst).mono ?_
    rintro v w' ⟨b, rfl, _, hs⟩
    refine rel_new (vs := vs) (mk := .ow) hB hd hB.o1 (fun _ => rfl) (fun S w => hold_ow S w) ?_
    rw [mo_own]
    exact hs
  · cases h
end
end Go.Proofs.YtjnjfinbdfolkaaGreat
end

section
set_option linter.unusedVariables false
set_option linter.unusedSimpArgs false
namespace Go.Proofs.YtjnjfinbdfolkaaGreat
section
variable {P : Program} {cf : Cf} {fr : Fr} {cx σ : Sg} {vs vs' : Nat → Value} {env : Env} {w : World} {R : Type} {r : R}
  {d : Option Tmp} {ty t yt : TypeId} {pos : String} {aft : Array Edge} {g : Option (Nat × Bool)} {x y : Operand}
theorem seto_mem {ob : List (Nat × Od)} {o : Nat} {X Y : Od} (h : fndO ob o = some X) : ∀ e ∈ seto ob o Y, ∃ e' ∈ ob, e'.1 = e.1 := by
  intro e he
  obtain ⟨i, h1, h2, _⟩ := fndO_some h
  rw [h2] at he
  rcases List.mem_or_eq_of_mem_set he with he | rfl
  · exact ⟨e, he, rfl⟩
  · exact ⟨_, List.mem_of_getElem? h1, rfl⟩
theorem delo_mem : ∀ {ob : List (Nat × Od)} {o : Nat}, ∀ e ∈ delo ob o, e ∈ ob
  | (o', X) :: r, o, e, he => by
    unfold delo at he
    cases hb : Nat.beq o' o <;> rw [hb] at he
    · rcases List.mem_cons.1 he with rfl | he
      · exact List.mem_cons_self ..
      · exact List.mem_cons_of_mem _ (delo_mem e he)
    · exact List.mem_cons_of_mem _ he
theorem rel_set {o : Nat} {X Y : Od} {v : Value} (hB : Bd cx σ) (ho : fndO σ.ob o = some X) (hst : St fr.we fr.Se (OS vs fr cx (seto σ.ob o Y)) (GS P vs env fr cx σ) w) : RelX P fr cx σ.nx vs ⟨σ.nx, σ.rg, seto σ.ob o Y⟩ (put env none v) w := by
  refine rel_mk (σ' := ⟨σ.nx, σ.rg, seto σ.ob o Y⟩) (d := none) (l := []) (vs := vs) (vs' := vs) (Γl := []) hB rfl rfl (Nat.le_refl _) (fun _ _ => rfl) (fun _ he => absurd he List.not_mem_nil) (fun e he => ?_) (fun S w _ e he => absurd he List.not_mem_nil) hst
  obtain ⟨e', h1, h2⟩ := seto_mem ho e he
  rw [← h2]; exact hB.o1 e' h1
theorem set_set {α : Type} (l : List α) (i : Nat) (a b : α) : (l.set i a).set i b = l.set i b := by simp
theorem get_set {α : Type} {l : List α} {i : Nat} {a b : α} (h : l[i]? = some a) : (l.set i b)[i]? = some b := by
  have := (List.getElem?_eq_some_iff.1 h).1
  simp [this]
theorem erase_set {α : Type} : ∀ (l : List α) (i : Nat) (a : α), (l.set i a).eraseIdx i = l.eraseIdx i
  | [], _, _ => by simp
  | _ :: _, 0, _ => rfl
  | b :: l, i + 1, a => by simp [erase_set l i a]
theorem own_pos {α : Type} {e : ERep α} {E : TypeId} {xs : List α} {v : Value} {S : Nat → Prop} {b n cap : Nat} (h : (mO e E v xs).p S w) (hv : v = .slice (some ⟨b, 0, none⟩) n cap) : n = xs.length := by
  obtain ⟨cs, h5, h6⟩ := h
  rcases h5.2 with ⟨h, h7⟩ | ⟨g', cap', cur, h, _⟩
  · rw [hv] at h; cases h
  · rw [hv] at h; cases h; rfl
theorem m_store (hT : TTok P cf.tt) {k : Sg → Option R} {ti : TI} (hti : tyA cf t = some ti) (h : mStore σ ti.ty (opv cx σ x) (opv cx σ y) k = some r) : MOK P cx ⟨none, .store t x y, ty, pos, aft, g⟩ σ k r := by
  obtain ⟨zero, hty, _⟩ := ty_of hT hti
  unfold mStore at h
  split at h
  · next o _ hx =>
    split at h
    · next s' E z ho =>
      obtain ⟨hse, h1⟩ := cast_s h
      subst hse
      obtain ⟨q, h, hq⟩ := asO_s h1
      refine ⟨_, h, Nat.le_refl _, fun fr vs env w hR => ?_⟩
      obtain ⟨hB, hst⟩ := hR
      obtain ⟨S0, _, hΓ⟩ := hst.ex
      obtain ⟨i, hi, hset, hdel⟩ := fndO_some ho
      have hm : (OS vs fr cx σ.ob)[i]? = some (mP ti.ty.rep.c E (vs o) z) := ms_idx hi
      obtain ⟨b, hv, hs⟩ := hst.openP i hm
      obtain ⟨hxe, _⟩ := opv_hold hx (gs_lko hΓ x)
      refine (og_storeM (f := ti.ty.rep) (z' := z) (y' := q) (up := id) i (get_set hm) (hxe.trans hv) rfl (Sub.self ti.ty.rep z) hty (fun S w ha => hq P vs env S w (gs_lko ha y)) w hs).mono ?_
      rintro v w' ⟨_, rfl, _, hs'⟩
      refine rel_set (vs := vs) hB ho ?_
      have hs2 := hs'.toP i (get_set (get_set hm))
      rw [set_set, set_set, ← hv] at hs2
      rw [hset]
      show St _ _ (MS vs (σ.ob.set i (o, .var ti.ty E q)) ++ _) _ _
      rw [← ms_set hi]
      exact hs2
    · cases h
  · next o s1 f hx =>
    split at h
    · next s' E z hsame ho _ =>
      obtain ⟨hss, h1⟩ := cast_s h
      subst hss
      obtain ⟨q, h2, hq⟩ := asO_s h1
      obtain ⟨z2, hz2, h⟩ := nm_s h2
      obtain ⟨hsame⟩ := hsame
      refine ⟨_, h, Nat.le_refl _, fun fr vs env w hR => ?_⟩
      obtain ⟨hB, hst⟩ := hR
      obtain ⟨S0, _, hΓ⟩ := hst.ex
      obtain ⟨i, hi, hset, hdel⟩ := fndO_some ho
      have hm : (OS vs fr cx σ.ob)[i]? = some (mP s'.rep.c E (vs o) z) := ms_idx hi
      obtain ⟨b, hv, hs⟩ := hst.openP i hm
      obtain ⟨hok, b', hv', hxe⟩ := opv_hold hx (gs_lko hΓ x)
      rw [hv] at hv'; cases hv'
      rw [← hsame] at hty
      refine (og_storeM (f := f.f.rep) (z' := f.get z) (y' := q) (up := fun y => f.set y z) i (get_set hm) hxe rfl (by rw [Nat.zero_add]; exact hok z) hty (fun S w ha => hq P vs env S w (gs_lko ha y)) w hs).mono ?_
      rintro v w' ⟨_, rfl, _, hs'⟩
      refine rel_set (vs := vs) hB ho ?_
      have hs2 := hs'.toP i (get_set (get_set hm))
      rw [set_set, set_set, ← hv, ← hz2] at hs2
      rw [hset]
      show St _ _ (MS vs (σ.ob.set i (o, .var s' E z2)) ++ _) _ _
      rw [← ms_set hi]
      exact hs2
    · cases h
  · next o s1 j f hx =>
    split at h
    · next s' E xs hsame ho _ =>
      obtain ⟨hss, h1⟩ := cast_s h
      cases hss
      obtain ⟨q, h2, hq⟩ := asO_s h1
      obtain ⟨z2, hz2, h⟩ := nm_s h2
      obtain ⟨hsame⟩ := hsame
      refine ⟨_, h, Nat.le_refl _, fun fr vs env w hR => ?_⟩
      obtain ⟨hB, hst⟩ := hR
      obtain ⟨S0, _, hΓ⟩ := hst.ex
      obtain ⟨i, hi, hset, hdel⟩ := fndO_some ho
      have hm : (OS vs fr cx σ.ob)[i]? = some (mO s1.rep E (vs o) xs) := ms_idx hi
      obtain ⟨hok, b, n, cap, hv, hj, hxe⟩ := opv_hold hx (gs_lko hΓ x)
      have hn : n = List.length xs := mut_frame hst hm fun S hp => own_pos hp hv
      subst hn
      obtain ⟨b', cap', hv', hc1, hc2, hs⟩ := hst.openO i hm (Nat.lt_of_le_of_lt (Nat.zero_le _) hj)
      rw [hv] at hv'; cases hv'
      rw [← hsame] at hty
      have hsub := (Sub.rowT0 s1.rep cap xs j (List.getD xs j s1.z) (getD_some s1.z hj)).comp (hok (List.getD xs j s1.z))
      refine (og_storeM (f := f.f.rep) (y' := q) i (get_set hm) hxe rfl hsub hty (fun S w ha => hq P vs env S w (gs_lko ha y)) w hs).mono ?_
      rintro v w' ⟨_, rfl, _, hs'⟩
      refine rel_set (vs := vs) hB ho ?_
      have hlen : (List.set xs j (f.set q (List.getD xs j s1.z))).length = List.length xs := List.length_set ..
      have hs2 := hs'.closeF i (get_set (get_set hm)) (by rw [hlen]; exact hc1) hc2
      rw [set_set, set_set, hlen, ← hv, ← hz2] at hs2
      rw [hset]
      show St _ _ (MS vs (σ.ob.set i (o, .own s1 E z2)) ++ _) _ _
      rw [← ms_set hi]
      exact hs2
    · cases h
  · cases h
end
end Go.Proofs.YtjnjfinbdfolkaaGreat
end

section
set_option linter.unusedVariables false
set_option linter.unusedSimpArgs false
namespace Go.Proofs.YtjnjfinbdfolkaaGreat
section
variable {P : Program} {cf : Cf} {fr : Fr} {cx σ : Sg} {vs vs' : Nat → Value} {env : Env} {w : World} {R : Type} {r : R}
  {d : Option Tmp} {ty t yt : TypeId} {pos : String} {aft : Array Edge} {g : Option (Nat × Bool)} {x y : Operand}
theorem r_sliceN {et : TypeId} {ag : Bool} {sz bytes : Nat} {zero : Value} {hi : Operand} (hx : ev env x = .slice none 0 0) (ht : P.underlying t = some (.slice et)) (het : TyF P et ag sz bytes zero)
    (hh : ev env hi = .int .i64 ((0 : Nat) : Int)) (w : World) : (execOp (ev env) ⟨d, .slice t x none (some hi) none, ty, pos, aft, g⟩).run P w = .ok (.value (.slice none 0 0)) w := by
  have b1 : (0 : Int) ≤ ((0 : Nat) : Int) ∧ ((0 : Nat) : Int) ≤ ((0 : Nat) : Int) := by omega
  have hrun : (Instr.sliceAt t (.slice none 0 0) none (some (.int .i64 ((0 : Nat) : Int))) none).run P w = .ok (.slice none 0 0) w := by
    unfold Instr.sliceAt
    simp only [Sem.run_bind, run_underlying ht, Result.andThen_ok]
    unfold Instr.slice
    simp only [Sem.run_bind, run_underlying ht, Result.andThen_ok]
    unfold Instr.sliceBounds
    simp [Instr.sliceBound, asIntOf, Sem.run_bind, Sem.run_pure, Result.andThen_ok, run_sizeOf het]
  simp [execOp, hx, hh] at hrun ⊢
  simp [hrun]
theorem os_del {i o : Nat} {X : Od} {Y : MF} (hi : σ.ob[i]? = some (o, X)) (hdel : delo σ.ob o = σ.ob.eraseIdx i) {Γ : List FF} (h : St fr.we fr.Se ((OS vs fr cx σ.ob).set i Y) Γ w) : St fr.we fr.Se (Y :: OS vs fr cx (delo σ.ob o)) Γ w := by
  have := St.front i h (get_set (ms_idx hi))
  rw [erase_set, ms_erase hi, ← hdel] at this
  exact this
theorem m_slice (hT : TTok P cf.tt) (hL : ELok P cf.tt) {o : Nat} {hi : Operand} {k : Sg → Option R} (hd : okPut cx d = true) (hx : opv cx σ x = some (.ow o)) (h : mSlice cf cx σ d t o hi k = some r) :
    MOK P cx ⟨d, .slice t x none (some hi) none, ty, pos, aft, g⟩ σ k r := by
  unfold mSlice at h
  split at h
  · next s1 E1 B s E xs ht ho =>
    obtain ⟨hss, h1⟩ := cast_s h
    cases hss
    rcases bnd_s h1 with ⟨e, _⟩ | ⟨z, m, e, h2, hz⟩
    · cases e
    · cases e
      obtain ⟨hm, h3⟩ := ck_s h2
      obtain ⟨ys, hys, h4⟩ := nm_s h3
      obtain ⟨bytes, zero, het⟩ := ty_el hT hL ht
      refine ⟨_, h4, Nat.le_succ _, fun fr vs env w hR => ?_⟩
      obtain ⟨hB, hst⟩ := hR
      obtain ⟨S0, _, hΓ⟩ := hst.ex
      have hxe : ev env x = vs o := opv_hold hx (gs_lko hΓ x)
      have hhi := hz P vs env S0 w (gs_lko hΓ hi)
      obtain ⟨i, hi', hset, hdel⟩ := fndO_some ho
      have hmi : (OS vs fr cx σ.ob)[i]? = some (mO s1.rep E (vs o) xs) := ms_idx hi'
      have fin : ∀ v, (execOp (ev env) ⟨d, .slice t x none (some hi) none, ty, pos, aft, g⟩).run P w = .ok (.value v) w → St fr.we fr.Se ((OS vs fr cx σ.ob).set i (mO s1.rep E v ys)) (GS P vs env fr cx σ) w →
          OpR P ⟨d, .slice t x none (some hi) none, ty, pos, aft, g⟩ env w (fun v w' => RelX P fr cx σ.nx vs ⟨σ.nx + 1, putR σ.rg d [(0, .ow σ.nx)], (σ.nx, .own s1 E ys) :: delo σ.ob o⟩ (put env d v) w') := by
        intro v hrun hs
        refine OpR.of_value hrun (rel_new (vs := vs) (mk := .ow) hB hd (fun e he => hB.o1 e (delo_mem e he)) (fun _ => rfl) (fun S w => hold_ow S w) ?_)
        rw [mo_own]
        exact os_del hi' hdel hs
      rcases Nat.eq_zero_or_pos (List.length xs) with h0 | h0
      · have hm0 : m = 0 := by have : m ≤ List.length xs := hm; omega
        subst hm0
        have hyx : ys = xs := by rw [hys]; exact (List.length_eq_zero_iff.1 h0).symm ▸ rfl
        subst hyx
        have hid : (OS vs fr cx σ.ob).set i (mO s1.rep E (vs o) ys) = OS vs fr cx σ.ob := by
          apply List.ext_getElem?
          intro j
          rw [List.getElem?_set]
          split
          · next hij => subst hij; split
                        · exact hmi.symm
                        · next hlt => exact absurd (List.getElem?_eq_some_iff.1 hmi).1 hlt
          · rfl
        have hv : vs o = .slice none 0 0 ∨ ∃ b cap, vs o = .slice (some ⟨b, 0, none⟩) 0 cap := mut_frame hst hmi fun S ⟨cs, h5, _⟩ => by
          rcases h5.2 with ⟨h, _⟩ | ⟨b, cap, cur, h, _⟩
          · exact .inl h
          · rw [h0] at h; exact .inr ⟨b, cap, h⟩
        rcases hv with hv | ⟨b, cap, hv⟩
        · exact fin _ (r_sliceN (hxe.trans hv) (tk_sl hT ht) het hhi w) (by rw [← hv, hid]; exact hst)
        · exact fin _ (r_sliceT (hxe.trans hv) (tk_sl hT ht) het hhi (Nat.zero_le _) w) (by rw [← hv, hid]; exact hst)
      · obtain ⟨b, cap, hv, hc1, hc2, hs⟩ := hst.openO i hmi h0
        have hs2 := hs.closeO i m (get_set hmi) hm (Nat.le_trans hm hc1) hc2
        rw [set_set] at hs2
        exact fin _ (r_sliceT (hxe.trans hv) (tk_sl hT ht) het hhi (Nat.le_trans hm hc1) w) (by rw [hys]; exact hs2)
  · cases h
theorem m_app2 (hT : TTok P cf.tt) {t' : TypeId} {same : Bool} {ti : TI} {E : TypeId} {ob : List (Nat × Od)} {xs : List ti.ty.D} {k : Sg → Option R} (ht : P.underlying t = some (.slice E)) (hti : tyA cf E = some ti) (hd : okPut cx d = true)
    (hsame : same = true → t = t') (h : mApp2 cf cx σ d t' same ti.ty E ti.B ti.ty.z y ob xs k = some r) :
    ∃ σ', k σ' = some r ∧ σ.nx ≤ σ'.nx ∧ ∀ (fr : Fr) (vs : Nat → Value) (env : Env) (w : World) (u : Value), Bd cx σ → (∀ e ∈ ob, e.1 < σ.nx) → ev env x = u → St fr.we fr.Se (mO ti.ty.rep E u xs :: OS vs fr cx ob) (GS P vs env fr cx σ) w →
      OpR P ⟨d, .call ⟨.builtin .append, #[x, y], #[t, t']⟩, ty, pos, aft, g⟩ env w (fun v w' => RelX P fr cx σ.nx vs σ' (put env d v) w') := by
  obtain ⟨zero, hz1, hz2, hz3⟩ := ty_of hT hti
  have hpos := (hT _ _ hti).2.1
  have hn := (hT _ _ hti).2.2.1
  have bnd : ∀ m, m * ti.B ≤ 140737488355328 → m ≤ 9223372036854775807 := fun m hm => by
    have := Nat.le_mul_of_pos_right m hpos
    omega
  unfold mApp2 at h
  split at h
  · next n hn' =>
    split at h
    · next q ik B' ht' =>
      obtain ⟨j, hj, h⟩ := ckN_s h
      obtain ⟨hb, h⟩ := ck_s h
      obtain ⟨zs, hzs, h⟩ := nm_s h
      refine ⟨_, h, Nat.le_succ _, fun fr vs env w u hB hob hx hst => ?_⟩
      obtain ⟨S0, _, hΓ⟩ := hst.ex
      refine (og_appendZ (e := ti.ty.rep) (z := ti.ty.z) (n := j) 0 ht (tk_int hT ht') hz1 hz2 hn rfl hx (by rw [(pd_i hn' (gs_lko hΓ y)).1, hj]) hz3 (bnd _ hb) hb w hst).mono ?_
      rintro v w' ⟨v', rfl, _, hs⟩
      refine rel_new (vs := vs) (mk := .ow) hB hd hob (fun _ => rfl) (fun S w => hold_ow S w) ?_
      rw [mo_own, hzs]
      exact hs
    · cases h
  · split at h
    · next o2 t2 lo n hy =>
      split at h
      · next s2 E2 zs0 ho2 =>
        obtain ⟨hs', h⟩ := grd_s h
        obtain rfl := hsame hs'
        obtain ⟨hse, h⟩ := cast_s h
        cases hse
        obtain ⟨hse, h⟩ := cast_s h
        cases hse
        obtain ⟨ys, hys, h⟩ := nm_s h
        obtain ⟨hb, h⟩ := ck_s h
        obtain ⟨zs, hzs, h⟩ := nm_s h
        refine ⟨_, h, Nat.le_succ _, fun fr vs env w u hB hob hx hst => ?_⟩
        obtain ⟨S0, _, hΓ⟩ := hst.ex
        have hv := opv_hold hy (gs_lko hΓ y)
        refine (og_appendQ (e := ti.ty.rep) (ys := ys) 0 ht hz1 hz2 hn rfl hx rfl (fun S w hM ha => ?_) (bnd _ hb) hb w hst).mono ?_
        · have hm : (mO ti.ty.rep E2 (vs o2) zs0).p S w := geto_M (σ := ⟨σ.nx, σ.rg, ob⟩) (F := fr.F) hM.2 ho2
          rcases hv with ⟨b, m, cap, c, q1, q2, q3, q4, q5⟩ | ⟨q1, ao, c, q2, q3⟩
          · rw [q5, hys]
            exact mo_view hm q1 q2 q3 q4
          · subst q1
            rw [q3, hys]
            exact ⟨ao, c, by simp, by simp, by unfold maxLen; omega, .inl (by simp)⟩
        rintro v w' ⟨v', rfl, _, hs⟩
        refine rel_new (vs := vs) (mk := .ow) hB hd hob (fun _ => rfl) (fun S w => hold_ow S w) ?_
        rw [mo_own, hzs]
        exact hs
      · cases h
    obtain ⟨hs', h⟩ := grd_s h
    obtain rfl := hsame hs'
    obtain ⟨ys, h, hys⟩ := asO_s h
    obtain ⟨hb, h⟩ := ck_s h
    obtain ⟨zs, hzs, h⟩ := nm_s h
    refine ⟨_, h, Nat.le_succ _, fun fr vs env w u hB hob hx hst => ?_⟩
    refine (og_append (e := ti.ty.rep) (ys := ys) 0 ht hz1 hz2 hn rfl hx rfl (fun S w ha => hys P vs env S w (gs_lko ha y)) (bnd _ hb) hb w hst).mono ?_
    rintro v w' ⟨v', rfl, _, hs⟩
    refine rel_new (vs := vs) (mk := .ow) hB hd hob (fun _ => rfl) (fun S w => hold_ow S w) ?_
    rw [mo_own, hzs]
    exact hs
theorem m_app (hT : TTok P cf.tt) {ags : Array Operand} {ts : Array TypeId} {k : Sg → Option R} (hd : okPut cx d = true) (h : mApp cf cx σ d ags.toList ts.toList k = some r) :
    MOK P cx ⟨d, .call ⟨.builtin .append, ags, ts⟩, ty, pos, aft, g⟩ σ k r := by
  unfold mApp at h
  split at h
  · next _ _ x y t t' hags hts =>
    obtain rfl : ags = #[x, y] := by cases ags; simp_all
    obtain rfl : ts = #[t, t'] := by cases ts; simp_all
    split at h
    · next s E B ht =>
      split at h
      · next ti hti =>
        obtain ⟨hse, h1⟩ := cast_s h
        subst hse
        split at h1
        · next hx =>
          obtain ⟨σ', h5, h6, h7⟩ := m_app2 (ty := ty) (pos := pos) (aft := aft) (g := g) (x := x) hT (tk_sl hT ht) hti hd (fun h => beq_t h) h1
          refine ⟨σ', h5, h6, fun fr vs env w hR => ?_⟩
          obtain ⟨hB, hst⟩ := hR
          obtain ⟨S0, _, hΓ⟩ := hst.ex
          exact h7 fr vs env w _ hB hB.o1 (opv_hold hx (gs_lko hΓ x)) hst.nilO
        · next o hx =>
          split at h1
          · next s' E' xs ho =>
            obtain ⟨hE, h2⟩ := grd_s h1
            have hE := beq_t hE
            subst hE
            obtain ⟨hss, h3⟩ := cast_s h2
            cases hss
            obtain ⟨σ', h5, h6, h7⟩ := m_app2 (ty := ty) (pos := pos) (aft := aft) (g := g) (x := x) hT (tk_sl hT ht) hti hd (fun h => beq_t h) h3
            refine ⟨σ', h5, h6, fun fr vs env w hR => ?_⟩
            obtain ⟨hB, hst⟩ := hR
            obtain ⟨S0, _, hΓ⟩ := hst.ex
            obtain ⟨i, hi', hset, hdel⟩ := fndO_some ho
            have hmi : (OS vs fr cx σ.ob)[i]? = some (mO ti.ty.rep E' (vs o) xs) := ms_idx hi'
            have hst2 := hst.front i hmi
            rw [ms_erase hi', ← hdel] at hst2
            exact h7 fr vs env w _ hB (fun e he => hB.o1 e (delo_mem e he)) (opv_hold hx (gs_lko hΓ x)) hst2
          · cases h1
        · cases h1
      · cases h
    · cases h
  · cases h
theorem cpy_len {α : Type} (xs ys : List α) : (cpy xs ys).length = xs.length := by
  unfold cpy; rw [List.length_append, List.length_take, List.length_drop]; omega
theorem cpy_nil {α : Type} {xs : List α} (ys : List α) (h : xs.length = 0) : cpy xs ys = xs := by
  rw [List.length_eq_zero_iff.1 h]; simp [cpy]
theorem cpy_eq {α : Type} (xs ys : List α) : List.take 0 xs ++ List.take (min ys.length xs.length) ys ++ List.drop (0 + min ys.length xs.length) xs = cpy xs ys := by simp [cpy]
theorem cpyAt_zero {α : Type} (lo : Nat) (xs ys : List α) : cpyAt lo 0 xs ys = xs := by simp [cpyAt]
theorem cpyAt_len {α : Type} {lo n : Nat} {xs : List α} (ys : List α) (h : lo + n ≤ xs.length) : (cpyAt lo n xs ys).length = xs.length := by
  unfold cpyAt
  rw [List.length_append, List.length_append, List.length_take, List.length_take, List.length_drop]
  omega
theorem m_copy (hT : TTok P cf.tt) (hL : ELok P cf.tt) {ags : Array Operand} {ts : Array TypeId} {k : Sg → Option R} (hd : okPut cx d = true) (h : mCopy cf cx σ d ags.toList ts.toList k = some r) :
    MOK P cx ⟨d, .call ⟨.builtin .copy, ags, ts⟩, ty, pos, aft, g⟩ σ k r := by
  unfold mCopy at h
  split at h
  · next x y t t' hag hts =>
    obtain rfl : ags = #[x, y] := by cases ags; simp_all
    obtain rfl : ts = #[t, t'] := by cases ts; simp_all
    split at h
    · next s E B o ht hx =>
      split at h
      · next s' E' xs ho =>
        obtain ⟨h1, h⟩ := grd_s h
        obtain ⟨hss, h⟩ := cast_s h
        cases hss
        obtain ⟨ys, h, hy⟩ := asO_s h
        obtain ⟨zs, hzs, h⟩ := nm_s h
        have hzs : zs = cpy (α := s.D) xs ys := hzs
        obtain ⟨bytes, zero, het⟩ := ty_el hT hL ht
        have hn1 : s.rep.n = 1 := by rw [s.n_rep]; exact beq_t h1
        refine ⟨_, h, Nat.le_refl _, fun fr vs env w hR => ?_⟩
        obtain ⟨hB, hst⟩ := hR
        obtain ⟨S0, _, hΓ⟩ := hst.ex
        have hxe : ev env x = vs o := opv_hold hx (gs_lko hΓ x)
        obtain ⟨i, hi, hset, hdel⟩ := fndO_some ho
        have hm : (OS vs fr cx σ.ob)[i]? = some (mO s.rep E' (vs o) xs) := ms_idx hi
        have fin : ∀ v w', St fr.we fr.Se ((OS vs fr cx σ.ob).set i (mO s.rep E' (vs o) zs)) (GS P vs env fr cx σ) w' → RelX P fr cx σ.nx vs ⟨σ.nx, putR σ.rg d [], seto σ.ob o (.own s E' zs)⟩ (put env d v) w' := fun v w' hs => by
          refine rel_mk (σ' := ⟨σ.nx, putR σ.rg d [], seto σ.ob o (.own s E' zs)⟩) (d := d) (l := []) (vs := vs) (vs' := vs) (Γl := []) hB hd rfl (Nat.le_refl _) (fun _ _ => rfl) (fun _ he => absurd he List.not_mem_nil) (fun e he => ?_) (fun S w _ e he => absurd he List.not_mem_nil) ?_
          · obtain ⟨e', h1, h2⟩ := seto_mem ho e he
            rw [← h2]; exact hB.o1 e' h1
          · rw [hset]
            show St _ _ (MS vs (σ.ob.set i (o, .own s E' zs)) ++ _) _ _
            rw [← ms_set hi]
            exact hs
        rcases Nat.eq_zero_or_pos (List.length xs) with h0 | h0
        · have hv : vs o = .slice none 0 0 ∨ ∃ b cap, vs o = .slice (some ⟨b, 0, none⟩) 0 cap := mut_frame hst hm fun S ⟨cs, h5, _⟩ => by
            rcases h5.2 with ⟨h, _⟩ | ⟨b, cap, cur, h, _⟩
            · exact .inl h
            · rw [h0] at h; exact .inr ⟨b, cap, h⟩
          obtain ⟨ba, cap, hv⟩ : ∃ ba cap, vs o = .slice ba 0 cap := by
            rcases hv with hv | ⟨b, cap, hv⟩
            · exact ⟨_, _, hv⟩
            · exact ⟨_, _, hv⟩
          obtain ⟨ao, scap, hu, _⟩ := fV_slice.1 (hy P vs env S0 w (gs_lko hΓ y))
          obtain ⟨ti, hi2, i1, i2, i3⟩ := het.info
          have hs1 : (P.info? E).map (·.size) = some 1 := by rw [hi2]; simp [i1, hn1]
          have hr := run_copy_none (P := P) w t t' ty E ba ao 0 cap (List.length ys) scap (tk_sl hT ht) hs1 (Nat.min_zero _)
          rw [← hu, ← hv, ← hxe] at hr
          have hz : zs = xs := hzs.trans (cpy_nil (α := s.D) ys h0)
          refine OpR.of_value (v := goInt 0) (w' := w) ?_ (fin _ w ?_)
          · simp only [execOp, resolve, invoke, builtin, List.map_toArray, List.map_cons, List.map_nil, Sem.run_bind, hr, Sem.run_pure, Result.andThen_ok]
          · have : (OS vs fr cx σ.ob).set i (mO s.rep E' (vs o) xs) = OS vs fr cx σ.ob := by
              obtain ⟨hi', h2'⟩ := List.getElem?_eq_some_iff.1 hm
              rw [← h2', List.set_getElem_self]
            rw [hz, this]; exact hst
        · obtain ⟨b, cap, hv, hc1, hc2, hs⟩ := hst.openO i hm h0
          refine (og_copyM (e := s.rep) (l := 0) (dLen := List.length xs) (dCap := cap) i (tk_sl hT ht) het hn1 (get_set hm) (by rw [hxe, hv]; simp) rfl (by omega) (fun S w ha => hy P vs env S w (gs_lko ha y)) w hs).mono ?_
          rintro v w' ⟨n, rfl, _, hs'⟩
          refine fin _ w' ?_
          have hz := (cpy_eq (α := s.D) xs ys).trans hzs.symm
          rw [hz] at hs'
          have hlen : List.length zs = List.length xs := by rw [hzs]; exact cpy_len (α := s.D) xs ys
          have hs2 := hs'.closeF i (get_set (get_set hm)) (by rw [hlen]; exact hc1) hc2
          rw [set_set, set_set, hlen, ← hv] at hs2
          exact hs2
      · cases h
    · next s E B o t2 lo n ht hx =>
      split at h
      · next s' E' xs hsame ho _ =>
        obtain ⟨h1, h⟩ := grd_s h
        obtain ⟨hss, h⟩ := cast_s h
        cases hss
        obtain ⟨ys, h, hy⟩ := asO_s h
        obtain ⟨zs, hzs, h⟩ := nm_s h
        have hzs : zs = cpyAt (α := s.D) lo n xs ys := hzs
        obtain ⟨hsame⟩ := hsame
        subst hsame
        obtain ⟨bytes, zero, het⟩ := ty_el hT hL ht
        have hn1 : t2.rep.n = 1 := by rw [t2.n_rep]; exact beq_t h1
        refine ⟨_, h, Nat.le_refl _, fun fr vs env w hR => ?_⟩
        obtain ⟨hB, hst⟩ := hR
        obtain ⟨S0, _, hΓ⟩ := hst.ex
        have hxe := opv_hold hx (gs_lko hΓ x)
        obtain ⟨i, hi, hset, hdel⟩ := fndO_some ho
        have hm : (OS vs fr cx σ.ob)[i]? = some (mO t2.rep E' (vs o) xs) := ms_idx hi
        have fin : ∀ v w', St fr.we fr.Se ((OS vs fr cx σ.ob).set i (mO t2.rep E' (vs o) zs)) (GS P vs env fr cx σ) w' → RelX P fr cx σ.nx vs ⟨σ.nx, putR σ.rg d [], seto σ.ob o (.own t2 E' zs)⟩ (put env d v) w' := fun v w' hs => by
          refine rel_mk (σ' := ⟨σ.nx, putR σ.rg d [], seto σ.ob o (.own t2 E' zs)⟩) (d := d) (l := []) (vs := vs) (vs' := vs) (Γl := []) hB hd rfl (Nat.le_refl _) (fun _ _ => rfl) (fun _ he => absurd he List.not_mem_nil) (fun e he => ?_) (fun S w _ e he => absurd he List.not_mem_nil) ?_
          · obtain ⟨e', h1, h2⟩ := seto_mem ho e he
            rw [← h2]; exact hB.o1 e' h1
          · rw [hset]
            show St _ _ (MS vs (σ.ob.set i (o, .own t2 E' zs)) ++ _) _ _
            rw [← ms_set hi]
            exact hs
        rcases Nat.eq_zero_or_pos n with h0 | h0
        · obtain ⟨ba, c, hv⟩ : ∃ ba c, ev env x = .slice ba 0 c := by
            rcases hxe with ⟨b, m, cap, c, q1, q2, q3, q4, q5⟩ | ⟨q1, ao, c, q2, q3⟩
            · exact ⟨_, c, by rw [q5, h0]⟩
            · exact ⟨ao, c, q3⟩
          obtain ⟨ao, scap, hu, _⟩ := fV_slice.1 (hy P vs env S0 w (gs_lko hΓ y))
          obtain ⟨ti, hi2, i1, i2, i3⟩ := het.info
          have hs1 : (P.info? E).map (·.size) = some 1 := by rw [hi2]; simp [i1, hn1]
          have hr := run_copy_none (P := P) w t t' ty E ba ao 0 c (List.length ys) scap (tk_sl hT ht) hs1 (Nat.min_zero _)
          rw [← hu, ← hv] at hr
          have hz : zs = xs := by rw [hzs, h0]; exact cpyAt_zero (α := t2.D) lo xs ys
          refine OpR.of_value (v := goInt 0) (w' := w) ?_ (fin _ w ?_)
          · simp only [execOp, resolve, invoke, builtin, List.map_toArray, List.map_cons, List.map_nil, Sem.run_bind, hr, Sem.run_pure, Result.andThen_ok]
          · have : (OS vs fr cx σ.ob).set i (mO t2.rep E' (vs o) xs) = OS vs fr cx σ.ob := by
              obtain ⟨hi', h2'⟩ := List.getElem?_eq_some_iff.1 hm
              rw [← h2', List.set_getElem_self]
            rw [hz, this]; exact hst
        · rcases hxe with ⟨b0, m, cap0, c, q1, q2, q3, q4, q5⟩ | ⟨q1, ao, c, q2, q3⟩
          · have hml : m = List.length xs := mut_frame hst hm fun S hp => own_pos hp q1
            subst hml
            obtain ⟨b, cap, hv, hc1, hc2, hs⟩ := hst.openO i hm (by omega)
            rw [q1] at hv; cases hv
            refine (og_copyM (e := t2.rep) (l := lo) (dLen := n) (dCap := c) i (tk_sl hT ht) het hn1 (get_set hm) q5 rfl q2 (fun S w ha => hy P vs env S w (gs_lko ha y)) w hs).mono ?_
            rintro v w' ⟨nn, rfl, _, hs'⟩
            refine fin _ w' ?_
            have hs' : St fr.we fr.Se (((OS vs fr cx σ.ob).set i (mB (rowT t2.rep cap0) E' b0 xs)).set i (mB (rowT t2.rep cap0) E' b0 (cpyAt (α := t2.D) lo n xs ys))) (GS P vs env fr cx σ) w' := hs'
            rw [← hzs] at hs'
            have hlen : List.length zs = List.length xs := by rw [hzs]; exact cpyAt_len (α := t2.D) ys q2
            have hs2 := hs'.closeF i (get_set (get_set hm)) (by rw [hlen]; exact hc1) hc2
            rw [set_set, set_set, hlen, ← q1] at hs2
            exact hs2
          · omega
      · cases h
    · cases h
  · cases h
end
end Go.Proofs.YtjnjfinbdfolkaaGreat
end

