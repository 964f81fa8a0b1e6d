/- What a proof needs: rules of walking, mirrors of functions and their plain laws. No condition. -/
import Derived.Test.YtjnjfinbdfolkaaGreatHl4
section
set_option linter.unusedVariables false
set_option linter.unusedSimpArgs false
namespace Go.Proofs.YtjnjfinbdfolkaaGreat
def nw : List Nat → Nat
  | [] => 0
  | x :: r => x + 4294967296 * nw r
def digw : Nat → Nat → List Nat
  | 0, _ => []
  | k + 1, n => n % 4294967296 :: digw k (n / 4294967296)
def toWf : Nat → Nat → List Nat
  | 0, _ => []
  | f + 1, n => if n = 0 then [] else n % 4294967296 :: toWf f (n / 4294967296)
def toW (n : Nat) : List Nat := toWf n n
def trimW : List Nat → List Nat
  | [] => []
  | x :: r => match trimW r with
    | [] => if x = 0 then [] else [x]
    | y :: s => x :: y :: s
def Digs (l : List Nat) : Prop := ∀ x ∈ l, x < 4294967296
theorem Digs.nil : Digs [] := fun x hx => absurd hx List.not_mem_nil
theorem Digs.cons {x : Nat} {r : List Nat} (h : x < 4294967296) (hr : Digs r) : Digs (x :: r) := fun y hy => by
  rcases List.mem_cons.1 hy with rfl | hy
  · exact h
  · exact hr y hy
theorem Digs.head {x : Nat} {r : List Nat} (h : Digs (x :: r)) : x < 4294967296 := h x (List.mem_cons_self ..)
theorem Digs.tail {x : Nat} {r : List Nat} (h : Digs (x :: r)) : Digs r := fun y hy => h y (List.mem_cons_of_mem _ hy)
theorem Digs.append {a b : List Nat} (ha : Digs a) (hb : Digs b) : Digs (a ++ b) := fun x hx => by
  rcases List.mem_append.1 hx with h | h
  · exact ha x h
  · exact hb x h
theorem Digs.take {a : List Nat} (h : Digs a) (k : Nat) : Digs (a.take k) := fun x hx => h x (List.mem_of_mem_take hx)
theorem Digs.drop {a : List Nat} (h : Digs a) (k : Nat) : Digs (a.drop k) := fun x hx => h x (List.mem_of_mem_drop hx)
theorem Digs.getD {a : List Nat} (h : Digs a) (k : Nat) : a.getD k 0 < 4294967296 := by
  rw [List.getD_eq_getElem?_getD]
  by_cases hk : k < a.length
  · rw [List.getElem?_eq_getElem hk]; exact h _ (List.getElem_mem hk)
  · rw [List.getElem?_eq_none (by omega)]; exact Nat.zero_lt_succ _
theorem Digs.replicate (k : Nat) : Digs (List.replicate k 0) := fun x hx => by rw [List.eq_of_mem_replicate hx]; exact Nat.zero_lt_succ _
theorem nw_nil : nw [] = 0 := rfl
theorem nw_cons (x : Nat) (r : List Nat) : nw (x :: r) = x + 4294967296 * nw r := rfl
theorem nw_append : ∀ (a b : List Nat), nw (a ++ b) = nw a + 4294967296 ^ a.length * nw b
  | [], b => by simp [nw]
  | x :: a, b => by
    rw [List.cons_append, nw_cons, nw_append a b, nw_cons, List.length_cons, Nat.pow_succ, Nat.mul_add]
    rw [Nat.mul_comm (4294967296 ^ a.length) 4294967296, Nat.mul_assoc, Nat.add_assoc]
theorem nw_lt : ∀ {l : List Nat}, Digs l → nw l < 4294967296 ^ l.length
  | [], _ => by simp [nw]
  | x :: r, h => by
    have h1 := h.head
    have h2 := nw_lt h.tail
    rw [nw_cons, List.length_cons, Nat.pow_succ]
    omega
theorem nw_snoc (l : List Nat) (x : Nat) : nw (l ++ [x]) = nw l + 4294967296 ^ l.length * x := by
  rw [nw_append, nw_cons, nw_nil]; simp
theorem digw_length : ∀ k n, (digw k n).length = k
  | 0, _ => rfl
  | k + 1, n => by rw [digw, List.length_cons, digw_length]
theorem digw_lims : ∀ k n, Digs (digw k n)
  | 0, _ => Digs.nil
  | k + 1, n => Digs.cons (Nat.mod_lt _ (by decide)) (digw_lims k _)
theorem nw_digw : ∀ k n, nw (digw k n) = n % 4294967296 ^ k
  | 0, n => by simp [digw, nw, Nat.mod_one]
  | k + 1, n => by
    rw [digw, nw_cons, nw_digw k, Nat.pow_succ, Nat.mul_comm (4294967296 ^ k), Nat.mod_mul]
theorem digw_nw : ∀ {l : List Nat}, Digs l → digw l.length (nw l) = l
  | [], _ => rfl
  | x :: r, h => by
    have h1 := h.head
    rw [List.length_cons, digw, nw_cons, Nat.add_mul_mod_self_left, Nat.mod_eq_of_lt h1, Nat.add_mul_div_left _ _ (by decide), Nat.div_eq_of_lt h1, Nat.zero_add, digw_nw h.tail]
theorem digw_ext {a b : List Nat} (ha : Digs a) (hb : Digs b) (hl : a.length = b.length) (h : nw a = nw b) : a = b := by
  rw [← digw_nw ha, ← digw_nw hb, hl, h]
theorem digw_zero : ∀ k, digw k 0 = List.replicate k 0
  | 0 => rfl
  | k + 1 => by rw [digw, Nat.zero_mod, Nat.zero_div, digw_zero k, List.replicate_succ]
theorem digw_snoc : ∀ k n, digw (k + 1) n = digw k n ++ [n / 4294967296 ^ k % 4294967296]
  | 0, n => by simp [digw]
  | k + 1, n => by
    rw [digw, digw_snoc k, digw, List.cons_append, Nat.div_div_eq_div_mul, ← Nat.pow_succ']
theorem digw_getD : ∀ (k n i : Nat), i < k → (digw k n).getD i 0 = n / 4294967296 ^ i % 4294967296
  | 0, _, _, h => by omega
  | k + 1, n, 0, _ => by simp [digw]
  | k + 1, n, i + 1, h => by
    rw [digw, List.getD_cons_succ, digw_getD k _ i (by omega), Nat.div_div_eq_div_mul, ← Nat.pow_succ']
theorem toWf_lims : ∀ f n, Digs (toWf f n)
  | 0, _ => Digs.nil
  | f + 1, n => by
    rw [toWf]; split
    · exact Digs.nil
    · exact Digs.cons (Nat.mod_lt _ (by decide)) (toWf_lims f _)
theorem toW_lims (n : Nat) : Digs (toW n) := toWf_lims n n
theorem nw_toWf : ∀ f n, n ≤ f → nw (toWf f n) = n
  | 0, n, h => by rw [toWf, nw_nil]; omega
  | f + 1, n, h => by
    rw [toWf]; split
    · rename_i h0; rw [nw_nil, h0]
    · rename_i h0
      have hlt : n / 4294967296 ≤ f := by
        have := Nat.div_lt_self (n := n) (k := 4294967296) (by omega) (by decide); omega
      rw [nw_cons, nw_toWf f _ hlt, Nat.mod_add_div]
theorem nw_toW (n : Nat) : nw (toW n) = n := nw_toWf n n (Nat.le_refl _)
theorem toWf_eq : ∀ f f' n, n ≤ f → n ≤ f' → toWf f n = toWf f' n
  | 0, f', n, h, h' => by
    have : n = 0 := by omega
    subst this
    cases f' <;> simp [toWf]
  | f + 1, 0, n, h, h' => by
    have : n = 0 := by omega
    subst this
    simp [toWf]
  | f + 1, f' + 1, n, h, h' => by
    rw [toWf, toWf]; split
    · rfl
    · rename_i h0
      have := Nat.div_lt_self (n := n) (k := 4294967296) (by omega) (by decide)
      rw [toWf_eq f f' _ (by omega) (by omega)]
theorem toW_zero : toW 0 = [] := rfl
theorem toW_pos {n : Nat} (h : 0 < n) : toW n = n % 4294967296 :: toW (n / 4294967296) := by
  have e : toW n = toWf ((n - 1) + 1) n := by unfold toW; congr 1; omega
  have := Nat.div_lt_self (n := n) (k := 4294967296) h (by decide)
  rw [e, toWf, if_neg (by omega)]
  congr 1
  exact toWf_eq _ _ _ (by omega) (by omega)
theorem toW_small {n : Nat} (h0 : 0 < n) (h : n < 4294967296) : toW n = [n] := by
  rw [toW_pos h0, Nat.mod_eq_of_lt h, Nat.div_eq_of_lt h, toW_zero]
theorem toW_nil {n : Nat} : toW n = [] ↔ n = 0 := by
  constructor
  · intro h; rw [← nw_toW n, h]; rfl
  · rintro rfl; rfl
theorem toW_len_pos {n : Nat} (h : 0 < n) : 0 < (toW n).length := by rw [toW_pos h, List.length_cons]; omega
theorem toW_length : ∀ (k n : Nat), (toW n).length ≤ k ↔ n < 4294967296 ^ k
  | 0, n => by
    rw [Nat.le_zero, List.length_eq_zero_iff, toW_nil]; simp; 
  | k + 1, n => by
    by_cases h : n = 0
    · subst h; simp [toW_zero]; exact Nat.pow_pos (by decide)
    · rw [toW_pos (by omega), List.length_cons, Nat.add_le_add_iff_right, toW_length k, Nat.div_lt_iff_lt_mul (by decide), Nat.pow_succ]
theorem trimW_of_last : ∀ (l : List Nat) (k : Nat), k + 1 = l.length → l.getD k 0 ≠ 0 → trimW l = l
  | [], _, h, _ => by simp at h
  | [x], 0, _, h => by simp at h; simp [trimW, h]
  | [x], k + 1, h, _ => by simp at h
  | x :: y :: r, 0, h, _ => by simp at h
  | x :: y :: r, k + 1, h, h0 => by
    have := trimW_of_last (y :: r) k (by simpa using h) (by simpa using h0)
    simp only [trimW] at this ⊢
    rw [this]
theorem trimW_eq : ∀ {l : List Nat}, Digs l → trimW l = toW (nw l)
  | [], _ => rfl
  | x :: r, h => by
    have ih := trimW_eq h.tail
    have hx := h.head
    rw [trimW, ih, nw_cons]
    by_cases hr : nw r = 0
    · rw [hr, toW_zero]
      by_cases h0 : x = 0
      · simp [h0, toW_zero]
      · simp only [h0, if_false, Nat.mul_zero, Nat.add_zero]; rw [toW_small (by omega) hx]
    · have e1 := toW_pos (n := nw r) (by omega)
      have e2 := toW_pos (n := x + 4294967296 * nw r) (by omega)
      rw [Nat.add_mul_mod_self_left, Nat.mod_eq_of_lt hx, Nat.add_mul_div_left _ _ (by decide), Nat.div_eq_of_lt hx, Nat.zero_add] at e2
      rw [e2, e1]
theorem toW_of_last {l : List Nat} (hl : Digs l) (h : l = [] ∨ l.getD (l.length - 1) 0 ≠ 0) : toW (nw l) = l := by
  rw [← trimW_eq hl]
  rcases h with rfl | h
  · rfl
  · cases hn : l.length with
    | zero => rw [List.eq_nil_of_length_eq_zero hn]; rfl
    | succ k => exact trimW_of_last l k hn.symm (by rw [hn] at h; exact h)
theorem nw_take {l : List Nat} (hl : Digs l) (k : Nat) : nw (l.take k) = nw l % 4294967296 ^ k := by
  by_cases hk : k ≤ l.length
  · have e := nw_append (l.take k) (l.drop k)
    rw [List.take_append_drop, List.length_take, Nat.min_eq_left hk] at e
    have := nw_lt (hl.take k)
    rw [List.length_take, Nat.min_eq_left hk] at this
    rw [e, Nat.add_mul_mod_self_left, Nat.mod_eq_of_lt this]
  · rw [List.take_of_length_le (by omega), Nat.mod_eq_of_lt]
    exact Nat.lt_of_lt_of_le (nw_lt hl) (Nat.pow_le_pow_right (by decide) (by omega))
theorem nw_drop {l : List Nat} (hl : Digs l) (k : Nat) : nw (l.drop k) = nw l / 4294967296 ^ k := by
  by_cases hk : k ≤ l.length
  · have e := nw_append (l.take k) (l.drop k)
    rw [List.take_append_drop, List.length_take, Nat.min_eq_left hk] at e
    have := nw_lt (hl.take k)
    rw [List.length_take, Nat.min_eq_left hk] at this
    rw [e, Nat.add_mul_div_left _ _ (Nat.pow_pos (by decide)), Nat.div_eq_of_lt this, Nat.zero_add]
  · rw [List.drop_eq_nil_of_le (by omega), nw_nil, Nat.div_eq_of_lt]
    exact Nat.lt_of_lt_of_le (nw_lt hl) (Nat.pow_le_pow_right (by decide) (by omega))
theorem getD_nw : ∀ {l : List Nat}, Digs l → ∀ k, l.getD k 0 = nw l / 4294967296 ^ k % 4294967296
  | [], _, k => by simp [nw]
  | x :: r, h, 0 => by
    rw [List.getD_cons_zero, nw_cons, Nat.pow_zero, Nat.div_one, Nat.add_mul_mod_self_left, Nat.mod_eq_of_lt h.head]
  | x :: r, h, k + 1 => by
    rw [List.getD_cons_succ, getD_nw h.tail k, nw_cons, Nat.pow_succ', ← Nat.div_div_eq_div_mul, Nat.add_mul_div_left _ _ (by decide), Nat.div_eq_of_lt h.head, Nat.zero_add]
theorem take_toW {a : List Nat} (h : Digs a) : a.take (toW (nw a)).length = toW (nw a) := by
  have hle : (toW (nw a)).length ≤ a.length := (toW_length _ _).2 (nw_lt h)
  refine digw_ext (h.take _) (toW_lims _) (by rw [List.length_take]; omega) ?_
  rw [nw_take h, nw_toW]
  exact Nat.mod_eq_of_lt ((toW_length _ _).1 (Nat.le_refl _))
theorem pow32 (k : Nat) : (4294967296 : Nat) ^ (2 * k) = 18446744073709551616 ^ k := by
  rw [Nat.pow_mul, show (4294967296 : Nat) ^ 2 = 18446744073709551616 from rfl]
theorem pow32s (k : Nat) : (4294967296 : Nat) ^ (2 * k + 1) = 18446744073709551616 ^ k * 4294967296 := by
  rw [Nat.pow_succ, pow32]
theorem nw_take_succ (l : List Nat) : ∀ k, nw (l.take (k + 1)) = nw (l.take k) + 4294967296 ^ k * l.getD k 0 := by
  induction l with
  | nil => intro k; simp [nw]
  | cons x r ih =>
    intro k
    cases k with
    | zero => simp [nw]
    | succ k =>
      rw [List.take_succ_cons, nw_cons, ih k, List.take_succ_cons, nw_cons, List.getD_cons_succ, Nat.pow_succ, Nat.mul_add]
      rw [Nat.mul_comm (4294967296 ^ k) 4294967296, Nat.mul_assoc, Nat.add_assoc]
theorem nw_take_pred {a : List Nat} {k : Nat} (hk : k + 1 ≤ a.length) (h0 : a.getD k 0 = 0) : nw (a.take k) = nw (a.take (k + 1)) := by
  rw [nw_take_succ, h0]; simp
theorem toW_take_top {a : List Nat} (h : Digs a) {k : Nat} (hk : k + 1 ≤ a.length) (h0 : a.getD k 0 ≠ 0) : toW (nw (a.take (k + 1))) = a.take (k + 1) := by
  refine toW_of_last (h.take _) (.inr ?_)
  have : (a.take (k + 1)).length - 1 = k := by rw [List.length_take]; omega
  rw [this, List.getD_eq_getElem?_getD, List.getElem?_take, if_pos (by omega), ← List.getD_eq_getElem?_getD]
  exact h0
theorem toW_nw_le {l : List Nat} (h : Digs l) : (toW (nw l)).length ≤ l.length := (toW_length _ _).2 (nw_lt h)
theorem nw_set : ∀ (o : List Nat) (j v : Nat), j < o.length → nw (o.set j v) + 4294967296 ^ j * o.getD j 0 = nw o + 4294967296 ^ j * v
  | [], j, v, h => by simp at h
  | x :: r, 0, v, h => by simp [nw]; omega
  | x :: r, j + 1, v, h => by
    have ih := nw_set r j v (by simpa using h)
    rw [List.set_cons_succ, nw_cons, nw_cons, List.getD_cons_succ, Nat.pow_succ, Nat.mul_comm (4294967296 ^ j), Nat.mul_assoc, Nat.mul_assoc]
    omega
theorem Digs.set {o : List Nat} (h : Digs o) (j : Nat) {v : Nat} (hv : v < 4294967296) : Digs (o.set j v) := fun x hx => by
  rcases List.mem_or_eq_of_mem_set hx with h1 | h1
  · exact h x h1
  · rw [h1]; exact hv
theorem M_ref01_cut_eq {fu : Nat} {a : List Nat} (h : Digs a) (hl : a.length ≤ 1099511627776) (hf : a.length < fu) : M_ref01_cut fu a = some (toW (nw a)) := by
  unfold M_ref01_cut
  have h5 := toW_nw_le h
  rw [bd_t (v := ((toW (nw a)).length : Int)), ckN_n, ck_t h5, nm_t, take_toW h]
  refine loop_eq (fun i : Int => 0 ≤ i ∧ i ≤ a.length ∧ nw (a.take i.toNat) = nw a) (fun i => i.toNat) _ ?_ _ _ ⟨by omega, by omega, by simp⟩ (by omega)
  rintro i L ⟨h0, h1, hn⟩ ih
  obtain ⟨k, rfl⟩ := Int.eq_ofNat_of_zero_le h0
  unfold B_ref01_cut_0
  simp only [Int.toNat_natCast] at *
  by_cases hk : 0 < (k : Int)
  · obtain ⟨j, rfl⟩ : ∃ j, k = j + 1 := ⟨k - 1, by omega⟩
    have e1 : ((j + 1 : Nat) : Int) - 1 = (j : Int) := by omega
    rw [if_pos hk, e1, ck64_t ⟨by omega, by omega⟩, ckI_n (by omega), nm_t]
    by_cases h2 : a.getD j 0 = 0
    · rw [if_pos (by rw [h2]), ck64_t ⟨by omega, by omega⟩]
      refine ih _ ⟨by omega, by omega, ?_⟩ (by omega)
      rw [Int.toNat_natCast, nw_take_pred (by omega) h2, hn]
    · rw [if_neg (by omega), ← hn, toW_take_top h (by omega) h2, List.length_take]
      congr 1; omega
  · rw [if_neg hk, ← hn]
    have : k = 0 := by omega
    subst this; rfl
theorem digw_two {a : List Nat} (h : Limbs a) {k : Nat} (hk : k < a.length) : digw (2 * k) (nv a) ++ [a.getD k 0 &&& 4294967295, a.getD k 0 / 2 ^ 32] = digw (2 * (k + 1)) (nv a) := by
  rw [show 2 * (k + 1) = (2 * k + 1) + 1 by omega, digw_snoc, digw_snoc, List.append_assoc, getD_nv h, and32]
  congr 1
  rw [pow32s, pow32, ← Nat.div_div_eq_div_mul]
  generalize nv a / 18446744073709551616 ^ k = z
  congr 1
  · omega
  · congr 1; omega
theorem digits_loop {fu : Nat} {a : List Nat} (h : Limbs a) (hl : a.length ≤ 4294967296) (hf : 2 * a.length < fu) : loopN (B_ref01_digits_0 fu a) fu ([], 0) = some (digw (2 * a.length) (nv a)) := by
  refine loop_eq (fun s : List Nat × Int => ∃ k : Nat, k ≤ a.length ∧ s = (digw (2 * k) (nv a), (k : Int))) (fun s => a.length - s.2.toNat) _ ?_ _ _ ⟨0, by omega, rfl⟩ (by show a.length - 0 < fu; omega)
  rintro s L ⟨k, hk, rfl⟩ ih
  unfold B_ref01_digits_0
  simp only []
  by_cases h1 : k < a.length
  · rw [if_pos (by omega), ckI_n h1, nm_t, nm_t, ckI_n h1, nm_t, nm_t, min32, ck_t (by simp only [digw_length, List.length_cons, List.length_nil]; omega), nm_t, ck64_t ⟨by omega, by omega⟩, digw_two h h1]
    exact ih _ ⟨k + 1, by omega, rfl⟩ (by show a.length - ((k : Int) + 1).toNat < a.length - (k : Int).toNat; omega)
  · rw [if_neg (by omega)]
    obtain rfl : k = a.length := by omega
    rfl
theorem M_ref01_digits_eq {fu : Nat} {a : List Nat} (h : Limbs a) (hl : a.length ≤ 4294967296) (hf : 2 * a.length < fu) : M_ref01_digits fu a = some (toW (nv a)) := by
  unfold M_ref01_digits
  have hlt : nv a < 4294967296 ^ (2 * a.length) := by rw [pow32]; exact nv_lt h
  rw [bd_t (digits_loop h hl hf), bd_t (M_ref01_cut_eq (digw_lims _ _) (by rw [digw_length]; omega) (by rw [digw_length]; omega)), nw_digw, Nat.mod_eq_of_lt hlt]
theorem digs_pair {d : List Nat} (h : Digs d) (k : Nat) : d.getD (2 * k) 0 + d.getD (2 * k + 1) 0 * 2 ^ 32 = nw d / 18446744073709551616 ^ k % 18446744073709551616 := by
  rw [getD_nw h, getD_nw h, pow32s, ← Nat.div_div_eq_div_mul, pow32]
  generalize nw d / 18446744073709551616 ^ k = z
  omega
theorem limbs_loop {fu n : Nat} {d : List Nat} (h : Digs d) (hl : d.length ≤ 4294967296) (hn : n = (d.length + 1) / 2) (hf : d.length + 1 < fu) : loopN (B_ref01_limbs_0 fu d) fu ([], 0) = some (digs n (nw d)) := by
  refine loop_eq (fun s : List Nat × Int => ∃ k : Nat, k ≤ n ∧ s = (digs k (nw d), 2 * (k : Int))) (fun s => 2 * n - s.2.toNat) _ ?_ _ _ ⟨0, by omega, rfl⟩ (by show 2 * n - 0 < fu; omega)
  rintro s L ⟨k, hk, rfl⟩ ih
  unfold B_ref01_limbs_0
  simp only []
  have e2 : 2 * (k : Int) = ((2 * k : Nat) : Int) := by omega
  have hp := digs_pair h k
  by_cases h1 : 2 * k < d.length
  · have d0 := h.getD (2 * k)
    have d1 := h.getD (2 * k + 1)
    rw [e2, if_pos (by omega), ckI_n h1, nm_t, ck64_t ⟨by omega, by omega⟩]
    have e3 : ((2 * k : Nat) : Int) + 1 = ((2 * k + 1 : Nat) : Int) := by omega
    have e4 : ((2 * k : Nat) : Int) + 2 = 2 * ((k + 1 : Nat) : Int) := by omega
    by_cases h3 : 2 * k + 1 < d.length
    · rw [if_pos (by omega), ck64_t ⟨by omega, by omega⟩, e3, ckI_n h3, nm_t, min32, nm_t, nm_t, ck_t (by simp only [digs_length, List.length_cons, List.length_nil]; omega), nm_t, ck64_t ⟨by omega, by omega⟩, e4]
      refine ih _ ⟨k + 1, by omega, ?_⟩ (by show 2 * n - (2 * ((k + 1 : Nat) : Int)).toNat < 2 * n - (((2 * k : Nat) : Int)).toNat; omega)
      rw [digs_snoc, ← hp, Nat.mod_eq_of_lt (by omega), Nat.mod_eq_of_lt (by omega)]
    · rw [if_neg (by omega), ck_t (by simp only [digs_length, List.length_cons, List.length_nil]; omega), nm_t, ck64_t ⟨by omega, by omega⟩, e4]
      refine ih _ ⟨k + 1, by omega, ?_⟩ (by show 2 * n - (2 * ((k + 1 : Nat) : Int)).toNat < 2 * n - (((2 * k : Nat) : Int)).toNat; omega)
      have z : d.getD (2 * k + 1) 0 = 0 := by rw [List.getD_eq_getElem?_getD, List.getElem?_eq_none (by omega)]; rfl
      rw [z, Nat.zero_mul, Nat.add_zero] at hp
      rw [digs_snoc, ← hp]
  · rw [if_neg (by omega)]
    obtain rfl : k = n := by omega
    rfl
theorem M_ref01_limbs_eq {fu : Nat} {d : List Nat} (h : Digs d) (hl : d.length ≤ 4294967296) (hf : d.length + 1 < fu) : M_ref01_limbs fu d = some (toL (nw d)) := by
  unfold M_ref01_limbs
  obtain ⟨n, hn⟩ : ∃ n, n = (d.length + 1) / 2 := ⟨_, rfl⟩
  have hlt : nw d < 18446744073709551616 ^ n := by
    rw [← pow32]
    exact Nat.lt_of_lt_of_le (nw_lt h) (Nat.pow_le_pow_right (by decide) (by omega))
  rw [bd_t (limbs_loop h hl hn hf), bd_t (M_ref01_Norm_eq (digs_limbs _ _) (by rw [digs_length]; omega) (by rw [digs_length]; omega)), nv_digs, Nat.mod_eq_of_lt hlt]
end Go.Proofs.YtjnjfinbdfolkaaGreat
end

section
set_option linter.unusedVariables false
set_option linter.unusedSimpArgs false
namespace Go.Proofs.YtjnjfinbdfolkaaGreat
theorem mulw_step {o y : List Nat} {T i k x c : Nat} (hj : i + k < o.length) (h : nw o + 4294967296 ^ (i + k) * c = T + 4294967296 ^ i * (x * nw (y.take k))) :
    nw (o.set (i + k) ((x * y.getD k 0 + o.getD (i + k) 0 + c) % 4294967296)) + 4294967296 ^ (i + (k + 1)) * ((x * y.getD k 0 + o.getD (i + k) 0 + c) / 4294967296) = T + 4294967296 ^ i * (x * nw (y.take (k + 1))) := by
  have h1 := nw_set o (i + k) ((x * y.getD k 0 + o.getD (i + k) 0 + c) % 4294967296) hj
  rw [nw_take_succ, Nat.mul_add x, Nat.mul_add (4294967296 ^ i), Nat.mul_left_comm x, ← Nat.mul_assoc (4294967296 ^ i) (4294967296 ^ k), ← Nat.pow_add]
  have e := Nat.mod_add_div (x * y.getD k 0 + o.getD (i + k) 0 + c) 4294967296
  rw [show i + (k + 1) = (i + k) + 1 by omega, Nat.pow_succ]
  generalize (x * y.getD k 0 + o.getD (i + k) 0 + c) % 4294967296 = u at *
  generalize (x * y.getD k 0 + o.getD (i + k) 0 + c) / 4294967296 = q at *
  generalize 4294967296 ^ (i + k) = p at *
  have e2 : p * u + p * 4294967296 * q = p * (x * y.getD k 0) + p * o.getD (i + k) 0 + p * c := by
    rw [Nat.mul_assoc, ← Nat.mul_add, e, Nat.mul_add, Nat.mul_add]
  omega
theorem nw_set_lt {o : List Nat} (ho : Digs o) {j m v : Nat} (hj : j < m) (hv : v < 4294967296) (h : nw o < 4294967296 ^ m) : nw (o.set j v) < 4294967296 ^ m := by
  have e : (o.set j v).drop m = o.drop m := List.drop_set_of_lt hj
  have h1 := nw_drop (ho.set j hv) m
  have h2 := nw_drop ho m
  rw [e, h2, Nat.div_eq_of_lt h] at h1
  have hp : 0 < 4294967296 ^ m := Nat.pow_pos (by decide)
  rcases Nat.lt_or_ge (nw (o.set j v)) (4294967296 ^ m) with h3 | h3
  · exact h3
  · have := Nat.div_pos h3 hp; omega
theorem nw_zero_at {o : List Nat} (ho : Digs o) {m : Nat} (h : nw o < 4294967296 ^ m) : o.getD m 0 = 0 := by
  rw [getD_nw ho, Nat.div_eq_of_lt h]
theorem mw_bound {x y o c : Nat} (hx : x < 4294967296) (hy : y < 4294967296) (ho : o < 4294967296) (hc : c < 4294967296) : x * y + o + c < 18446744073709551616 := by
  have : x * y ≤ 4294967295 * 4294967295 := Nat.mul_le_mul (by omega) (by omega)
  omega
theorem refmul_inner {fu i n : Nat} {x y o0 : List Nat} (hx : Digs x) (hy : Digs y) (hi : i < x.length) (hn : n = x.length + y.length) (hnb : n ≤ 4294967296) (h0 : Digs o0) (h0l : o0.length = n) (h0v : nw o0 = nw (x.take i) * nw y) (h0b : nw o0 < 4294967296 ^ (i + y.length)) (hf : y.length < fu) :
    loopN (B_ref01_Mul_1 fu (i : Int)) fu (x, y, 0, 0, o0) = some (x, y, nw (x.take (i + 1)) * nw y / 4294967296 ^ (i + y.length), digw n (nw (x.take (i + 1)) * nw y % 4294967296 ^ (i + y.length))) := by
  refine loop_eq (fun s : List Nat × List Nat × Nat × Int × List Nat => ∃ (c k : Nat) (o : List Nat), s = (x, y, c, (k : Int), o) ∧ k ≤ y.length ∧ c < 4294967296 ∧ Digs o ∧ o.length = n ∧ nw o < 4294967296 ^ (i + y.length) ∧ nw o + 4294967296 ^ (i + k) * c = nw o0 + 4294967296 ^ i * (x.getD i 0 * nw (y.take k)))
    (fun s => y.length - s.2.2.2.1.toNat) _ ?_ _ _ ⟨0, 0, o0, rfl, by omega, by omega, h0, h0l, h0b, by simp [nw]⟩ (by show y.length - 0 < fu; omega)
  rintro s L ⟨c, k, o, rfl, hk, hc, hoD, hol, hob, ho⟩ ih
  unfold B_ref01_Mul_1
  simp only []
  by_cases h1 : k < y.length
  · have e : (i : Int) + (k : Int) = ((i + k : Nat) : Int) := by omega
    have bx := hx.getD i
    have by' := hy.getD k
    have bo := hoD.getD (i + k)
    have hb := mw_bound bx by' bo hc
    rw [if_pos (by omega), ckI_n hi, nm_t, ckI_n h1, nm_t, nm_t, e, ck64_t ⟨by omega, by omega⟩, ckI_n (by omega), nm_t, nm_t, nm_t, ck64_t ⟨by omega, by omega⟩, nm_t, and32, ckI_n (by omega), nm_t, nm_t, min32, ck64_t ⟨by omega, by omega⟩]
    have e5 : ((x.getD i 0 * y.getD k 0 % 18446744073709551616 + o.getD (i + k) 0) % 18446744073709551616 + c) % 18446744073709551616 = x.getD i 0 * y.getD k 0 + o.getD (i + k) 0 + c := by
      generalize x.getD i 0 * y.getD k 0 = z at *
      omega
    rw [e5]
    refine ih _ ⟨_, k + 1, _, rfl, by omega, ?_, hoD.set _ (Nat.mod_lt _ (by decide)), by rw [List.length_set, hol], nw_set_lt hoD (by omega) (Nat.mod_lt _ (by decide)) hob, mulw_step (by omega) ho⟩ (by show y.length - ((k : Int) + 1).toNat < y.length - (k : Int).toNat; omega)
    generalize x.getD i 0 * y.getD k 0 + o.getD (i + k) 0 + c = z at *
    omega
  · rw [if_neg (by omega)]
    obtain rfl : k = y.length := by omega
    rw [List.take_length, h0v] at ho
    have e6 : nw (x.take (i + 1)) * nw y = nw (x.take i) * nw y + 4294967296 ^ i * (x.getD i 0 * nw y) := by rw [nw_take_succ, Nat.add_mul, Nat.mul_assoc]
    rw [← e6] at ho
    have hp : 0 < 4294967296 ^ (i + y.length) := Nat.pow_pos (by decide)
    rw [← ho, Nat.add_mul_div_left _ _ hp, Nat.div_eq_of_lt hob, Nat.add_mul_mod_self_left, Nat.mod_eq_of_lt hob, Nat.zero_add]
    have := digw_nw hoD
    rw [hol] at this
    rw [this]
theorem nw_take_lt {x : List Nat} (hx : Digs x) (k : Nat) : nw (x.take k) < 4294967296 ^ k := by
  rw [nw_take hx]; exact Nat.mod_lt _ (Nat.pow_pos (by decide))
theorem nw_mul_lt {x y : List Nat} (hx : Digs x) (hy : Digs y) (k : Nat) : nw (x.take k) * nw y < 4294967296 ^ (k + y.length) := by
  rw [Nat.pow_add]; exact Nat.mul_lt_mul'' (nw_take_lt hx k) (nw_lt hy)
theorem refmul_loop {fu n : Nat} {x y : List Nat} (hx : Digs x) (hy : Digs y) (hn : n = x.length + y.length) (hnb : n ≤ 4294967296) (hf : n < fu) :
    loopN (B_ref01_Mul_0 fu x y) fu (0, digw n 0) = some (digw n (nw x * nw y)) := by
  refine loop_eq (fun s : Int × List Nat => ∃ k : Nat, k ≤ x.length ∧ s = ((k : Int), digw n (nw (x.take k) * nw y))) (fun s => x.length - s.1.toNat) _ ?_ _ _ ⟨0, by omega, by simp [nw]⟩ (by show x.length - 0 < fu; omega)
  rintro s L ⟨k, hk, rfl⟩ ih
  unfold B_ref01_Mul_0
  simp only []
  by_cases h1 : k < x.length
  · have hb := nw_mul_lt hx hy k
    have hb1 := nw_mul_lt hx hy (k + 1)
    have hle : 4294967296 ^ (k + y.length) ≤ 4294967296 ^ n := Nat.pow_le_pow_right (by decide) (by omega)
    have hv : nw (digw n (nw (x.take k) * nw y)) = nw (x.take k) * nw y := by rw [nw_digw, Nat.mod_eq_of_lt (by omega)]
    have e : (k : Int) + ((y.length : Nat) : Int) = ((k + y.length : Nat) : Int) := by omega
    rw [if_pos (by omega), bd_t (refmul_inner (n := n) hx hy h1 hn hnb (digw_lims _ _) (digw_length _ _) hv (by rw [hv]; exact hb) (by omega))]
    simp only []
    rw [e, ck64_t ⟨by omega, by omega⟩, ckI_n (by rw [digw_length]; omega), nm_t, ck64_t ⟨by omega, by omega⟩]
    refine ih _ ⟨k + 1, by omega, ?_⟩ (by show x.length - ((k : Int) + 1).toNat < x.length - (k : Int).toNat; omega)
    have hS : nw (x.take (k + 1)) * nw y / 4294967296 ^ (k + y.length) < 4294967296 := by
      rw [Nat.div_lt_iff_lt_mul (Nat.pow_pos (by decide))]
      rw [show k + 1 + y.length = (k + y.length) + 1 by omega, Nat.pow_succ, Nat.mul_comm (4294967296 ^ (k + y.length))] at hb1
      exact hb1
    have hp : 0 < 4294967296 ^ (k + y.length) := Nat.pow_pos (by decide)
    generalize nw (x.take (k + 1)) * nw y = S at *
    have hm := Nat.mod_lt S hp
    have hnv : nw (digw n (S % 4294967296 ^ (k + y.length))) = S % 4294967296 ^ (k + y.length) := by rw [nw_digw, Nat.mod_eq_of_lt (by omega)]
    have hz := nw_zero_at (digw_lims n (S % 4294967296 ^ (k + y.length))) (m := k + y.length) (by rw [hnv]; exact hm)
    have hset := nw_set (digw n (S % 4294967296 ^ (k + y.length))) (k + y.length) (S / 4294967296 ^ (k + y.length)) (by rw [digw_length]; omega)
    rw [hz, hnv, Nat.mul_zero, Nat.add_zero, Nat.mod_add_div] at hset
    have hd := digw_nw ((digw_lims n (S % 4294967296 ^ (k + y.length))).set (k + y.length) hS)
    rw [hset, List.length_set, digw_length] at hd
    rw [hd]; rfl
  · rw [if_neg (by omega)]
    obtain rfl : k = x.length := by omega
    rw [List.take_length]
theorem toW_len2 {a : List Nat} (h : Limbs a) : (toW (nv a)).length ≤ 2 * a.length := by
  rw [toW_length, pow32]; exact nv_lt h
theorem M_ref01_Mul_eq {fu : Nat} {a b : List Nat} (ha : Limbs a) (hb : Limbs b) (hla : a.length ≤ 268435456) (hlb : b.length ≤ 268435456) (hf : 2 * (a.length + b.length) + 1 < fu) :
    M_ref01_Mul fu a b = some (toL (nv a * nv b)) := by
  unfold M_ref01_Mul
  have l1 := toW_len2 ha
  have l2 := toW_len2 hb
  rw [bd_t (M_ref01_digits_eq ha (by omega) (by omega)), bd_t (M_ref01_digits_eq hb (by omega) (by omega))]
  have e1 : nw (toW (nv a)) = nv a := nw_toW _
  have e2 : nw (toW (nv b)) = nv b := nw_toW _
  have L1 := toW_lims (nv a)
  have L2 := toW_lims (nv b)
  generalize toW (nv a) = x at *
  generalize toW (nv b) = y at *
  have e : ((x.length : Nat) : Int) + ((y.length : Nat) : Int) = ((x.length + y.length : Nat) : Int) := by omega
  have hlt : nv a * nv b < 4294967296 ^ (x.length + y.length) := by
    have := nw_mul_lt L1 L2 x.length
    rwa [List.take_length, e1, e2] at this
  rw [e, ck64_t ⟨by omega, by omega⟩, ckN_n, ck_t (by omega), nm_t, ← digw_zero, bd_t (refmul_loop L1 L2 rfl (by omega) (by omega)), e1, e2, bd_t (M_ref01_limbs_eq (digw_lims _ _) (by rw [digw_length]; omega) (by rw [digw_length]; omega)), nw_digw, Nat.mod_eq_of_lt hlt]
theorem M_ref01_Same_eq {fu : Nat} {a b : List Nat} (hla : a.length ≤ 1099511627776) (hf : a.length < fu) : M_ref01_Same fu a b = some (decide (a = b)) := by
  unfold M_ref01_Same
  by_cases hl : a.length = b.length
  · rw [if_pos (by omega), bd_t (v := if a = b then .inl () else .inr ())]
    · by_cases h : a = b
      · rw [if_pos h, decide_eq_true h]
      · rw [if_neg h, decide_eq_false h]
    · refine loop_eq (fun i : Int => ∃ k : Nat, i = (k : Int) ∧ k ≤ a.length ∧ a.take k = b.take k) (fun i => a.length - i.toNat) _ ?_ _ _ ⟨0, rfl, by omega, rfl⟩ (by show a.length - 0 < fu; omega)
      rintro i L ⟨k, rfl, hk, ht⟩ ih
      unfold B_ref01_Same_0
      by_cases h1 : k < a.length
      · rw [if_pos (by omega), ckI_n h1, nm_t, ckI_n (by omega), nm_t]
        by_cases h2 : a.getD k 0 = b.getD k 0
        · rw [if_pos (by omega), ck64_t ⟨by omega, by omega⟩]
          refine ih _ ⟨k + 1, by omega, by omega, ?_⟩ (by show a.length - ((k : Int) + 1).toNat < a.length - (k : Int).toNat; omega)
          rw [List.take_add_one, List.take_add_one, ht, getD_some 0 h1, getD_some 0 (by omega : k < b.length), h2]
        · rw [if_neg (by omega), if_neg (fun h => h2 (by rw [h]))]
      · rw [if_neg (by omega)]
        obtain rfl : k = a.length := by omega
        rw [List.take_length, List.take_of_length_le (by omega)] at ht
        rw [if_pos ht]
  · rw [if_neg (by omega), decide_eq_false (fun h => hl (by rw [h]))]
end Go.Proofs.YtjnjfinbdfolkaaGreat
end

section
set_option linter.unusedVariables false
set_option linter.unusedSimpArgs false
namespace Go.Proofs.YtjnjfinbdfolkaaGreat
def zv (z : Zr) : Int := if z.1 = true then -((nv z.2 : Nat) : Int) else ((nv z.2 : Nat) : Int)
def ofI (x : Int) : Zr := (decide (x < 0), toL x.natAbs)
theorem zv_ofI (x : Int) : zv (ofI x) = x := by
  unfold zv ofI
  simp only [nv_toL, decide_eq_true_eq]
  split <;> omega
theorem ofI_limbs (x : Int) : Limbs (ofI x).2 := toL_limbs _
theorem natAbs_zv (z : Zr) : (zv z).natAbs = nv z.2 := by unfold zv; split <;> omega
theorem mk_ofI (s : Bool) (n : Nat) : (if s = true then if 0 < (((toL n).length : Nat) : Int) then some (true, toL n) else some (false, toL n) else some (false, toL n)) = some (ofI (if s = true then -(n : Int) else (n : Int))) := by
  have h1 := @toL_nil n
  cases s
  · simp [ofI]
  · simp only [if_true]
    by_cases h : n = 0
    · subst h; rfl
    · have := toL_len_pos (n := n) (by omega)
      rw [if_pos (by omega)]
      unfold ofI
      rw [decide_eq_true (by omega)]
      congr 2
      congr 1
      omega
theorem M_zint_made_eq {fu : Nat} {s : Bool} {a : List Nat} (h : Limbs a) (hl : a.length ≤ 17592186044416) (hf : a.length < fu) : M_zint_made fu s a = some (ofI (if s = true then -((nv a : Nat) : Int) else ((nv a : Nat) : Int))) := by
  unfold M_zint_made
  rw [bd_t (M_nat_Norm_eq h hl hf)]
  exact mk_ofI s _
theorem M_ref02_Norm_eq {fu : Nat} {z : Zr} (h : Limbs z.2) (hl : z.2.length ≤ 17592186044416) (hf : z.2.length < fu) : M_ref02_Norm fu z = some (ofI (zv z)) := by
  unfold M_ref02_Norm
  rw [bd_t (M_ref01_Norm_eq h hl hf)]
  exact mk_ofI z.1 _
theorem M_zint_Norm_eq {fu : Nat} {z : Zr} (h : Limbs z.2) (hl : z.2.length ≤ 17592186044416) (hf : z.2.length < fu) : M_zint_Norm fu z = some (ofI (zv z)) := by
  unfold M_zint_Norm
  rw [bd_t (M_zint_made_eq h hl hf)]; rfl
theorem uns_nonneg {x : Int} (h0 : 0 ≤ x) (h : x < 18446744073709551616) : ((uns x : Nat) : Int) = x := by unfold uns; omega
theorem one_limb {x : Nat} (h : x < 18446744073709551616) : Limbs [x] := Limbs.cons h Limbs.nil
theorem nv_one (x : Nat) : nv [x] = x := by simp [nv]
theorem M_zint_Of_eq {fu : Nat} {x : Int} (h : InR x) (hf : 1 < fu) : M_zint_Of fu x = some (ofI x) := by
  obtain ⟨h1, h2⟩ := h
  unfold M_zint_Of
  have hu := uns_r x
  by_cases h0 : x < 0
  · have e : (18446744073709551616 - uns x) % 18446744073709551616 = x.natAbs := by unfold uns; omega
    rw [if_pos h0, nm_t, nm_t, e, bd_t (M_zint_made_eq (one_limb (by omega)) (by simp) (by simpa using hf)), nv_one]
    congr 2
    rw [if_pos rfl]; omega
  · have e := uns_nonneg (x := x) (by omega) (by omega)
    rw [if_neg h0, nm_t, bd_t (M_zint_made_eq (one_limb hu) (by simp) (by simpa using hf)), nv_one]
    congr 2
theorem M_ref02_Of_eq {fu : Nat} {x : Int} (h : -9223372036854775807 ≤ x ∧ x ≤ 9223372036854775807) (hf : 1 < fu) : M_ref02_Of fu x = some (ofI x) := by
  obtain ⟨h1, h2⟩ := h
  unfold M_ref02_Of
  by_cases h0 : x < 0
  · have e := uns_nonneg (x := 0 - x) (by omega) (by omega)
    have hu := uns_r (0 - x)
    rw [if_pos h0, ck64_t ⟨by omega, by omega⟩, nm_t, bd_t (M_ref02_Norm_eq (one_limb hu) (by simp) (by simpa using hf))]
    unfold zv
    rw [if_pos rfl, nv_one]
    congr 2; omega
  · have e := uns_nonneg (x := x) (by omega) (by omega)
    have hu := uns_r x
    rw [if_neg h0, nm_t, bd_t (M_ref02_Norm_eq (one_limb hu) (by simp) (by simpa using hf))]
    unfold zv
    simp only [Bool.false_eq_true, if_false, nv_one, e]
theorem sgn_mul (a b : Zr) : (if (!(a.1 == b.1)) = true then -((nv a.2 * nv b.2 : Nat) : Int) else ((nv a.2 * nv b.2 : Nat) : Int)) = zv a * zv b := by
  unfold zv
  cases a.1 <;> cases b.1 <;> simp [Int.neg_mul, Int.mul_neg]
theorem M_zint_Mul_eq {fu : Nat} {a b : Zr} (ha : Limbs a.2) (hb : Limbs b.2) (hla : a.2.length ≤ 1073741824) (hlb : b.2.length ≤ 1073741824) (hf : 4 * (a.2.length + b.2.length) + 64 ≤ fu) : M_zint_Mul fu a b = some (ofI (zv a * zv b)) := by
  unfold M_zint_Mul
  have hl := toL_mul_len (toL_nv_le ha) (toL_nv_le hb)
  rw [nm_t, bd_t (M_nat_Mul_eq ha hb hla hlb hf), bd_t (M_zint_made_eq (toL_limbs _) (by omega) (by omega)), nv_toL, ← sgn_mul]
theorem M_ref02_Mul_eq {fu : Nat} {a b : Zr} (ha : Limbs a.2) (hb : Limbs b.2) (hla : a.2.length ≤ 268435456) (hlb : b.2.length ≤ 268435456) (hf : 2 * (a.2.length + b.2.length) + 1 < fu) : M_ref02_Mul fu a b = some (ofI (zv a * zv b)) := by
  unfold M_ref02_Mul
  have hl := toL_mul_len (toL_nv_le ha) (toL_nv_le hb)
  rw [nm_t, bd_t (M_ref01_Mul_eq ha hb hla hlb hf), bd_t (M_ref02_Norm_eq (toL_limbs _) (by show (toL _).length ≤ _; omega) (by show (toL _).length < _; omega))]
  rw [← sgn_mul]
  show some (ofI (if _ then -((nv (toL _) : Nat) : Int) else ((nv (toL _) : Nat) : Int))) = _
  rw [nv_toL]
theorem M_ref02_Same_eq {fu : Nat} {a b : Zr} (hl : a.2.length ≤ 1099511627776) (hf : a.2.length < fu) : M_ref02_Same fu a b = some (decide (a = b)) := by
  obtain ⟨s, a⟩ := a
  obtain ⟨t, b⟩ := b
  unfold M_ref02_Same
  rw [nm_t]
  cases s <;> cases t
  · simp only [beq_self_eq_true, if_true]
    rw [bd_t (M_ref01_Same_eq hl hf)]
    simp
  · simp
  · simp
  · simp only [beq_self_eq_true, if_true]
    rw [bd_t (M_ref01_Same_eq hl hf)]
    simp
theorem pow_len {a : Int} {e b : Nat} (h : bl a.natAbs * e ≤ b * 64) : (toL (a ^ e).natAbs).length ≤ b + 1 := by
  rw [toL_length, Int.natAbs_pow]
  have h1 : a.natAbs ^ e ≤ (2 ^ bl a.natAbs) ^ e := Nat.pow_le_pow_left (Nat.le_of_lt (lt_bl _)) e
  rw [← Nat.pow_mul] at h1
  have h2 : 2 ^ (bl a.natAbs * e) ≤ 2 ^ (64 * b) := Nat.pow_le_pow_right (by decide) (by omega)
  rw [Nat.pow_mul 2 64 b, show (2 : Nat) ^ 64 = 18446744073709551616 from rfl] at h2
  have h3 : 18446744073709551616 ^ b < 18446744073709551616 ^ (b + 1) := Nat.pow_lt_pow_right (by decide) (Nat.lt_succ_self b)
  omega
theorem andI_one (i : Nat) (h : i ≤ 65536) : andI (i : Int) 1 = ((i % 2 : Nat) : Int) := by
  unfold andI
  have e1 : uns (i : Int) = i := by unfold uns; omega
  have e2 : uns 1 = 1 := by decide
  rw [e1, e2, Nat.and_one_is_mod]
  unfold sgn
  rw [if_pos (by omega)]
theorem half (i : Nat) : Int.fdiv (i : Int) (2 ^ (min (((1 : Nat) : Int)).toNat 64)) = ((i / 2 : Nat) : Int) := by
  have : min (((1 : Nat) : Int)).toNat 64 = 1 := by decide
  rw [this]
  rw [Int.fdiv_eq_ediv_of_nonneg _ (by decide)]
  show (i : Int) / 2 = _
  omega
theorem zpow_loop {fu n : Nat} {a : Int} (hn : n ≤ 65536) (hb : bl a.natAbs * n ≤ 262144) (hf : 65600 < fu) :
    loopN (B_zint_Pow_0 fu) fu ((n : Int), ofI a, ofI 1) = some (ofI (a ^ n)) := by
  have hlen : ∀ e, e ≤ n → (toL (a ^ e).natAbs).length ≤ 4097 := fun e he => pow_len (b := 4096) (Nat.le_trans (Nat.mul_le_mul_left _ he) hb)
  refine loop_eq (fun s : Int × Zr × Zr => ∃ i d e : Nat, s = ((i : Int), ofI (a ^ d), ofI (a ^ e)) ∧ e + d * i = n ∧ (0 < i → d ≤ n) ∧ 0 < d) (fun s => s.1.toNat) _ ?_ _ _ ⟨n, 1, 0, by simp [Int.pow_succ], by omega, by omega, by omega⟩ (by show ((n : Int)).toNat < fu; omega)
  rintro s L ⟨i, d, e, rfl, he, hd, hd0⟩ ih
  unfold B_zint_Pow_0
  simp only []
  have mul : ∀ p q, p ≤ n → q ≤ n → M_zint_Mul fu (ofI (a ^ p)) (ofI (a ^ q)) = some (ofI (a ^ (p + q))) := by
    intro p q hp hq
    have h1 := hlen p hp
    have h2 := hlen q hq
    rw [M_zint_Mul_eq (ofI_limbs _) (ofI_limbs _) (by show (toL _).length ≤ _; omega) (by show (toL _).length ≤ _; omega) (by show 4 * ((toL _).length + (toL _).length) + 64 ≤ fu; omega), zv_ofI, zv_ofI, Int.pow_add]
  by_cases h0 : 0 < i
  · have hd' := hd h0
    have hin : i ≤ n := by
      have := Nat.le_mul_of_pos_left i hd0; omega
    have hdi : d * i = d * (i / 2) * 2 + d * (i % 2) := by
      rw [Nat.mul_assoc, ← Nat.mul_add]; congr 1; omega
    rw [if_pos (by omega), nm_t, andI_one i (by omega)]
    by_cases h1 : i % 2 = 1
    · rw [if_pos (by omega)]
      rw [h1, Nat.mul_one] at hdi
      rw [bd_t (mul e d (by omega) hd')]
      by_cases h2 : 1 < i
      · have h3 : d * 1 ≤ d * (i / 2) := Nat.mul_le_mul_left d (by omega)
        rw [if_pos (by omega), bd_t (mul d d hd' hd'), nm_t, half]
        refine ih _ ⟨i / 2, d + d, e + d, rfl, ?_, by omega, by omega⟩ (by show ((i / 2 : Nat) : Int).toNat < ((i : Nat) : Int).toNat; omega)
        rw [Nat.add_mul]; omega
      · rw [if_neg (by omega), nm_t, half]
        refine ih _ ⟨i / 2, d, e + d, rfl, ?_, by omega, by omega⟩ (by show ((i / 2 : Nat) : Int).toNat < ((i : Nat) : Int).toNat; omega)
        rw [show i / 2 = 0 by omega, Nat.mul_zero] at hdi ⊢
        omega
    · rw [if_neg (by omega)]
      rw [show i % 2 = 0 by omega, Nat.mul_zero, Nat.add_zero] at hdi
      by_cases h2 : 1 < i
      · have h3 : d * 1 ≤ d * (i / 2) := Nat.mul_le_mul_left d (by omega)
        rw [if_pos (by omega), bd_t (mul d d hd' hd'), nm_t, half]
        refine ih _ ⟨i / 2, d + d, e, rfl, ?_, by omega, by omega⟩ (by show ((i / 2 : Nat) : Int).toNat < ((i : Nat) : Int).toNat; omega)
        rw [Nat.add_mul]; omega
      · omega
  · rw [if_neg (by omega)]
    obtain rfl : i = 0 := by omega
    rw [Nat.mul_zero, Nat.add_zero] at he
    rw [he]
theorem M_zint_Pow_eq {fu n : Nat} {z : Zr} (h : Limbs z.2) (hl : z.2.length ≤ 1000000) (hn : n ≤ 65536) (hf : 1000100 < fu) :
    M_zint_Pow fu z (n : Int) = some (if 262144 < bl (nv z.2) * n then ((false, []), 6) else (ofI (zv z ^ n), 0)) := by
  unfold M_zint_Pow
  have hb := bl_lim h hl
  have hm : bl (nv z.2) * n ≤ 64000000 * 65536 := Nat.mul_le_mul hb hn
  have e : ((bl (nv z.2) : Nat) : Int) * (n : Int) = ((bl (nv z.2) * n : Nat) : Int) := by simp
  rw [if_neg (by omega), if_neg (by omega), bd_t rfl]
  simp only [Bool.false_eq_true, if_false]
  rw [bd_t (M_nat_Bits_eq h (by omega) (by omega)), e, ck64_t ⟨by omega, by omega⟩]
  by_cases h1 : 262144 < bl (nv z.2) * n
  · rw [if_pos (by omega), if_pos h1]
  · rw [if_neg (by omega), if_neg h1, bd_t (M_zint_Of_eq (by decide) (by omega)), bd_t (M_zint_Norm_eq h (by omega) (by omega)), bd_t (zpow_loop hn (by rw [natAbs_zv]; omega) (by omega))]
theorem rpow_loop {fu n : Nat} {z : Zr} (h : Limbs z.2) (hl : z.2.length ≤ 1000000) (hn : n ≤ 65536) (hb : bl (nv z.2) * n ≤ 262144) (hf : 2010000 < fu) :
    loopN (B_ref02_Pow_0 fu z (n : Int)) fu (0, ofI 1) = some (ofI (zv z ^ n)) := by
  refine loop_eq (fun s : Int × Zr => ∃ i : Nat, i ≤ n ∧ s = ((i : Int), ofI (zv z ^ i))) (fun s => n - s.1.toNat) _ ?_ _ _ ⟨0, by omega, by simp⟩ (by show n - 0 < fu; omega)
  rintro s L ⟨i, hi, rfl⟩ ih
  unfold B_ref02_Pow_0
  simp only []
  by_cases h1 : i < n
  · have hlen : (toL (zv z ^ i).natAbs).length ≤ 4097 := pow_len (b := 4096) (by rw [natAbs_zv]; exact Nat.le_trans (Nat.mul_le_mul_left _ hi) hb)
    rw [if_pos (by omega), bd_t (M_ref02_Mul_eq (ofI_limbs _) h (by show (toL _).length ≤ _; omega) (by omega) (by show 2 * ((toL _).length + _) + 1 < fu; omega)), ck64_t ⟨by omega, by omega⟩, zv_ofI]
    exact ih _ ⟨i + 1, by omega, by rw [Int.pow_succ]; rfl⟩ (by show n - ((i : Int) + 1).toNat < n - (i : Int).toNat; omega)
  · rw [if_neg (by omega)]
    obtain rfl : i = n := by omega
    rfl
theorem small_pow {a : Int} (h : a.natAbs ≤ 1) (n : Nat) : a ^ (2 * min n 1 - n % 2) = a ^ n := by
  have h3 : a = 0 ∨ a = 1 ∨ a = -1 := by omega
  have e : ∀ m, (-1 : Int) ^ (2 * m) = 1 := fun m => by rw [Int.pow_mul]; exact Int.one_pow
  rcases h3 with rfl | rfl | rfl
  · rcases Nat.eq_zero_or_pos n with rfl | h0
    · rfl
    · rw [Int.zero_pow (by omega), Int.zero_pow (by omega)]
  · rw [Int.one_pow, Int.one_pow]
  · rcases Nat.eq_zero_or_pos n with rfl | h0
    · rfl
    · rcases (by omega : n % 2 = 0 ∨ n % 2 = 1) with h | h
      · have e1 : 2 * min n 1 - n % 2 = 2 * 1 := by omega
        obtain ⟨m, rfl⟩ : ∃ m, n = 2 * m := ⟨n / 2, by omega⟩
        rw [e1, e, e]
      · have e1 : 2 * min n 1 - n % 2 = 1 := by omega
        obtain ⟨m, rfl⟩ : ∃ m, n = 2 * m + 1 := ⟨n / 2, by omega⟩
        rw [e1, Int.pow_succ (-1) (2 * m), e]; rfl
theorem M_ref02_Pow_eq {fu n : Nat} {z : Zr} (h : Limbs z.2) (hl : z.2.length ≤ 1000000) (hn : n ≤ 65536) (hf : 2010000 < fu) :
    M_ref02_Pow fu z (n : Int) = some (if 262144 < bl (nv z.2) * n then ((false, []), 6) else (ofI (zv z ^ n), 0)) := by
  unfold M_ref02_Pow
  have hb := bl_lim h hl
  have hm : bl (nv z.2) * n ≤ 64000000 * 65536 := Nat.mul_le_mul hb hn
  have e : ((bl (nv z.2) : Nat) : Int) * (n : Int) = ((bl (nv z.2) * n : Nat) : Int) := by simp
  rw [if_neg (by omega), if_neg (by omega), bd_t (M_ref01_Bits_eq h (by omega) (by omega)), e, ck64_t ⟨by omega, by omega⟩]
  by_cases h1 : 262144 < bl (nv z.2) * n
  · rw [if_pos (by omega), if_pos h1]
  · rw [if_neg (by omega), if_neg h1, bd_t (M_ref02_Of_eq (by decide) (by omega)), bd_t (M_ref01_Bits_eq h (by omega) (by omega))]
    by_cases h2 : bl (nv z.2) ≤ 1
    · have e1 : min (n : Int) 1 = ((min n 1 : Nat) : Int) := by omega
      have e2 : Int.tmod (n : Int) 2 = ((n % 2 : Nat) : Int) := rfl
      have e3 : 2 * ((min n 1 : Nat) : Int) - ((n % 2 : Nat) : Int) = ((2 * min n 1 - n % 2 : Nat) : Int) := by omega
      have h3 := bl_le_one h2
      have h4 : bl (nv z.2) * (2 * min n 1 - n % 2) ≤ 1 * 2 := Nat.mul_le_mul h2 (by omega)
      rw [if_pos (by omega), nm_t, e1, ck64_t ⟨by omega, by omega⟩, nm_t, e2, e3, ck64_t ⟨by omega, by omega⟩, ck_t (by decide), bd_t rfl, bd_t (rpow_loop h hl (by omega) (by omega) hf), small_pow (by rw [natAbs_zv]; exact h3)]
    · rw [if_neg (by omega), bd_t rfl, bd_t (rpow_loop h hl hn (by omega) hf)]
end Go.Proofs.YtjnjfinbdfolkaaGreat
end

section
set_option linter.unusedVariables false
set_option linter.unusedSimpArgs false
namespace Go.Proofs.YtjnjfinbdfolkaaGreat
def NoDiv (p : Nat) : Prop := ∀ d, 2 ≤ d → d * d ≤ p → p % d ≠ 0
open Classical in
noncomputable def prm (p : Int) : Bool := decide (2 ≤ p ∧ p ≤ 65521 ∧ NoDiv p.toNat)
open Classical in
theorem prm_t {p : Int} (h : 2 ≤ p ∧ p ≤ 65521 ∧ NoDiv p.toNat) : prm p = true := by unfold prm; exact decide_eq_true h
open Classical in
theorem prm_f {p : Int} (h : ¬ (2 ≤ p ∧ p ≤ 65521 ∧ NoDiv p.toNat)) : prm p = false := by unfold prm; exact decide_eq_false h
theorem sq_cast (d : Nat) : (d : Int) * (d : Int) = ((d * d : Nat) : Int) := by simp
theorem sq_le {d p : Nat} (h : p ≤ 65521) (hd : d ≤ 300) : d * d ≤ 90000 := Nat.le_trans (Nat.mul_le_mul hd hd) (by decide)
theorem sq_lt {d p : Nat} (h : p ≤ 65521) (hd : d * d ≤ p) : d < 256 := by
  rcases Nat.lt_or_ge d 256 with h1 | h1
  · exact h1
  · have := Nat.mul_le_mul h1 h1; omega
theorem prime_loop {fu p : Nat} (h : p ≤ 65521) (hf : 400 < fu) : (NoDiv p → loopN (B_prime_Is_0 fu (p : Int)) fu (true, 2) = some true) ∧ (¬ NoDiv p → loopN (B_prime_Is_0 fu (p : Int)) fu (true, 2) = some false) := by
  constructor
  · intro hn
    refine loop_eq (fun i : Bool × Int => ∃ d : Nat, i = (true, (d : Int)) ∧ 2 ≤ d ∧ d ≤ 256) (fun i => 300 - i.2.toNat) _ ?_ _ _ ⟨2, rfl, by omega, by omega⟩ (by show 300 - 2 < fu; omega)
    rintro i L ⟨d, rfl, h2, h3⟩ ih
    unfold B_prime_Is_0
    simp only [if_true]
    have hs := sq_le h (d := d) (by omega)
    rw [sq_cast, ck64_t ⟨by omega, by omega⟩]
    by_cases h4 : d * d ≤ p
    · have h5 := hn d h2 h4
      have := sq_lt h h4
      have e : Int.tmod (p : Int) (d : Int) = ((p % d : Nat) : Int) := rfl
      rw [if_pos (by omega), ck_t (by omega), nm_t, e, if_neg (by omega), ck64_t ⟨by omega, by omega⟩]
      exact ih _ ⟨d + 1, rfl, by omega, by omega⟩ (by show 300 - ((d : Int) + 1).toNat < 300 - (d : Int).toNat; omega)
    · rw [if_neg (by omega)]
  · intro hn
    obtain ⟨d0, hd0⟩ := Classical.not_forall.1 hn
    obtain ⟨h20, hd0⟩ := Classical.not_imp.1 hd0
    obtain ⟨h4, h5⟩ := Classical.not_imp.1 hd0
    have h5 : p % d0 = 0 := Classical.not_not.1 h5
    have h6 := sq_lt h h4
    refine loop_eq (fun i : Bool × Int => ∃ d : Nat, i = (true, (d : Int)) ∧ 2 ≤ d ∧ d ≤ d0) (fun i => 300 - i.2.toNat) _ ?_ _ _ ⟨2, rfl, by omega, by omega⟩ (by show 300 - 2 < fu; omega)
    rintro i L ⟨d, rfl, h2, h3⟩ ih
    unfold B_prime_Is_0
    simp only [if_true]
    have hs := sq_le h (d := d) (by omega)
    have hs2 := Nat.mul_le_mul h3 h3
    rw [sq_cast, ck64_t ⟨by omega, by omega⟩]
    have e : Int.tmod (p : Int) (d : Int) = ((p % d : Nat) : Int) := rfl
    rw [if_pos (by omega), ck_t (by omega), nm_t, e]
    by_cases h7 : p % d = 0
    · rw [if_pos (by omega)]
    · rw [if_neg (by omega), ck64_t ⟨by omega, by omega⟩]
      refine ih _ ⟨d + 1, rfl, by omega, ?_⟩ (by show 300 - ((d : Int) + 1).toNat < 300 - (d : Int).toNat; omega)
      rcases Nat.lt_or_ge d d0 with h8 | h8
      · exact h8
      · exact absurd (by rw [show d = d0 by omega]; exact h5) h7
theorem ref_loop {fu p : Nat} (h : p ≤ 65521) (hf : 400 < fu) : (NoDiv p → loopN (B_ref04_Is_0 fu (p : Int)) fu 2 = some (.inl ())) ∧ (¬ NoDiv p → loopN (B_ref04_Is_0 fu (p : Int)) fu 2 = some (.inr ())) := by
  constructor
  · intro hn
    refine loop_eq (fun i : Int => ∃ d : Nat, i = (d : Int) ∧ 2 ≤ d ∧ d ≤ 256) (fun i => 300 - i.toNat) _ ?_ _ _ ⟨2, rfl, by omega, by omega⟩ (by show 300 - 2 < fu; omega)
    rintro i L ⟨d, rfl, h2, h3⟩ ih
    unfold B_ref04_Is_0
    have hs := sq_le h (d := d) (by omega)
    rw [sq_cast, ck64_t ⟨by omega, by omega⟩]
    by_cases h4 : d * d ≤ p
    · have h5 := hn d h2 h4
      have := sq_lt h h4
      have e : Int.tmod (p : Int) (d : Int) = ((p % d : Nat) : Int) := rfl
      rw [if_pos (by omega), ck_t (by omega), nm_t, e, if_neg (by omega), ck64_t ⟨by omega, by omega⟩]
      exact ih _ ⟨d + 1, by omega, by omega, by omega⟩ (by show 300 - ((d : Int) + 1).toNat < 300 - (d : Int).toNat; omega)
    · rw [if_neg (by omega)]
  · intro hn
    obtain ⟨d0, hd0⟩ := Classical.not_forall.1 hn
    obtain ⟨h20, hd0⟩ := Classical.not_imp.1 hd0
    obtain ⟨h4, h5⟩ := Classical.not_imp.1 hd0
    have h5 : p % d0 = 0 := Classical.not_not.1 h5
    have h6 := sq_lt h h4
    refine loop_eq (fun i : Int => ∃ d : Nat, i = (d : Int) ∧ 2 ≤ d ∧ d ≤ d0) (fun i => 300 - i.toNat) _ ?_ _ _ ⟨2, rfl, by omega, by omega⟩ (by show 300 - 2 < fu; omega)
    rintro i L ⟨d, rfl, h2, h3⟩ ih
    unfold B_ref04_Is_0
    have hs := sq_le h (d := d) (by omega)
    have hs2 := Nat.mul_le_mul h3 h3
    rw [sq_cast, ck64_t ⟨by omega, by omega⟩]
    have e : Int.tmod (p : Int) (d : Int) = ((p % d : Nat) : Int) := rfl
    rw [if_pos (by omega), ck_t (by omega), nm_t, e]
    by_cases h7 : p % d = 0
    · rw [if_pos (by omega)]
    · rw [if_neg (by omega), ck64_t ⟨by omega, by omega⟩]
      refine ih _ ⟨d + 1, by omega, by omega, ?_⟩ (by show 300 - ((d : Int) + 1).toNat < 300 - (d : Int).toNat; omega)
      rcases Nat.lt_or_ge d d0 with h8 | h8
      · exact h8
      · exact absurd (by rw [show d = d0 by omega]; exact h5) h7
theorem M_prime_Is_eq {fu : Nat} {p : Int} (hf : 400 < fu) : M_prime_Is fu p = some (prm p) := by
  unfold M_prime_Is
  have hno : loopN (B_prime_Is_0 fu p) fu (false, 2) = some false := by
    obtain ⟨k, rfl⟩ : ∃ k, fu = k + 1 := ⟨fu - 1, by omega⟩
    rfl
  by_cases h2 : 2 ≤ p
  · rw [if_pos h2]
    by_cases h3 : p ≤ 65521
    · rw [if_pos h3, bd_t rfl]
      obtain ⟨q, rfl⟩ := Int.eq_ofNat_of_zero_le (by omega : 0 ≤ p)
      obtain ⟨l1, l2⟩ := prime_loop (fu := fu) (p := q) (by omega) hf
      by_cases h4 : NoDiv q
      · rw [bd_t (l1 h4), prm_t (p := (q : Int)) ⟨h2, h3, h4⟩]
      · rw [bd_t (l2 h4), prm_f (p := (q : Int)) (fun h => h4 h.2.2)]
    · rw [if_neg h3, bd_t rfl, bd_t hno]
      rw [prm_f (fun h => h3 h.2.1)]
  · rw [if_neg h2, bd_t rfl, bd_t hno]
    rw [prm_f (fun h => h2 h.1)]
theorem M_ref04_Is_eq {fu : Nat} {p : Int} (hf : 400 < fu) : M_ref04_Is fu p = some (prm p) := by
  unfold M_ref04_Is
  by_cases h2 : p < 2
  · rw [if_pos h2]
    rw [prm_f (fun h => by omega)]
  · rw [if_neg h2]
    by_cases h3 : 65521 < p
    · rw [if_pos h3]
      rw [prm_f (fun h => by omega)]
    · rw [if_neg h3]
      obtain ⟨q, rfl⟩ := Int.eq_ofNat_of_zero_le (by omega : 0 ≤ p)
      obtain ⟨l1, l2⟩ := ref_loop (fu := fu) (p := q) (by omega) hf
      by_cases h4 : NoDiv q
      · rw [bd_t (l1 h4), prm_t (p := (q : Int)) ⟨by omega, by omega, h4⟩]
      · rw [bd_t (l2 h4), prm_f (p := (q : Int)) (fun h => h4 h.2.2)]
noncomputable def powR (p k : Int) : Zr × Int := if prm p = true ∧ 1 ≤ k ∧ k ≤ 1000 then (ofI (p ^ k.toNat), 0) else ((false, []), 1)
theorem prm_rng {p : Int} (h : prm p = true) : 2 ≤ p ∧ p ≤ 65521 := by
  refine Classical.byContradiction fun hn => ?_
  rw [prm_f (fun h => hn ⟨h.1, h.2.1⟩)] at h
  cases h
theorem bl_prm {p : Int} (h : prm p = true) : bl (nv (ofI p).2) ≤ 16 := by
  have := prm_rng h
  refine bl_le ?_
  show nv (toL p.natAbs) < _
  rw [nv_toL]; omega
theorem ofI_len {x : Int} (h : x.natAbs < 18446744073709551616) : (ofI x).2.length ≤ 1 := by
  show (toL _).length ≤ 1
  rw [toL_length]; omega
theorem M_hensel_Power_eq {fu : Nat} {p k : Int} (hf : 3000000 < fu) : M_hensel_Power fu p k = some (powR p k) := by
  unfold M_hensel_Power powR
  rw [bd_t (M_prime_Is_eq (by omega))]
  by_cases h1 : prm p = true
  · have hr := prm_rng h1
    rw [if_neg (by simp [h1])]
    by_cases h2 : k < 1
    · rw [if_pos h2, if_neg (fun h => by omega)]
    · rw [if_neg h2]
      by_cases h3 : 1000 < k
      · rw [if_pos h3, if_neg (fun h => by omega)]
      · obtain ⟨n, rfl⟩ := Int.eq_ofNat_of_zero_le (by omega : 0 ≤ k)
        have hl := ofI_len (x := p) (by omega)
        have hb : bl (nv (ofI p).2) * n ≤ 16 * 1000 := Nat.mul_le_mul (bl_prm h1) (by omega)
        rw [if_neg h3, if_pos ⟨h1, by omega, by omega⟩, bd_t (M_zint_Of_eq ⟨by omega, by omega⟩ (by omega)), bd_t (M_zint_Pow_eq (ofI_limbs p) (by omega) (by omega) (by omega)), if_neg (by omega), zv_ofI]
        rfl
  · rw [if_pos (by simp [h1]), if_neg (fun h => h1 h.1)]
theorem M_ref13_Power_eq {fu : Nat} {p k : Int} (hf : 3000000 < fu) : M_ref13_Power fu p k = some (powR p k) := by
  unfold M_ref13_Power powR
  rw [bd_t (M_ref04_Is_eq (by omega))]
  by_cases h1 : prm p = true
  · have hr := prm_rng h1
    rw [if_neg (by simp [h1])]
    by_cases h2 : k < 1
    · rw [if_pos h2, if_neg (fun h => by omega)]
    · rw [if_neg h2]
      by_cases h3 : 1000 < k
      · rw [if_pos h3, if_neg (fun h => by omega)]
      · obtain ⟨n, rfl⟩ := Int.eq_ofNat_of_zero_le (by omega : 0 ≤ k)
        have hl := ofI_len (x := p) (by omega)
        have hb : bl (nv (ofI p).2) * n ≤ 16 * 1000 := Nat.mul_le_mul (bl_prm h1) (by omega)
        rw [if_neg h3, if_pos ⟨h1, by omega, by omega⟩, bd_t (M_ref02_Of_eq ⟨by omega, by omega⟩ (by omega)), bd_t (M_ref02_Pow_eq (ofI_limbs p) (by omega) (by omega) (by omega)), if_neg (by omega), zv_ofI]
        rfl
  · rw [if_pos (by simp [h1]), if_neg (fun h => h1 h.1)]
end Go.Proofs.YtjnjfinbdfolkaaGreat
end

